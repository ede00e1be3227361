/-
  Part of a proof: general lemmas, merged by a program of this work.
-/
import Derived.Calls
import Derived.ChangeKeysEq
import Derived.Laws.AppendOwn
import Derived.Laws.BytesString
import Derived.Laws.StructEq
import Derived.Orders
set_option autoImplicit false
namespace Go.Pon
open Go
inductive Ty where
  | unit
  | pair (a b : Ty)
  | int (k : IntKind)
  | bool
  | str
  | arr (n : Nat) (t : Ty)
  | slice (t : Ty)
  | ptr
  deriving DecidableEq
@[reducible] def Ty.den : Ty → Type
  | .unit => Unit
  | .pair a b => a.den × b.den
  | .int _ => Int
  | .bool => Bool
  | .str => List Int
  | .arr _ t => List t.den
  | .slice t => List t.den
  | .ptr => Unit
def Ty.zero : (t : Ty) → t.den
  | .unit => ()
  | .pair a b => (a.zero, b.zero)
  | .int _ => (0 : Int)
  | .bool => false
  | .str => ([] : List Int)
  | .arr n t => List.replicate n t.zero
  | .slice t => ([] : List t.den)
  | .ptr => ()
def Ty.size : Ty → Nat
  | .unit => 0
  | .pair a b => a.size + b.size
  | .arr n t => n * t.size
  | _ => 1
def Ty.flat : Ty → Bool
  | .pair a b => a.flat && b.flat
  | .arr _ t => t.flat
  | .slice _ => false
  | _ => true
def Ty.agg : Ty → Bool
  | .unit | .pair _ _ | .arr _ _ => true
  | _ => false
def kEq : IntKind → IntKind → Bool
  | .i8, .i8 | .i16, .i16 | .i32, .i32 | .i64, .i64 | .u8, .u8 | .u16, .u16 | .u32, .u32 | .u64, .u64 => true
  | _, _ => false
def Ty.beq : Ty → Ty → Bool
  | .unit, .unit | .bool, .bool | .str, .str | .ptr, .ptr => true
  | .pair a b, .pair c d => Ty.beq a c && Ty.beq b d
  | .int k, .int l => kEq k l
  | .arr n t, .arr m u => Nat.beq n m && Ty.beq t u
  | .slice t, .slice u => Ty.beq t u
  | _, _ => false
def isBytes : Option Ty → Bool
  | some (.slice (.int .u8)) => true
  | _ => false
def castD {a : Ty} (x : a.den) (b : Ty) : Option b.den := if h : a = b then some (h ▸ x) else none
def eqL {α : Type} (e : α → α → Bool) : List α → List α → Bool
  | [], [] => true
  | a :: l, b :: m => e a b && eqL e l m
  | _, _ => false
def eqD : (t : Ty) → t.den → t.den → Bool
  | .unit, _, _ => true
  | .pair a b, x, y => eqD a x.1 y.1 && eqD b x.2 y.2
  | .int _, x, y => decide ((x : Int) = y)
  | .bool, x, y => (x : Bool) == y
  | .str, x, y => decide ((x : List Int) = y)
  | .arr _ t, x, y => eqL (eqD t) x y
  | .slice t, x, y => eqL (eqD t) x y
  | .ptr, _, _ => true
abbrev Id := Nat × Nat × Nat
def idE : Id → Id → Bool
  | (a, b, c), (d, e, f) => Nat.beq c f && (Nat.beq b e && Nat.beq a d)
def Id.nxt : Id → Id
  | (a, b, c) => (a, b, Nat.succ c)
inductive AV where
  | any
  | un
  | d (fr : Bool) (t : Ty) (x : t.den)
  | nilp
  | nils
  | own (id : Id) (ver : Nat)
  | view (id : Id) (ver lo hi : Nat) (cp : Bool)
  | mview (id : Id) (path : List Nat) (lo hi : Nat)
  | ptr (id : Id) (path : List Nat)
  | eptr (id : Id) (ver i : Nat) (path : List Nat)
  | rptr (fr : Bool) (t : Ty) (x : t.den)
  | pair (a b : AV)
  | tup (a : AV)
  | fn (f : FuncId) (caps : AV)
  | ub (e r : Bool)
inductive MTy where
  | ro (fr : Bool) (t : Ty)
  | own (fr : Bool) (t : Ty)
  | ptr (m : MTy)
  | optr (m : MTy)
  | pair (a b : MTy)
  | fn (f : FuncId) (m : MTy)
  | nilm (t : Ty)
  | rp (t : Ty)
  | full (t : Ty)
  deriving DecidableEq
@[reducible] def MTy.den : MTy → Type
  | .ro _ t => t.den
  | .own _ t => List t.den
  | .ptr m => m.den
  | .optr m => Option m.den
  | .pair a b => a.den × b.den
  | .fn _ m => m.den
  | .nilm _ => Unit
  | .rp t => t.den
  | .full t => List t.den
@[reducible] def denL : List MTy → Type
  | [] => Unit
  | m :: ms => m.den × denL ms
def MTy.ty : MTy → Ty
  | .ro _ t => t
  | .own _ t => .slice t
  | .ptr _ => .ptr
  | .optr _ => .ptr
  | .pair a b => .pair a.ty b.ty
  | .fn _ _ => .ptr
  | .nilm t => .slice t
  | .rp _ => .ptr
  | .full t => .slice t
def MTy.upd : MTy → MTy
  | .ptr m => .ptr m
  | .optr m => .optr m
  | _ => .ro true .unit
def updL : List MTy → List MTy
  | [] => []
  | m :: ms => m.upd :: updL ms
structure Sig where
  ins : List MTy
  outs : List MTy
  deriving DecidableEq
@[reducible] def Sig.outDen (s : Sig) : Type := denL s.outs × denL (updL s.ins)
inductive Obj where
  | sli (ver : Nat) (fr : Bool) (t : Ty) (rows : List t.den)
  | frz (ver : Nat) (fr : Bool) (t : Ty) (rows : List t.den)
  | mem (fr : Bool) (t : Ty) (c : AV)
  | mfz (fr : Bool) (t : Ty) (c : AV)
abbrev Ups := List (Id × Option Obj)
inductive OpT (α : Type) where
  | fail
  | done (a : α)
  | br (c : Bool) (t e : OpT α)
  | get (id : Id) (k : Obj → OpT α)
  | call (f : FuncId) (s : Sig) (x : denL s.ins) (k : s.outDen → OpT α)
  | opt (m : MTy) (o : Option m.den) (kn : OpT α) (ks : m.den → OpT α)
abbrev OpV := OpT (AV × Ups)
def OpT.chk {α : Type} (c : Bool) (k : OpT α) : OpT α := .br c k .fail
noncomputable def loopN {ω δ : Type} (round : (δ → Option ω) → δ → Option ω) (n : Nat) : δ → Option ω :=
  Nat.rec (motive := fun _ => δ → Option ω) (fun _ => none) (fun _ ih => round ih) n
abbrev LoopD := (ω δ : Type) → ((δ → Option ω) → δ → Option ω) → δ → Option ω
theorem loopN_succ {ω δ : Type} (round : (δ → Option ω) → δ → Option ω) (n : Nat) (x : δ) : loopN round (n + 1) x = round (loopN round n) x := rfl
def brR1 {α : Type} (c : Bool) (t e : Option α) : Option α :=
  match c with
  | true => t
  | false => e
def brR2 {α : Type} (c : Bool) (t e : Option α) : Option α := brR1 c t e
def brR3 {α : Type} (c : Bool) (t e : Option α) : Option α := brR2 c t e
def brR {α : Type} (c : Bool) (t e : Option α) : Option α := brR3 c t e
theorem brR_true {α : Type} (t e : Option α) : brR true t e = t := rfl
theorem brR_false {α : Type} (t e : Option α) : brR false t e = e := rfl
def letR1 {α β : Type} (v : α) (k : α → β) : β := k v
def letR2 {α β : Type} (v : α) (k : α → β) : β := letR1 v k
def letR3 {α β : Type} (v : α) (k : α → β) : β := letR2 v k
def letR4 {α β : Type} (v : α) (k : α → β) : β := letR3 v k
def letR5 {α β : Type} (v : α) (k : α → β) : β := letR4 v k
def letR6 {α β : Type} (v : α) (k : α → β) : β := letR5 v k
def letR7 {α β : Type} (v : α) (k : α → β) : β := letR6 v k
def letR {α β : Type} (v : α) (k : α → β) : β := letR7 v k
theorem letR_eq {α β : Type} (v : α) (k : α → β) : letR v k = k v := rfl
noncomputable def bothR {α : Type} (a b : Option α) : Option α := @ite (Option α) (a = b) (Classical.propDecidable _) a none
theorem bothR_some {α : Type} {a b : Option α} {r : α} (h : bothR a b = some r) : a = some r ∧ b = some r := by
  unfold bothR at h
  by_cases e : a = b
  · rw [@if_pos _ (Classical.propDecidable _) e] at h
    exact ⟨h, e ▸ h⟩
  · rw [@if_neg _ (Classical.propDecidable _) e] at h
    cases h
theorem bothR_eq {α : Type} {a b : Option α} {r : Option α} (h1 : a = r) (h2 : b = r) : bothR a b = r := by
  subst h1; subst h2
  unfold bothR
  exact @if_pos _ (Classical.propDecidable _) rfl _ _ _
def optR {α β : Type} (o : Option α) (n : Option β) (s : α → Option β) : Option β :=
  match o with
  | none => n
  | some a => s a
end Go.Pon
set_option autoImplicit false
set_option linter.unusedVariables false
namespace Go.Pon
open Go
def mapE {α β : Type} (f : α → β) : List α → List β
  | [] => []
  | a :: l => f a :: mapE f l
def idxE {α : Type} : Nat → List α → List (Nat × α)
  | _, [] => []
  | n, a :: l => (n, a) :: idxE (Nat.succ n) l
def appE {α : Type} : List α → List α → List α
  | [], m => m
  | a :: l, m => a :: appE l m
def allE {α : Type} (f : α → Bool) : List α → Bool
  | [] => true
  | a :: l => f a && allE f l
def nthE {α : Type} : List α → Nat → Option α
  | [], _ => none
  | a :: _, 0 => some a
  | _ :: l, n + 1 => nthE l n
structure Ali where
  s : Nat
  q : Nat
  t : Ty
  i : Nat
structure Ctx where
  ali : FuncId → Nat → List Ali
  ty : TypeId → Option Ty
  sig : FuncId → Option Sig
  hint : FuncId → Nat → List (Nat × MTy)
  cut : Bool
  func : FuncId → Option Func
def navD (fr : Bool) : (t : Ty) → t.den → List Nat → Option AV
  | t, x, [] => some (.d fr t x)
  | .pair a b, x, i :: p => match i with
    | 0 => navD fr a x.1 p
    | n + 1 => navD fr b x.2 (n :: p)
  | .arr _ t, x, i :: p => navD fr t (List.getD x i t.zero) p
  | _, _, _ => none
def tyAt : Ty → List Nat → Option Ty
  | t, [] => some t
  | .pair a b, i :: p => match i with
    | 0 => tyAt a p
    | n + 1 => tyAt b (n :: p)
  | .arr _ t, _ :: p => tyAt t p
  | _, _ => none
def offT : Ty → List Nat → Nat
  | _, [] => 0
  | .pair a b, i :: p => match i with
    | 0 => offT a p
    | n + 1 => a.size + offT b (n :: p)
  | .arr _ t, i :: p => i * t.size + offT t p
  | _, _ => 0
def setD : (t : Ty) → t.den → List Nat → (u : Ty) → u.den → Option t.den
  | t, _, [], _, y => castD y t
  | .pair a b, x, i :: p, u, y => match i with
    | 0 => (setD a x.1 p u y).map fun z => (z, x.2)
    | n + 1 => (setD b x.2 (n :: p) u y).map fun z => (x.1, z)
  | .arr _ t, x, i :: p, u, y => (setD t (List.getD x i t.zero) p u y).map fun z => List.set x i z
  | _, _, _, _, _ => none
def navA : AV → List Nat → Option AV
  | v, [] => some v
  | .pair a b, i :: p => match i with
    | 0 => navA a p
    | n + 1 => navA b (n :: p)
  | .d fr t x, p => navD fr t x p
  | _, _ => none
def setS (fr : Bool) : (t : Ty) → t.den → List Nat → AV → Option AV
  | _, _, [], v => some v
  | .pair a b, x, i :: p, v => match i with
    | 0 => (setS fr a x.1 p v).map fun z => .pair z (.d fr b x.2)
    | n + 1 => (setS fr b x.2 (n :: p) v).map fun z => .pair (.d fr a x.1) z
  | _, _, _, _ => none
def setA : AV → List Nat → AV → Option AV
  | _, [], v => some v
  | .pair a b, i :: p, v => match i with
    | 0 => (setA a p v).map fun a' => .pair a' b
    | n + 1 => (setA b (n :: p) v).map fun b' => .pair a b'
  | .d fr t x, p, .d fr' u y => (setD t x p u y).map fun z => .d (fr && fr') t z
  | .d fr t x, p, v => setS fr t x p v
  | _, _, _ => none
@[simp] def hardA : AV → Bool
  | .any => true
  | .un => true
  | .tup _ => true
  | _ => false
def fitsA : Ty → AV → Bool
  | t, .d _ u _ => Ty.beq u t
  | t, .pair a b => match t with
    | .pair t u => fitsA t a && fitsA u b
    | _ => false
  | t, v => !hardA v && !t.agg
def asD : AV → (t : Ty) → Option (Bool × t.den)
  | .d fr _ x, t => (castD x t).map fun y => (fr, y)
  | .pair a b, .pair t u => match asD a t, asD b u with
    | some (f, x), some (g, y) => some (f && g, (x, y))
    | _, _ => none
  | .nils, .slice _ => some (true, [])
  | .nilp, .ptr => some (true, ())
  | _, _ => none
def asInt : AV → Option (IntKind × Int)
  | .d _ (.int k) x => some (k, x)
  | _ => none
def asBool : AV → Option Bool
  | .d _ .bool x => some x
  | _ => none
def mkD (fr : Bool) (t : Ty) (x : t.den) : AV := .d (fr || t.flat) t x
def mkInt (k : IntKind) (x : Int) : AV := .d true (.int k) x
def mkBool (b : Bool) : AV := .d true .bool b
def Ty.bare : Ty → Bool
  | .pair a b => a.bare && b.bare
  | .arr _ t => t.bare
  | .slice _ => false
  | .ptr => false
  | _ => true
def zeroA : Ty → AV
  | .slice _ => .nils
  | .ptr => .nilp
  | .pair a b => bif a.bare && b.bare then .d true (.pair a b) (a.zero, b.zero) else .pair (zeroA a) (zeroA b)
  | t => .d true t t.zero
def funcA : Fn → List Value → List Value → AV
  | .func f, [], [] => .fn f (.d true .unit ())
  | _, _, _ => .any
def constA : Value → AV
  | .bool b => mkBool b
  | .int k n => mkInt k n
  | .string s => .d true .str (s.data.toList.map fun b => (b.toNat : Int))
  | .pointer none => .nilp
  | .slice none 0 0 => .nils
  | .func fn first caps => funcA fn first.toList caps.toList
  | _ => .any
section
variable {α : Type}
structure Cl where
  ups : Ups
  br : List Id
def memI : List Id → Id → Bool
  | [], _ => false
  | a :: l, n => idE a n || memI l n
def taken : Ups → Id → Bool
  | [], _ => false
  | p :: r, id => idE p.1 id || taken r id
def gone : Ups → Id → Bool
  | [], _ => false
  | (i, none) :: r, id => idE i id || gone r id
  | (_, some _) :: r, id => gone r id
def Cl.lend (c : Cl) (frz : Bool) (id : Id) (o : Obj) : Cl :=
  bif frz then ⟨(id, some o) :: c.ups, c.br⟩ else ⟨c.ups, id :: c.br⟩
def rowsK (v : AV) (t : Ty) (c : Cl) (frz : Bool) (k : Bool → List t.den → Cl → OpT α) : OpT α :=
  match v with
  | .d fr u x => match castD (b := .slice t) x with
    | some y => k fr y c
    | none => .fail
  | .nils => k true [] c
  | .own id ver => bif gone c.ups id then .fail else .get id fun
    | .sli ver' fr u rows => match Nat.beq ver' ver, castD (a := .slice u) rows (.slice t) with
      | true, some y => k fr y (c.lend frz id (.frz ver fr u rows))
      | _, _ => .fail
    | .frz ver' fr u rows => match Nat.beq ver' ver, castD (a := .slice u) rows (.slice t) with
      | true, some y => k fr y c
      | _, _ => .fail
    | _ => .fail
  | .view id ver lo hi _ => bif gone c.ups id then .fail else .get id fun
    | .sli ver' fr u rows => match Nat.beq ver' ver, castD (a := .slice u) rows (.slice t) with
      | true, some y => k fr ((List.drop lo y).take (hi - lo)) (c.lend frz id (.frz ver fr u rows))
      | _, _ => .fail
    | .frz ver' fr u rows => match Nat.beq ver' ver, castD (a := .slice u) rows (.slice t) with
      | true, some y => k fr ((List.drop lo y).take (hi - lo)) c
      | _, _ => .fail
    | _ => .fail
  | .mview id path lo hi => bif gone c.ups id then .fail else .get id fun
    | .mem fm tm m => match navA m path with
      | some (.d fr (.arr _ u) x) => match castD (a := .slice u) x (.slice t) with
        | some y => k (fr && fm) ((List.drop lo y).take (hi - lo)) (c.lend frz id (.mfz fm tm m))
        | none => .fail
      | _ => .fail
    | .mfz fm _ m => match navA m path with
      | some (.d fr (.arr _ u) x) => match castD (a := .slice u) x (.slice t) with
        | some y => k (fr && fm) ((List.drop lo y).take (hi - lo)) c
        | none => .fail
      | _ => .fail
    | _ => .fail
  | _ => .fail
def roK (frz : Bool) : AV → (t : Ty) → Cl → (Bool → t.den → Cl → OpT α) → OpT α
  | .d fr _ x, t, c, k => match castD x t with
    | some y => k fr y c
    | none => .fail
  | .pair a b, .pair t u, c, k => roK frz a t c fun f x c => roK frz b u c fun g y c => k ((f || t.flat) && (g || u.flat)) (x, y) c
  | v, .slice t, c, k => rowsK v t c frz k
  | .nilp, .ptr, c, k => k true () c
  | _, _, _, _ => .fail
def closeK (frz : Bool) : (m : MTy) → AV → Cl → (m.den → Cl → OpT α) → OpT α
  | .ro fr t, v, c, k => roK frz v t c fun fr' x c => bif !fr || fr' || t.flat then k x c else .fail
  | .own fr t, .own id ver, c, k => bif taken c.ups id || memI c.br id then .fail else .get id fun
    | .sli ver' fr' u rows => match Nat.beq ver' ver && (!fr || fr'), castD (a := .slice u) rows (.slice t) with
      | true, some y => k y ⟨(id, none) :: c.ups, c.br⟩
      | _, _ => .fail
    | _ => .fail
  | .own _ _, .nils, c, k => k [] c
  | .ptr m, .ptr id [], c, k => bif taken c.ups id || memI c.br id then .fail else .get id fun
    | .mem _ u x => bif Ty.beq u m.ty then closeK frz m x ⟨(id, none) :: c.ups, c.br⟩ k else .fail
    | _ => .fail
  | .optr _, .nilp, c, k => k none c
  | .optr m, .ptr id [], c, k => bif taken c.ups id || memI c.br id then .fail else .get id fun
    | .mem _ u x => bif Ty.beq u m.ty then closeK frz m x ⟨(id, none) :: c.ups, c.br⟩ fun y c => k (some y) c else .fail
    | _ => .fail
  | .pair a b, .pair v w, c, k => closeK frz a v c fun x c => closeK frz b w c fun y c => k (x, y) c
  | .pair a b, .d fr (.pair t u) x, c, k => closeK frz a (.d fr t x.1) c fun z c => closeK frz b (.d fr u x.2) c fun y c => k (z, y) c
  | .fn f m, .fn g x, c, k => bif Nat.beq f g then closeK frz m x c k else .fail
  | .nilm _, .nils, c, k => k () c
  | .full t, .view id ver lo hi cp, c, k => bif !(cp && Nat.beq lo 0 && t.flat) || (taken c.ups id || memI c.br id) then .fail else .get id fun
    | .sli ver' _ u rows => match Nat.beq ver' ver, castD (a := .slice u) rows (.slice t) with
      | true, some y => .chk (decide (0 < hi) && decide (hi = List.length y)) (k y ⟨(id, none) :: c.ups, c.br⟩)
      | _, _ => .fail
    | _ => .fail
  | .rp t, .rptr _ u x, c, k => match castD x t with
    | some y => k y c
    | none => .fail
  | .rp t, .ptr id [], c, k => bif gone c.ups id then .fail else .get id fun
    | .mem fm u x => bif Ty.beq u t then roK frz x t (c.lend frz id (.mfz fm u x)) fun _ y c => k y c else .fail
    | .mfz _ u x => bif Ty.beq u t then roK frz x t c fun _ y c => k y c else .fail
    | _ => .fail
  | _, _, _, _ => .fail
def closeL (frz : Bool) : (ms : List MTy) → List AV → Cl → (denL ms → Cl → OpT α) → OpT α
  | [], [], c, k => k () c
  | m :: ms, v :: vs, c, k => closeK frz m v c fun x c => closeL frz ms vs c fun y c => k (x, y) c
  | _, _, _, _ => .fail
def openK : (m : MTy) → m.den → Id → Ups → (AV → Id → Ups → OpT α) → OpT α
  | .ro fr t, x, n, u, k => k (mkD fr t x) n u
  | .own fr t, x, n, u, k => k (.own n 0) (n.nxt) ((n, some (.sli 0 fr t x)) :: u)
  | .ptr m, x, n, u, k => openK m x (n.nxt) u fun a n' u' => k (.ptr n []) n' ((n, some (.mem false m.ty a)) :: u')
  | .optr m, x, n, u, k => .opt m x (k .nilp n u) fun y => openK m y (n.nxt) u fun a n' u' => k (.ptr n []) n' ((n, some (.mem false m.ty a)) :: u')
  | .pair a b, x, n, u, k => openK a x.1 n u fun v n' u' => openK b x.2 n' u' fun w n'' u'' => k (.pair v w) n'' u''
  | .fn f m, x, n, u, k => openK m x n u fun c n' u' => k (.fn f c) n' u'
  | .nilm _, _, n, u, k => k .nils n u
  | .rp t, x, n, u, k => k (.rptr false t x) n u
  | .full t, x, n, u, k => k (.view n 0 0 (List.length x) true) (n.nxt) ((n, some (.sli 0 false t x)) :: u)
def openL : (ms : List MTy) → denL ms → Id → Ups → (List AV → Id → Ups → OpT α) → OpT α
  | [], _, n, u, k => k [] n u
  | m :: ms, x, n, u, k => openK m x.1 n u fun v n' u' => openL ms x.2 n' u' fun vs n'' u'' => k (v :: vs) n'' u''
def reopenK : (m : MTy) → AV → (m.upd).den → Id → Ups → (Id → Ups → OpT α) → OpT α
  | .ptr m, .ptr id [], x, n, u, k => openK m x n u fun a n' u' => k n' ((id, some (.mem false m.ty a)) :: u')
  | .optr m, .ptr id [], x, n, u, k => .opt m x .fail fun y => openK m y n u fun a n' u' => k n' ((id, some (.mem false m.ty a)) :: u')
  | .optr m, .nilp, x, n, u, k => .opt m x (k n u) fun _ => .fail
  | .ro _ _, _, _, n, u, k => k n u
  | .own _ _, _, _, n, u, k => k n u
  | .pair _ _, _, _, n, u, k => k n u
  | .fn _ _, _, _, n, u, k => k n u
  | .nilm _, _, _, n, u, k => k n u
  | .rp _, _, _, n, u, k => k n u
  | .full _, _, _, n, u, k => k n u
  | _, _, _, _, _, _ => .fail
def reopenL : (ms : List MTy) → List AV → denL (updL ms) → Id → Ups → (Id → Ups → OpT α) → OpT α
  | [], [], _, n, u, k => k n u
  | m :: ms, v :: vs, x, n, u, k => reopenK m v x.1 n u fun n' u' => reopenL ms vs x.2 n' u' k
  | _, _, _, _, _, _ => .fail
end
def MTy.alias : MTy → Bool
  | .ro fr t => !fr && !t.flat
  | .own fr t => !fr && !t.flat
  | .ptr m | .optr m => m.alias
  | .pair a b => a.alias || b.alias
  | .fn _ m => m.alias
  | .nilm _ => false
  | .rp _ => true
  | .full _ => false
def Sig.alias (s : Sig) : Bool := !allE (fun m => !m.alias) s.outs || !allE (fun m => !m.upd.alias) s.ins
def chainA : List AV → AV
  | [] => .d true .unit ()
  | v :: vs => .pair v (chainA vs)
def oneB : AV → Bool
  | .any => false
  | .un => false
  | .tup _ => false
  | .pair _ _ => false
  | .d _ t _ => !t.agg
  | _ => true
def unchainA : AV → Option (List AV)
  | .d _ .unit _ => some []
  | .pair v w => bif oneB v then (unchainA w).map (v :: ·) else none
  | _ => none
def packL : List AV → AV
  | [v] => v
  | vs => .tup (chainA vs)
def callK (f : FuncId) (s : Sig) (args : List AV) (base : Id) : OpV :=
  closeL s.alias s.ins args ⟨[], []⟩ fun x c =>
    .call f s x fun y =>
      reopenL s.ins args y.2 base c.ups fun n u =>
        openL s.outs y.1 n u fun vs _ u' => .done (packL vs, u')
def intOp (op : BinOp) (k : IntKind) (x y : Int) : OpV :=
  let r (n : Int) : OpV := .done (mkInt k n, [])
  let b (c : Bool) : OpV := .done (mkBool c, [])
  match op with
  | .add => r (k.wrap (x + y))
  | .sub => r (k.wrap (x - y))
  | .mul => r (k.wrap (x * y))
  | .quo => .chk (decide (y ≠ 0)) (r (k.wrap (x.tdiv y)))
  | .rem => .chk (decide (y ≠ 0)) (r (x.tmod y))
  | .and => r (k.wrap (BitVec.ofInt k.bits x &&& BitVec.ofInt k.bits y).toNat)
  | .or => r (k.wrap (BitVec.ofInt k.bits x ||| BitVec.ofInt k.bits y).toNat)
  | .xor => r (k.wrap (BitVec.ofInt k.bits x ^^^ BitVec.ofInt k.bits y).toNat)
  | .andNot => r (k.wrap (BitVec.ofInt k.bits x &&& ~~~(BitVec.ofInt k.bits y)).toNat)
  | .eql => b (decide (x = y))
  | .neq => b (!decide (x = y))
  | .lss => b (decide (x < y))
  | .leq => b (decide (x ≤ y))
  | .gtr => b (decide (x > y))
  | .geq => b (decide (x ≥ y))
  | _ => .fail
def shiftOp (op : BinOp) (k : IntKind) (x y : Int) : OpV :=
  match op with
  | .shl => .chk (decide (0 ≤ y)) (.done (mkInt k (k.wrap (x * 2 ^ (min y.toNat k.bits))), []))
  | .shr => .chk (decide (0 ≤ y)) (.done (mkInt k (x.fdiv (2 ^ (min y.toNat k.bits))), []))
  | _ => .fail
def isShift : BinOp → Bool
  | .shl | .shr => true
  | _ => false
def Ty.dep : Ty → Nat
  | .pair a b => max (Nat.succ a.dep) b.dep
  | .arr _ t => Nat.succ t.dep
  | _ => 1
def tyIs : Option Ty → Ty → Bool
  | some u, t => Ty.beq u t
  | none, _ => false
def alive (id : Id) (k : OpV) : OpV :=
  .get id fun
    | .mem _ _ _ => k
    | .mfz _ _ _ => k
    | _ => .fail
def eqK (ty : Option Ty) (v w : AV) (k : Bool → OpV) : OpV :=
  match v, w with
  | .nilp, .nilp => bif tyIs ty .ptr then k true else .fail
  | .ptr id _, .nilp => bif tyIs ty .ptr then alive id (k false) else .fail
  | .nilp, .ptr id _ => bif tyIs ty .ptr then alive id (k false) else .fail
  | .d _ t x, w => match bif t.flat && tyIs ty t && Nat.ble t.dep 50 then asD w t else none with
    | some (_, y) => k (eqD t x y)
    | none => .fail
  | _, _ => .fail
def slA : AV → Bool
  | .d _ (.slice _) _ => true
  | .nils => true
  | _ => false
def nilsB : AV → Bool
  | .nils => true
  | _ => false
def isSlTy : Option Ty → Bool
  | some (.slice _) => true
  | _ => false
def emptyB : AV → Bool
  | .d _ (.slice _) x => decide (List.length x = 0)
  | _ => true
def emptyOf (v w : AV) : Bool :=
  match v with
  | .nils => emptyB w
  | _ => emptyB v
def nilCmp (ty : Option Ty) (v w : AV) : Bool := isSlTy ty && slA v && slA w && (nilsB v || nilsB w)
def addS (v w : AV) : OpV :=
  match v, w with
  | .d _ .str x, .d _ .str y => .chk (decide (List.length x + List.length y ≤ 9223372036854775807)) (.done (.d true .str (List.append x y), []))
  | _, _ => .fail
def convSame (v : AV) : OpV :=
  match v with
  | .own id ver => .get id fun
    | .sli ver' fr u rows => bif Nat.beq ver' ver && Ty.beq u (.int .u8) then .chk (decide (0 < List.length rows)) (.done (.own id ver, [(id, some (.frz ver fr u rows))])) else .fail
    | _ => .fail
  | _ => .fail
def binK (op : BinOp) (ty : Option Ty) (v w : AV) : OpV :=
  match asInt v, asInt w with
  | some (k, x), some (k', y) => bif isShift op then shiftOp op k x y else bif kEq k k' then intOp op k x y else .fail
  | _, _ => match op with
    | .eql => bif nilCmp ty v w then .done (.ub (emptyOf v w) false, []) else eqK ty v w fun b => .done (mkBool b, [])
    | .neq => bif nilCmp ty v w then .done (.ub (emptyOf v w) true, []) else eqK ty v w fun b => .done (mkBool (!b), [])
    | .add => addS v w
    | _ => .fail
def unK (op : UnOp) (v : AV) : OpV :=
  match op, v with
  | .neg, .d _ (.int k) x => .done (mkInt k (k.wrap (0 - x)), [])
  | .xor, .d _ (.int k) x => .done (mkInt k (k.wrap (BitVec.ofInt k.bits (if k.signed then -1 else k.max) ^^^ BitVec.ofInt k.bits x).toNat), [])
  | .not, .d _ .bool x => .done (mkBool (!x), [])
  | _, _ => .fail
def lenK (v : AV) (t : Option Ty) (k : Nat → OpV) : OpV :=
  match v, t with
  | .d _ (.slice _) x, some (.slice _) => k (List.length x)
  | .d _ .str x, some .str => k (List.length x)
  | .nils, some (.slice _) => k 0
  | .own id ver, some (.slice _) => .get id fun
    | .sli ver' _ _ rows => bif Nat.beq ver' ver then k rows.length else .fail
    | .frz ver' _ _ rows => bif Nat.beq ver' ver then k rows.length else .fail
    | _ => .fail
  | .view id ver lo hi _, some (.slice _) => .get id fun
    | .sli ver' _ _ rows => bif Nat.beq ver' ver then k (hi - lo) else .fail
    | .frz ver' _ _ rows => bif Nat.beq ver' ver then k (hi - lo) else .fail
    | _ => .fail
  | .mview id _ lo hi, some (.slice _) => .get id fun
    | .mem _ _ _ => k (hi - lo)
    | .mfz _ _ _ => k (hi - lo)
    | _ => .fail
  | _, _ => .fail
def nthR (fr : Bool) : (t : Ty) → t.den → Nat → Option AV
  | .pair a _, x, 0 => some (.rptr fr a x.1)
  | .pair _ b, x, n + 1 => nthR fr b x.2 n
  | _, _, _ => none
def nthA : AV → Nat → Option AV
  | .pair a _, 0 => some a
  | .pair _ b, n + 1 => nthA b n
  | _, _ => none
def inR (i : Int) (n : Nat) : Bool := decide (0 ≤ i) && decide (i < n)
def hasField : Ty → Nat → Bool
  | .pair _ _, 0 => true
  | .pair _ b, n + 1 => hasField b n
  | _, _ => false
def ptrTy (id : Id) (path : List Nat) (t : Ty) (k : OpV) : OpV :=
  .get id fun
    | .mem _ u _ => match tyAt u path with
      | some w => bif Ty.beq w t then k else .fail
      | none => .fail
    | .mfz _ u _ => match tyAt u path with
      | some w => bif Ty.beq w t then k else .fail
      | none => .fail
    | _ => .fail
def eptrTy (id : Id) (ver : Nat) (path : List Nat) (t : Ty) (k : OpV) : OpV :=
  .get id fun
    | .sli ver' _ u _ => match Nat.beq ver' ver, tyAt u path with
      | true, some w => bif Ty.beq w t then k else .fail
      | _, _ => .fail
    | .frz ver' _ u _ => match Nat.beq ver' ver, tyAt u path with
      | true, some w => bif Ty.beq w t then k else .fail
      | _, _ => .fail
    | _ => .fail
def indexAddrK (v : AV) (t : Option Ty) (i : Int) : OpV :=
  match v, t with
  | .d fr (.slice u) x, some (.slice u') => bif Ty.beq u u' && Nat.blt 0 u.size then .chk (inR i (List.length x)) (.done (.rptr fr u (List.getD x i.toNat u.zero), [])) else .fail
  | .own id ver, some (.slice u') => .get id fun
    | .sli ver' _ u rows => bif Nat.beq ver' ver && Ty.beq u u' then .chk (inR i rows.length) (.done (.eptr id ver i.toNat [], [])) else .fail
    | .frz ver' _ u rows => bif Nat.beq ver' ver && Ty.beq u u' then .chk (inR i rows.length) (.done (.eptr id ver i.toNat [], [])) else .fail
    | _ => .fail
  | .view id ver lo hi _, some (.slice u') => .get id fun
    | .sli ver' _ u _ => bif Nat.beq ver' ver && Ty.beq u u' then .chk (inR i (hi - lo)) (.done (.eptr id ver (lo + i.toNat) [], [])) else .fail
    | .frz ver' _ u _ => bif Nat.beq ver' ver && Ty.beq u u' then .chk (inR i (hi - lo)) (.done (.eptr id ver (lo + i.toNat) [], [])) else .fail
    | _ => .fail
  | .ptr id path, some (.arr n u) => ptrTy id path (.arr n u) (.chk (inR i n) (.done (.ptr id (appE path [i.toNat]), [])))
  | .eptr id ver j path, some (.arr n u) => eptrTy id ver path (.arr n u) (.chk (inR i n) (.done (.eptr id ver j (appE path [i.toNat]), [])))
  | .rptr fr (.arr n u) x, some (.arr m u') => bif Nat.beq n m && Ty.beq u u' then .chk (inR i n) (.done (.rptr fr u (List.getD x i.toNat u.zero), [])) else .fail
  | _, _ => .fail
def fieldAddrK (v : AV) (t : Option Ty) (f : Nat) : OpV :=
  match v, t with
  | .ptr id path, some t => bif hasField t f then ptrTy id path t (.done (.ptr id (appE path [f]), [])) else .fail
  | .eptr id ver j path, some t => bif hasField t f then eptrTy id ver path t (.done (.eptr id ver j (appE path [f]), [])) else .fail
  | .rptr fr u x, some t => bif Ty.beq u t then (match nthR fr u x f with
    | some a => .done (a, [])
    | none => .fail) else .fail
  | _, _ => .fail
def ofOpt (o : Option AV) : OpV :=
  match o with
  | some a => .done (a, [])
  | none => .fail
def loadK (v : AV) (t : Ty) (k : AV → OpV) : OpV :=
  match v with
  | .ptr id path => .get id fun
    | .mem _ u c => match tyAt u path, navA c path with
      | some w, some a => bif Ty.beq w t && fitsA t a then k a else .fail
      | _, _ => .fail
    | .mfz _ u c => match tyAt u path, navA c path with
      | some w, some a => bif Ty.beq w t && fitsA t a then k a else .fail
      | _, _ => .fail
    | _ => .fail
  | .eptr id ver i path => .get id fun
    | .sli ver' fr u rows => match Nat.beq ver' ver, navD fr u (rows.getD i u.zero) path with
      | true, some a => bif fitsA t a then k a else .fail
      | _, _ => .fail
    | .frz ver' fr u rows => match Nat.beq ver' ver, navD fr u (rows.getD i u.zero) path with
      | true, some a => bif fitsA t a then k a else .fail
      | _, _ => .fail
    | _ => .fail
  | .rptr fr u x => bif Ty.beq u t then k (.d fr u x) else .fail
  | _ => .fail
def storeK (p v : AV) (t : Ty) : OpV :=
  match p with
  | .ptr id path => .get id fun
    | .mem fm u c => match tyAt u path, setA c path v with
      | some w, some c' => bif Ty.beq w t && fitsA t v then .done (.any, [(id, some (.mem fm u c'))]) else .fail
      | _, _ => .fail
    | _ => .fail
  | .eptr id ver i path => .get id fun
    | .sli ver' fr u rows => match Nat.beq ver' ver, v with
      | true, .d fr' u' y => match setD u (rows.getD i u.zero) path u' y with
        | some z => bif Ty.beq u' t then .done (.any, [(id, some (.sli ver (fr && (fr' || u'.flat)) u (rows.set i z)))]) else .fail
        | none => .fail
      | _, _ => .fail
    | _ => .fail
  | _ => .fail
def roomy (n : Nat) (t : Ty) : Bool := Nat.blt 0 t.size && decide (n * (24 * t.size) ≤ 140737488355328)
def appendK (s x : AV) (t : Ty) (base : Id) : OpV :=
  match s with
  | .own id ver => .get id fun
    | .sli ver' fr u rows => match Nat.beq ver' ver, castD (a := .slice u) rows (.slice t) with
      | true, some old => rowsK x t ⟨[], []⟩ false fun frx new _ =>
        .chk (roomy (List.length old + List.length new) t) (.done (.own id (Nat.succ ver), [(id, some (.sli (Nat.succ ver) (fr && (frx || t.flat)) t (List.append old new)))]))
      | _, _ => .fail
    | _ => .fail
  | .nils => rowsK x t ⟨[], []⟩ false fun frx new _ => .chk (roomy (List.length new) t) (.done (.own base 0, [(base, some (.sli 0 (frx || t.flat) t new))]))
  | .view id ver lo hi cp => bif cp then
      rowsK (.view id ver lo hi cp) t ⟨[], []⟩ true fun frs old c => rowsK x t ⟨[], []⟩ false fun frx new _ =>
        .chk (roomy (List.length old + List.length new) t) (.done (.d (frs && (frx || t.flat)) (.slice t) (List.append old new), c.ups))
      else .fail
  | _ => .fail
def appendO (s x : AV) (t : Ty) (base : Id) : OpV :=
  match s with
  | .view id ver lo hi true =>
    rowsK (.view id ver lo hi true) t ⟨[], []⟩ false fun frs old _ => rowsK x t ⟨[], []⟩ false fun frx new _ =>
      .chk (decide (0 < List.length new) && roomy (List.length old + List.length new) t) (.done (.own base 0, [(base, some (.sli 0 ((frs && frx) || t.flat) t (List.append old new)))]))
  | _ => appendK s x t base
def appendZ (s : AV) (n : Int) (t : Ty) (base : Id) : OpV :=
  match s with
  | .own id ver => .get id fun
    | .sli ver' fr u rows => match Nat.beq ver' ver, castD (a := .slice u) rows (.slice t) with
      | true, some old => .chk (decide (0 ≤ n) && roomy (List.length old + n.toNat) t && t.bare)
        (.done (.own id (Nat.succ ver), [(id, some (.sli (Nat.succ ver) fr t (List.append old (List.replicate n.toNat t.zero))))]))
      | _, _ => .fail
    | _ => .fail
  | .nils => .chk (decide (0 ≤ n) && roomy n.toNat t && t.bare) (.done (.own base 0, [(base, some (.sli 0 true t (List.replicate n.toNat t.zero)))]))
  | _ => .fail
def cutK (n : Nat) (lo hi : Option Int) (k : Nat → Nat → OpV) : OpV :=
  match lo, hi with
  | none, none => k 0 n
  | some l, none => .chk (decide (0 ≤ l) && decide (l ≤ n)) (k l.toNat n)
  | none, some h => .chk (decide (0 ≤ h) && decide (h ≤ n)) (k 0 h.toNat)
  | some l, some h => .chk (decide (0 ≤ l) && decide (l ≤ h) && decide (h ≤ n)) (k l.toNat h.toNat)
def sliceK (v : AV) (t : Option Ty) (lo hi : Option Int) (cp : Bool) : OpV :=
  match v, t with
  | .d fr (.slice u) x, some (.slice u') => bif Ty.beq u u' then cutK (List.length x) lo hi fun a b => .done (.d fr (.slice u) ((List.drop a x).take (b - a)), []) else .fail
  | .d _ .str x, some .str => cutK (List.length x) lo hi fun a b => .done (.d true .str ((List.drop a x).take (b - a)), [])
  | .own id ver, some (.slice u') => .get id fun
    | .sli ver' _ u rows => bif Nat.beq ver' ver && Ty.beq u u' then cutK rows.length lo hi fun a b => .done (.view id ver a b cp, []) else .fail
    | .frz ver' _ u rows => bif Nat.beq ver' ver && Ty.beq u u' then cutK rows.length lo hi fun a b => .done (.view id ver a b cp, []) else .fail
    | _ => .fail
  | .ptr id path, some (.arr n u) => bif Nat.ble n 9223372036854775807 then ptrTy id path (.arr n u) (cutK n lo hi fun a b => .done (.mview id path a b, [])) else .fail
  | .view id ver x y _, some (.slice u') => .get id fun
    | .sli ver' _ u _ => bif Nat.beq ver' ver && Ty.beq u u' then cutK (y - x) lo hi fun a b => .done (.view id ver (x + a) (x + b) cp, []) else .fail
    | .frz ver' _ u _ => bif Nat.beq ver' ver && Ty.beq u u' then cutK (y - x) lo hi fun a b => .done (.view id ver (x + a) (x + b) cp, []) else .fail
    | _ => .fail
  | .nils, some (.slice _) => cutK 0 lo hi fun _ _ => .done (.nils, [])
  | .rptr fr (.arr n u) x, some (.arr m u') => bif (Nat.beq n m && Ty.beq u u') && Nat.ble n 9223372036854775807 then cutK n lo hi fun a b => .done (.d fr (.slice u) ((List.drop a x).take (b - a)), []) else .fail
  | _, _ => .fail
def sliceK3 (v : AV) (t : Option Ty) (lo hi mx : Option Int) : OpV :=
  match mx with
  | none => sliceK v t lo hi false
  | some m => match hi, t with
    | some h, some (.slice u) => .chk (decide (h = m)) (sliceK v (some (.slice u)) lo hi true)
    | _, _ => .fail
def ownCut (v : AV) (t : Option Ty) (lo hi mx : Option Int) : OpV :=
  match v, t, lo, hi, mx with
  | .own id ver, some (.slice u'), none, some h, none => .get id fun
    | .sli ver' fr u rows => bif Nat.beq ver' ver && Ty.beq u u' then
        .chk (decide (0 ≤ h) && decide (h ≤ (List.length rows : Int))) (.done (.own id (Nat.succ ver), [(id, some (.sli (Nat.succ ver) fr u (List.take h.toNat rows)))])) else .fail
    | _ => .fail
  | _, _, _, _, _ => sliceK3 v t lo hi mx
def buildK (parts : List (Nat × AV)) (acc : AV) : Option AV :=
  match parts with
  | [] => some acc
  | (i, v) :: rest => match setA acc [i] v with
    | some acc' => buildK rest acc'
    | none => none
def splitA : AV → AV
  | .d fr (.pair a b) x => .pair (.d fr a x.1) (splitD fr b x.2)
  | .pair a b => .pair a (splitA b)
  | v => v
where
  splitD (fr : Bool) : (t : Ty) → t.den → AV
    | .pair a b, x => .pair (.d fr a x.1) (splitD fr b x.2)
    | t, x => .d fr t x
def isD : AV → Bool
  | .d _ _ _ => true
  | _ => false
def inArr : Ty → Nat → Bool
  | .arr m _, i => Nat.blt i m
  | .pair _ b, n + 1 => inArr b n
  | _, _ => true
def partsFit (t : Ty) : List (Nat × AV) → Bool
  | [] => true
  | (i, v) :: rest => (match tyAt t [i] with
    | some u => fitsA u v
    | none => false) && inArr t i && partsFit t rest
def buildA (t : Ty) (parts : List (Nat × AV)) : Option AV :=
  bif t.agg && partsFit t parts then
    bif t.bare && allE (fun p => isD p.2) parts then buildK parts (.d true t t.zero) else buildK parts (splitA (zeroA t))
  else none
def buildRows (t : Ty) : List (Nat × AV) → List t.den → Bool → Cl → (List t.den → Bool → Cl → OpV) → OpV
  | [], acc, fr, c, k => k acc fr c
  | (i, v) :: rest, acc, fr, c, k => roK true v t c fun f x c => buildRows t rest (acc.set i x) (fr && (f || t.flat)) c k
def resolveI (v : Option AV) : Option (Option Int) :=
  match v with
  | none => some none
  | some a => match asInt a with
    | some (_, x) => some (some x)
    | none => none
def elemTy : Option Ty → Option Ty
  | some (.slice t) => some t
  | _ => none
def convK (src dst : Option Ty) (v : AV) (base : Id) : OpV :=
  match dst, v with
  | some (.int k), .d _ (.int _) x => match src with
    | some (.int _) => .done (mkInt k (k.wrap x), [])
    | _ => .fail
  | some .str, v => bif isBytes src then rowsK v (.int .u8) ⟨[], []⟩ false fun _ x _ => .done (.d true .str x, []) else .fail
  | _, _ => .fail
def callA (G : Ctx) (f : FuncId) (args : List AV) (base : Id) : OpV :=
  match G.sig f with
  | some s => callK f s args base
  | none => .fail
def opTree (G : Ctx) (o : Oper) (ρ : Operand → AV) (base : Id) : OpV :=
  match o.op with
  | .move x => .done (ρ x, [])
  | .assign x => .done (ρ x, [])
  | .pick c a b => match asBool (ρ c) with
    | some q => .br q (.done (ρ a, [])) (.done (ρ b, []))
    | none => .fail
  | .alloc e => match G.ty e with
    | some t => .done (.ptr base [], [(base, some (.mem true t (zeroA t)))])
    | none => .fail
  | .box e x => match G.ty e with
    | some t => bif fitsA t (ρ x) then .done (.ptr base [], [(base, some (.mem true t (ρ x)))]) else .fail
    | none => .fail
  | .build t ps => match G.ty t with
    | some t => match t with
      | .arr n u => bif u.bare then ofOpt (buildA t (mapE (fun p => (p.1, ρ p.2)) ps.toList)) else
        bif allE (fun p => Nat.blt p.1 n) ps.toList then
          buildRows u (mapE (fun p => (p.1, ρ p.2)) ps.toList) (List.replicate n u.zero) true ⟨[], []⟩ fun rows fr c => .done (.d fr (.arr n u) rows, c.ups) else .fail
      | _ => ofOpt (buildA t (mapE (fun p => (p.1, ρ p.2)) ps.toList))
    | none => .fail
  | .buildSlice t n ps => match elemTy (G.ty t) with
    | some u => bif Nat.ble (n * u.size) 16777216 && Nat.blt 0 u.size then
        buildRows u (mapE (fun p => (p.1, ρ p.2)) ps.toList) (List.replicate n u.zero) true ⟨[], []⟩ fun rows fr c =>
          .done (.own base 0, (base, some (.sli 0 fr u rows)) :: c.ups) else .fail
    | none => .fail
  | .load e a => match G.ty e with
    | some t => loadK (ρ a) t fun v => .done (v, [])
    | none => .fail
  | .store e a x => match G.ty e with
    | some t => storeK (ρ a) (ρ x) t
    | none => .fail
  | .nilCheck x => match ρ x with
    | .ptr i p => alive i (.done (.ptr i p, []))
    | .eptr i v j p => .get i fun
      | .sli v' _ _ _ => bif Nat.beq v' v then .done (.eptr i v j p, []) else .fail
      | .frz v' _ _ _ => bif Nat.beq v' v then .done (.eptr i v j p, []) else .fail
      | _ => .fail
    | .rptr f t x => .done (.rptr f t x, [])
    | _ => .fail
  | .binOp op T x y _ => binK op (G.ty T) (ρ x) (ρ y)
  | .unOp op _ x => unK op (ρ x)
  | .convert s d x => bif Nat.beq s d && isBytes (G.ty s) then convSame (ρ x) else convK (G.ty s) (G.ty d) (ρ x) base
  | .slice t x lo hi mx => match resolveI (lo.map ρ), resolveI (hi.map ρ), resolveI (mx.map ρ) with
    | some l, some h, some m => bif G.cut then ownCut (ρ x) (G.ty t) l h m else sliceK3 (ρ x) (G.ty t) l h m
    | _, _, _ => .fail
  | .fieldAddr t x f => fieldAddrK (ρ x) (G.ty t) f
  | .field t x f => match G.ty t, navA (ρ x) [f] with
    | some t, some a => bif fitsA t (ρ x) && hasField t f then .done (a, []) else .fail
    | _, _ => .fail
  | .indexAddr t x i => match asInt (ρ i) with
    | some (_, n) => indexAddrK (ρ x) (G.ty t) n
    | none => .fail
  | .index t x i => match asInt (ρ i), ρ x, G.ty t with
    | some (_, n), .d fr (.arr len u) xs, some (.arr len' u') => bif Nat.beq len len' && Ty.beq u u' then .chk (inR n len) (.done (.d fr u (List.getD xs n.toNat u.zero), [])) else .fail
    | some (_, n), .d _ .str xs, some .str => .chk (inR n (List.length xs)) (.done (mkInt .u8 (List.getD xs n.toNat 0), []))
    | _, _, _ => .fail
  | .extract x i => match ρ x with
    | .tup a => ofOpt (nthA a i)
    | _ => .fail
  | .makeFunc fn first caps => match fn, first.toList with
    | .func f, [] => bif allE oneB (mapE ρ caps.toList) then .done (.fn f (chainA (mapE ρ caps.toList)), []) else .fail
    | _, _ => .fail
  | .makeSlice t l c => match elemTy (G.ty t), asInt (ρ l), asInt (ρ c) with
    | some u, some (_, l), some (_, c) => bif G.cut then .chk (decide (0 ≤ l) && decide (l = c) && roomy c.toNat u && u.bare) (.done (.view base 0 0 l.toNat true, [(base, some (.sli 0 true u (List.replicate l.toNat u.zero)))]))
      else .chk (decide (0 ≤ l) && decide (l ≤ c) && roomy c.toNat u && u.bare) (.done (.own base 0, [(base, some (.sli 0 true u (List.replicate l.toNat u.zero)))]))
    | _, _, _ => .fail
  | .call c => match c.callee with
    | .builtin b => match b, mapE ρ c.args.toList with
      | .len, [v] => match c.argTypes.toList with
        | [t] => lenK v (G.ty t) fun n => .done (mkInt .i64 n, [])
        | _ => .fail
      | .cap, [v] => match c.argTypes.toList with
        | [t] => match v, G.ty t with
          | .nils, some (.slice _) => .done (mkInt .i64 0, [])
          | _, _ => .fail
        | _ => .fail
      | .append, [s, x] => match c.argTypes.toList with
        | [t, t'] => match elemTy (G.ty t) with
          | some u => match Nat.beq t t' with
            | true => bif G.cut then appendO s x u base else appendK s x u base
            | false => match G.ty t', asInt x with
              | some (.int _), some (_, n) => appendZ s n u base
              | _, _ => .fail
          | none => .fail
        | _ => .fail
      | _, _ => .fail
    | .value x => match ρ x with
      | .fn f c' => match unchainA c' with
        | some cs => callA G f (appE (mapE ρ c.args.toList) cs) base
        | none => .fail
      | _ => .fail
    | _ => .fail
  | _ => .fail
structure St where
  env : List (Nat × AV)
  objs : Ups
  next : Nat
def look : List (Nat × AV) → Nat → AV
  | [], _ => .any
  | (i, v) :: r, t => match Nat.beq i t with
    | true => v
    | false => look r t
def lookO : Ups → Id → Option Obj
  | [], _ => none
  | (i, v) :: r, t => match idE i t with
    | true => v
    | false => lookO r t
def St.eval (S : St) : Operand → AV
  | .tmp t => look S.env t
  | .const v => constA v
  | .func f => .fn f (.d true .unit ())
  | .global _ => .any
abbrev CallD := (f : FuncId) → (s : Sig) → denL s.ins → Option s.outDen
structure Row where
  at_ : Nat
  reads : List Id
  writes : List Id
def fsts : Ups → List Id
  | [] => []
  | p :: r => p.1 :: fsts r
def memE : List Id → Id → Bool
  | [], _ => false
  | a :: l, n => idE a n || memE l n
def disjE : List Id → List Id → Bool
  | [], _ => true
  | a :: l, m => !memE m a && disjE l m
def masks (acc : List Nat) : List Edge → Nat → Nat
  | [], m => m
  | e :: r, m => masks acc r (bif Region.binds .any e then Nat.lor m (Nat.lor (Nat.shiftLeft 1 e.on) (acc.getD e.on 0)) else m)
def befores : List Oper → List Nat → List Nat
  | [], acc => acc
  | o :: r, acc => befores r (appE acc [masks acc o.after.toList 0])
def dstOf : Option Oper → Option Tmp
  | none => none
  | some o => o.dst
def apartE (ops : Array Oper) (i j : Nat) : Bool :=
  match nthE ops.toList i, nthE ops.toList j with
  | some x, some y => Oper.apart ops x y
  | _, _ => false
def freeOK (ops : Array Oper) (bs : List Nat) : List Row → Bool
  | [] => true
  | r :: rest => allE (fun q => Nat.testBit (bs.getD r.at_ 0) q.at_ ||
      (apartE ops q.at_ r.at_ && disjE q.writes r.reads && disjE q.writes r.writes && disjE r.writes q.reads)) rest && freeOK ops bs rest
def putDst (env : List (Nat × AV)) (dst : Option Tmp) (v : AV) : List (Nat × AV) :=
  match dst with
  | some d => (d, v) :: env
  | none => env
def bigN : Nat := 18446744073709551616
theorem bigLoop_ex : ∃ L : LoopD, L = fun _ _ round => loopN round bigN := ⟨_, rfl⟩
def joinR {ω δ : Type} (f : δ → Option ω) (x : δ) : Option ω := f x
noncomputable def bigLoop : LoopD := Classical.choose bigLoop_ex
theorem bigLoop_def : bigLoop = fun _ _ round => loopN round bigN := Classical.choose_spec bigLoop_ex
theorem bigF_ex : ∃ n : Nat, n = bigN := ⟨_, rfl⟩
noncomputable def bigF : Nat := Classical.choose bigF_ex
theorem bigF_eq : bigF = 18446744073709551616 := Classical.choose_spec bigF_ex
def slotsOf (S : St) : List (Nat × MTy) → List AV
  | [] => []
  | (i, _) :: r => look S.env i :: slotsOf S r
def modesOf : List (Nat × MTy) → List MTy
  | [] => []
  | (_, m) :: r => m :: modesOf r
def putSlots : List (Nat × MTy) → List AV → List (Nat × AV)
  | (i, _) :: r, v :: vs => (i, v) :: putSlots r vs
  | _, _ => []
def aliAt (S : St) (x : Ali) : Option (Id × Nat) :=
  match look S.env x.q with
  | .ptr id [] => match lookO S.objs id with
    | some (.mem _ u c) => match tyAt x.t [x.i] with
      | some (.slice _) => bif Ty.beq u x.t && inArr x.t x.i then (match navA c [x.i] with
        | some (.own j v) => some (j, v)
        | _ => none) else none
      | _ => none
    | _ => none
  | _ => none
def slB : Option Obj → Nat → Bool
  | some (.sli v _ _ _), w => Nat.beq v w
  | some (.frz v _ _ _), w => Nat.beq v w
  | _, _ => false
def aliOne (S : St) (x : Ali) : Bool :=
  match aliAt S x, look S.env x.s with
  | some (j, v), .own j' v' => idE j j' && (Nat.beq v v' && slB (lookO S.objs j) v)
  | _, _ => false
def putAli (S : St) : List Ali → List (Nat × AV)
  | [] => S.env
  | x :: r => match aliAt S x with
    | some (j, v) => (x.s, .own j v) :: putAli S r
    | none => putAli S r
def argsNow (S : St) : Nat → List MTy → List AV
  | _, [] => []
  | n, _ :: ms => look S.env n :: argsNow S (Nat.succ n) ms
def backArgs : List MTy → List AV → List AV
  | m :: ms, v :: vs => (match m with | .ptr _ | .optr _ => v | _ => .d true .unit ()) :: backArgs ms vs
  | _, _ => []
section
variable {ω : Type} (C : CallD)
def interp {α : Type} (objs : Ups) : OpT α → List Id → (α → List Id → Option ω) → Option ω
  | .fail, _, _ => none
  | .done a, l, k => k a l
  | .br c t e, l, k => brR c (interp objs t l k) (interp objs e l k)
  | .get id f, l, k => match lookO objs id with
    | some o => interp objs (f o) (id :: l) k
    | none => none
  | .call f s x g, l, k => (C f s x).bind fun y => interp objs (g y) l k
  | .opt _ o n s, l, k => optR o (interp objs n l k) fun y => interp objs (s y) l k
def evalOps (G : Ctx) (ops : Array Oper) (draw : Bool) : List (Nat × Oper) → St → List Row → (St → Option ω) → Option ω
  | [], S, rows, k => brR (!draw || freeOK ops (befores ops.toList []) rows) (k { S with next := Nat.succ S.next }) none
  | (i, o) :: rest, S, rows, k =>
    let run (S : St) : Option ω :=
      interp C S.objs (opTree G o S.eval (S.next, i, 0)) [] fun a l =>
        evalOps G ops draw rest { S with env := putDst S.env o.dst a.1, objs := appE a.2 S.objs } (⟨i, l, fsts a.2⟩ :: rows) k
    let skip (S : St) : Option ω := evalOps G ops draw rest { S with env := putDst S.env o.dst .un } (⟨i, [], []⟩ :: rows) k
    match o.guard with
    | none => run S
    | some (j, want) => match dstOf (nthE ops.toList j) with
      | none => none
      | some d => match look S.env d with
        | .d fr .bool b =>
          let St (q : Bool) : St := { S with env := (d, .d fr .bool q) :: S.env }
          match want with
          | true => brR b (run (St true)) (skip (St false))
          | false => brR b (skip (St true)) (run (St false))
        | .un => skip S
        | _ => none
def openSt (al : List Ali) (ms : List MTy) (hs : List (Nat × MTy)) (x : denL ms) (k : St → Option ω) : Option ω :=
  interp C [] (openL ms x (0, 0, 0) [] fun vs _ u => .done (vs, u)) [] fun a _ => k { env := putAli { env := putSlots hs a.1, objs := a.2, next := 1 } al, objs := a.2, next := 1 }
def closeSt (al : List Ali) (ms : List MTy) (hs : List (Nat × MTy)) (S : St) (k : denL ms → Option ω) : Option ω :=
  bif allE (aliOne S) al then interp C S.objs (closeL true ms (slotsOf S hs) ⟨[], []⟩ fun x _ => .done x) [] fun x _ => k x else none
noncomputable def evalCode (L : LoopD) (G : Ctx) (f : FuncId) : Code → Nat → (St → Option ω) → (Nat → St → Option ω) → (St → Option ω) → St → Option ω
  | .skip, _, kn, _, _, S => kn S
  | .region i ops draw, _, kn, _, _, S => match G.hint f (Nat.add 1000000 i) with
    | [] => evalOps C G ops draw (idxE 0 ops.toList) S [] kn
    | _ :: _ => closeSt C (G.ali f (Nat.add 1000000 i)) (modesOf (G.hint f (Nat.add 1000000 i))) (G.hint f (Nat.add 1000000 i)) S
      (joinR fun x => openSt C (G.ali f (Nat.add 1000000 i)) (modesOf (G.hint f (Nat.add 1000000 i))) (G.hint f (Nat.add 1000000 i)) x fun S => evalOps C G ops draw (idxE 0 ops.toList) S [] kn)
  | .seq a b, id, kn, ke, kr, S => evalCode L G f a id (evalCode L G f b id kn ke kr) ke kr S
  | .cond c a b, id, kn, ke, kr, S => match S.eval c with
    | .d _ .bool q => brR q (evalCode L G f a id kn ke kr S) (evalCode L G f b id kn ke kr S)
    | .ub e r => brR e (bothR (evalCode L G f a id kn ke kr S) (evalCode L G f b id kn ke kr S)) (brR r (evalCode L G f a id kn ke kr S) (evalCode L G f b id kn ke kr S))
    | _ => none
  | .block id c, _, kn, ke, kr, S => evalCode L G f c id kn (fun i S => match Nat.beq i id with | true => kn S | false => ke i S) kr S
  | .loop c, id, _, ke, kr, S =>
    closeSt C (G.ali f id) (modesOf (G.hint f id)) (G.hint f id) S (L _ _ (fun again x => openSt C (G.ali f id) (modesOf (G.hint f id)) (G.hint f id) x
      (evalCode L G f c id (fun S => closeSt C (G.ali f id) (modesOf (G.hint f id)) (G.hint f id) S again) ke kr)))
  | .exit i, _, _, ke, _, S => ke i S
  | .label _, _, kn, _, _, S => kn S
  | .ret, _, _, _, kr, S => kr S
  | _, _, _, _, _, _ => none
def resultsK {α : Type} (G : Ctx) (S : St) : List ResultVar → (List AV → OpT α) → OpT α
  | [], k => k []
  | .tmp t :: r, k => resultsK G S r fun vs => k (look S.env t :: vs)
  | .cell a e :: r, k => match G.ty e, look S.env a with
    | some t, .ptr id path => .get id fun
      | .mem _ u c => match tyAt u path, navA c path with
        | some w, some v => bif Ty.beq w t && fitsA t v then resultsK G S r fun vs => k (v :: vs) else .fail
        | _, _ => .fail
      | .mfz _ u c => match tyAt u path, navA c path with
        | some w, some v => bif Ty.beq w t && fitsA t v then resultsK G S r fun vs => k (v :: vs) else .fail
        | _, _ => .fail
      | _ => .fail
    | _, _ => .fail
end
noncomputable def evalBody (L : LoopD) (C : CallD) (G : Ctx) (f : FuncId) (fn : Func) (c : Code) (s : Sig) (x : denL s.ins) : Option s.outDen :=
  interp C [] (openL s.ins x (0, 0, 0) [] fun vs _ u => .done (vs, u)) [] fun (a : List AV × Ups) _ =>
    let fin (S : St) : Option s.outDen :=
      interp C S.objs (resultsK G S fn.results.toList fun rs => closeL true s.outs rs ⟨[], []⟩ fun y c =>
        closeL true (updL s.ins) (backArgs s.ins (argsNow S 0 s.ins)) c fun z _ => .done (y, z)) [] fun y _ => some y
    evalCode C L G f c 0 fin (fun _ _ => none) fin { env := idxE 0 a.1, objs := a.2, next := 1 }
end Go.Pon
set_option autoImplicit false
set_option linter.unusedVariables false
namespace Go.Pon
open Go
def RowsR {α : Type} (R : List Value → α → Prop) (n : Nat) : List Value → List α → Prop
  | cs, [] => cs = []
  | cs, x :: xs => n ≤ cs.length ∧ R (cs.take n) x ∧ RowsR R n (cs.drop n) xs
def inK (k : IntKind) (x : Int) : Prop := k.min ≤ x ∧ x ≤ k.max
def DR (w : World) (ok : Nat → Prop) : (t : Ty) → List Value → t.den → Prop
  | .unit, cs, _ => cs = []
  | .pair a b, cs, x => DR w ok a (cs.take a.size) x.1 ∧ DR w ok b (cs.drop a.size) x.2
  | .int k, cs, x => cs = [.int k x] ∧ inK k x
  | .bool, cs, x => cs = [.bool x]
  | .str, cs, x => ∃ s : ByteArray, cs = [.string s] ∧ x = s.data.toList.map (fun b => (b.toNat : Int)) ∧ s.size ≤ maxLen
  | .arr n t, cs, x => List.length x = n ∧ RowsR (DR w ok t) t.size cs x
  | .slice t, cs, x => ∃ a cap, cs = [.slice a (List.length x) cap] ∧ List.length x ≤ cap ∧ cap ≤ maxLen ∧
      (a = none → cap = 0) ∧
      ∃ rows, RowsR (DR w ok t) t.size rows x ∧ (rows ≠ [] → ∃ ad, a = some ad ∧ ok ad.block ∧ ∀ j v, rows[j]? = some v → w.cell? (ad.add j) = some v)
  | .ptr, cs, _ => cs = [.pointer none]
section rows
variable {α : Type} {R R' : List Value → α → Prop} {n : Nat}
theorem RowsR.mono (h : ∀ c x, R c x → R' c x) : ∀ {cs : List Value} {xs : List α}, RowsR R n cs xs → RowsR R' n cs xs
  | _, [], hr => hr
  | _, _ :: _, ⟨h1, h2, h3⟩ => ⟨h1, h _ _ h2, RowsR.mono h h3⟩
theorem RowsR.length : ∀ {cs : List Value} {xs : List α}, RowsR R n cs xs → cs.length = xs.length * n
  | _, [], hr => by simp [show _ = ([] : List Value) from hr]
  | cs, x :: xs, ⟨h1, _, h3⟩ => by
    have := RowsR.length h3
    simp only [List.length_drop] at this
    simp only [List.length_cons, Nat.add_mul, Nat.one_mul]
    omega
theorem RowsR.get : ∀ {cs : List Value} {xs : List α} (h : RowsR R n cs xs) (i : Nat) (hi : i < xs.length), R ((cs.drop (i * n)).take n) xs[i]
  | _, _ :: _, ⟨_, h2, _⟩, 0, _ => by simpa using h2
  | cs, x :: xs, ⟨_, _, h3⟩, i + 1, hi => by
    have := RowsR.get h3 i (by simpa using hi)
    simp only [List.drop_drop] at this
    simpa [Nat.add_mul, Nat.add_comm] using this
theorem RowsR.append : ∀ {cs ds : List Value} {xs ys : List α}, RowsR R n cs xs → RowsR R n ds ys → RowsR R n (cs ++ ds) (xs ++ ys)
  | cs, ds, [], ys, h, h' => by rw [show cs = [] from h]; exact h'
  | cs, ds, x :: xs, ys, ⟨h1, h2, h3⟩, h' => by
    refine ⟨by simp; omega, ?_, ?_⟩
    · rw [List.take_append_of_le_length h1]; exact h2
    · rw [List.drop_append_of_le_length h1]; exact RowsR.append h3 h'
theorem RowsR.drop : ∀ {cs : List Value} {xs : List α} (h : RowsR R n cs xs) (i : Nat), RowsR R n (cs.drop (i * n)) (xs.drop i)
  | cs, xs, h, 0 => by simpa using h
  | cs, [], h, i + 1 => by rw [show cs = [] from h]; simp [RowsR]
  | cs, x :: xs, ⟨_, _, h3⟩, i + 1 => by
    have := RowsR.drop h3 i
    simp only [List.drop_drop] at this
    simpa [Nat.add_mul, Nat.add_comm] using this
theorem RowsR.take : ∀ {cs : List Value} {xs : List α} (h : RowsR R n cs xs) (i : Nat), RowsR R n (cs.take (i * n)) (xs.take i)
  | cs, xs, h, 0 => by simp [RowsR]
  | cs, [], h, i + 1 => by rw [show cs = [] from h]; simp [RowsR]
  | cs, x :: xs, ⟨h1, h2, h3⟩, i + 1 => by
    have := RowsR.take h3 i
    refine ⟨by simp [Nat.add_mul]; omega, ?_, ?_⟩
    · rw [List.take_take]; simpa [Nat.add_mul] using h2
    · rw [List.drop_take]
      have e : (i + 1) * n - n = i * n := by simp [Nat.add_mul]
      rw [e]; exact this
theorem RowsR.set : ∀ {cs : List Value} {xs : List α} (h : RowsR R n cs xs) (i : Nat) (hi : i < xs.length) (d : List Value) (y : α), d.length = n → R d y →
    RowsR R n (cs.take (i * n) ++ d ++ cs.drop (i * n + n)) (xs.set i y)
  | cs, x :: xs, ⟨h1, h2, h3⟩, 0, _, d, y, hd, hy => by
    refine ⟨by simp [hd], ?_, ?_⟩
    · rw [show (List.take (0 * n) cs ++ d ++ List.drop (0 * n + n) cs) = d ++ List.drop n cs from by simp, List.take_append_of_le_length (by omega), List.take_of_length_le (by omega)]
      exact hy
    · rw [show (List.take (0 * n) cs ++ d ++ List.drop (0 * n + n) cs) = d ++ List.drop n cs from by simp, List.drop_append_of_le_length (by omega), List.drop_eq_nil_of_le (by omega)]
      exact h3
  | cs, x :: xs, ⟨h1, h2, h3⟩, i + 1, hi, d, y, hd, hy => by
    have := RowsR.set h3 i (by simpa using hi) d y hd hy
    have e1 : (i + 1) * n = n + i * n := by simp [Nat.add_mul, Nat.add_comm]
    refine ⟨by simp; omega, ?_, ?_⟩
    · rw [e1, List.append_assoc, List.take_append_of_le_length (by simp; omega), List.take_take]
      rw [Nat.min_eq_left (by omega)]; exact h2
    · rw [e1, List.append_assoc, List.drop_append_of_le_length (by simp; omega), List.drop_take, ← List.append_assoc]
      rw [show n + i * n - n = i * n by omega, show n + i * n + n = n + (i * n + n) by omega, ← List.drop_drop]
      exact this
theorem RowsR.nil : RowsR R n [] ([] : List α) := rfl
theorem RowsR.single {c : List Value} {x : α} (hl : c.length = n) (h : R c x) : RowsR R n c [x] :=
  ⟨by omega, by rwa [List.take_of_length_le (by omega)], by rw [List.drop_eq_nil_of_le (by omega)]; rfl⟩
theorem RowsR.replicate {z : List Value} {x : α} (hl : z.length = n) (h : R z x) : ∀ k, RowsR R n (List.replicate k z).flatten (List.replicate k x)
  | 0 => by simp [RowsR]
  | k + 1 => by
    simp only [List.replicate_succ, List.flatten_cons]
    exact RowsR.append (xs := [x]) (RowsR.single hl h) (RowsR.replicate hl h k)
end rows
section
variable {w w' : World} {ok ok' : Nat → Prop}
theorem DR.mono : ∀ {t : Ty} {cs : List Value} {x : t.den} (h : ∀ b, ok b → ok' b), DR w ok t cs x → DR w ok' t cs x
  | .unit, _, _, _, hr => hr
  | .pair _ _, _, _, h, ⟨h1, h2⟩ => ⟨DR.mono h h1, DR.mono h h2⟩
  | .int _, _, _, _, hr => hr
  | .bool, _, _, _, hr => hr
  | .str, _, _, _, hr => hr
  | .arr _ _, _, _, h, ⟨h1, h2⟩ => ⟨h1, h2.mono fun _ _ => DR.mono h⟩
  | .slice _, _, _, h, ⟨a, cap, h1, h2, h3, h4, rows, h5, h6⟩ =>
    ⟨a, cap, h1, h2, h3, h4, rows, h5.mono fun _ _ => DR.mono h, fun hne => let ⟨ad, e, ho, hc⟩ := h6 hne; ⟨ad, e, h _ ho, hc⟩⟩
  | .ptr, _, _, _, hr => hr
theorem DR.move (hw : ∀ b, b < w.heap.size → ok b → ok' b ∧ w'.heap[b]? = w.heap[b]?) : ∀ {t : Ty} {cs : List Value} {x : t.den}, DR w ok t cs x → DR w' ok' t cs x
  | .unit, _, _, hr => hr
  | .pair _ _, _, _, ⟨h1, h2⟩ => ⟨DR.move hw h1, DR.move hw h2⟩
  | .int _, _, _, hr => hr
  | .bool, _, _, hr => hr
  | .str, _, _, hr => hr
  | .arr _ _, _, _, ⟨h1, h2⟩ => ⟨h1, h2.mono fun _ _ => DR.move hw⟩
  | .slice _, _, _, ⟨a, cap, h1, h2, h3, h4, rows, h5, h6⟩ =>
    ⟨a, cap, h1, h2, h3, h4, rows, h5.mono fun _ _ => DR.move hw, fun hne => by
      obtain ⟨ad, e, ho, hc⟩ := h6 hne
      obtain ⟨v0, hv0⟩ : ∃ v, rows[0]? = some v := by
        cases rows with
        | nil => exact absurd rfl hne
        | cons v r => exact ⟨v, rfl⟩
      have hadd : ∀ j, (ad.add j).block = ad.block := fun j => by unfold Addr.add; split <;> rfl
      have hlt : ad.block < w.heap.size := by
        have := World.block_lt_of_cell? w _ (hc 0 v0 hv0)
        rwa [hadd] at this
      obtain ⟨h1, h2⟩ := hw _ hlt ho
      exact ⟨ad, e, h1, fun j v hv => by rw [World.cell?_of_block (w := w) (by rw [hadd]; exact h2)]; exact hc j v hv⟩⟩
  | .ptr, _, _, hr => hr
theorem DR.len : ∀ {t : Ty} {cs : List Value} {x : t.den}, DR w ok t cs x → cs.length = t.size
  | .unit, _, _, hr => by rw [show _ = ([] : List Value) from hr]; rfl
  | .pair a b, cs, _, ⟨h1, h2⟩ => by
    have h1 := DR.len h1; have h2 := DR.len h2
    simp only [List.length_take, List.length_drop, Ty.size] at *
    omega
  | .int _, _, _, hr => by rw [hr.1]; rfl
  | .bool, _, _, hr => by rw [show _ = [_] from hr]; rfl
  | .str, _, _, ⟨_, h, _⟩ => by rw [h]; rfl
  | .arr n t, _, x, ⟨h1, h2⟩ => by rw [RowsR.length h2, h1]; rfl
  | .slice _, _, _, ⟨_, _, h, _⟩ => by rw [h]; rfl
  | .ptr, _, _, hr => by rw [show _ = [_] from hr]; rfl
theorem DR.flat : ∀ {t : Ty} {cs : List Value} {x : t.den}, t.flat = true → DR w ok t cs x → DR w' ok' t cs x
  | .unit, _, _, _, hr => hr
  | .pair a b, _, _, h, ⟨h1, h2⟩ => by
    simp only [Ty.flat, Bool.and_eq_true] at h
    exact ⟨DR.flat h.1 h1, DR.flat h.2 h2⟩
  | .int _, _, _, _, hr => hr
  | .bool, _, _, _, hr => hr
  | .str, _, _, _, hr => hr
  | .arr _ t, _, _, h, ⟨h1, h2⟩ => ⟨h1, h2.mono fun _ _ => DR.flat (t := t) h⟩
  | .ptr, _, _, _, hr => hr
theorem DR.one : ∀ {t : Ty} {cs : List Value} {x : t.den}, DR w ok t cs x → ∀ v ∈ cs, v.oneCell' = true
  | .unit, _, _, hr => by rw [show _ = ([] : List Value) from hr]; simp
  | .pair a b, cs, _, ⟨h1, h2⟩ => by
    intro v hv
    rw [← List.take_append_drop a.size cs] at hv
    rcases List.mem_append.1 hv with h | h
    · exact DR.one h1 v h
    · exact DR.one h2 v h
  | .int _, _, _, hr => by rw [hr.1]; simp [Value.oneCell']
  | .bool, _, _, hr => by rw [show _ = [_] from hr]; simp [Value.oneCell']
  | .str, _, _, ⟨_, h, _⟩ => by rw [h]; simp [Value.oneCell']
  | .arr n t, cs, x, ⟨h1, h2⟩ => by
    intro v hv
    have key : ∀ (xs : List t.den) (cs : List Value), RowsR (DR w ok t) t.size cs xs → ∀ v ∈ cs, v.oneCell' = true := by
      intro xs
      induction xs with
      | nil => intro cs h v hv; rw [show cs = [] from h] at hv; simp at hv
      | cons x xs ih =>
        intro cs ⟨_, h2, h3⟩ v hv
        rw [← List.take_append_drop t.size cs] at hv
        rcases List.mem_append.1 hv with h | h
        · exact DR.one h2 v h
        · exact ih _ h3 v h
    exact key x cs h2 v hv
  | .slice _, _, _, ⟨_, _, h, _⟩ => by rw [h]; simp [Value.oneCell']
  | .ptr, _, _, hr => by rw [show _ = [_] from hr]; simp [Value.oneCell']
end
def zcells : Ty → List Value
  | .unit => []
  | .pair a b => zcells a ++ zcells b
  | .int k => [.int k 0]
  | .bool => [.bool false]
  | .str => [.string ⟨#[]⟩]
  | .arr n t => (List.replicate n (zcells t)).flatten
  | .slice _ => [.slice none 0 0]
  | .ptr => [.pointer none]
theorem zcells_len : ∀ t : Ty, (zcells t).length = t.size
  | .unit => rfl
  | .pair a b => by simp [zcells, Ty.size, zcells_len a, zcells_len b]
  | .int _ => rfl
  | .bool => rfl
  | .str => rfl
  | .arr n t => by simp [zcells, Ty.size, zcells_len t]
  | .slice _ => rfl
  | .ptr => rfl
theorem inK_zero (k : IntKind) : inK k 0 := by cases k <;> simp [inK, IntKind.min, IntKind.max, IntKind.signed, IntKind.bits]
theorem DR.zero {w : World} {ok : Nat → Prop} : ∀ t : Ty, DR w ok t (zcells t) t.zero
  | .unit => rfl
  | .pair a b => by
    refine ⟨?_, ?_⟩
    · rw [show zcells (.pair a b) = zcells a ++ zcells b from rfl, List.take_append_of_le_length (by rw [zcells_len]; exact Nat.le_refl _), List.take_of_length_le (by rw [zcells_len]; exact Nat.le_refl _)]
      exact DR.zero a
    · rw [show zcells (.pair a b) = zcells a ++ zcells b from rfl, List.drop_append_of_le_length (by rw [zcells_len]; exact Nat.le_refl _), List.drop_eq_nil_of_le (by rw [zcells_len]; exact Nat.le_refl _)]
      exact DR.zero b
  | .int k => ⟨rfl, inK_zero k⟩
  | .bool => rfl
  | .str => ⟨⟨#[]⟩, rfl, rfl, by simp [ByteArray.size]⟩
  | .arr n t => ⟨by simp [Ty.zero], RowsR.replicate (zcells_len t) (DR.zero t) n⟩
  | .slice t => ⟨none, 0, rfl, Nat.le_refl _, by simp [maxLen], fun _ => rfl, [], rfl, fun h => absurd rfl h⟩
  | .ptr => rfl
theorem getD_lt {α : Type} {l : List α} {i : Nat} {d : α} (h : i < l.length) : l.getD i d = l[i] := by simp [List.getD, List.getElem?_eq_getElem h]
def inT : Ty → List Nat → Prop
  | _, [] => True
  | .pair a b, i :: p => match i with
    | 0 => inT a p
    | n + 1 => inT b (n :: p)
  | .arr m t, i :: p => i < m ∧ inT t p
  | _, _ => False
theorem navD_spec {w : World} {ok : Nat → Prop} (fr : Bool) : ∀ (t : Ty) (x : t.den) (p : List Nat) (u : Ty) (cs : List Value), tyAt t p = some u → inT t p → DR w ok t cs x →
    ∃ y, navD fr t x p = some (.d fr u y) ∧ DR w ok u ((cs.drop (offT t p)).take u.size) y ∧ offT t p + u.size ≤ t.size
  | t, x, [], u, cs, ht, _, h => by
    have e : u = t := by cases t <;> simpa [tyAt] using ht.symm
    subst e
    have h0 : offT u [] = 0 := by cases u <;> rfl
    have hn : navD fr u x [] = some (.d fr u x) := by cases u <;> rfl
    refine ⟨x, hn, ?_, by omega⟩
    rw [h0, List.drop_zero, List.take_of_length_le (by rw [DR.len h]; exact Nat.le_refl _)]
    exact h
  | .pair a b, x, 0 :: p, u, cs, ht, hi, h => by
    obtain ⟨y, h1, h2, h3⟩ := navD_spec fr a x.1 p u _ ht hi h.1
    refine ⟨y, h1, ?_, by simp only [offT, Ty.size]; omega⟩
    simp only [offT]
    rw [List.drop_take, List.take_take, Nat.min_eq_left (by omega)] at h2
    exact h2
  | .pair a b, x, (n + 1) :: p, u, cs, ht, hi, h => by
    obtain ⟨y, h1, h2, h3⟩ := navD_spec fr b x.2 (n :: p) u _ ht hi h.2
    refine ⟨y, h1, ?_, by simp only [offT, Ty.size]; omega⟩
    simp only [offT]
    rw [List.drop_drop] at h2
    exact h2
  | .arr m t, x, i :: p, u, cs, ht, ⟨hi, hp⟩, ⟨hl, hr⟩ => by
    have hlt : i < List.length x := by omega
    have hg := hr.get i hlt
    obtain ⟨y, h1, h2, h3⟩ := navD_spec fr t (List.getD x i t.zero) p u _ ht hp (by rw [getD_lt hlt]; exact hg)
    refine ⟨y, h1, ?_, ?_⟩
    · simp only [offT]
      rw [List.drop_take, List.take_take, Nat.min_eq_left (by omega), List.drop_drop] at h2
      exact h2
    · simp only [offT, Ty.size]
      have : i * t.size + t.size ≤ m * t.size := by
        rw [← Nat.succ_mul]; exact Nat.mul_le_mul_right _ hi
      omega
theorem castD_some {a b : Ty} {x : a.den} {y : b.den} (h : castD x b = some y) : ∃ e : a = b, e ▸ x = y := by
  unfold castD at h
  split at h
  · rename_i e
    exact ⟨e, by simpa using h⟩
  · cases h
theorem setD_spec {w : World} {ok : Nat → Prop} : ∀ (t : Ty) (x : t.den) (p : List Nat) (u : Ty) (y : u.den) (z : t.den) (cs ds : List Value), setD t x p u y = some z → inT t p → DR w ok t cs x → DR w ok u ds y →
    tyAt t p = some u ∧ DR w ok t (cs.take (offT t p) ++ ds ++ cs.drop (offT t p + u.size)) z
  | t, x, [], u, y, z, cs, ds, hs, _, h, hd => by
    have hs' : castD y t = some z := by cases t <;> simpa [setD] using hs
    obtain ⟨e, rfl⟩ := castD_some hs'
    subst e
    have h0 : offT u [] = 0 := by cases u <;> rfl
    have ht : tyAt u [] = some u := by cases u <;> rfl
    refine ⟨ht, ?_⟩
    rw [h0, List.take_zero, List.nil_append, Nat.zero_add, List.drop_eq_nil_of_le (by rw [DR.len h]; exact Nat.le_refl _), List.append_nil]
    exact hd
  | .pair a b, x, 0 :: p, u, y, z, cs, ds, hs, hi, h, hd => by
    simp only [setD, Option.map_eq_some_iff] at hs
    obtain ⟨z', hz, rfl⟩ := hs
    obtain ⟨ht, hr⟩ := setD_spec a x.1 p u y z' _ ds hz hi h.1 hd
    obtain ⟨_, _, _, h3⟩ := navD_spec true a x.1 p u _ ht hi h.1
    have hl := DR.len hr
    have hld := DR.len hd
    have hlc : cs.length = a.size + b.size := DR.len (t := .pair a b) (x := x) h
    refine ⟨ht, ?_, ?_⟩
    · simp only [offT]
      rw [List.take_take, Nat.min_eq_left (by omega), List.drop_take] at hr
      rw [show (List.take (offT a p) cs ++ ds ++ List.drop (offT a p + u.size) cs) = (List.take (offT a p) cs ++ ds ++ List.take (a.size - (offT a p + u.size)) (List.drop (offT a p + u.size) cs)) ++ List.drop a.size cs from by
        rw [List.append_assoc _ _ (List.drop a.size cs)]
        congr 1
        conv => lhs; rw [← List.take_append_drop (a.size - (offT a p + u.size)) (List.drop (offT a p + u.size) cs)]
        rw [List.drop_drop, show offT a p + u.size + (a.size - (offT a p + u.size)) = a.size by omega]]
      rw [List.take_append_of_le_length (by simp; omega), List.take_of_length_le (by simp; omega)]
      exact hr
    · simp only [offT]
      rw [show (List.take (offT a p) cs ++ ds ++ List.drop (offT a p + u.size) cs) = (List.take (offT a p) cs ++ ds ++ List.take (a.size - (offT a p + u.size)) (List.drop (offT a p + u.size) cs)) ++ List.drop a.size cs from by
        rw [List.append_assoc _ _ (List.drop a.size cs)]
        congr 1
        conv => lhs; rw [← List.take_append_drop (a.size - (offT a p + u.size)) (List.drop (offT a p + u.size) cs)]
        rw [List.drop_drop, show offT a p + u.size + (a.size - (offT a p + u.size)) = a.size by omega]]
      rw [List.drop_append_of_le_length (by simp; omega), List.drop_eq_nil_of_le (by simp; omega), List.nil_append]
      exact h.2
  | .pair a b, x, (n + 1) :: p, u, y, z, cs, ds, hs, hi, h, hd => by
    simp only [setD, Option.map_eq_some_iff] at hs
    obtain ⟨z', hz, rfl⟩ := hs
    obtain ⟨ht, hr⟩ := setD_spec b x.2 (n :: p) u y z' _ ds hz hi h.2 hd
    have hlc : cs.length = a.size + b.size := DR.len (t := .pair a b) (x := x) h
    refine ⟨ht, ?_, ?_⟩
    · simp only [offT]
      rw [List.append_assoc, List.take_append_of_le_length (by simp; omega), List.take_take, Nat.min_eq_left (by omega)]
      exact h.1
    · simp only [offT]
      rw [List.append_assoc, List.drop_append_of_le_length (by simp; omega), List.drop_take, show a.size + offT b (n :: p) - a.size = offT b (n :: p) by omega, ← List.append_assoc,
        show a.size + offT b (n :: p) + u.size = a.size + (offT b (n :: p) + u.size) by omega, ← List.drop_drop]
      exact hr
  | .arr m t, x, i :: p, u, y, z, cs, ds, hs, ⟨hi, hp⟩, ⟨hl, hr⟩, hd => by
    simp only [setD, Option.map_eq_some_iff] at hs
    obtain ⟨z', hz, rfl⟩ := hs
    have hlt : i < List.length x := by omega
    have hg : DR w ok t ((cs.drop (i * t.size)).take t.size) (List.getD x i t.zero) := by rw [getD_lt hlt]; exact hr.get i hlt
    obtain ⟨ht, hr'⟩ := setD_spec t (List.getD x i t.zero) p u y z' _ ds hz hp hg hd
    obtain ⟨_, _, _, h3⟩ := navD_spec true t (List.getD x i t.zero) p u _ ht hp hg
    have hlen := hr.length
    have hld := DR.len hd
    have hmul : i * t.size + t.size ≤ m * t.size := by rw [← Nat.succ_mul]; exact Nat.mul_le_mul_right _ hi
    refine ⟨ht, by simpa using hl, ?_⟩
    have key := RowsR.set hr i hlt _ z' (DR.len hr') hr'
    simp only [offT]
    rw [List.take_take, Nat.min_eq_left (by omega), List.drop_take, List.drop_drop] at key
    have e1 : cs.take (i * t.size) ++ (List.take (offT t p) (List.drop (i * t.size) cs) ++ ds ++ List.take (t.size - (offT t p + u.size)) (List.drop (i * t.size + (offT t p + u.size)) cs)) ++ cs.drop (i * t.size + t.size)
        = cs.take (i * t.size + offT t p) ++ ds ++ cs.drop (i * t.size + offT t p + u.size) := by
      have e2 : cs.take (i * t.size + offT t p) = cs.take (i * t.size) ++ List.take (offT t p) (List.drop (i * t.size) cs) := by rw [List.take_add]
      have e3 : cs.drop (i * t.size + offT t p + u.size) = List.take (t.size - (offT t p + u.size)) (List.drop (i * t.size + (offT t p + u.size)) cs) ++ cs.drop (i * t.size + t.size) := by
        rw [show i * t.size + offT t p + u.size = i * t.size + (offT t p + u.size) by omega]
        conv => lhs; rw [← List.take_append_drop (t.size - (offT t p + u.size)) (List.drop (i * t.size + (offT t p + u.size)) cs)]
        rw [List.drop_drop, show i * t.size + (offT t p + u.size) + (t.size - (offT t p + u.size)) = i * t.size + t.size by omega]
      rw [e2, e3]
      simp only [List.append_assoc]
    rw [e1] at key
    exact key
end Go.Pon
set_option autoImplicit false
set_option linter.unusedVariables false
namespace Go.Pon
open Go
structure Env where
  w : World
  o : Id → Option Obj
  γ : Id → Value
  used : Id → Nat → Prop
  ok : Bool → Nat → Prop
def isSl (o : Option Obj) (ver : Nat) (t : Ty) (n : Nat) : Prop :=
  ∃ fr rows, List.length rows = n ∧ (o = some (.sli ver fr t rows) ∨ o = some (.frz ver fr t rows))
def isMm (o : Option Obj) (t : Ty) : Prop := ∃ fr c, o = some (.mem fr t c) ∨ o = some (.mfz fr t c)
def oneC (cs : List Value) (p : Value → Prop) : Prop := ∃ v, cs = [v] ∧ v.oneCell' = true ∧ p v
def ARc (E : Env) : AV → List Value → Prop
  | .any, _ => True
  | .un, _ => False
  | .d fr t x, cs => DR E.w (E.ok fr) t cs x
  | .nilp, cs => cs = [.pointer none]
  | .nils, cs => cs = [.slice none 0 0]
  | .own id ver, cs => E.used id ver ∧ oneC cs fun v => ∀ t n, isSl (E.o id) ver t n → v = E.γ id
  | .view id ver lo hi cp, cs => E.used id ver ∧ oneC cs fun v => ∀ t n, isSl (E.o id) ver t n →
      lo ≤ hi ∧ hi ≤ n ∧ ∃ a c, v = .slice a (hi - lo) c ∧ hi - lo ≤ c ∧ c ≤ maxLen ∧ (a = none → c = 0) ∧
        (lo < hi → ∃ g m cp, E.γ id = .slice (some ⟨g, 0, none⟩) m cp ∧ a = some ⟨g, lo * t.size, none⟩) ∧ (cp = true → c = hi - lo)
  | .mview id path lo hi, cs => E.used id 0 ∧ oneC cs fun v => ∀ t, isMm (E.o id) t →
      ∃ g n u, E.γ id = .pointer (some ⟨g, 0, none⟩) ∧ tyAt t path = some (.arr n u) ∧ inT t path ∧ lo ≤ hi ∧ hi ≤ n ∧
        ∃ a c, v = .slice (some a) (hi - lo) c ∧ hi - lo ≤ c ∧ c ≤ maxLen ∧ (lo < hi → a = ⟨g, offT t path + lo * u.size, none⟩)
  | .ptr id path, cs => E.used id 0 ∧ oneC cs fun v => ∀ t, isMm (E.o id) t →
      ∃ g u, E.γ id = .pointer (some ⟨g, 0, none⟩) ∧ tyAt t path = some u ∧ inT t path ∧ v = .pointer (some ⟨g, offT t path, none⟩)
  | .eptr id ver i path, cs => E.used id ver ∧ oneC cs fun v => ∀ t n, isSl (E.o id) ver t n →
      i < n ∧ ∃ g m cp u, E.γ id = .slice (some ⟨g, 0, none⟩) m cp ∧ tyAt t path = some u ∧ inT t path ∧ v = .pointer (some ⟨g, i * t.size + offT t path, none⟩)
  | .rptr fr t x, cs => oneC cs fun v => ∃ a vs, v = .pointer (some a) ∧ a.spot = none ∧ (0 < t.size → E.ok fr a.block) ∧
      (∀ j y, vs[j]? = some y → E.w.cell? (a.add j) = some y) ∧ DR E.w (E.ok fr) t vs x
  | .pair a b, cs => ∃ c1 c2, cs = c1 ++ c2 ∧ ARc E a c1 ∧ ARc E b c2
  | .tup _, _ => False
  | .fn f caps, cs => ∃ vs : Array Value, cs = [.func (.func f) #[] vs] ∧ ARc E caps vs.toList
  | .ub e r, cs => ∃ b, cs = [.bool b] ∧ (e = false → b = r)
def aggA : AV → Bool
  | .d _ t _ => t.agg
  | .pair _ _ => true
  | _ => false
def isAgg' : Value → Bool
  | .agg _ => true
  | _ => false
def vrel1 (E : Env) (a : AV) (v : Value) : Prop := ARc E a v.cells.toList ∧ aggA a = isAgg' v
def ARt (E : Env) : AV → List Value → Prop
  | .pair a b, v :: vs => vrel1 E a v ∧ ARt E b vs
  | .d _ .unit _, [] => True
  | _, _ => False
def vrel (E : Env) : AV → Value → Prop
  | .any, _ => True
  | .un, v => v = undef
  | .tup a, v => ∃ vs : Array Value, v = .tuple vs ∧ ARt E a vs.toList
  | a, v => vrel1 E a v
structure EStep (E E' : Env) : Prop where
  size : E.w.heap.size ≤ E'.w.heap.size
  ok : ∀ fr b, b < E.w.heap.size → E.ok fr b → E'.ok fr b ∧ E'.w.heap[b]? = E.w.heap[b]?
  used : ∀ id ver, E.used id ver → E'.used id ver
  sl : ∀ id ver, E.used id ver → ∀ t n, isSl (E'.o id) ver t n → isSl (E.o id) ver t n ∧ E'.γ id = E.γ id
  mm : ∀ id, E.used id 0 → ∀ t, isMm (E'.o id) t → isMm (E.o id) t ∧ E'.γ id = E.γ id
theorem EStep.refl (E : Env) : EStep E E :=
  ⟨Nat.le_refl _, fun _ _ _ h => ⟨h, rfl⟩, fun _ _ h => h, fun _ _ _ _ _ h => ⟨h, rfl⟩, fun _ _ _ h => ⟨h, rfl⟩⟩
theorem EStep.trans {E E' E'' : Env} (h : EStep E E') (k : EStep E' E'') : EStep E E'' where
  size := Nat.le_trans h.size k.size
  ok := fun fr b hb ho => by
    obtain ⟨h1, h2⟩ := h.ok fr b hb ho
    obtain ⟨k1, k2⟩ := k.ok fr b (Nat.lt_of_lt_of_le hb h.size) h1
    exact ⟨k1, k2.trans h2⟩
  used := fun id ver hu => k.used id ver (h.used id ver hu)
  sl := fun id ver hu t n hs => by
    obtain ⟨k1, k2⟩ := k.sl id ver (h.used id ver hu) t n hs
    obtain ⟨h1, h2⟩ := h.sl id ver hu t n k1
    exact ⟨h1, k2.trans h2⟩
  mm := fun id hu t hs => by
    obtain ⟨k1, k2⟩ := k.mm id (h.used id 0 hu) t hs
    obtain ⟨h1, h2⟩ := h.mm id hu t k1
    exact ⟨h1, k2.trans h2⟩
theorem oneC.mono {cs : List Value} {p q : Value → Prop} (h : oneC cs p) (hpq : ∀ v, p v → q v) : oneC cs q :=
  let ⟨v, h1, h2, h3⟩ := h; ⟨v, h1, h2, hpq v h3⟩
theorem add_block (a : Addr) (j : Nat) : (a.add j).block = a.block := by unfold Addr.add; split <;> rfl
theorem ARc.step {E E' : Env} (h : EStep E E') : ∀ {a : AV} {cs : List Value}, ARc E a cs → ARc E' a cs
  | .any, _, _ => trivial
  | .d fr t x, cs, hr => DR.move (fun b hb ho => h.ok fr b hb ho) hr
  | .nilp, _, hr => hr
  | .nils, _, hr => hr
  | .own id ver, cs, ⟨hu, hr⟩ => ⟨h.used id ver hu, hr.mono fun v hv t n hs => by
      obtain ⟨h1, h2⟩ := h.sl id ver hu t n hs
      rw [h2]; exact hv t n h1⟩
  | .view id ver lo hi cp, cs, ⟨hu, hr⟩ => ⟨h.used id ver hu, hr.mono fun v hv t n hs => by
      obtain ⟨h1, h2⟩ := h.sl id ver hu t n hs
      rw [h2]; exact hv t n h1⟩
  | .mview id path lo hi, cs, ⟨hu, hr⟩ => ⟨h.used id 0 hu, hr.mono fun v hv t hs => by
      obtain ⟨h1, h2⟩ := h.mm id hu t hs
      rw [h2]; exact hv t h1⟩
  | .ptr id path, cs, ⟨hu, hr⟩ => ⟨h.used id 0 hu, hr.mono fun v hv t hs => by
      obtain ⟨h1, h2⟩ := h.mm id hu t hs
      rw [h2]; exact hv t h1⟩
  | .eptr id ver i path, cs, ⟨hu, hr⟩ => ⟨h.used id ver hu, hr.mono fun v hv t n hs => by
      obtain ⟨h1, h2⟩ := h.sl id ver hu t n hs
      rw [h2]; exact hv t n h1⟩
  | .rptr fr t x, cs, hr => hr.mono fun v ⟨a, vs, h1, h2, h3, h4, h5⟩ => by
      have hb : ∀ y j, vs[j]? = some y → a.block < E.w.heap.size := fun y j hj => by
        have := World.block_lt_of_cell? E.w _ (h4 j y hj)
        rwa [add_block] at this
      have hl := DR.len h5
      refine ⟨a, vs, h1, h2, fun hp => ?_, fun j y hj => ?_, DR.move (fun b hb ho => h.ok fr b hb ho) h5⟩
      · have h0 : 0 < vs.length := by omega
        exact (h.ok fr _ (hb vs[0] 0 (List.getElem?_eq_getElem h0)) (h3 hp)).1
      · have hp : 0 < t.size := by
          have : j < vs.length := (List.getElem?_eq_some_iff.1 hj).1
          omega
        rw [World.cell?_of_block (w := E.w) (by rw [add_block]; exact (h.ok fr _ (hb y j hj) (h3 hp)).2)]
        exact h4 j y hj
  | .pair a b, cs, ⟨c1, c2, h1, h2, h3⟩ => ⟨c1, c2, h1, ARc.step h h2, ARc.step h h3⟩
  | .fn f caps, cs, ⟨vs, h1, h2⟩ => ⟨vs, h1, ARc.step h h2⟩
  | .ub _ _, _, hr => hr
theorem vrel1.step {E E' : Env} (h : EStep E E') {a : AV} {v : Value} (hv : vrel1 E a v) : vrel1 E' a v := ⟨hv.1.step h, hv.2⟩
theorem ARt.step {E E' : Env} (h : EStep E E') : ∀ {a : AV} {vs : List Value}, ARt E a vs → ARt E' a vs
  | .pair _ _, _ :: _, ⟨h1, h2⟩ => ⟨h1.step h, ARt.step h h2⟩
  | .d _ .unit _, [], _ => trivial
theorem vrel.step {E E' : Env} (h : EStep E E') {a : AV} {v : Value} (hv : vrel E a v) : vrel E' a v := by
  cases a with
  | any => trivial
  | un => exact hv
  | tup a => exact let ⟨vs, h1, h2⟩ := hv; ⟨vs, h1, h2.step h⟩
  | _ => exact vrel1.step h hv
theorem kEq_iff {k l : IntKind} : kEq k l = true ↔ k = l := by cases k <;> cases l <;> simp [kEq]
theorem Ty.beq_iff : ∀ {t u : Ty}, Ty.beq t u = true ↔ t = u := by
  intro t
  induction t with
  | unit => intro u; cases u <;> simp [Ty.beq]
  | pair a b iha ihb => intro u; cases u <;> simp [Ty.beq, iha, ihb]
  | int k => intro u; cases u <;> simp [Ty.beq, kEq_iff]
  | bool => intro u; cases u <;> simp [Ty.beq]
  | str => intro u; cases u <;> simp [Ty.beq]
  | arr n t ih => intro u; cases u <;> simp [Ty.beq, ih]
  | slice t ih => intro u; cases u <;> simp [Ty.beq, ih]
  | ptr => intro u; cases u <;> simp [Ty.beq]
theorem idE_iff : ∀ {a b : Id}, idE a b = true ↔ a = b
  | (a, b, c), (d, e, f) => by
    simp only [idE, Bool.and_eq_true, Nat.beq_eq, Prod.mk.injEq]
    constructor
    · rintro ⟨h1, h2, h3⟩; exact ⟨h3, h2, h1⟩
    · rintro ⟨h1, h2, h3⟩; exact ⟨h3, h2, h1⟩
theorem one_size {t : Ty} (h : t.agg = false) : t.size = 1 := by cases t <;> simp_all [Ty.agg, Ty.size]
theorem fits_len {E : Env} : ∀ {t : Ty} {a : AV} {cs : List Value}, fitsA t a = true → ARc E a cs → cs.length = t.size
  | t, .d _ u _, cs, h, hr => by
    have : Ty.beq u t = true := by simpa [fitsA] using h
    rw [← Ty.beq_iff.1 this]; exact DR.len hr
  | t, .pair a b, cs, h, ⟨c1, c2, h1, h2, h3⟩ => by
    cases t <;> simp only [fitsA, Bool.and_eq_true, Bool.false_eq_true] at h
    rename_i t u
    rw [h1, List.length_append, fits_len h.1 h2, fits_len h.2 h3]; rfl
  | t, .nilp, cs, h, hr => by rw [one_size (by cases t <;> simp_all [fitsA]), show cs = _ from hr]; rfl
  | t, .nils, cs, h, hr => by rw [one_size (by cases t <;> simp_all [fitsA]), show cs = _ from hr]; rfl
  | t, .own _ _, cs, h, ⟨_, v, hr, _⟩ => by rw [one_size (by cases t <;> simp_all [fitsA]), hr]; rfl
  | t, .view _ _ _ _ _, cs, h, ⟨_, v, hr, _⟩ => by rw [one_size (by cases t <;> simp_all [fitsA]), hr]; rfl
  | t, .mview _ _ _ _, cs, h, ⟨_, v, hr, _⟩ => by rw [one_size (by cases t <;> simp_all [fitsA]), hr]; rfl
  | t, .ptr _ _, cs, h, ⟨_, v, hr, _⟩ => by rw [one_size (by cases t <;> simp_all [fitsA]), hr]; rfl
  | t, .eptr _ _ _ _, cs, h, ⟨_, v, hr, _⟩ => by rw [one_size (by cases t <;> simp_all [fitsA]), hr]; rfl
  | t, .rptr _ _ _, cs, h, ⟨v, hr, _⟩ => by rw [one_size (by cases t <;> simp_all [fitsA]), hr]; rfl
  | t, .fn _ _, cs, h, ⟨_, hr, _⟩ => by rw [one_size (by cases t <;> simp_all [fitsA]), hr]; rfl
  | t, .ub _ _, cs, h, ⟨_, hr, _⟩ => by rw [one_size (by cases t <;> simp_all [fitsA]), hr]; rfl
  | t, .any, _, h, _ => by cases t <;> simp [fitsA] at h
  | t, .un, _, h, _ => by cases t <;> simp [fitsA] at h
  | t, .tup _, _, h, _ => by cases t <;> simp [fitsA] at h
theorem fits_one {E : Env} : ∀ {t : Ty} {a : AV} {cs : List Value}, fitsA t a = true → ARc E a cs → ∀ v ∈ cs, v.oneCell' = true
  | t, .d _ u _, cs, h, hr => DR.one hr
  | t, .pair a b, cs, h, ⟨c1, c2, h1, h2, h3⟩ => by
    cases t <;> simp only [fitsA, Bool.and_eq_true, Bool.false_eq_true] at h
    intro v hv
    rw [h1] at hv
    rcases List.mem_append.1 hv with hv | hv
    · exact fits_one h.1 h2 v hv
    · exact fits_one h.2 h3 v hv
  | t, .nilp, cs, h, hr => by rw [show cs = _ from hr]; simp [Value.oneCell']
  | t, .nils, cs, h, hr => by rw [show cs = _ from hr]; simp [Value.oneCell']
  | t, .own _ _, cs, h, ⟨_, v, hr, h1, _⟩ => by rw [hr]; simpa using h1
  | t, .view _ _ _ _ _, cs, h, ⟨_, v, hr, h1, _⟩ => by rw [hr]; simpa using h1
  | t, .mview _ _ _ _, cs, h, ⟨_, v, hr, h1, _⟩ => by rw [hr]; simpa using h1
  | t, .ptr _ _, cs, h, ⟨_, v, hr, h1, _⟩ => by rw [hr]; simpa using h1
  | t, .eptr _ _ _ _, cs, h, ⟨_, v, hr, h1, _⟩ => by rw [hr]; simpa using h1
  | t, .rptr _ _ _, cs, h, ⟨v, hr, h1, _⟩ => by rw [hr]; simpa using h1
  | t, .fn _ _, cs, h, ⟨_, hr, _⟩ => by rw [hr]; simp [Value.oneCell']
  | t, .ub _ _, cs, h, ⟨_, hr, _⟩ => by rw [hr]; simp [Value.oneCell']
  | t, .any, _, h, _ => by cases t <;> simp [fitsA] at h
  | t, .un, _, h, _ => by cases t <;> simp [fitsA] at h
  | t, .tup _, _, h, _ => by cases t <;> simp [fitsA] at h
theorem fits_agg : ∀ {t : Ty} {a : AV}, fitsA t a = true → aggA a = t.agg
  | t, .d _ u _, h => by rw [← Ty.beq_iff.1 (show Ty.beq u t = true by simpa [fitsA] using h)]; rfl
  | t, .pair a b, h => by cases t <;> simp [fitsA] at h; rfl
  | t, .nilp, h => by cases t <;> simp_all [fitsA, aggA]
  | t, .nils, h => by cases t <;> simp_all [fitsA, aggA]
  | t, .own _ _, h => by cases t <;> simp_all [fitsA, aggA]
  | t, .view _ _ _ _ _, h => by cases t <;> simp_all [fitsA, aggA]
  | t, .mview _ _ _ _, h => by cases t <;> simp_all [fitsA, aggA]
  | t, .ptr _ _, h => by cases t <;> simp_all [fitsA, aggA]
  | t, .eptr _ _ _ _, h => by cases t <;> simp_all [fitsA, aggA]
  | t, .rptr _ _ _, h => by cases t <;> simp_all [fitsA, aggA]
  | t, .fn _ _, h => by cases t <;> simp_all [fitsA, aggA]
  | t, .ub _ _, h => by cases t <;> simp_all [fitsA, aggA]
  | t, .any, h => by cases t <;> simp [fitsA] at h
  | t, .un, h => by cases t <;> simp [fitsA] at h
  | t, .tup _, h => by cases t <;> simp [fitsA] at h
theorem navA_spec {E : Env} : ∀ (c : AV) (t : Ty) (p : List Nat) (u : Ty) (cs : List Value), fitsA t c = true → tyAt t p = some u → inT t p → ARc E c cs → ∀ a, navA c p = some a →
    fitsA u a = true ∧ ARc E a ((cs.drop (offT t p)).take u.size) ∧ offT t p + u.size ≤ t.size
  | c, t, [], u, cs, hf, ht, _, h, a, ha => by
    have e : u = t := by cases t <;> simpa [tyAt] using ht.symm
    subst e
    have h0 : offT u [] = 0 := by cases u <;> rfl
    have hn : a = c := by cases c <;> simpa [navA] using ha.symm
    subst hn
    refine ⟨hf, ?_, by omega⟩
    rw [h0, List.drop_zero, List.take_of_length_le (by rw [fits_len hf h]; exact Nat.le_refl _)]
    exact h
  | .pair x y, t, i :: p, u, cs, hf, ht, hi, ⟨c1, c2, h1, h2, h3⟩, a, ha => by
    cases t <;> simp only [fitsA, Bool.and_eq_true, Bool.false_eq_true] at hf
    rename_i ta tb
    have l1 := fits_len hf.1 h2
    have l2 := fits_len hf.2 h3
    cases i with
    | zero =>
      obtain ⟨k1, k2, k3⟩ := navA_spec x ta p u c1 hf.1 ht hi h2 a ha
      refine ⟨k1, ?_, by simp only [offT, Ty.size]; omega⟩
      simp only [offT]
      rw [h1, List.drop_append_of_le_length (by omega), List.take_append_of_le_length (by simp; omega)]
      exact k2
    | succ n =>
      obtain ⟨k1, k2, k3⟩ := navA_spec y tb (n :: p) u c2 hf.2 ht hi h3 a ha
      refine ⟨k1, ?_, by simp only [offT, Ty.size]; omega⟩
      simp only [offT]
      rw [h1, ← List.drop_drop, ← l1, List.drop_left]
      exact k2
  | .d fr s x, t, i :: p, u, cs, hf, ht, hi, h, a, ha => by
    have e := Ty.beq_iff.1 (show Ty.beq s t = true by simpa [fitsA] using hf)
    subst e
    obtain ⟨y, k1, k2, k3⟩ := navD_spec fr s x (i :: p) u cs ht hi h
    have : a = .d fr u y := by
      have hn : navA (.d fr s x) (i :: p) = navD fr s x (i :: p) := rfl
      rw [hn, k1] at ha; exact (Option.some.inj ha).symm
    subst this
    exact ⟨by simp [fitsA, Ty.beq_iff], k2, k3⟩
  | .any, _, _ :: _, _, _, hf, _, _, _, _, ha => by cases ha
  | .un, _, _ :: _, _, _, hf, _, _, _, _, ha => by cases ha
  | .nilp, _, _ :: _, _, _, hf, _, _, _, _, ha => by cases ha
  | .nils, _, _ :: _, _, _, hf, _, _, _, _, ha => by cases ha
  | .own _ _, _, _ :: _, _, _, hf, _, _, _, _, ha => by cases ha
  | .view _ _ _ _ _, _, _ :: _, _, _, hf, _, _, _, _, ha => by cases ha
  | .mview _ _ _ _, _, _ :: _, _, _, hf, _, _, _, _, ha => by cases ha
  | .ptr _ _, _, _ :: _, _, _, hf, _, _, _, _, ha => by cases ha
  | .eptr _ _ _ _, _, _ :: _, _, _, hf, _, _, _, _, ha => by cases ha
  | .rptr _ _ _, _, _ :: _, _, _, hf, _, _, _, _, ha => by cases ha
  | .fn _ _, _, _ :: _, _, _, hf, _, _, _, _, ha => by cases ha
  | .ub _ _, _, _ :: _, _, _, hf, _, _, _, _, ha => by cases ha
  | .tup _, _, _ :: _, _, _, hf, _, _, _, _, ha => by cases ha
end Go.Pon
set_option autoImplicit false
set_option linter.unusedVariables false
namespace Go.Pon
open Go
structure Konst where
  P : Program
  G : Ctx
  C : CallD
  w0 : World
  own : List Nat
  B : Nat → Prop
  nt : Nat
  args : List (Option Value)
def Konst.base (K : Konst) : Nat := K.w0.heap.size
def Konst.dok (K : Konst) (d : Nat) : Prop := (∀ v, K.args[d]? ≠ some (some v)) ∧ d < K.nt
def liveBlk : Option Obj → Value → Option Nat
  | some (.sli _ _ _ _), .slice (some a) _ _ => some a.block
  | some (.mem _ _ _), .pointer (some a) => some a.block
  | _, _ => none
def okOf (K : Konst) (o : Id → Option Obj) (γ : Id → Value) (fr : Bool) (b : Nat) : Prop :=
  (∀ id, liveBlk (o id) (γ id) ≠ some b) ∧ ¬ K.B b ∧ (fr = true → K.base ≤ b)
def envOf (K : Konst) (objs : Ups) (used : Id → Nat → Prop) (γ : Id → Value) (w : World) : Env :=
  ⟨w, lookO objs, γ, used, okOf K (lookO objs) γ⟩
def OwnC (E : Env) (fr : Bool) (t : Ty) (rows : List t.den) (base : Nat) (h : Value) : Prop :=
  (h = .slice none 0 0 ∧ rows = []) ∨ ∃ g cap cur e, h = .slice (some ⟨g, 0, none⟩) (List.length rows) cap ∧ E.w.heap[g]? = some (.cells cur e (0, 0)) ∧
    List.length rows ≤ cap ∧ cap ≤ maxLen ∧ cur.size = cap * t.size ∧ RowsR (DR E.w (E.ok fr) t) t.size (cur.toList.take (List.length rows * t.size)) rows ∧ (fr = true → base ≤ g)
def MemC (E : Env) (fr : Bool) (t : Ty) (c : AV) (base : Nat) (h : Value) : Prop :=
  ∃ g e cur, h = .pointer (some ⟨g, 0, none⟩) ∧ E.w.heap[g]? = some (.cells cur e (0, 0)) ∧ fitsA t c = true ∧ ARc E c cur.toList ∧ (fr = true → base ≤ g)
def OR (K : Konst) (E : Env) (id : Id) : Obj → Prop
  | .sli _ fr t rows => OwnC E fr t rows K.base (E.γ id)
  | .frz _ fr t rows => DR E.w (E.ok fr) (.slice t) [E.γ id] rows ∧ ∀ a n c, E.γ id = .slice (some a) n c → a.off = 0 ∧ a.spot = none
  | .mem fr t c => MemC E fr t c K.base (E.γ id)
  | .mfz fr t c => MemC E fr t c K.base (E.γ id) ∧ ∀ a, E.γ id = .pointer (some a) → E.ok fr a.block
structure FrameW (w0 w : World) (own : List Nat) : Prop where
  os : w.os = w0.os
  tape : w.tape = w0.tape
  output : w.output = w0.output
  size : w0.heap.size ≤ w.heap.size
  block : ∀ b, b < w0.heap.size → b ∉ own → w.heap[b]? = w0.heap[b]?
structure Rel (K : Konst) (S : St) (used : Id → Nat → Prop) (γ : Id → Value) (a : Act) (w : World) : Prop where
  size : a.tmps.size = K.nt
  defers : a.defers = []
  kept : ∀ (i : Nat) (v : Value), K.args[i]? = some (some v) → a.tmps.getD i undef = v
  env : ∀ t, vrel (envOf K S.objs used γ w) (look S.env t) (a.tmps.getD t undef)
  objs : ∀ id o, lookO S.objs id = some o → OR K (envOf K S.objs used γ w) id o
  ou : ∀ id o, lookO S.objs id = some o → ∃ v, used id v
  vers : ∀ id ver fr t rows v, lookO S.objs id = some (.sli ver fr t rows) → used id v → v ≤ ver
  sep : ∀ i j g, liveBlk (lookO S.objs i) (γ i) = some g → liveBlk (lookO S.objs j) (γ j) = some g → i = j
  mod : ∀ i g, liveBlk (lookO S.objs i) (γ i) = some g → (K.base ≤ g ∨ g ∈ K.own) ∧ ¬ K.B g
  frame : FrameW K.w0 w K.own
theorem lookO_cons (i : Id) (x : Option Obj) (r : Ups) (j : Id) : lookO ((i, x) :: r) j = if i = j then x else lookO r j := by
  simp only [lookO]
  by_cases h : i = j
  · rw [if_pos h, idE_iff.2 h]
  · rw [if_neg h]
    have : idE i j = false := by rw [Bool.eq_false_iff]; exact fun e => h (idE_iff.1 e)
    rw [this]
theorem look_cons (i : Nat) (x : AV) (r : List (Nat × AV)) (j : Nat) : look ((i, x) :: r) j = if i = j then x else look r j := by
  simp only [look]
  by_cases h : i = j
  · subst h; simp
  · rw [if_neg h]
    have : Nat.beq i j = false := by rw [Bool.eq_false_iff]; exact fun e => h (Nat.eq_of_beq_eq_true e)
    rw [this]
theorem lookO_app : ∀ (u : Ups) (r : Ups) (j : Id), lookO (appE u r) j = if memE (fsts u) j = true then lookO u j else lookO r j
  | [], r, j => by simp [appE, fsts, memE]
  | (i, x) :: u, r, j => by
    show lookO ((i, x) :: appE u r) j = _
    rw [lookO_cons, lookO_cons, lookO_app u r j]
    simp only [fsts, memE]
    by_cases h : i = j
    · simp [h, idE_iff.2 rfl]
    · have : idE i j = false := by rw [Bool.eq_false_iff]; exact fun e => h (idE_iff.1 e)
      simp [h, this]
section
variable {K : Konst} {S : St} {used : Id → Nat → Prop} {γ : Id → Value} {a : Act} {w : World}
theorem OR.step {E E' : Env} {id : Id} {o : Obj} (h : EStep E E') (hγ : E'.γ id = E.γ id)
    (hb : ∀ g, liveBlk (some o) (E.γ id) = some g → E'.w.heap[g]? = E.w.heap[g]?) (ho : OR K E id o) : OR K E' id o := by
  cases o with
  | sli ver fr t rows =>
    rcases ho with ⟨h1, h2⟩ | ⟨g, cap, cur, e, h1, h2, h3, h4, h5, h6, h7⟩
    · exact .inl ⟨hγ.trans h1, h2⟩
    · refine .inr ⟨g, cap, cur, e, hγ.trans h1, ?_, h3, h4, h5, h6.mono fun _ _ => DR.move fun b hb ho => h.ok fr b hb ho, h7⟩
      rw [hb g (by rw [h1]; rfl)]; exact h2
  | frz ver fr t rows =>
    refine ⟨?_, ?_⟩
    · rw [hγ]; exact DR.move (fun b hb ho => h.ok fr b hb ho) ho.1
    · rw [hγ]; exact ho.2
  | mem fr t c =>
    obtain ⟨g, e, cur, h1, h2, h3, h4, h5⟩ := ho
    refine ⟨g, e, cur, hγ.trans h1, ?_, h3, h4.step h, h5⟩
    rw [hb g (by rw [h1]; rfl)]; exact h2
  | mfz fr t c =>
    obtain ⟨⟨g, e, cur, h1, h2, h3, h4, h5⟩, h6⟩ := ho
    have hlt : g < E.w.heap.size := (Array.getElem?_eq_some_iff.1 h2).1
    have hok := h.ok fr g hlt (h6 _ h1)
    refine ⟨⟨g, e, cur, hγ.trans h1, hok.2.trans h2, h3, h4.step h, h5⟩, fun ad had => ?_⟩
    rw [hγ, h1] at had
    cases had
    exact hok.1
theorem Rel.move (h : Rel K S used γ a w) {objs' : Ups} {used' : Id → Nat → Prop} {γ' : Id → Value} {w' : World}
    (hs : EStep (envOf K S.objs used γ w) (envOf K objs' used' γ' w'))
    (ho : ∀ id o, lookO objs' id = some o → OR K (envOf K objs' used' γ' w') id o)
    (hou : ∀ id o, lookO objs' id = some o → ∃ v, used' id v)
    (hv : ∀ id ver fr t rows v, lookO objs' id = some (.sli ver fr t rows) → used' id v → v ≤ ver)
    (hsep : ∀ i j g, liveBlk (lookO objs' i) (γ' i) = some g → liveBlk (lookO objs' j) (γ' j) = some g → i = j)
    (hmod : ∀ i g, liveBlk (lookO objs' i) (γ' i) = some g → (K.base ≤ g ∨ g ∈ K.own) ∧ ¬ K.B g)
    (hf : FrameW K.w0 w' K.own) : Rel K { S with objs := objs' } used' γ' a w' where
  size := h.size
  defers := h.defers
  kept := h.kept
  env := fun t => (h.env t).step hs
  objs := ho
  ou := hou
  vers := hv
  sep := hsep
  mod := hmod
  frame := hf
theorem getD_set {t d : Nat} {arr : Array Value} {v : Value} (h : d < arr.size) : (arr.setIfInBounds d v).getD t undef = if d = t then v else arr.getD t undef := by
  by_cases hd : d = t
  · subst hd; simp [Array.getD, h]
  · by_cases ht : t < arr.size
    · simp [Array.getD, hd, ht, Array.getElem_setIfInBounds_ne]
    · simp [Array.getD, hd, ht]
theorem Rel.put (h : Rel K S used γ a w) {v : AV} {val : Value} (hv : vrel (envOf K S.objs used γ w) v val) (dst : Option Tmp) (hd : ∀ d, dst = some d → K.dok d) :
    Rel K { S with env := putDst S.env dst v } used γ (a.put dst val) w := by
  cases dst with
  | none => exact h
  | some d =>
    refine ⟨by simp [Act.put, h.size], h.defers, fun i v hi => ?_, fun t => ?_, h.objs, h.ou, h.vers, h.sep, h.mod, h.frame⟩
    · simp only [Act.put]
      rw [getD_set (by rw [h.size]; exact (hd d rfl).2), if_neg, h.kept i v hi]
      rintro rfl
      exact (hd d rfl).1 v hi
    simp only [putDst, look_cons, Act.put]
    rw [getD_set (by rw [h.size]; exact (hd d rfl).2)]
    by_cases hd : d = t
    · simpa [hd] using hv
    · simpa [hd] using h.env t
theorem live_lt (h : Rel K S used γ a w) {i : Id} {g : Nat} (hl : liveBlk (lookO S.objs i) (γ i) = some g) : g < w.heap.size := by
  cases ho : lookO S.objs i with
  | none => rw [ho] at hl; simp [liveBlk] at hl
  | some o =>
    have hor := h.objs i o ho
    rw [ho] at hl
    cases o with
    | sli ver fr t rows =>
      rcases hor with ⟨h1, _⟩ | ⟨g', cap, cur, e, h1, h2, _⟩
      · rw [show γ i = _ from h1] at hl; simp [liveBlk] at hl
      · rw [show γ i = _ from h1] at hl
        simp [liveBlk] at hl
        subst hl
        exact (Array.getElem?_eq_some_iff.1 h2).1
    | mem fr t c =>
      obtain ⟨g', e, cur, h1, h2, _⟩ := hor
      rw [show γ i = _ from h1] at hl
      simp [liveBlk] at hl
      subst hl
      exact (Array.getElem?_eq_some_iff.1 h2).1
    | frz _ _ _ _ => simp [liveBlk] at hl
    | mfz _ _ _ => simp [liveBlk] at hl
def upd {β : Type} (f : Id → β) (i : Id) (v : β) : Id → β := fun j => if i = j then v else f j
def useV (used : Id → Nat → Prop) (i : Id) (n : Nat) : Id → Nat → Prop := fun j v => used j v ∨ (j = i ∧ v = n)
theorem FrameW.alloc {w0 w : World} {own : List Nat} (h : FrameW w0 w own) (o : Go.Obj) : FrameW w0 (w.alloc o) own where
  os := h.os
  tape := h.tape
  output := h.output
  size := by have := h.size; simp; omega
  block := fun b hb hn => by
    rw [heap_alloc_old w o b (Nat.lt_of_lt_of_le hb h.size)]; exact h.block b hb hn
theorem FrameW.setRow {w0 w : World} {own : List Nat} (h : FrameW w0 w own) (g : Nat) (cs : Array Value) (hg : w0.heap.size ≤ g ∨ g ∈ own) : FrameW w0 (w.setRow g cs) own where
  os := h.os
  tape := h.tape
  output := h.output
  size := by have := h.size; simpa [World.setRow] using this
  block := fun b hb hn => by
    rw [setRow_other w g b cs (fun e => by subst e; rcases hg with hg | hg; · omega
                                           · exact hn hg)]
    exact h.block b hb hn
theorem Rel.new (h : Rel K S used γ a w) {w' : World} {id : Id} {o : Obj} {hv : Value} (hid : ∀ v, ¬ used id v)
    (hlive : ∀ g, liveBlk (some o) hv = some g → g = w.heap.size ∧ ¬ K.B g)
    (hsize : w.heap.size ≤ w'.heap.size) (hold : ∀ b, b < w.heap.size → w'.heap[b]? = w.heap[b]?) (hf : FrameW K.w0 w' K.own)
    (ho : ∀ E', EStep (envOf K S.objs used γ w) E' → E' = envOf K ((id, some o) :: S.objs) (useV used id 0) (upd γ id hv) w' → OR K E' id o) :
    Rel K { S with objs := (id, some o) :: S.objs } (useV used id 0) (upd γ id hv) a w' := by
  have hne : ∀ j v, used j v → id ≠ j := fun j v hj e => hid v (e ▸ hj)
  have hbase : K.base ≤ w.heap.size := h.frame.size
  have hlook : ∀ j, lookO ((id, some o) :: S.objs) j = if id = j then some o else lookO S.objs j := fun j => lookO_cons ..
  have hlv : ∀ j g, liveBlk (lookO ((id, some o) :: S.objs) j) (upd γ id hv j) = some g → (j = id ∧ g = w.heap.size ∧ ¬ K.B g) ∨ (j ≠ id ∧ liveBlk (lookO S.objs j) (γ j) = some g) := by
    intro j g hg
    rw [hlook] at hg
    unfold upd at hg
    by_cases e : id = j
    · rw [if_pos e, if_pos e] at hg
      exact .inl ⟨e.symm, hlive g hg⟩
    · rw [if_neg e, if_neg e] at hg
      exact .inr ⟨fun e' => e e'.symm, hg⟩
  have hs : EStep (envOf K S.objs used γ w) (envOf K ((id, some o) :: S.objs) (useV used id 0) (upd γ id hv) w') := by
    refine ⟨hsize, fun fr b hb hok => ⟨⟨fun j hj => ?_, hok.2⟩, hold b hb⟩, fun j v hj => .inl hj, fun j v hj t n hsl => ?_, fun j hj t hmm => ?_⟩
    · rcases hlv j b hj with ⟨_, e, _⟩ | ⟨_, e⟩
      · have : b < w.heap.size := hb
        omega
      · exact hok.1 j e
    · have e := hne j v hj
      have h1 : (envOf K ((id, some o) :: S.objs) (useV used id 0) (upd γ id hv) w').o j = lookO S.objs j := by
        show lookO ((id, some o) :: S.objs) j = _
        rw [hlook, if_neg e]
      rw [h1] at hsl
      exact ⟨hsl, if_neg e⟩
    · have e := hne j 0 hj
      have h1 : (envOf K ((id, some o) :: S.objs) (useV used id 0) (upd γ id hv) w').o j = lookO S.objs j := by
        show lookO ((id, some o) :: S.objs) j = _
        rw [hlook, if_neg e]
      rw [h1] at hmm
      exact ⟨hmm, if_neg e⟩
  refine h.move hs (fun j oj hj => ?_) (fun j oj hj => ?_) (fun j ver fr t rows v hj hu => ?_) (fun i j g hi hj => ?_) (fun i g hi => ?_) hf
  · rw [hlook] at hj
    by_cases e : id = j
    · rw [if_pos e] at hj
      cases hj
      subst e
      exact ho _ hs rfl
    · rw [if_neg e] at hj
      refine OR.step hs (if_neg e) (fun g hg => hold g ?_) (h.objs j oj hj)
      exact live_lt h (i := j) (by rw [hj]; exact hg)
  · rw [hlook] at hj
    by_cases e : id = j
    · exact ⟨0, .inr ⟨e.symm, rfl⟩⟩
    · rw [if_neg e] at hj
      obtain ⟨v, hv⟩ := h.ou j oj hj
      exact ⟨v, .inl hv⟩
  · rw [hlook] at hj
    by_cases e : id = j
    · rcases hu with hu | ⟨_, hu⟩
      · exact absurd hu (by subst e; exact hid v)
      · omega
    · rw [if_neg e] at hj
      rcases hu with hu | ⟨e', _⟩
      · exact h.vers j ver fr t rows v hj hu
      · exact absurd e'.symm e
  · rcases hlv i g hi with ⟨e1, e2, _⟩ | ⟨e1, e2⟩ <;> rcases hlv j g hj with ⟨f1, f2, _⟩ | ⟨f1, f2⟩
    · rw [e1, f1]
    · have := live_lt h f2; omega
    · have := live_lt h e2; omega
    · exact h.sep i j g e2 f2
  · rcases hlv i g hi with ⟨_, e2, e3⟩ | ⟨_, e2⟩
    · exact ⟨.inl (by omega), e3⟩
    · exact h.mod i g e2
end
end Go.Pon
set_option autoImplicit false
set_option linter.unusedVariables false
namespace Go.Pon
open Go
def v1B : Value → Value → Bool
  | .int k n, .int l m => kEq k l && decide (n = m)
  | .bool a, .bool b => a == b
  | .string a, .string b => Nat.beq a.size 0 && Nat.beq b.size 0
  | .slice none 0 0, .slice none 0 0 => true
  | .pointer none, .pointer none => true
  | _, _ => false
def vsB : List Value → List Value → Bool
  | [], [] => true
  | a :: l, b :: m => v1B a b && vsB l m
  | _, _ => false
theorem bytes_zero {a b : ByteArray} (ha : a.size = 0) (hb : b.size = 0) : a = b := by
  cases a with | mk a => cases b with | mk b =>
  have h1 : a.size = 0 := ha
  have h2 : b.size = 0 := hb
  rw [Array.eq_empty_of_size_eq_zero h1, Array.eq_empty_of_size_eq_zero h2]
theorem v1B_eq {a b : Value} (h : v1B a b = true) : a = b := by
  unfold v1B at h
  split at h
  · simp only [Bool.and_eq_true, decide_eq_true_eq] at h
    rw [kEq_iff.1 h.1, h.2]
  · rw [eq_of_beq h]
  · simp only [Bool.and_eq_true, Nat.beq_eq] at h
    rw [bytes_zero h.1 h.2]
  · rfl
  · rfl
  · cases h
theorem vsB_eq : ∀ {l m : List Value}, vsB l m = true → l = m
  | [], [], _ => rfl
  | a :: l, b :: m, h => by
    simp only [vsB, Bool.and_eq_true] at h
    rw [v1B_eq h.1, vsB_eq h.2]
def rowB (P : Program) (t : Ty) (T : TypeId) : Bool :=
  match P.info? T with
  | some i => Nat.beq i.size t.size && Nat.ble i.bytes (24 * t.size) && (match i.zero with
    | some z => vsB z.cells.toList (zcells t) && (isAgg' z == t.agg)
    | none => false)
  | none => false
def tyC (P : Program) : Ty → (TypeId → Bool) × (Nat → List Field → Bool)
  | .unit =>
    let ff (off : Nat) (fs : List Field) : Bool := match fs with
      | [] => true
      | _ => false
    (fun T => rowB P .unit T && (match P.underlying T with
      | some (.struct fs) => ff 0 fs.toList && !P.stoodInHeld T
      | _ => false), ff)
  | .pair a b =>
    let ff (off : Nat) (fs : List Field) : Bool := match fs with
      | f :: r => Nat.beq f.offset off && (tyC P a).1 f.type && Nat.blt 0 a.size && (f.name != "_") && (tyC P b).2 (off + a.size) r
      | [] => false
    (fun T => rowB P (.pair a b) T && (match P.underlying T with
      | some (.struct fs) => ff 0 fs.toList && !P.stoodInHeld T
      | _ => false), ff)
  | .int k => (fun T => rowB P (.int k) T && (match P.underlying T with
      | some (.int l) => kEq k l
      | _ => false), fun _ _ => false)
  | .bool => (fun T => rowB P .bool T && (match P.underlying T with
      | some .bool => true
      | _ => false), fun _ _ => false)
  | .str => (fun T => rowB P .str T && (match P.underlying T with
      | some .string => true
      | _ => false), fun _ _ => false)
  | .arr n t => (fun T => rowB P (.arr n t) T && (match P.underlying T with
      | some (.array m e) => Nat.beq n m && (tyC P t).1 e
      | _ => false), fun _ _ => false)
  | .slice t => (fun T => rowB P (.slice t) T && (match P.underlying T with
      | some (.slice e) => (tyC P t).1 e
      | _ => false), fun _ _ => false)
  | .ptr => (fun T => rowB P .ptr T && (match P.underlying T with
      | some (.pointer _) => true
      | _ => false), fun _ _ => false)
def tyB (P : Program) (t : Ty) (T : TypeId) : Bool := (tyC P t).1 T
def fieldsB (P : Program) (t : Ty) (off : Nat) (fs : List Field) : Bool := (tyC P t).2 off fs
theorem tyB_row {P : Program} {t : Ty} {T : TypeId} (h : tyB P t T = true) : rowB P t T = true := by
  cases t <;> simp only [tyB, tyC, Bool.and_eq_true] at h <;> exact h.1
theorem rowB_spec {P : Program} {t : Ty} {T : TypeId} (h : rowB P t T = true) :
    ∃ i z, P.info? T = some i ∧ i.size = t.size ∧ i.bytes ≤ 24 * t.size ∧ i.zero = some z ∧ z.cells.toList = zcells t ∧ isAgg' z = t.agg := by
  unfold rowB at h
  split at h
  · rename_i i hi
    simp only [Bool.and_eq_true, Nat.beq_eq, Nat.ble_eq] at h
    obtain ⟨⟨h1, h2⟩, h3⟩ := h
    split at h3
    · rename_i z hz
      simp only [Bool.and_eq_true, beq_iff_eq] at h3
      exact ⟨i, z, hi, h1, h2, hz, vsB_eq h3.1, h3.2⟩
    · cases h3
  · cases h
section
variable {P : Program} {T : TypeId}
theorem tyB_int {k : IntKind} (h : tyB P (.int k) T = true) : P.underlying T = some (.int k) := by
  simp only [tyB, tyC, Bool.and_eq_true] at h
  have h2 := h.2
  split at h2
  · rename_i l hl; rw [kEq_iff.1 h2]; exact hl
  · cases h2
theorem tyB_bool (h : tyB P .bool T = true) : P.underlying T = some .bool := by
  simp only [tyB, tyC, Bool.and_eq_true] at h
  have h2 := h.2
  split at h2
  · rename_i hl; exact hl
  · cases h2
theorem tyB_str (h : tyB P .str T = true) : P.underlying T = some .string := by
  simp only [tyB, tyC, Bool.and_eq_true] at h
  have h2 := h.2
  split at h2
  · rename_i hl; exact hl
  · cases h2
theorem tyB_arr {n : Nat} {t : Ty} (h : tyB P (.arr n t) T = true) : ∃ e, P.underlying T = some (.array n e) ∧ tyB P t e = true := by
  simp only [tyB, tyC, Bool.and_eq_true] at h
  have h2 := h.2
  split at h2
  · rename_i m e hl
    simp only [Bool.and_eq_true, Nat.beq_eq] at h2
    rw [h2.1]; exact ⟨e, hl, h2.2⟩
  · cases h2
theorem tyB_slice {t : Ty} (h : tyB P (.slice t) T = true) : ∃ e, P.underlying T = some (.slice e) ∧ tyB P t e = true := by
  simp only [tyB, tyC, Bool.and_eq_true] at h
  have h2 := h.2
  split at h2
  · rename_i e hl; exact ⟨e, hl, h2⟩
  · cases h2
theorem tyB_ptr (h : tyB P .ptr T = true) : ∃ e, P.underlying T = some (.pointer e) := by
  simp only [tyB, tyC, Bool.and_eq_true] at h
  have h2 := h.2
  split at h2
  · rename_i e hl; exact ⟨e, hl⟩
  · cases h2
theorem tyB_unit (h : tyB P .unit T = true) : ∃ fs, P.underlying T = some (.struct fs) ∧ fieldsB P .unit 0 fs.toList = true ∧ P.stoodInHeld T = false := by
  simp only [tyB, tyC, Bool.and_eq_true] at h
  have h2 := h.2
  split at h2
  · rename_i fs hl
    simp only [Bool.and_eq_true, Bool.not_eq_true'] at h2
    exact ⟨fs, hl, h2.1, h2.2⟩
  · cases h2
theorem tyB_pair {a b : Ty} (h : tyB P (.pair a b) T = true) : ∃ fs, P.underlying T = some (.struct fs) ∧ fieldsB P (.pair a b) 0 fs.toList = true ∧ P.stoodInHeld T = false := by
  simp only [tyB, tyC, Bool.and_eq_true] at h
  have h2 := h.2
  split at h2
  · rename_i fs hl
    simp only [Bool.and_eq_true, Bool.not_eq_true'] at h2
    exact ⟨fs, hl, h2.1, h2.2⟩
  · cases h2
theorem fieldsB_pair {a b : Ty} {off : Nat} {fs : List Field} (h : fieldsB P (.pair a b) off fs = true) :
    ∃ f r, fs = f :: r ∧ f.offset = off ∧ tyB P a f.type = true ∧ 0 < a.size ∧ f.name ≠ "_" ∧ fieldsB P b (off + a.size) r = true := by
  simp only [fieldsB, tyC] at h
  split at h
  · rename_i f r
    simp only [Bool.and_eq_true, Nat.beq_eq, bne_iff_ne, ne_eq, Nat.blt_eq] at h
    exact ⟨f, r, rfl, h.1.1.1.1, h.1.1.1.2, h.1.1.2, h.1.2, h.2⟩
  · cases h
theorem fieldsB_unit {off : Nat} {fs : List Field} (h : fieldsB P .unit off fs = true) : fs = [] := by
  simp only [fieldsB, tyC] at h
  split at h
  · rfl
  · cases h
theorem tyB_agg {t : Ty} (h : tyB P t T = true) : ∃ d, P.underlying T = some d ∧ (match d with | .struct _ | .array _ _ => true | _ => false) = t.agg := by
  cases t with
  | unit => obtain ⟨fs, h, _⟩ := tyB_unit h; exact ⟨_, h, rfl⟩
  | pair a b => obtain ⟨fs, h, _⟩ := tyB_pair h; exact ⟨_, h, rfl⟩
  | int k => exact ⟨_, tyB_int h, rfl⟩
  | bool => exact ⟨_, tyB_bool h, rfl⟩
  | str => exact ⟨_, tyB_str h, rfl⟩
  | arr n t => obtain ⟨e, h, _⟩ := tyB_arr h; exact ⟨_, h, rfl⟩
  | slice t => obtain ⟨e, h, _⟩ := tyB_slice h; exact ⟨_, h, rfl⟩
  | ptr => obtain ⟨e, h⟩ := tyB_ptr h; exact ⟨_, h, rfl⟩
variable (w : World)
theorem run_isAgg' {t : Ty} (h : tyB P t T = true) : (isAgg T).run P w = .ok t.agg w := by
  obtain ⟨d, h1, h2⟩ := tyB_agg h
  simp only [isAgg, run_underlying h1, Sem.run_bind, Result.andThen_ok]
  rw [← h2]
  cases d <;> rfl
theorem run_sizeOf' {t : Ty} (h : tyB P t T = true) : (sizeOf T).run P w = .ok t.size w := by
  obtain ⟨i, z, h1, h2, _⟩ := rowB_spec (tyB_row h)
  simp [sizeOf, typeInfo, h1, h2]
theorem run_zeroValue' {t : Ty} (h : tyB P t T = true) : ∃ z, (zeroValue T).run P w = .ok z w ∧ z.cells.toList = zcells t ∧ isAgg' z = t.agg := by
  obtain ⟨i, z, h1, h2, _, h3, h4, h5⟩ := rowB_spec (tyB_row h)
  exact ⟨z, by simp [zeroValue, typeInfo, h1, h3], h4, h5⟩
theorem run_loadVar' {t : Ty} (h : tyB P t T = true) (ad : Addr) (hs : ad.spot = none) (vs : List Value) (hl : vs.length = t.size) (hc : ∀ j v, vs[j]? = some v → w.cell? (ad.add j) = some v) :
    (loadVar T ad).run P w = .ok (if t.agg then .agg vs.toArray else vs.headD undef) w := by
  simp only [loadVar, Sem.run_bind, run_isAgg' w h, Result.andThen_ok]
  cases hg : t.agg with
  | true =>
    simp only [if_true, Sem.run_bind, run_sizeOf' w h, Result.andThen_ok, ← hl, run_loadCells_list w ad vs hc, Sem.run_pure]
  | false =>
    have h1 : vs.length = 1 := by rw [hl, one_size hg]
    obtain ⟨v, rfl⟩ : ∃ v, vs = [v] := by
      cases vs with
      | nil => simp at h1
      | cons v r => cases r with
        | nil => exact ⟨v, rfl⟩
        | cons _ _ => simp at h1
    have := hc 0 v rfl
    simp only [Addr.add, if_true] at this
    simp [load, Sem.run, this]
end
end Go.Pon
set_option autoImplicit false
set_option linter.unusedVariables false
namespace Go.Pon
open Go
def Leads {α : Type} (C : CallD) (objs : Ups) : OpT α → List Id → α → List Id → Prop
  | .fail, _, _, _ => False
  | .done a, l, r, l' => a = r ∧ l = l'
  | .br c t e, l, r, l' => (c = true ∧ Leads C objs t l r l') ∨ (c = false ∧ Leads C objs e l r l')
  | .get id f, l, r, l' => ∃ o, lookO objs id = some o ∧ Leads C objs (f o) (id :: l) r l'
  | .call f s x g, l, r, l' => ∃ y, C f s x = some y ∧ Leads C objs (g y) l r l'
  | .opt _ o n s, l, r, l' => (o = none ∧ Leads C objs n l r l') ∨ ∃ y, o = some y ∧ Leads C objs (s y) l r l'
theorem interp_leads {α ω : Type} {C : CallD} {objs : Ups} : ∀ {t : OpT α} {l : List Id} {k : α → List Id → Option ω} {r : ω}, interp C objs t l k = some r →
    ∃ a l', Leads C objs t l a l' ∧ k a l' = some r
  | .fail, _, _, _, h => by cases h
  | .done a, l, _, _, h => ⟨a, l, ⟨rfl, rfl⟩, h⟩
  | .br c t e, l, k, r, h => by
    cases c with
    | true => obtain ⟨a, l', h1, h2⟩ := interp_leads (t := t) (l := l) (k := k) (r := r) h; exact ⟨a, l', .inl ⟨rfl, h1⟩, h2⟩
    | false => obtain ⟨a, l', h1, h2⟩ := interp_leads (t := e) (l := l) (k := k) (r := r) h; exact ⟨a, l', .inr ⟨rfl, h1⟩, h2⟩
  | .get id f, l, k, r, h => by
    simp only [interp] at h
    split at h
    · rename_i o ho
      obtain ⟨a, l', h1, h2⟩ := interp_leads h
      exact ⟨a, l', ⟨o, ho, h1⟩, h2⟩
    · cases h
  | .call f s x g, l, k, r, h => by
    simp only [interp] at h
    cases hc : C f s x with
    | none => rw [hc] at h; cases h
    | some y =>
      rw [hc] at h
      obtain ⟨a, l', h1, h2⟩ := interp_leads (t := g y) (l := l) (k := k) (r := r) h
      exact ⟨a, l', ⟨y, hc, h1⟩, h2⟩
  | .opt m o n s, l, k, r, h => by
    cases o with
    | none => obtain ⟨a, l', h1, h2⟩ := interp_leads (t := n) (l := l) (k := k) (r := r) h; exact ⟨a, l', .inl ⟨rfl, h1⟩, h2⟩
    | some y => obtain ⟨a, l', h1, h2⟩ := interp_leads (t := s y) (l := l) (k := k) (r := r) h; exact ⟨a, l', .inr ⟨y, rfl, h1⟩, h2⟩
theorem leads_chk {α : Type} {C : CallD} {objs : Ups} {c : Bool} {t : OpT α} {l : List Id} {r : α} {l' : List Id} (h : Leads C objs (.chk c t) l r l') : c = true ∧ Leads C objs t l r l' := by
  rcases h with h | ⟨_, h⟩
  · exact h
  · exact h.elim
def Grow (used used' : Id → Nat → Prop) (base : Id) : Prop := ∀ id v, used' id v → (∃ v', used id v') ∨ (id.1 = base.1 ∧ id.2.1 = base.2.1)
theorem Grow.refl (used : Id → Nat → Prop) (base : Id) : Grow used used base := fun _ v h => .inl ⟨v, h⟩
def Out (K : Konst) (S : St) (used : Id → Nat → Prop) (γ : Id → Value) (a : Act) (w : World) (o : Oper) (v : AV) (u : Ups) (base : Id) : Prop :=
  ∃ r val w' used' γ', (execOp a.eval o).run K.P w = .ok r w' ∧ (r = .value val ∨ (r = .skip ∧ val = undef)) ∧
    vrel (envOf K (appE u S.objs) used' γ' w') v val ∧ Rel K { S with objs := appE u S.objs } used' γ' a w' ∧ Grow used used' base
theorem Out.wp {K : Konst} {S : St} {used : Id → Nat → Prop} {γ : Id → Value} {a : Act} {w : World} {o : Oper} {v : AV} {u : Ups} {base : Id} (h : Out K S used γ a w o v u base)
    (hd : ∀ d, o.dst = some d → K.dok d) {Q : Exit → Act → World → Prop} {k : Act → World → Prop}
    (hk : ∀ used' γ' a' w', Grow used used' base → Rel K { S with env := putDst S.env o.dst v, objs := appE u S.objs } used' γ' a' w' → k a' w') : o.wp K.P a w k Q := by
  obtain ⟨r, val, w', used', γ', h1, h2, h3, h4, h5⟩ := h
  unfold Oper.wp
  rw [h1]
  have := h4.put h3 o.dst hd
  rcases h2 with rfl | ⟨rfl, rfl⟩
  · exact hk used' γ' _ w' h5 this
  · exact hk used' γ' _ w' h5 this
theorem Out.pure {K : Konst} {S : St} {used : Id → Nat → Prop} {γ : Id → Value} {a : Act} {w : World} {o : Oper} {v : AV} {base : Id} (h : Rel K S used γ a w) {val : Value}
    (hr : (execOp a.eval o).run K.P w = .ok (.value val) w) (hv : vrel (envOf K S.objs used γ w) v val) : Out K S used γ a w o v [] base :=
  ⟨_, val, w, used, γ, hr, .inl rfl, hv, h, Grow.refl _ _⟩
def constOK : Operand → Bool
  | .const (.int k n) => decide (k.min ≤ n) && decide (n ≤ k.max)
  | .const (.string s) => decide (s.size ≤ maxLen)
  | _ => true
theorem cells_one {v : Value} (h : isAgg' v = false) : v.cells.toList = [v] := by cases v <;> simp_all [Value.cells, isAgg']
theorem vrel1_of {E : Env} {a : AV} {v : Value} (h : ARc E a [v]) (ha : aggA a = false) (hv : isAgg' v = false) : vrel1 E a v := ⟨by rw [cells_one hv]; exact h, by rw [ha, hv]⟩
theorem const_rel (E : Env) (v : Value) (h : constOK (.const v) = true) : vrel E (constA v) v := by
  cases v with
  | bool b => exact vrel1_of (a := .d true .bool b) rfl rfl rfl
  | int k n =>
    simp only [constOK, Bool.and_eq_true, decide_eq_true_eq] at h
    exact vrel1_of (a := .d true (.int k) n) ⟨rfl, h⟩ rfl rfl
  | string s =>
    simp only [constOK, decide_eq_true_eq] at h
    exact vrel1_of (a := .d true .str _) ⟨s, rfl, rfl, h⟩ rfl rfl
  | pointer p =>
    cases p with
    | none => exact vrel1_of (a := .nilp) rfl rfl rfl
    | some _ => trivial
  | slice p n c =>
    cases p with
    | some _ => trivial
    | none =>
      cases n with
      | succ _ => trivial
      | zero => cases c with
        | succ _ => trivial
        | zero => exact vrel1_of (a := .nils) rfl rfl rfl
  | func fn first caps =>
    show vrel E (funcA fn first.toList caps.toList) _
    unfold funcA
    split
    · rename_i f h1 h2
      have h1 : first = #[] := by cases first; simp_all
      have h2 : caps = #[] := by cases caps; simp_all
      subst h1 h2
      exact vrel1_of (a := .fn f (.d true .unit ())) ⟨#[], rfl, rfl⟩ rfl rfl
    · trivial
  | _ => trivial
section
variable {K : Konst} {S : St} {used : Id → Nat → Prop} {γ : Id → Value} {a : Act} {w : World}
theorem eval_rel (h : Rel K S used γ a w) (x : Operand) (hx : constOK x = true) : vrel (envOf K S.objs used γ w) (S.eval x) (a.eval x) := by
  cases x with
  | tmp t => exact h.env t
  | const v => exact const_rel _ v hx
  | global g => trivial
  | func f => exact vrel1_of (a := .fn f (.d true .unit ())) ⟨#[], rfl, rfl⟩ rfl rfl
theorem d_one {E : Env} {fr : Bool} {t : Ty} {x : t.den} {v : Value} (ht : t.agg = false) (h : vrel E (.d fr t x) v) : DR E.w (E.ok fr) t [v] x := by
  obtain ⟨h1, h2⟩ := h
  have : isAgg' v = false := by rw [← h2]; exact ht
  rw [cells_one this] at h1
  exact h1
theorem int_rel {E : Env} {fr : Bool} {k : IntKind} {x : Int} {v : Value} (h : vrel E (.d fr (.int k) x) v) : v = .int k x ∧ inK k x := by
  have := d_one rfl h
  exact ⟨by simpa using this.1, this.2⟩
theorem bool_rel {E : Env} {fr : Bool} {x : Bool} {v : Value} (h : vrel E (.d fr .bool x) v) : v = .bool x := by
  have : [v] = [Value.bool x] := d_one rfl h
  simpa using this
theorem asInt_spec {E : Env} {v : AV} {k : IntKind} {x : Int} {val : Value} (h : asInt v = some (k, x)) (hv : vrel E v val) : val = .int k x ∧ inK k x := by
  unfold asInt at h
  split at h
  · cases h; exact int_rel hv
  · cases h
theorem asBool_spec {E : Env} {v : AV} {x : Bool} {val : Value} (h : asBool v = some x) (hv : vrel E v val) : val = .bool x := by
  unfold asBool at h
  split at h
  · cases h; exact bool_rel hv
  · cases h
theorem mkInt_rel (E : Env) {k : IntKind} {x : Int} (h : inK k x) : vrel E (mkInt k x) (.int k x) := vrel1_of (a := .d true (.int k) x) ⟨rfl, h⟩ rfl rfl
theorem mkBool_rel (E : Env) (b : Bool) : vrel E (mkBool b) (.bool b) := vrel1_of (a := .d true .bool b) rfl rfl rfl
theorem wrap_in (k : IntKind) (n : Int) : inK k (k.wrap n) := by
  cases k <;> simp only [inK, IntKind.wrap, IntKind.min, IntKind.max, IntKind.signed, IntKind.bits] <;> simp <;> (try split) <;> omega
theorem emod_le_self {x y : Int} (h : 0 ≤ x) (hy : y ≠ 0) : x % y ≤ x := by
  rcases Int.lt_or_le x y.natAbs with h1 | h1
  · have := Int.emod_nonneg x hy
    rcases Int.lt_or_le 0 y with h2 | h2
    · rw [Int.emod_eq_of_lt h (by omega)]; exact Int.le_refl _
    · rw [← Int.emod_neg, Int.emod_eq_of_lt h (by omega)]; exact Int.le_refl _
  · have := Int.emod_lt x hy
    omega
theorem tmod_in {k : IntKind} {x y : Int} (hx : inK k x) (hy : y ≠ 0) : inK k (x.tmod y) := by
  have h0 : k.min ≤ 0 ∧ 0 ≤ k.max := inK_zero k
  unfold inK at *
  have key : ∀ z : Int, 0 ≤ z → 0 ≤ z.tmod y ∧ z.tmod y ≤ z := fun z hz => by
    rw [Int.tmod_eq_emod_of_nonneg hz]
    exact ⟨Int.emod_nonneg z hy, emod_le_self hz hy⟩
  rcases Int.le_total 0 x with h | h
  · have := key x h
    omega
  · have e := Int.neg_tmod x y
    have := key (-x) (by omega)
    omega
end
end Go.Pon
set_option autoImplicit false
set_option linter.unusedVariables false
namespace Go.Pon
open Go
section
variable {K : Konst} {S : St} {used : Id → Nat → Prop} {γ : Id → Value} {a : Act} {w : World} {o : Oper} {base : Id} {v : AV} {u : Ups} {l : List Id} {C : CallD} {objs : Ups} {P : Program}
def Pure (E : Env) (v : AV) (u : Ups) (s : Sem Value) (P : Program) (w : World) : Prop := u = [] ∧ ∃ val, s.run P w = .ok val w ∧ vrel E v val
theorem beq_dec (x y : Int) : (x == y) = decide (x = y) := by rw [Bool.eq_iff_iff]; simp
theorem intOp_pure (E : Env) {op : BinOp} {k : IntKind} {x y : Int} (T : TypeId) (hx : inK k x) (hy : inK k y) (hs : isShift op = false) (h : Leads C objs (intOp op k x y) [] (v, u) l) :
    Pure E v u (binOp op T (.int k x) (.int k y)) P w := by
  cases op <;> simp only [intOp, isShift] at h hs
  case add => cases h.1; exact ⟨rfl, _, by simp [binOp, Op.intArith], mkInt_rel E (wrap_in k _)⟩
  case sub => cases h.1; exact ⟨rfl, _, by simp [binOp, Op.intArith], mkInt_rel E (wrap_in k _)⟩
  case mul => cases h.1; exact ⟨rfl, _, by simp [binOp, Op.intArith], mkInt_rel E (wrap_in k _)⟩
  case quo =>
    obtain ⟨h1, h2⟩ := leads_chk h
    have hy0 : y ≠ 0 := by simpa using h1
    cases h2.1
    exact ⟨rfl, _, by simp [binOp, Op.intDiv, hy0], mkInt_rel E (wrap_in k _)⟩
  case rem =>
    obtain ⟨h1, h2⟩ := leads_chk h
    have hy0 : y ≠ 0 := by simpa using h1
    cases h2.1
    exact ⟨rfl, _, by simp [binOp, Op.intDiv, hy0], mkInt_rel E (tmod_in hx hy0)⟩
  case and => cases h.1; exact ⟨rfl, _, by simp [binOp, Op.intBits], mkInt_rel E (wrap_in k _)⟩
  case or => cases h.1; exact ⟨rfl, _, by simp [binOp, Op.intBits], mkInt_rel E (wrap_in k _)⟩
  case xor => cases h.1; exact ⟨rfl, _, by simp [binOp, Op.intBits], mkInt_rel E (wrap_in k _)⟩
  case andNot => cases h.1; exact ⟨rfl, _, by simp [binOp, Op.intBits], mkInt_rel E (wrap_in k _)⟩
  case shl => cases hs
  case shr => cases hs
  case eql => cases h.1; exact ⟨rfl, .bool (decide (x = y)), by simp [binOp, Op.intCmp, beq_dec], mkBool_rel E _⟩
  case neq => cases h.1; exact ⟨rfl, .bool (!decide (x = y)), by simp [binOp, Op.intCmp, bne, beq_dec], mkBool_rel E _⟩
  case lss => cases h.1; exact ⟨rfl, _, by simp [binOp, Op.intCmp], mkBool_rel E _⟩
  case leq => cases h.1; exact ⟨rfl, _, by simp [binOp, Op.intCmp], mkBool_rel E _⟩
  case gtr => cases h.1; exact ⟨rfl, _, by simp [binOp, Op.intCmp], mkBool_rel E _⟩
  case geq => cases h.1; exact ⟨rfl, _, by simp [binOp, Op.intCmp], mkBool_rel E _⟩
theorem fdiv_in {k : IntKind} {x : Int} (hx : inK k x) (n : Nat) : inK k (x.fdiv (2 ^ n)) := by
  have h0 : k.min ≤ 0 ∧ 0 ≤ k.max := inK_zero k
  unfold inK at *
  have hp : (0 : Int) < 2 ^ n := Int.pow_pos (by decide)
  rw [Int.fdiv_eq_ediv_of_nonneg _ (Int.le_of_lt hp)]
  rcases Int.le_total 0 x with h | h
  · have h1 := Int.ediv_nonneg h (Int.le_of_lt hp)
    have h2 := Int.ediv_le_self (a := x) (2 ^ n) h
    omega
  · have h1 : x ≤ x / 2 ^ n := by
      rw [Int.le_ediv_iff_mul_le hp]
      have h3 : (-x) * 1 ≤ (-x) * 2 ^ n := Int.mul_le_mul_of_nonneg_left (by omega) (by omega)
      simp only [Int.neg_mul, Int.mul_one] at h3
      omega
    have h2 : x / 2 ^ n ≤ 0 := by
      have := Int.ediv_le_ediv hp h
      simpa using this
    omega
theorem shiftOp_pure (E : Env) {op : BinOp} {k k' : IntKind} {x y : Int} (T : TypeId) (hx : inK k x) (hs : isShift op = true) (h : Leads C objs (shiftOp op k x y) [] (v, u) l) :
    Pure E v u (binOp op T (.int k x) (.int k' y)) P w := by
  cases op <;> simp only [isShift, Bool.false_eq_true] at hs
  case shl =>
    obtain ⟨h1, h2⟩ := leads_chk h
    have hy : ¬ y < 0 := by have : 0 ≤ y := by simpa using h1
                            omega
    cases h2.1
    exact ⟨rfl, _, by simp [binOp, Op.shift, hy], mkInt_rel E (wrap_in k _)⟩
  case shr =>
    obtain ⟨h1, h2⟩ := leads_chk h
    have hy : ¬ y < 0 := by have : 0 ≤ y := by simpa using h1
                            omega
    cases h2.1
    exact ⟨rfl, _, by simp [binOp, Op.shift, hy], mkInt_rel E (fdiv_in hx _)⟩
theorem unK_pure (E : Env) {op : UnOp} {x : AV} {val : Value} (hx : vrel E x val) (h : Leads C objs (unK op x) [] (v, u) l) :
    Pure E v u (Op.unary op val) P w := by
  unfold unK at h
  split at h
  · obtain ⟨rfl, hk⟩ := int_rel hx
    cases h.1
    exact ⟨rfl, _, by simp [Op.unary, Op.intArith], mkInt_rel E (wrap_in _ _)⟩
  · obtain ⟨rfl, hk⟩ := int_rel hx
    cases h.1
    exact ⟨rfl, _, by simp [Op.unary, Op.intBits], mkInt_rel E (wrap_in _ _)⟩
  · obtain rfl := bool_rel hx
    cases h.1
    exact ⟨rfl, _, by simp [Op.unary], mkBool_rel E _⟩
  · exact h.elim
theorem eqGuard_int (P : Program) (w : World) (op : BinOp) (T : TypeId) (x y : Operand) (k k' : IntKind) (m n : Int) :
    (eqGuard op T x y (.int k m) (.int k' n)).run P w = .ok () w := by
  cases op <;> simp [eqGuard]
end
end Go.Pon
set_option autoImplicit false
set_option linter.unusedVariables false
namespace Go.Pon
open Go
section
variable {K : Konst} {S : St} {used : Id → Nat → Prop} {γ : Id → Value} {a : Act} {w : World} {o : Oper} {base : Id} {v : AV} {u : Ups} {l : List Id}
theorem new_var (h : Rel K S used γ a w) (hB : ∀ b, K.B b → b < K.base) {id : Id} (hid : ∀ v, ¬ used id v) {t : Ty} {c : AV} {cur : Array Value} (e : TypeId)
    (hf : fitsA t c = true) (hc : ARc (envOf K S.objs used γ w) c cur.toList) :
    let γ' := upd γ id (.pointer (some ⟨w.heap.size, 0, none⟩))
    let w' := w.alloc (.cells cur e)
    Rel K { S with objs := (id, some (.mem true t c)) :: S.objs } (useV used id 0) γ' a w' ∧
    vrel (envOf K ((id, some (.mem true t c)) :: S.objs) (useV used id 0) γ' w') (.ptr id []) (.pointer (some ⟨w.heap.size, 0, none⟩)) := by
  have hbase : K.base ≤ w.heap.size := h.frame.size
  refine ⟨h.new hid (fun g hg => ?_) (by simp) (fun b hb => heap_alloc_old w _ b hb) (h.frame.alloc _) (fun E' hs hE => ?_), vrel1_of (a := .ptr id []) ⟨.inr ⟨rfl, rfl⟩, _, rfl, rfl, fun t' ht' => ?_⟩ rfl rfl⟩
  · simp [liveBlk] at hg
    exact ⟨hg.symm, fun hb => by have := hB _ hb; omega⟩
  · subst hE
    exact ⟨w.heap.size, e, cur, if_pos rfl, heap_alloc_new w _, hf, hc.step hs, fun _ => hbase⟩
  · obtain ⟨fr, c', hm⟩ := ht'
    have hl : lookO ((id, some (.mem true t c)) :: S.objs) id = some (.mem true t c) := by rw [lookO_cons, if_pos rfl]
    have : t' = t := by
      rcases hm with hm | hm
      · have := hl.symm.trans hm; injection this with this; injection this with _ h2 _; exact h2.symm
      · have := hl.symm.trans hm; injection this with this; cases this
    subst this
    exact ⟨_, t', if_pos rfl, by cases t' <;> rfl, by cases t' <;> trivial, by cases t' <;> rfl⟩
theorem zeroA_spec (E : Env) : ∀ t : Ty, fitsA t (zeroA t) = true ∧ ARc E (zeroA t) (zcells t)
  | .unit => ⟨rfl, rfl⟩
  | .pair a b => by
    obtain ⟨a1, a2⟩ := zeroA_spec E a
    obtain ⟨b1, b2⟩ := zeroA_spec E b
    unfold zeroA
    cases a.bare && b.bare with
    | true => exact ⟨by simp [fitsA, Ty.beq_iff], DR.zero (.pair a b)⟩
    | false => exact ⟨by simp [fitsA, a1, b1], zcells a, zcells b, rfl, a2, b2⟩
  | .int k => ⟨by simp [zeroA, fitsA, Ty.beq_iff], DR.zero (.int k)⟩
  | .bool => ⟨rfl, rfl⟩
  | .str => ⟨rfl, DR.zero .str⟩
  | .arr n t => ⟨by simp [zeroA, fitsA, Ty.beq_iff], DR.zero (.arr n t)⟩
  | .slice t => ⟨rfl, rfl⟩
  | .ptr => ⟨rfl, rfl⟩
theorem alloc_out (h : Rel K S used γ a w) (hB : ∀ b, K.B b → b < K.base) (hid : ∀ v, ¬ used base v) {e : TypeId} {t : Ty} (ho : o.op = .alloc e) (ht : tyB K.P t e = true) :
    Out K S used γ a w o (.ptr base []) [(base, some (.mem true t (zeroA t)))] base := by
  obtain ⟨z, hz1, hz2, hz3⟩ := run_zeroValue' (P := K.P) w ht
  obtain ⟨f1, f2⟩ := zeroA_spec (envOf K S.objs used γ w) t
  obtain ⟨r1, r2⟩ := new_var h hB hid (cur := z.cells) e f1 (by rw [hz2]; exact f2)
  refine ⟨_, _, _, _, _, ?_, .inl rfl, r2, r1, ?_⟩
  · simp [execOp, ho, Instr.alloc, hz1, newVar, newRow]
  · rintro id v (hv | ⟨rfl, rfl⟩)
    · exact .inl ⟨v, hv⟩
    · exact .inr ⟨rfl, rfl⟩
theorem fits_vrel {E : Env} {t : Ty} {x : AV} {val : Value} (hf : fitsA t x = true) (hv : vrel E x val) : ARc E x val.cells.toList ∧ isAgg' val = t.agg := by
  have h1 : vrel1 E x val := by
    cases x with
    | any => cases t <;> simp [fitsA] at hf
    | un => cases t <;> simp [fitsA] at hf
    | tup a => cases t <;> simp [fitsA] at hf
    | _ => exact hv
  exact ⟨h1.1, by rw [← h1.2, fits_agg hf]⟩
theorem vrel_fits {E : Env} {t : Ty} {x : AV} {val : Value} (hf : fitsA t x = true) (h1 : ARc E x val.cells.toList) (h2 : isAgg' val = t.agg) : vrel E x val := by
  have h3 : vrel1 E x val := ⟨h1, by rw [fits_agg hf, h2]⟩
  cases x with
  | any => cases t <;> simp [fitsA] at hf
  | un => cases t <;> simp [fitsA] at hf
  | tup a => cases t <;> simp [fitsA] at hf
  | _ => exact h3
theorem box_out (h : Rel K S used γ a w) (hB : ∀ b, K.B b → b < K.base) (hid : ∀ v, ¬ used base v) {e : TypeId} {t : Ty} {x : Operand} (ho : o.op = .box e x) (hx : constOK x = true)
    (hf : fitsA t (S.eval x) = true) :
    Out K S used γ a w o (.ptr base []) [(base, some (.mem true t (S.eval x)))] base := by
  have hv := eval_rel h x hx
  obtain ⟨f1, f2⟩ := fits_vrel hf hv
  obtain ⟨r1, r2⟩ := new_var h hB hid (cur := (a.eval x).cells) e hf f1
  refine ⟨_, _, _, _, _, ?_, .inl rfl, r2, r1, ?_⟩
  · simp [execOp, ho, Instr.box, newVar, newRow]
  · rintro id v (hv | ⟨rfl, rfl⟩)
    · exact .inl ⟨v, hv⟩
    · exact .inr ⟨rfl, rfl⟩
theorem load_run {P : Program} {t : Ty} {T : TypeId} (hT : tyB P t T = true) {E : Env} {x : AV} (hf : fitsA t x = true) {ad : Addr} (hs : ad.spot = none) {vs : List Value}
    (hc : ∀ j y, vs[j]? = some y → E.w.cell? (ad.add j) = some y) (hr : ARc E x vs) : ∃ val, (loadVar T ad).run P E.w = .ok val E.w ∧ vrel E x val := by
  have hl := fits_len hf hr
  refine ⟨_, run_loadVar' E.w hT ad hs vs hl hc, ?_⟩
  cases hg : t.agg with
  | true => exact vrel_fits hf (by simpa [Value.cells] using hr) (by simp [isAgg', hg])
  | false =>
    have h1 : vs.length = 1 := by rw [hl, one_size hg]
    obtain ⟨v, rfl⟩ : ∃ v, vs = [v] := by
      cases vs with
      | nil => simp at h1
      | cons v r => cases r with
        | nil => exact ⟨v, rfl⟩
        | cons _ _ => simp at h1
    have h1 := fits_one hf hr v (by simp)
    have hna : isAgg' v = false := by cases v <;> simp_all [Value.oneCell', isAgg']
    exact vrel_fits hf (by simpa [cells_one hna] using hr) (by simp [hna, hg])
theorem add_zero_off (g off j : Nat) : (⟨g, off, none⟩ : Addr).add j = ⟨g, off + j, none⟩ := by
  unfold Addr.add
  split <;> simp_all
theorem cells_at {w : World} {g : Nat} {cur : Array Value} {e : TypeId} {fz : Nat × Nat} (hg : w.heap[g]? = some (.cells cur e fz)) (off n : Nat) :
    ∀ j y, ((cur.toList.drop off).take n)[j]? = some y → w.cell? ((⟨g, off, none⟩ : Addr).add j) = some y := by
  intro j y hj
  rw [add_zero_off, cell_of_row w g (off + j) cur e fz hg]
  rw [List.getElem?_take] at hj
  split at hj
  · simpa [List.getElem?_drop] using hj
  · cases hj
end
end Go.Pon
set_option autoImplicit false
set_option linter.unusedVariables false
namespace Go.Pon
open Go
section
variable {K : Konst} {S : St} {used : Id → Nat → Prop} {γ : Id → Value} {a : Act} {w : World} {o : Oper} {base : Id} {v : AV} {u : Ups} {l : List Id}
theorem sl_cells (h : Rel K S used γ a w) {id : Id} {ver : Nat} {fr : Bool} {t : Ty} {rows : List t.den}
    (ho : lookO S.objs id = some (.sli ver fr t rows) ∨ lookO S.objs id = some (.frz ver fr t rows)) (hn : rows ≠ []) :
    ∃ g cp cs, γ id = .slice (some ⟨g, 0, none⟩) rows.length cp ∧ rows.length ≤ cp ∧ cp ≤ maxLen ∧ RowsR (DR w (okOf K (lookO S.objs) γ fr) t) t.size cs rows ∧
      ∀ j y, cs[j]? = some y → w.cell? ⟨g, j, none⟩ = some y := by
  rcases ho with ho | ho
  · rcases h.objs id _ ho with ⟨_, h2⟩ | ⟨g, cap, cur, e, h1, h2, h3, h4, h5, h6, h7⟩
    · exact absurd h2 hn
    · refine ⟨g, cap, _, h1, h3, h4, h6, fun j y hj => ?_⟩
      have := cells_at h2 0 (List.length rows * t.size) j y (by simpa using hj)
      rw [add_zero_off, Nat.zero_add] at this
      exact this
  · obtain ⟨⟨ad, cap, h1, h2, h3, h4, cs, h5, h6⟩, h7⟩ := h.objs id _ ho
    have h1 : γ id = .slice ad rows.length cap := by have : [γ id] = _ := h1; simpa using this
    have hcs : rows = [] ∨ t.size = 0 ∨ cs ≠ [] := by
      by_cases hc : cs = []
      · have := h5.length
        rw [hc] at this
        rcases Nat.mul_eq_zero.1 this.symm with h | h
        · exact .inl (List.eq_nil_of_length_eq_zero h)
        · exact .inr (.inl h)
      · exact .inr (.inr hc)
    have hpos : 0 < rows.length := List.length_pos_iff.2 hn
    cases ad with
    | none => have := h4 rfl; omega
    | some ad =>
      obtain ⟨k1, k2⟩ := h7 ad _ _ h1
      obtain ⟨b, off, spot⟩ := ad
      simp only at k1 k2
      subst k1 k2
      refine ⟨b, cap, cs, h1, h2, h3, h5, fun j y hj => ?_⟩
      have hne : cs ≠ [] := by rintro rfl; simp at hj
      obtain ⟨ad', e1, _, hc⟩ := h6 hne
      cases e1
      have := hc j y hj
      rw [add_zero_off, Nat.zero_add] at this
      exact this
theorem mm_cells (h : Rel K S used γ a w) {id : Id} {fr : Bool} {t : Ty} {c : AV}
    (ho : lookO S.objs id = some (.mem fr t c) ∨ lookO S.objs id = some (.mfz fr t c)) :
    ∃ g e cur, γ id = .pointer (some ⟨g, 0, none⟩) ∧ w.heap[g]? = some (.cells cur e (0, 0)) ∧ fitsA t c = true ∧ ARc (envOf K S.objs used γ w) c cur.toList := by
  rcases ho with ho | ho
  · obtain ⟨g, e, cur, h1, h2, h3, h4, _⟩ := h.objs id _ ho
    exact ⟨g, e, cur, h1, h2, h3, h4⟩
  · obtain ⟨⟨g, e, cur, h1, h2, h3, h4, _⟩, _⟩ := h.objs id _ ho
    exact ⟨g, e, cur, h1, h2, h3, h4⟩
theorem one_vrel {E : Env} {x : AV} {val : Value} (hx : aggA x = false) (ht : ∀ y, x ≠ .tup y) (hn : x ≠ .any) (hu : x ≠ .un) (hv : vrel E x val) : ARc E x [val] ∧ isAgg' val = false := by
  have h1 : vrel1 E x val := by
    cases x with
    | any => exact absurd rfl hn
    | un => exact absurd rfl hu
    | tup y => exact absurd rfl (ht y)
    | _ => exact hv
  have h2 : isAgg' val = false := by rw [← h1.2, hx]
  exact ⟨by have := h1.1; rwa [cells_one h2] at this, h2⟩
theorem ptr_inv {E : Env} {id : Id} {path : List Nat} {val : Value} (hv : vrel E (.ptr id path) val) :
    E.used id 0 ∧ ∀ t, isMm (E.o id) t → ∃ g u, E.γ id = .pointer (some ⟨g, 0, none⟩) ∧ tyAt t path = some u ∧ inT t path ∧ val = .pointer (some ⟨g, offT t path, none⟩) := by
  obtain ⟨⟨h1, v, h2, h3, h4⟩, _⟩ := one_vrel (x := .ptr id path) rfl (by simp) (by simp) (by simp) hv
  have : val = v := by simpa using h2
  subst this
  exact ⟨h1, h4⟩
theorem eptr_inv {E : Env} {id : Id} {ver i : Nat} {path : List Nat} {val : Value} (hv : vrel E (.eptr id ver i path) val) :
    E.used id ver ∧ ∀ t n, isSl (E.o id) ver t n → i < n ∧ ∃ g m cp u, E.γ id = .slice (some ⟨g, 0, none⟩) m cp ∧ tyAt t path = some u ∧ inT t path ∧ val = .pointer (some ⟨g, i * t.size + offT t path, none⟩) := by
  obtain ⟨⟨h1, v, h2, h3, h4⟩, _⟩ := one_vrel (x := .eptr id ver i path) rfl (by simp) (by simp) (by simp) hv
  have : val = v := by simpa using h2
  subst this
  exact ⟨h1, h4⟩
theorem own_inv {E : Env} {id : Id} {ver : Nat} {val : Value} (hv : vrel E (.own id ver) val) :
    E.used id ver ∧ isAgg' val = false ∧ ∀ t n, isSl (E.o id) ver t n → val = E.γ id := by
  obtain ⟨⟨h1, v, h2, h3, h4⟩, h5⟩ := one_vrel (x := .own id ver) rfl (by simp) (by simp) (by simp) hv
  have : val = v := by simpa using h2
  subst this
  exact ⟨h1, h5, h4⟩
theorem view_inv {E : Env} {id : Id} {ver lo hi : Nat} {cp : Bool} {val : Value} (hv : vrel E (.view id ver lo hi cp) val) :
    E.used id ver ∧ ∀ t n, isSl (E.o id) ver t n → lo ≤ hi ∧ hi ≤ n ∧ ∃ a c, val = .slice a (hi - lo) c ∧ hi - lo ≤ c ∧ c ≤ maxLen ∧ (a = none → c = 0) ∧
        (lo < hi → ∃ g m cp, E.γ id = .slice (some ⟨g, 0, none⟩) m cp ∧ a = some ⟨g, lo * t.size, none⟩) ∧ (cp = true → c = hi - lo) := by
  obtain ⟨⟨h1, v, h2, h3, h4⟩, _⟩ := one_vrel (x := .view id ver lo hi cp) rfl (by simp) (by simp) (by simp) hv
  have : val = v := by simpa using h2
  subst this
  exact ⟨h1, h4⟩
theorem mview_inv {E : Env} {id : Id} {path : List Nat} {lo hi : Nat} {val : Value} (hv : vrel E (.mview id path lo hi) val) :
    E.used id 0 ∧ ∀ t, isMm (E.o id) t → ∃ g n u, E.γ id = .pointer (some ⟨g, 0, none⟩) ∧ tyAt t path = some (.arr n u) ∧ inT t path ∧ lo ≤ hi ∧ hi ≤ n ∧
        ∃ a c, val = .slice (some a) (hi - lo) c ∧ hi - lo ≤ c ∧ c ≤ maxLen ∧ (lo < hi → a = ⟨g, offT t path + lo * u.size, none⟩) := by
  obtain ⟨⟨h1, v, h2, h3, h4⟩, _⟩ := one_vrel (x := .mview id path lo hi) rfl (by simp) (by simp) (by simp) hv
  have : val = v := by simpa using h2
  subst this
  exact ⟨h1, h4⟩
theorem rptr_inv {E : Env} {fr : Bool} {t : Ty} {x : t.den} {val : Value} (hv : vrel E (.rptr fr t x) val) :
    ∃ a vs, val = .pointer (some a) ∧ a.spot = none ∧ (0 < t.size → E.ok fr a.block) ∧ (∀ j y, vs[j]? = some y → E.w.cell? (a.add j) = some y) ∧ DR E.w (E.ok fr) t vs x := by
  obtain ⟨⟨v, h2, h3, h4⟩, _⟩ := one_vrel (x := .rptr fr t x) rfl (by simp) (by simp) (by simp) hv
  have : val = v := by simpa using h2
  subst this
  exact h4
theorem isMm_of (o : Option Obj) (fr : Bool) (t : Ty) (c : AV) (h : o = some (.mem fr t c) ∨ o = some (.mfz fr t c)) : isMm o t := ⟨fr, c, h⟩
theorem isSl_of (o : Option Obj) (ver : Nat) (fr : Bool) (t : Ty) (rows : List t.den) (h : o = some (.sli ver fr t rows) ∨ o = some (.frz ver fr t rows)) : isSl o ver t rows.length := ⟨fr, rows, rfl, h⟩
theorem ptr_load (h : Rel K S used γ a w) {id : Id} {path : List Nat} {fr : Bool} {t uT : Ty} {c x : AV} {T : TypeId} {val : Value}
    (ho : lookO S.objs id = some (.mem fr t c) ∨ lookO S.objs id = some (.mfz fr t c)) (hT : tyB K.P uT T = true)
    (hv : vrel (envOf K S.objs used γ w) (.ptr id path) val) (ht : tyAt t path = some uT) (hn : navA c path = some x) :
    ∃ r, (Instr.loadAt T val).run K.P w = .ok r w ∧ vrel (envOf K S.objs used γ w) x r := by
  obtain ⟨g, e, cur, h1, h2, h3, h4⟩ := mm_cells h ho
  obtain ⟨_, hp⟩ := ptr_inv hv
  obtain ⟨g', u', p1, p2, p3, p4⟩ := hp t (isMm_of _ fr t c ho)
  have p1 : γ id = .pointer (some ⟨g', 0, none⟩) := p1
  rw [h1] at p1
  obtain rfl : g = g' := by cases p1; rfl
  obtain ⟨n1, n2, n3⟩ := navA_spec c t path uT cur.toList h3 ht p3 h4 x hn
  subst p4
  obtain ⟨r, r1, r2⟩ := load_run (P := K.P) (E := envOf K S.objs used γ w) hT n1 (ad := ⟨g, offT t path, none⟩) rfl (cells_at h2 _ _) n2
  exact ⟨r, by simp only [Instr.loadAt, Instr.sureAddr, Sem.run_bind, Sem.run_pure, Result.andThen_ok]; exact r1, r2⟩
theorem eptr_load (h : Rel K S used γ a w) {id : Id} {path : List Nat} {ver i : Nat} {fr : Bool} {t uT : Ty} {rows : List t.den} {x : AV} {T : TypeId} {val : Value}
    (ho : lookO S.objs id = some (.sli ver fr t rows) ∨ lookO S.objs id = some (.frz ver fr t rows)) (hT : tyB K.P uT T = true)
    (hv : vrel (envOf K S.objs used γ w) (.eptr id ver i path) val) (hn : navD fr t (rows.getD i t.zero) path = some x) (hf : fitsA uT x = true) :
    ∃ r, (Instr.loadAt T val).run K.P w = .ok r w ∧ vrel (envOf K S.objs used γ w) x r := by
  obtain ⟨_, hp⟩ := eptr_inv hv
  obtain ⟨p0, g', m, cp', u', p1, p2, p3, p4⟩ := hp t _ (isSl_of _ ver fr t rows ho)
  have hne : rows ≠ [] := by rintro rfl; simp at p0
  obtain ⟨g, cp, cs, h1, _, _, h5, h6⟩ := sl_cells h ho hne
  have p1 : γ id = .slice (some ⟨g', 0, none⟩) m cp' := p1
  rw [h1] at p1
  obtain rfl : g = g' := by cases p1; rfl
  have hrow := h5.get i p0
  rw [getD_lt p0] at hn
  obtain ⟨y, n1, n2, n3⟩ := navD_spec fr t rows[i] path u' _ p2 p3 hrow
  rw [n1] at hn
  cases hn
  have hu : u' = uT := Ty.beq_iff.1 (by simpa [fitsA] using hf)
  subst hu
  subst p4
  obtain ⟨r, r1, r2⟩ := load_run (P := K.P) (E := envOf K S.objs used γ w) (x := .d fr u' y) hT (by simp [fitsA, Ty.beq_iff]) (ad := ⟨g, i * t.size + offT t path, none⟩) rfl
    (fun j z hj => by
      rw [add_zero_off]
      refine h6 _ z ?_
      rw [List.getElem?_take] at hj
      split at hj
      · rw [List.getElem?_drop, List.getElem?_take] at hj
        split at hj
        · rw [List.getElem?_drop] at hj
          rw [← hj]
          congr 1
          omega
        · cases hj
      · cases hj) n2
  exact ⟨r, by simp only [Instr.loadAt, Instr.sureAddr, Sem.run_bind, Sem.run_pure, Result.andThen_ok]; exact r1, r2⟩
theorem loadK_out (h : Rel K S used γ a w) {t : Ty} {T : TypeId} {x : Operand} (ho : o.op = .load T x) (hx : constOK x = true) (hT : tyB K.P t T = true)
    (hl : Leads K.C S.objs (loadK (S.eval x) t fun v => .done (v, [])) [] (v, u) l) : Out K S used γ a w o v u base := by
  have hv := eval_rel h x hx
  have fin : ∀ y, (∃ r, (Instr.loadAt T (a.eval x)).run K.P w = .ok r w ∧ vrel (envOf K S.objs used γ w) y r) → (y, []) = (v, u) → Out K S used γ a w o v u base := by
    rintro y ⟨r, r1, r2⟩ e
    cases e
    exact Out.pure h (by simp [execOp, ho, r1]) r2
  unfold loadK at hl
  split at hl
  · rename_i id path heq
    rw [heq] at hv
    obtain ⟨ob, hob, hl⟩ := hl
    dsimp only at hl
    split at hl
    · rename_i fr tt c
      split at hl
      · rename_i ww y h1 h2
        cases hc : (Ty.beq ww t && fitsA t y) with
        | false => rw [hc] at hl; exact hl.elim
        | true =>
          rw [hc] at hl
          simp only [Bool.and_eq_true] at hc
          rw [Ty.beq_iff.1 hc.1] at h1
          exact fin y (ptr_load h (.inl hob) hT hv h1 h2) hl.1
      · exact hl.elim
    · rename_i fr tt c
      split at hl
      · rename_i ww y h1 h2
        cases hc : (Ty.beq ww t && fitsA t y) with
        | false => rw [hc] at hl; exact hl.elim
        | true =>
          rw [hc] at hl
          simp only [Bool.and_eq_true] at hc
          rw [Ty.beq_iff.1 hc.1] at h1
          exact fin y (ptr_load h (.inr hob) hT hv h1 h2) hl.1
      · exact hl.elim
    · exact hl.elim
  · rename_i id ver i path heq
    rw [heq] at hv
    obtain ⟨ob, hob, hl⟩ := hl
    dsimp only at hl
    split at hl
    · rename_i ver' fr tt rows
      split at hl
      · rename_i y h1 h2
        have h1 := Nat.eq_of_beq_eq_true h1
        subst h1
        cases hc : fitsA t y with
        | false => rw [hc] at hl; exact hl.elim
        | true =>
          rw [hc] at hl
          exact fin y (eptr_load h (.inl hob) hT hv h2 hc) hl.1
      · exact hl.elim
    · rename_i ver' fr tt rows
      split at hl
      · rename_i y h1 h2
        have h1 := Nat.eq_of_beq_eq_true h1
        subst h1
        cases hc : fitsA t y with
        | false => rw [hc] at hl; exact hl.elim
        | true =>
          rw [hc] at hl
          exact fin y (eptr_load h (.inr hob) hT hv h2 hc) hl.1
      · exact hl.elim
    · exact hl.elim
  · rename_i fr tt x' heq
    rw [heq] at hv
    cases hc : Ty.beq tt t with
    | false => rw [hc] at hl; exact hl.elim
    | true =>
      rw [hc] at hl
      have e := Ty.beq_iff.1 hc
      subst e
      obtain ⟨ad, vs, h1, h2, h3, h4, h5⟩ := rptr_inv hv
      obtain ⟨r, r1, r2⟩ := load_run (P := K.P) (E := envOf K S.objs used γ w) (x := .d fr tt x') hT (by simp [fitsA, Ty.beq_iff]) h2 h4 h5
      refine fin _ ⟨r, ?_, r2⟩ hl.1
      rw [h1]
      simp only [Instr.loadAt, Instr.sureAddr, Sem.run_bind, Sem.run_pure, Result.andThen_ok]
      exact r1
  · exact hl.elim
end
end Go.Pon
set_option autoImplicit false
set_option linter.unusedVariables false
namespace Go.Pon
open Go
theorem appE_eq {α : Type} : ∀ (l m : List α), appE l m = l ++ m
  | [], _ => rfl
  | a :: l, m => by simp [appE, appE_eq l m]
theorem tyAt_nil (t : Ty) : tyAt t [] = some t := by cases t <;> rfl
theorem offT_nil (t : Ty) : offT t [] = 0 := by cases t <;> rfl
theorem inT_nil (t : Ty) : inT t [] := by cases t <;> trivial
theorem path_snoc : ∀ (t : Ty) (p : List Nat) (u : Ty) (q : List Nat), tyAt t p = some u → inT t p →
    tyAt t (p ++ q) = tyAt u q ∧ offT t (p ++ q) = offT t p + offT u q ∧ (inT t (p ++ q) ↔ inT u q)
  | t, [], u, q, ht, _ => by
    have e : u = t := by rw [tyAt_nil] at ht; exact (Option.some.inj ht).symm
    subst e
    simp [offT_nil]
  | .pair a b, 0 :: p, u, q, ht, hi => path_snoc a p u q ht hi
  | .pair a b, (n + 1) :: p, u, q, ht, hi => by
    obtain ⟨h1, h2, h3⟩ := path_snoc b (n :: p) u q ht hi
    refine ⟨h1, ?_, h3⟩
    show a.size + offT b (n :: p ++ q) = a.size + offT b (n :: p) + offT u q
    rw [h2]; omega
  | .arr m t, i :: p, u, q, ht, ⟨hi, hp⟩ => by
    obtain ⟨h1, h2, h3⟩ := path_snoc t p u q ht hp
    refine ⟨h1, ?_, ?_⟩
    · show i * t.size + offT t (p ++ q) = i * t.size + offT t p + offT u q
      rw [h2]; omega
    · show (i < m ∧ inT t (p ++ q)) ↔ _
      rw [h3]; simp [hi]
section
variable {P : Program}
theorem field_spec : ∀ (t : Ty) (off : Nat) (fs : List Field) (n : Nat), fieldsB P t off fs = true → hasField t n = true →
    ∃ f u, fs[n]? = some f ∧ f.offset = off + offT t [n] ∧ tyAt t [n] = some u ∧ tyB P u f.type = true ∧ 0 < u.size ∧ inT t [n]
  | .pair a b, off, fs, 0, h, _ => by
    obtain ⟨f, r, rfl, h1, h2, h3, _, _⟩ := fieldsB_pair h
    exact ⟨f, a, rfl, by simp [offT, offT_nil, h1], by simp [tyAt, tyAt_nil], h2, h3, by simp [inT, inT_nil]⟩
  | .pair a b, off, fs, n + 1, h, hf => by
    obtain ⟨f, r, rfl, h1, h2, h3, _, h4⟩ := fieldsB_pair h
    obtain ⟨f', u, k1, k2, k3, k4, k5, k6⟩ := field_spec b (off + a.size) r n h4 hf
    exact ⟨f', u, by simpa using k1, by simp only [offT]; omega, k3, k4, k5, k6⟩
theorem struct_of {t : Ty} {T : TypeId} {n : Nat} (h : tyB P t T = true) (hf : hasField t n = true) :
    ∃ fs, P.underlying T = some (.struct fs) ∧ fieldsB P t 0 fs.toList = true := by
  cases t <;> first | (simp [hasField] at hf; done) | skip
  obtain ⟨fs, h1, h2, _⟩ := tyB_pair h
  exact ⟨fs, h1, h2⟩
theorem fieldAt_run {t : Ty} {T : TypeId} {n : Nat} (h : tyB P t T = true) (hf : hasField t n = true) (w : World) (ad : Addr) :
    (Instr.fieldAt T (.pointer (some ad)) n).run P w = .ok (.pointer (some (ad.add (offT t [n])))) w := by
  obtain ⟨fs, h1, h2⟩ := struct_of h hf
  obtain ⟨f, u, k1, k2, k3, k4, k5, k6⟩ := field_spec t 0 fs.toList n h2 hf
  have k1 : fs[n]? = some f := by simpa using k1
  have hs := run_sizeOf' w k4
  have h0 : u.size ≠ 0 := by omega
  simp [Instr.fieldAt, run_underlying h1, k1, Instr.sureAddr, fieldPlace, hs, h0, k2]
theorem inR_spec {i : Int} {n : Nat} (h : inR i n = true) : 0 ≤ i ∧ i < n ∧ i.toNat < n := by
  simp only [inR, Bool.and_eq_true, decide_eq_true_eq] at h
  omega
end
section
variable {K : Konst} {S : St} {used : Id → Nat → Prop} {γ : Id → Value} {a : Act} {w : World} {o : Oper} {base : Id} {v : AV} {u : Ups} {l : List Id}
theorem ptr_part (h : Rel K S used γ a w) {id : Id} {path q : List Nat} {uT : Ty} {val : Value} (hv : vrel (envOf K S.objs used γ w) (.ptr id path) val)
    {k : OpV} {l0 : List Id} (hl : Leads K.C S.objs (ptrTy id path uT k) l0 (v, u) l) (hq : inT uT q) (hq' : ∃ w, tyAt uT q = some w) :
    ∃ g off l1, val = .pointer (some ⟨g, off, none⟩) ∧ Leads K.C S.objs k l1 (v, u) l ∧
      vrel (envOf K S.objs used γ w) (.ptr id (path ++ q)) (.pointer (some ⟨g, off + offT uT q, none⟩)) := by
  obtain ⟨hu, hp⟩ := ptr_inv hv
  obtain ⟨ob, hob, hl⟩ := hl
  obtain ⟨w', hw'⟩ := hq'
  have key : ∀ fr t c, (ob = .mem fr t c ∨ ob = .mfz fr t c) → tyAt t path = some uT → Leads K.C S.objs k (id :: l0) (v, u) l →
    ∃ g off l1, val = .pointer (some ⟨g, off, none⟩) ∧ Leads K.C S.objs k l1 (v, u) l ∧
      vrel (envOf K S.objs used γ w) (.ptr id (path ++ q)) (.pointer (some ⟨g, off + offT uT q, none⟩)) := by
    intro fr t c ho ht hk
    have hm : isMm (lookO S.objs id) t := isMm_of _ fr t c (by rcases ho with rfl | rfl <;> simp [hob])
    obtain ⟨g, u', p1, p2, p3, p4⟩ := hp t hm
    refine ⟨g, offT t path, _, p4, hk, vrel1_of (a := .ptr id (path ++ q)) ⟨hu, _, rfl, rfl, fun t' ht' => ?_⟩ rfl rfl⟩
    obtain ⟨g', u'', q1, q2, q3, q4⟩ := hp t' ht'
    have p1 : γ id = _ := p1
    have q1 : γ id = _ := q1
    have hg : g = g' := by rw [p1] at q1; cases q1; rfl
    subst hg
    have htt : t' = t := by
      obtain ⟨fr1, c1, h1⟩ := hm
      obtain ⟨fr2, c2, h2⟩ := ht'
      have h2 : lookO S.objs id = some (.mem fr2 t' c2) ∨ lookO S.objs id = some (.mfz fr2 t' c2) := h2
      rcases h1 with h1 | h1 <;> rcases h2 with h2 | h2 <;> rw [h1] at h2 <;> cases h2 <;> rfl
    subst htt
    obtain ⟨s1, s2, s3⟩ := path_snoc t' path uT q ht p3
    exact ⟨g, w', p1, by rw [s1]; exact hw', s3.2 hq, by rw [s2]⟩
  dsimp only at hl
  split at hl
  · rename_i fr t c
    split at hl
    · rename_i ww hww
      cases hc : Ty.beq ww uT with
      | false => rw [hc] at hl; exact hl.elim
      | true =>
        rw [hc] at hl
        rw [Ty.beq_iff.1 hc] at hww
        exact key fr t c (.inl rfl) hww hl
    · exact hl.elim
  · rename_i fr t c
    split at hl
    · rename_i ww hww
      cases hc : Ty.beq ww uT with
      | false => rw [hc] at hl; exact hl.elim
      | true =>
        rw [hc] at hl
        rw [Ty.beq_iff.1 hc] at hww
        exact key fr t c (.inr rfl) hww hl
    · exact hl.elim
  · exact hl.elim
theorem isSl_fun {o : Option Obj} {ver : Nat} {t t' : Ty} {n n' : Nat} (h : isSl o ver t n) (h' : isSl o ver t' n') : t = t' ∧ n = n' := by
  obtain ⟨fr, rows, h1, h2⟩ := h
  obtain ⟨fr', rows', h1', h2'⟩ := h'
  rcases h2 with h2 | h2 <;> rcases h2' with h2' | h2' <;> rw [h2] at h2' <;> cases h2' <;> exact ⟨rfl, h1.symm.trans h1'⟩
theorem eptr_part (h : Rel K S used γ a w) {id : Id} {ver i : Nat} {path q : List Nat} {uT : Ty} {val : Value} (hv : vrel (envOf K S.objs used γ w) (.eptr id ver i path) val)
    {k : OpV} {l0 : List Id} (hl : Leads K.C S.objs (eptrTy id ver path uT k) l0 (v, u) l) (hq : inT uT q) (hq' : ∃ w, tyAt uT q = some w) :
    ∃ g off l1, val = .pointer (some ⟨g, off, none⟩) ∧ Leads K.C S.objs k l1 (v, u) l ∧
      vrel (envOf K S.objs used γ w) (.eptr id ver i (path ++ q)) (.pointer (some ⟨g, off + offT uT q, none⟩)) := by
  obtain ⟨hu, hp⟩ := eptr_inv hv
  obtain ⟨ob, hob, hl⟩ := hl
  obtain ⟨w', hw'⟩ := hq'
  have key : ∀ fr t rows, (ob = .sli ver fr t rows ∨ ob = .frz ver fr t rows) → tyAt t path = some uT → Leads K.C S.objs k (id :: l0) (v, u) l →
    ∃ g off l1, val = .pointer (some ⟨g, off, none⟩) ∧ Leads K.C S.objs k l1 (v, u) l ∧
      vrel (envOf K S.objs used γ w) (.eptr id ver i (path ++ q)) (.pointer (some ⟨g, off + offT uT q, none⟩)) := by
    intro fr t rows ho ht hk
    have hm : isSl (lookO S.objs id) ver t rows.length := isSl_of _ ver fr t rows (by rcases ho with rfl | rfl <;> simp [hob])
    obtain ⟨p0, g, m, cp, u', p1, p2, p3, p4⟩ := hp t _ hm
    refine ⟨g, i * t.size + offT t path, _, p4, hk, vrel1_of (a := .eptr id ver i (path ++ q)) ⟨hu, _, rfl, rfl, fun t' n' ht' => ?_⟩ rfl rfl⟩
    obtain ⟨q0, g', m', cp', u'', q1, q2, q3, q4⟩ := hp t' n' ht'
    have p1 : γ id = _ := p1
    have q1 : γ id = _ := q1
    have hg : g = g' := by rw [p1] at q1; cases q1; rfl
    subst hg
    obtain ⟨htt, _⟩ := isSl_fun hm ht'
    subst htt
    obtain ⟨s1, s2, s3⟩ := path_snoc t path uT q ht p3
    exact ⟨q0, g, m, cp, w', p1, by rw [s1]; exact hw', s3.2 hq, by rw [s2]; simp only [Nat.add_assoc]⟩
  dsimp only at hl
  split at hl
  · rename_i ver' fr t rows
    split at hl
    · rename_i ww h1 hww
      have h1 := Nat.eq_of_beq_eq_true h1
      subst h1
      cases hc : Ty.beq ww uT with
      | false => rw [hc] at hl; exact hl.elim
      | true =>
        rw [hc] at hl
        rw [Ty.beq_iff.1 hc] at hww
        exact key fr t rows (.inl rfl) hww hl
    · exact hl.elim
  · rename_i ver' fr t rows
    split at hl
    · rename_i ww h1 hww
      have h1 := Nat.eq_of_beq_eq_true h1
      subst h1
      cases hc : Ty.beq ww uT with
      | false => rw [hc] at hl; exact hl.elim
      | true =>
        rw [hc] at hl
        rw [Ty.beq_iff.1 hc] at hww
        exact key fr t rows (.inr rfl) hww hl
    · exact hl.elim
  · exact hl.elim
theorem nthR_spec {E : Env} (fr : Bool) : ∀ (t : Ty) (x : t.den) (n : Nat) (y : AV), nthR fr t x n = some y → ∃ u z, y = .rptr fr u z ∧ tyAt t [n] = some u ∧
    ∀ cs, DR E.w (E.ok fr) t cs x → DR E.w (E.ok fr) u ((cs.drop (offT t [n])).take u.size) z ∧ offT t [n] + u.size ≤ t.size
  | .pair a b, x, 0, y, h => by
    cases h
    refine ⟨a, x.1, rfl, by simp [tyAt, tyAt_nil], fun cs hd => ⟨?_, by simp [offT, offT_nil, Ty.size]⟩⟩
    simpa [offT, offT_nil] using hd.1
  | .pair a b, x, n + 1, y, h => by
    obtain ⟨u, z, h1, h2, h3⟩ := nthR_spec (E := E) fr b x.2 n y h
    refine ⟨u, z, h1, h2, fun cs hd => ?_⟩
    obtain ⟨k1, k2⟩ := h3 _ hd.2
    rw [List.drop_drop] at k1
    exact ⟨k1, by simp only [offT, Ty.size]; omega⟩
theorem rptr_part {E : Env} {fr : Bool} {t : Ty} {x : t.den} {val : Value} (hv : vrel E (.rptr fr t x) val) {off : Nat} {u : Ty} {z : u.den}
    (hz : ∀ cs, DR E.w (E.ok fr) t cs x → DR E.w (E.ok fr) u ((cs.drop off).take u.size) z ∧ off + u.size ≤ t.size) :
    ∃ ad, val = .pointer (some ad) ∧ vrel E (.rptr fr u z) (.pointer (some (ad.add off))) := by
  obtain ⟨ad, vs, h1, h2, h3, h4, h5⟩ := rptr_inv hv
  obtain ⟨k1, k2⟩ := hz vs h5
  refine ⟨ad, h1, vrel1_of (a := .rptr fr u z) ⟨_, rfl, rfl, ad.add off, _, rfl, ?_, fun hp => ?_, fun j y hj => ?_, k1⟩ rfl rfl⟩
  · obtain ⟨b, f, s⟩ := ad
    simp only at h2
    subst h2
    rw [add_zero_off]
  · rw [add_block]; exact h3 (by omega)
  · obtain ⟨b, f, s⟩ := ad
    simp only at h2
    subst h2
    have e : ((⟨b, f, none⟩ : Addr).add off).add j = (⟨b, f, none⟩ : Addr).add (off + j) := by simp only [add_zero_off, Nat.add_assoc]
    rw [e]
    refine h4 _ y ?_
    rw [List.getElem?_take] at hj
    split at hj
    · rwa [List.getElem?_drop] at hj
    · cases hj
theorem fieldAddrK_out (h : Rel K S used γ a w) {T : TypeId} {x : Operand} {n : Nat} (ho : o.op = .fieldAddr T x n) (hx : constOK x = true) (hT : ∀ T t, K.G.ty T = some t → tyB K.P t T = true)
    (hl : Leads K.C S.objs (fieldAddrK (S.eval x) (K.G.ty T) n) [] (v, u) l) : Out K S used γ a w o v u base := by
  have hv := eval_rel h x hx
  unfold fieldAddrK at hl
  split at hl
  · rename_i id path t heq ht
    rw [heq] at hv
    cases hf : hasField t n with
    | false => rw [hf] at hl; exact hl.elim
    | true =>
      rw [hf] at hl
      obtain ⟨fs, f1, f2⟩ := struct_of (hT T t ht) hf
      obtain ⟨f, u', k1, k2, k3, k4, k5, k6⟩ := field_spec t 0 fs.toList n f2 hf
      obtain ⟨g, off, l1, e1, e2, e3⟩ := ptr_part h hv (q := [n]) hl k6 ⟨u', k3⟩
      obtain ⟨e4, e5⟩ := e2
      simp only [Prod.mk.injEq] at e4
      obtain ⟨rfl, rfl⟩ := e4
      rw [appE_eq]
      refine Out.pure h ?_ e3
      simp only [execOp, ho, e1, Sem.run_bind, fieldAt_run (hT T t ht) hf, Result.andThen_ok, Sem.run_pure, add_zero_off]
  · rename_i id ver j path t heq ht
    rw [heq] at hv
    cases hf : hasField t n with
    | false => rw [hf] at hl; exact hl.elim
    | true =>
      rw [hf] at hl
      obtain ⟨fs, f1, f2⟩ := struct_of (hT T t ht) hf
      obtain ⟨f, u', k1, k2, k3, k4, k5, k6⟩ := field_spec t 0 fs.toList n f2 hf
      obtain ⟨g, off, l1, e1, e2, e3⟩ := eptr_part h hv (q := [n]) hl k6 ⟨u', k3⟩
      obtain ⟨e4, e5⟩ := e2
      simp only [Prod.mk.injEq] at e4
      obtain ⟨rfl, rfl⟩ := e4
      rw [appE_eq]
      refine Out.pure h ?_ e3
      simp only [execOp, ho, e1, Sem.run_bind, fieldAt_run (hT T t ht) hf, Result.andThen_ok, Sem.run_pure, add_zero_off]
  · rename_i fr t' x' t heq ht
    rw [heq] at hv
    cases hc : Ty.beq t' t with
    | false => rw [hc] at hl; exact hl.elim
    | true =>
      rw [hc] at hl
      have e := Ty.beq_iff.1 hc
      subst e
      simp only [cond_true] at hl
      split at hl
      · rename_i y hy
        obtain ⟨u', z, y1, y2, y3⟩ := nthR_spec (E := envOf K S.objs used γ w) fr t' x' n y hy
        have hf : hasField t' n = true := by
          have key : ∀ (t : Ty) (x : t.den) (n : Nat) (y : AV), nthR fr t x n = some y → hasField t n = true := by
            intro t
            induction t with
            | pair a b iha ihb => intro x n y h; cases n with
              | zero => rfl
              | succ n => exact ihb x.2 n y h
            | _ => intro x n y h; cases n <;> cases h
          exact key _ _ _ _ hy
        obtain ⟨ad, a1, a2⟩ := rptr_part hv y3
        obtain ⟨e4, e5⟩ := hl
        simp only [Prod.mk.injEq] at e4
        obtain ⟨rfl, rfl⟩ := e4
        rw [y1]
        refine Out.pure h ?_ a2
        simp only [execOp, ho, a1, Sem.run_bind, fieldAt_run (hT T t' ht) hf, Result.andThen_ok, Sem.run_pure]
      · exact hl.elim
  · exact hl.elim
end
end Go.Pon
set_option autoImplicit false
set_option linter.unusedVariables false
namespace Go.Pon
open Go
section
variable {P : Program} (w : World)
theorem run_indexAt_slice' {T : TypeId} {t : Ty} (h : tyB P (.slice t) T = true) (ad : Addr) (len cap : Nat) (k : IntKind) (i : Int) (h0 : 0 ≤ i) (h1 : i < len) :
    (Instr.indexAt T (.slice (some ad) len cap) (.int k i)).run P w = .ok (.pointer (some (ad.add (i.toNat * t.size)))) w := by
  obtain ⟨e, h2, h3⟩ := tyB_slice h
  have hs := run_sizeOf' w h3
  simp [Instr.indexAt, run_underlying h2, asIntOf, h0, h1, hs]
theorem run_indexAt_array' {T : TypeId} {n : Nat} {t : Ty} (h : tyB P (.arr n t) T = true) (ad : Addr) (k : IntKind) (i : Int) (h0 : 0 ≤ i) (h1 : i < n) :
    (Instr.indexAt T (.pointer (some ad)) (.int k i)).run P w = .ok (.pointer (some (ad.add (i.toNat * t.size)))) w := by
  obtain ⟨e, h2, h3⟩ := tyB_arr h
  have hs := run_sizeOf' w h3
  simp [Instr.indexAt, run_underlying h2, asIntOf, h0, h1, hs, Instr.sureAddr]
end
section
variable {K : Konst} {S : St} {used : Id → Nat → Prop} {γ : Id → Value} {a : Act} {w : World} {o : Oper} {base : Id} {v : AV} {u : Ups} {l : List Id}
theorem offT_arr (n : Nat) (t : Ty) (i : Nat) : offT (.arr n t) [i] = i * t.size := by simp [offT, offT_nil]
theorem elem_ptr (h : Rel K S used γ a w) {id : Id} {ver : Nat} {fr : Bool} {t : Ty} {rows : List t.den}
    (ho : lookO S.objs id = some (.sli ver fr t rows) ∨ lookO S.objs id = some (.frz ver fr t rows)) (hu : used id ver) {i : Nat} (hi : i < rows.length) {g m cp : Nat}
    (hg : γ id = .slice (some ⟨g, 0, none⟩) m cp) :
    vrel (envOf K S.objs used γ w) (.eptr id ver i []) (.pointer (some ⟨g, i * t.size, none⟩)) := by
  refine vrel1_of (a := .eptr id ver i []) ⟨hu, _, rfl, rfl, fun t' n' hs => ?_⟩ rfl rfl
  obtain ⟨rfl, rfl⟩ := isSl_fun (isSl_of _ ver fr t rows ho) hs
  exact ⟨hi, g, m, cp, t, hg, tyAt_nil t, inT_nil t, by rw [offT_nil, Nat.add_zero]⟩
theorem indexAddrK_out (h : Rel K S used γ a w) {T : TypeId} {x y : Operand} {n : Int} {k : IntKind} (ho : o.op = .indexAddr T x y) (hx : constOK x = true) (hT : ∀ T t, K.G.ty T = some t → tyB K.P t T = true)
    (hy : a.eval y = .int k n)
    (hl : Leads K.C S.objs (indexAddrK (S.eval x) (K.G.ty T) n) [] (v, u) l) : Out K S used γ a w o v u base := by
  have hv := eval_rel h x hx
  have fin : ∀ val r y, a.eval x = val → (Instr.indexAt T val (.int k n)).run K.P w = .ok r w → vrel (envOf K S.objs used γ w) y r → (y, []) = (v, u) → Out K S used γ a w o v u base := by
    rintro val r y e1 e2 e3 e4
    cases e4
    exact Out.pure h (by simp [execOp, ho, hy, e1, e2]) e3
  unfold indexAddrK at hl
  split at hl
  · -- data
    rename_i fr t x' t' heq hG
    rw [heq] at hv
    cases hc : (Ty.beq t t' && Nat.blt 0 t.size) with
    | false => rw [hc] at hl; exact hl.elim
    | true =>
      rw [hc] at hl
      simp only [Bool.and_eq_true, Nat.blt_eq] at hc
      have e := Ty.beq_iff.1 hc.1
      subst e
      obtain ⟨h1, h2⟩ := leads_chk hl
      obtain ⟨i0, i1, i2⟩ := inR_spec h1
      obtain ⟨ad, cap, d1, d2, d3, d4, rows, d5, d6⟩ := d_one (t := .slice t) rfl hv
      have d1 : a.eval x = .slice ad (List.length x') cap := by simpa using d1
      have hlen := d5.length
      have hpos : 0 < rows.length := by rw [hlen]; exact Nat.mul_pos (by omega) hc.2
      obtain ⟨ad', e1, e2, e3⟩ := d6 (List.length_pos_iff.1 hpos)
      subst e1
      have hsp : ad'.spot = none := by
        have := e3 0 rows[0] (List.getElem?_eq_getElem hpos)
        have e0 : ad'.add 0 = ad' := rfl
        rw [e0] at this
        unfold World.cell? at this
        split at this
        · cases hs : ad'.spot with
          | none => rfl
          | some _ => rw [hs] at this; simp at this
        · cases this
      obtain ⟨g, off, sp⟩ := ad'
      simp only at hsp
      subst hsp
      refine fin _ _ _ d1 (run_indexAt_slice' w (hT _ _ hG) _ _ cap k n i0 i1) ?_ h2.1
      have hrow := d5.get n.toNat i2
      rw [getD_lt i2]
      refine vrel1_of (a := .rptr fr t _) ⟨_, rfl, rfl, _, (rows.drop (n.toNat * t.size)).take t.size, rfl, by rw [add_zero_off], fun hp => by rw [add_block]; exact e2, fun j z hj => ?_, hrow⟩ rfl rfl
      rw [add_zero_off, add_zero_off, Nat.add_assoc]
      have := e3 (n.toNat * t.size + j) z (by
        rw [List.getElem?_take] at hj
        split at hj
        · rwa [List.getElem?_drop] at hj
        · cases hj)
      rwa [add_zero_off] at this
  · -- an own slice
    rename_i id ver t' heq hG
    rw [heq] at hv
    obtain ⟨hu, hna, hval⟩ := own_inv hv
    obtain ⟨ob, hob, hl⟩ := hl
    have key : ∀ fr t rows, (ob = .sli ver fr t rows ∨ ob = .frz ver fr t rows) → t = t' → Leads K.C S.objs (.chk (inR n (List.length rows)) (.done (.eptr id ver n.toNat [], []))) [id] (v, u) l → Out K S used γ a w o v u base := by
      intro fr t rows hcase ht hk
      subst ht
      have ho' : lookO S.objs id = some (.sli ver fr t rows) ∨ lookO S.objs id = some (.frz ver fr t rows) := by rcases hcase with rfl | rfl <;> simp [hob]
      obtain ⟨h1, h2⟩ := leads_chk hk
      obtain ⟨i0, i1, i2⟩ := inR_spec h1
      have hne : rows ≠ [] := by rintro rfl; simp at i2
      obtain ⟨g, cp, cs, c1, _, _, c5, c6⟩ := sl_cells h ho' hne
      have e : a.eval x = γ id := hval t _ (isSl_of _ ver fr t rows ho')
      refine fin _ _ _ (e.trans c1) (run_indexAt_slice' w (hT _ _ hG) _ _ cp k n i0 i1) ?_ h2.1
      rw [add_zero_off, Nat.zero_add]
      exact elem_ptr h ho' hu i2 c1
    dsimp only at hl
    split at hl
    · rename_i ver' fr t rows
      cases hc : (Nat.beq ver' ver && Ty.beq t t') with
      | false => rw [hc] at hl; exact hl.elim
      | true =>
        rw [hc] at hl
        simp only [Bool.and_eq_true, Nat.beq_eq] at hc
        obtain ⟨rfl, h2⟩ := hc
        exact key fr t rows (.inl rfl) (Ty.beq_iff.1 h2) hl
    · rename_i ver' fr t rows
      cases hc : (Nat.beq ver' ver && Ty.beq t t') with
      | false => rw [hc] at hl; exact hl.elim
      | true =>
        rw [hc] at hl
        simp only [Bool.and_eq_true, Nat.beq_eq] at hc
        obtain ⟨rfl, h2⟩ := hc
        exact key fr t rows (.inr rfl) (Ty.beq_iff.1 h2) hl
    · exact hl.elim
  · -- a part of an own slice
    rename_i id ver lo hi _ t' heq hG
    rw [heq] at hv
    obtain ⟨hu, hval⟩ := view_inv hv
    obtain ⟨ob, hob, hl⟩ := hl
    have key : ∀ fr t rows, (ob = .sli ver fr t rows ∨ ob = .frz ver fr t rows) → t = t' → Leads K.C S.objs (.chk (inR n (hi - lo)) (.done (.eptr id ver (lo + n.toNat) [], []))) [id] (v, u) l → Out K S used γ a w o v u base := by
      intro fr t rows hcase ht hk
      subst ht
      have ho' : lookO S.objs id = some (.sli ver fr t rows) ∨ lookO S.objs id = some (.frz ver fr t rows) := by rcases hcase with rfl | rfl <;> simp [hob]
      obtain ⟨h1, h2⟩ := leads_chk hk
      obtain ⟨i0, i1, i2⟩ := inR_spec h1
      obtain ⟨v1, v2, ad, c, v3, v4, v5, v6, v7, _⟩ := hval t _ (isSl_of _ ver fr t rows ho')
      obtain ⟨g, m, cp, v8, v9⟩ := v7 (by omega)
      subst v9
      refine fin _ _ _ v3 (run_indexAt_slice' w (hT _ _ hG) _ _ c k n i0 i1) ?_ h2.1
      rw [add_zero_off, ← Nat.add_mul]
      exact elem_ptr h ho' hu (by omega) v8
    dsimp only at hl
    split at hl
    · rename_i ver' fr t rows
      cases hc : (Nat.beq ver' ver && Ty.beq t t') with
      | false => rw [hc] at hl; exact hl.elim
      | true =>
        rw [hc] at hl
        simp only [Bool.and_eq_true, Nat.beq_eq] at hc
        obtain ⟨rfl, h2⟩ := hc
        exact key fr t rows (.inl rfl) (Ty.beq_iff.1 h2) hl
    · rename_i ver' fr t rows
      cases hc : (Nat.beq ver' ver && Ty.beq t t') with
      | false => rw [hc] at hl; exact hl.elim
      | true =>
        rw [hc] at hl
        simp only [Bool.and_eq_true, Nat.beq_eq] at hc
        obtain ⟨rfl, h2⟩ := hc
        exact key fr t rows (.inr rfl) (Ty.beq_iff.1 h2) hl
    · exact hl.elim
  · -- an array of one's own
    rename_i id path m t heq hG
    rw [heq] at hv
    by_cases hin : inR n m = true
    · obtain ⟨i0, i1, i2⟩ := inR_spec hin
      obtain ⟨g, off, l1, e1, e2, e3⟩ := ptr_part h hv (q := [n.toNat]) hl ⟨i2, inT_nil t⟩ ⟨t, by simp [tyAt, tyAt_nil]⟩
      obtain ⟨_, e4, e5⟩ := leads_chk e2
      refine fin _ _ _ e1 (run_indexAt_array' w (hT _ _ hG) _ k n i0 i1) ?_ e4
      rw [appE_eq, add_zero_off, ← offT_arr m t]
      exact e3
    · exfalso
      obtain ⟨ob, hob, hl⟩ := hl
      dsimp only at hl
      split at hl
      all_goals try exact hl.elim
      all_goals
        split at hl
        all_goals try exact hl.elim
        rename_i ww _
        cases hc : Ty.beq ww (.arr m t) <;> rw [hc] at hl
        · exact hl.elim
        · exact hin (leads_chk hl).1
  · -- an array in an element
    rename_i id ver j path m t heq hG
    rw [heq] at hv
    by_cases hin : inR n m = true
    · obtain ⟨i0, i1, i2⟩ := inR_spec hin
      obtain ⟨g, off, l1, e1, e2, e3⟩ := eptr_part h hv (q := [n.toNat]) hl ⟨i2, inT_nil t⟩ ⟨t, by simp [tyAt, tyAt_nil]⟩
      obtain ⟨_, e4, e5⟩ := leads_chk e2
      refine fin _ _ _ e1 (run_indexAt_array' w (hT _ _ hG) _ k n i0 i1) ?_ e4
      rw [appE_eq, add_zero_off, ← offT_arr m t]
      exact e3
    · exfalso
      obtain ⟨ob, hob, hl⟩ := hl
      dsimp only at hl
      split at hl
      all_goals try exact hl.elim
      all_goals
        split at hl
        all_goals try exact hl.elim
        rename_i ww _ _
        cases hc : Ty.beq ww (.arr m t) <;> rw [hc] at hl
        · exact hl.elim
        · exact hin (leads_chk hl).1
  · -- an array that is read only
    rename_i fr m t x' m' t' heq hG
    rw [heq] at hv
    cases hc : (Nat.beq m m' && Ty.beq t t') with
    | false => rw [hc] at hl; exact hl.elim
    | true =>
      rw [hc] at hl
      simp only [Bool.and_eq_true, Nat.beq_eq] at hc
      obtain ⟨rfl, h2⟩ := hc
      have e := Ty.beq_iff.1 h2
      subst e
      obtain ⟨h1, h2⟩ := leads_chk hl
      obtain ⟨i0, i1, i2⟩ := inR_spec h1
      obtain ⟨ad, a1, a2⟩ := rptr_part (u := t) (z := List.getD x' n.toNat t.zero) (off := n.toNat * t.size) hv (fun cs hd => by
        have hlt : n.toNat < List.length x' := by rw [hd.1]; exact i2
        refine ⟨by rw [getD_lt hlt]; exact hd.2.get n.toNat hlt, ?_⟩
        show _ ≤ m * t.size
        rw [← Nat.succ_mul]; exact Nat.mul_le_mul_right _ i2)
      exact fin _ _ _ a1 (run_indexAt_array' w (hT _ _ hG) ad k n i0 i1) a2 h2.1
  · exact hl.elim
theorem maxLen_i64 {n : Nat} (h : n ≤ maxLen) : inK .i64 (n : Int) := by
  simp only [maxLen] at h
  simp only [inK, IntKind.min, IntKind.max, IntKind.signed, IntKind.bits]
  omega
theorem len_out (h : Rel K S used γ a w) {T : TypeId} {x : Operand} {n : Nat} (ho : o.op = .call { callee := .builtin .len, args := #[x], argTypes := #[T] })
    (hlen : (Builtin.len_ #[T] o.type #[a.eval x]).run K.P w = .ok (goInt n) w) (hn : n ≤ maxLen) : Out K S used γ a w o (mkInt .i64 n) [] base := by
  refine Out.pure h ?_ (mkInt_rel _ (maxLen_i64 hn))
  simp only [execOp, ho, resolve, invoke, builtin, Sem.run_bind, Sem.run_pure, Result.andThen_ok, List.map_toArray, List.map_cons, List.map_nil, hlen]
  rfl
theorem run_len_slice' {P : Program} {T : TypeId} {t : Ty} (h : tyB P (.slice t) T = true) (ty : TypeId) (ad : Option Addr) (n c : Nat) : (Builtin.len_ #[T] ty #[.slice ad n c]).run P w = .ok (goInt n) w := by
  obtain ⟨e, h2, h3⟩ := tyB_slice h
  simp [Builtin.len_, run_underlying h2]
theorem run_len_str' {P : Program} {T : TypeId} (h : tyB P .str T = true) (ty : TypeId) (s : ByteArray) : (Builtin.len_ #[T] ty #[.string s]).run P w = .ok (goInt s.size) w := by
  simp [Builtin.len_, run_underlying (tyB_str h)]
theorem sl_header (h : Rel K S used γ a w) {id : Id} {ver : Nat} {fr : Bool} {t : Ty} {rows : List t.den}
    (ho : lookO S.objs id = some (.sli ver fr t rows) ∨ lookO S.objs id = some (.frz ver fr t rows)) :
    ∃ ad cap, γ id = .slice ad rows.length cap ∧ rows.length ≤ cap ∧ cap ≤ maxLen ∧ (ad = none → cap = 0) := by
  rcases ho with ho | ho
  · rcases h.objs id _ ho with ⟨h1, h2⟩ | ⟨g, cap, cur, e, h1, h2, h3, h4, _⟩
    · exact ⟨none, 0, by rw [h2]; exact h1, Nat.le_of_eq (by rw [h2]; rfl), Nat.zero_le _, fun _ => rfl⟩
    · exact ⟨_, cap, h1, h3, h4, fun e => by cases e⟩
  · obtain ⟨⟨ad, cap, h1, h2, h3, h4, _⟩, _⟩ := h.objs id _ ho
    exact ⟨ad, cap, by have : [γ id] = _ := h1; simpa using this, h2, h3, h4⟩
theorem lenK_out (h : Rel K S used γ a w) {T : TypeId} {x : Operand} (ho : o.op = .call { callee := .builtin .len, args := #[x], argTypes := #[T] }) (hx : constOK x = true)
    (hT : ∀ T t, K.G.ty T = some t → tyB K.P t T = true)
    (hl : Leads K.C S.objs (lenK (S.eval x) (K.G.ty T) fun n => .done (mkInt .i64 n, [])) [] (v, u) l) : Out K S used γ a w o v u base := by
  have hv := eval_rel h x hx
  unfold lenK at hl
  split at hl
  · rename_i fr t x' t' heq hG
    rw [heq] at hv
    obtain ⟨ad, cap, d1, d2, d3, _⟩ := d_one (t := .slice t) rfl hv
    have d1 : a.eval x = .slice ad (List.length x') cap := by simpa using d1
    cases hl.1
    exact len_out h ho (by rw [d1]; exact run_len_slice' (hT _ _ hG) _ _ _ _) (by omega)
  · rename_i fr x' heq hG
    rw [heq] at hv
    obtain ⟨s, d1, d2, d3⟩ := d_one (t := .str) rfl hv
    have d1 : a.eval x = .string s := by simpa using d1
    cases hl.1
    have hlen : List.length x' = s.size := by rw [d2, List.length_map]; rfl
    exact len_out h ho (by rw [d1, hlen]; exact run_len_str' (hT _ _ hG) _ _) (by rw [hlen]; exact d3)
  · rename_i t' heq hG
    rw [heq] at hv
    obtain ⟨d1, _⟩ := one_vrel (x := .nils) rfl (by simp) (by simp) (by simp) hv
    have d1 : a.eval x = .slice none 0 0 := by have : [a.eval x] = _ := d1; simpa using this
    cases hl.1
    exact len_out h ho (n := 0) (by rw [d1]; exact run_len_slice' (hT _ _ hG) _ _ _ _) (Nat.zero_le _)
  · rename_i id ver t' heq hG
    rw [heq] at hv
    obtain ⟨hu, hna, hval⟩ := own_inv hv
    obtain ⟨ob, hob, hl⟩ := hl
    have key : ∀ fr t rows, (ob = .sli ver fr t rows ∨ ob = .frz ver fr t rows) → (mkInt .i64 (List.length rows), []) = (v, u) → Out K S used γ a w o v u base := by
      intro fr t rows hcase e
      cases e
      have ho' : lookO S.objs id = some (.sli ver fr t rows) ∨ lookO S.objs id = some (.frz ver fr t rows) := by rcases hcase with rfl | rfl <;> simp [hob]
      obtain ⟨ad, cap, c1, c2, c3, _⟩ := sl_header h ho'
      have e : a.eval x = γ id := hval t _ (isSl_of _ ver fr t rows ho')
      exact len_out h ho (by rw [e, c1]; exact run_len_slice' (hT _ _ hG) _ _ _ _) (by omega)
    dsimp only at hl
    split at hl
    · rename_i ver' fr t rows
      cases hc : Nat.beq ver' ver with
      | false => rw [hc] at hl; exact hl.elim
      | true =>
        rw [hc] at hl
        have hc := Nat.eq_of_beq_eq_true hc
        subst hc
        exact key fr t rows (.inl rfl) hl.1
    · rename_i ver' fr t rows
      cases hc : Nat.beq ver' ver with
      | false => rw [hc] at hl; exact hl.elim
      | true =>
        rw [hc] at hl
        have hc := Nat.eq_of_beq_eq_true hc
        subst hc
        exact key fr t rows (.inr rfl) hl.1
    · exact hl.elim
  · rename_i id ver lo hi _ t' heq hG
    rw [heq] at hv
    obtain ⟨hu, hval⟩ := view_inv hv
    obtain ⟨ob, hob, hl⟩ := hl
    have key : ∀ fr t rows, (ob = .sli ver fr t rows ∨ ob = .frz ver fr t rows) → (mkInt .i64 ((hi - lo : Nat) : Int), []) = (v, u) → Out K S used γ a w o v u base := by
      intro fr t rows hcase e
      cases e
      have ho' : lookO S.objs id = some (.sli ver fr t rows) ∨ lookO S.objs id = some (.frz ver fr t rows) := by rcases hcase with rfl | rfl <;> simp [hob]
      obtain ⟨v1, v2, ad, c, v3, v4, v5, _⟩ := hval t _ (isSl_of _ ver fr t rows ho')
      exact len_out h ho (by rw [v3]; exact run_len_slice' (hT _ _ hG) _ _ _ _) (by omega)
    dsimp only at hl
    split at hl
    · rename_i ver' fr t rows
      cases hc : Nat.beq ver' ver with
      | false => rw [hc] at hl; exact hl.elim
      | true =>
        rw [hc] at hl
        have hc := Nat.eq_of_beq_eq_true hc
        subst hc
        exact key fr t rows (.inl rfl) hl.1
    · rename_i ver' fr t rows
      cases hc : Nat.beq ver' ver with
      | false => rw [hc] at hl; exact hl.elim
      | true =>
        rw [hc] at hl
        have hc := Nat.eq_of_beq_eq_true hc
        subst hc
        exact key fr t rows (.inr rfl) hl.1
    · exact hl.elim
  · rename_i id path lo hi t' heq hG
    rw [heq] at hv
    obtain ⟨hu, hval⟩ := mview_inv hv
    obtain ⟨ob, hob, hl⟩ := hl
    have key : ∀ fr t c, (ob = .mem fr t c ∨ ob = .mfz fr t c) → (mkInt .i64 ((hi - lo : Nat) : Int), []) = (v, u) → Out K S used γ a w o v u base := by
      intro fr t c hcase e
      cases e
      have ho' : lookO S.objs id = some (.mem fr t c) ∨ lookO S.objs id = some (.mfz fr t c) := by rcases hcase with rfl | rfl <;> simp [hob]
      obtain ⟨g, n, uu, v1, v2, v3, v4, v5, ad, c', v6, v7, v8, _⟩ := hval t (isMm_of _ fr t c ho')
      exact len_out h ho (by rw [v6]; exact run_len_slice' (hT _ _ hG) _ _ _ _) (by omega)
    dsimp only at hl
    split at hl
    · exact key _ _ _ (.inl rfl) hl.1
    · exact key _ _ _ (.inr rfl) hl.1
    · exact hl.elim
  · exact hl.elim
end
end Go.Pon
set_option autoImplicit false
set_option linter.unusedVariables false
namespace Go.Pon
open Go
def bnd (v : Option Value) (none_ : Nat) (n : Nat) : Prop := (v = none ∧ n = none_) ∨ ∃ k, v = some (.int k n)
def bnd3 (m h : Option Value) (cap hi M : Nat) : Prop := (m = none ∧ M = cap) ∨ ((∃ k, m = some (.int k hi)) ∧ (∃ k, h = some (.int k hi)) ∧ M = hi)
theorem run_bounds3 {P : Program} (w : World) (isS : Bool) {len cap lo hi M : Nat} {l h m : Option Value} (hl : bnd l 0 lo) (hh : bnd h len hi) (h1 : lo ≤ hi) (h2 : hi ≤ cap) (hm : bnd3 m h cap hi M) :
    (Instr.sliceBounds isS len cap l h m).run P w = .ok (lo, hi, M) w := by
  have c1 : (lo : Int) ≤ hi := by omega
  have c2 : (hi : Int) ≤ cap := by omega
  rcases hm with ⟨rfl, rfl⟩ | ⟨⟨k3, rfl⟩, ⟨k4, rfl⟩, rfl⟩
  · rcases hl with ⟨rfl, rfl⟩ | ⟨k, rfl⟩ <;> rcases hh with ⟨rfl, rfl⟩ | ⟨k', rfl⟩ <;>
      simp [Instr.sliceBounds, Instr.sliceBound, asIntOf, h1, h2] <;> omega
  · rcases hl with ⟨rfl, rfl⟩ | ⟨k, rfl⟩ <;>
      simp [Instr.sliceBounds, Instr.sliceBound, asIntOf, h1, h2] <;> omega
theorem run_bounds {P : Program} (w : World) (isS : Bool) {len cap lo hi : Nat} {l h : Option Value} (hl : bnd l 0 lo) (hh : bnd h len hi) (h1 : lo ≤ hi) (h2 : hi ≤ cap) :
    (Instr.sliceBounds isS len cap l h none).run P w = .ok (lo, hi, cap) w := by
  have c1 : (lo : Int) ≤ hi := by omega
  have c2 : (hi : Int) ≤ cap := by omega
  rcases hl with ⟨rfl, rfl⟩ | ⟨k, rfl⟩ <;> rcases hh with ⟨rfl, rfl⟩ | ⟨k', rfl⟩ <;>
    simp [Instr.sliceBounds, Instr.sliceBound, asIntOf, h1, h2] <;> omega
theorem cut_spec {C : CallD} {objs : Ups} {n : Nat} {lo hi : Option Int} {k : Nat → Nat → OpV} {l0 l : List Id} {r : AV × Ups} (h : Leads C objs (cutK n lo hi k) l0 r l) :
    ∃ a b : Nat, a ≤ b ∧ b ≤ n ∧ ((lo = none ∧ a = 0) ∨ lo = some (a : Int)) ∧ ((hi = none ∧ b = n) ∨ hi = some (b : Int)) ∧ Leads C objs (k a b) l0 r l := by
  unfold cutK at h
  split at h
  · exact ⟨0, n, Nat.zero_le _, Nat.le_refl _, .inl ⟨rfl, rfl⟩, .inl ⟨rfl, rfl⟩, h⟩
  · rename_i i
    obtain ⟨h1, h2⟩ := leads_chk h
    simp only [Bool.and_eq_true, decide_eq_true_eq] at h1
    exact ⟨i.toNat, n, by omega, Nat.le_refl _, .inr (by congr 1; omega), .inl ⟨rfl, rfl⟩, h2⟩
  · rename_i i
    obtain ⟨h1, h2⟩ := leads_chk h
    simp only [Bool.and_eq_true, decide_eq_true_eq] at h1
    exact ⟨0, i.toNat, Nat.zero_le _, by omega, .inl ⟨rfl, rfl⟩, .inr (by congr 1; omega), h2⟩
  · rename_i i j
    obtain ⟨h1, h2⟩ := leads_chk h
    simp only [Bool.and_eq_true, decide_eq_true_eq] at h1
    exact ⟨i.toNat, j.toNat, by omega, by omega, .inr (by congr 1; omega), .inr (by congr 1; omega), h2⟩
theorem spot_of_cell {w : World} {ad : Addr} {v : Value} (h : w.cell? ad = some v) : ad.spot = none := by
  unfold World.cell? at h
  split at h
  · cases hs : ad.spot with
    | none => rfl
    | some _ => rw [hs] at h; simp at h
  · cases h
theorem add_assoc' {ad : Addr} (h : ad.spot = none) (i j : Nat) : (ad.add i).add j = ad.add (i + j) := by
  obtain ⟨g, off, s⟩ := ad
  simp only at h
  subst h
  simp only [add_zero_off, Nat.add_assoc]
theorem DR.cut {w : World} {ok : Nat → Prop} {t : Ty} {ad : Option Addr} {cap lo hi M : Nat} {x : List t.den} (h : DR w ok (.slice t) [.slice ad x.length cap] x) (h1 : lo ≤ hi) (h2 : hi ≤ x.length) (hM1 : hi ≤ M) (hM2 : M ≤ cap) :
    DR w ok (.slice t) [.slice (if M = lo then ad else ad.map (·.add (lo * t.size))) (hi - lo) (M - lo)] ((x.drop lo).take (hi - lo)) := by
  obtain ⟨ad', cap', d1, d2, d3, d4, rows, d5, d6⟩ := h
  have e1 : ad' = ad ∧ cap' = cap := by
    have : Value.slice ad x.length cap = .slice ad' x.length cap' := by simpa using d1
    cases this
    exact ⟨rfl, rfl⟩
  obtain ⟨rfl, rfl⟩ := e1
  have hl : ((x.drop lo).take (hi - lo)).length = hi - lo := by simp; omega
  refine ⟨_, M - lo, by rw [hl], by rw [hl]; omega, by omega, fun hn => ?_, (rows.drop (lo * t.size)).take ((hi - lo) * t.size), (d5.drop lo).take (hi - lo), fun hne => ?_⟩
  · by_cases hc : M = lo
    · omega
    · rw [if_neg hc] at hn
      cases ad' with
      | none => have := d4 rfl; omega
      | some _ => cases hn
  · have hr : rows ≠ [] := by rintro rfl; simp at hne
    obtain ⟨adr, e1, e2, e3⟩ := d6 hr
    subst e1
    have hlt : lo < hi := by
      rcases Nat.lt_or_ge lo hi with h | h
      · exact h
      · rw [show hi - lo = 0 by omega] at hne; simp at hne
    have hc : M ≠ lo := by omega
    have hsp : adr.spot = none := by
      have hp : 0 < rows.length := List.length_pos_iff.2 hr
      exact spot_of_cell (e3 0 rows[0] (List.getElem?_eq_getElem hp))
    refine ⟨adr.add (lo * t.size), by rw [if_neg hc]; rfl, by rw [add_block]; exact e2, fun j v hj => ?_⟩
    rw [add_assoc' hsp]
    refine e3 _ v ?_
    rw [List.getElem?_take] at hj
    split at hj
    · rwa [List.getElem?_drop] at hj
    · cases hj
section
variable {K : Konst} {S : St} {used : Id → Nat → Prop} {γ : Id → Value} {a : Act} {w : World} {o : Oper} {base : Id} {v : AV} {u : Ups} {l : List Id}
theorem resolve_bnd (h : Rel K S used γ a w) {lo : Option Operand} {i : Option Int} {n d : Nat} (hc : ∀ x, lo = some x → constOK x = true) (hr : resolveI (lo.map S.eval) = some i)
    (hi : (i = none ∧ n = d) ∨ i = some (n : Int)) : bnd (lo.map a.eval) d n := by
  cases lo with
  | none =>
    simp only [Option.map_none, resolveI, Option.some.injEq] at hr
    subst hr
    rcases hi with ⟨_, rfl⟩ | hi
    · exact .inl ⟨rfl, rfl⟩
    · cases hi
  | some x =>
    simp only [Option.map_some, resolveI] at hr
    split at hr
    · rename_i k n' hk
      cases hr
      rcases hi with ⟨hi, _⟩ | hi
      · cases hi
      · cases hi
        obtain ⟨e, _⟩ := asInt_spec hk (eval_rel h x (hc x rfl))
        exact .inr ⟨k, by simp [e]⟩
    · cases hr
theorem sliceK_out (h : Rel K S used γ a w) {T : TypeId} {x : Operand} {lo hi : Option Operand} {mx : Option Operand} {i j m : Option Int} (ho : o.op = .slice T x lo hi mx) (hx : constOK x = true)
    (hlo : ∀ x, lo = some x → constOK x = true) (hhi : ∀ x, hi = some x → constOK x = true) (hri : resolveI (lo.map S.eval) = some i) (hrj : resolveI (hi.map S.eval) = some j)
    (hmx : ∀ x, mx = some x → constOK x = true) (hrm : resolveI (mx.map S.eval) = some m) (hm3 : m = none ∨ (m = j ∧ ∃ t, K.G.ty T = some (.slice t)))
    (hT : ∀ T t, K.G.ty T = some t → tyB K.P t T = true) {cp : Bool} (hcp : cp = true → m ≠ none)
    (hl : Leads K.C S.objs (sliceK (S.eval x) (K.G.ty T) i j cp) [] (v, u) l) : Out K S used γ a w o v u base := by
  have hv := eval_rel h x hx
  have fin : ∀ val r y, a.eval x = val → (Instr.sliceAt T val (lo.map a.eval) (hi.map a.eval) (mx.map a.eval)).run K.P w = .ok r w → vrel (envOf K S.objs used γ w) y r → (y, []) = (v, u) → Out K S used γ a w o v u base := by
    rintro val r y e1 e2 e3 e4
    cases e4
    exact Out.pure h (by simp [execOp, ho, e1, e2]) e3
  have bnd_m : ∀ (d q cap : Nat), ((j = none ∧ q = d) ∨ j = some (q : Int)) → (∃ M, bnd3 (mx.map a.eval) (hi.map a.eval) cap q M ∧ (M = cap ∨ M = q) ∧ (cp = true → M = q)) := by
    intro d q cap hj
    rcases hm3 with hm | ⟨rfl, _⟩
    · subst hm
      cases mx with
      | none => exact ⟨cap, .inl ⟨rfl, rfl⟩, .inl rfl, fun hc => absurd rfl (hcp hc)⟩
      | some z =>
        simp only [Option.map_some, resolveI] at hrm
        split at hrm <;> cases hrm
    · cases mx with
      | none => exact ⟨cap, .inl ⟨rfl, rfl⟩, .inl rfl, fun hc => absurd (by simpa [resolveI] using hrm.symm) (hcp hc)⟩
      | some z =>
        simp only [Option.map_some, resolveI] at hrm
        split at hrm
        · rename_i k3 n3 e3
          cases hrm
          rcases hj with ⟨hj, _⟩ | hj
          · cases hj
          · cases hj
            obtain ⟨e, _⟩ := asInt_spec e3 (eval_rel h z (hmx z rfl))
            rcases resolve_bnd h hhi hrj (d := d) (n := q) (.inr rfl) with ⟨hn, _⟩ | hb
            · cases hi with
              | none => simp only [Option.map_none, resolveI] at hrj; cases hrj
              | some _ => cases hn
            · exact ⟨q, .inr ⟨⟨k3, by simp [e]⟩, hb, rfl⟩, .inr rfl, fun _ => rfl⟩
        · cases hrm
  have none_m : (∀ t, K.G.ty T ≠ some (.slice t)) → mx = none := by
    intro hn
    rcases hm3 with hm | ⟨_, t, ht⟩
    · subst hm
      cases mx with
      | none => rfl
      | some z =>
        simp only [Option.map_some, resolveI] at hrm
        split at hrm <;> cases hrm
    · exact absurd ht (hn t)
  have run_s : ∀ (t : Ty) (ad : Option Addr) (len cap p q M : Nat), tyB K.P (.slice t) T = true → bnd (lo.map a.eval) 0 p → bnd (hi.map a.eval) len q → bnd3 (mx.map a.eval) (hi.map a.eval) cap q M → p ≤ q → q ≤ cap →
      (Instr.sliceAt T (.slice ad len cap) (lo.map a.eval) (hi.map a.eval) (mx.map a.eval)).run K.P w = .ok (.slice (if M = p then ad else ad.map (·.add (p * t.size))) (q - p) (M - p)) w := by
    intro t ad len cap p q M ht b1 b2 b3 h1 h2
    obtain ⟨e, k1, k2⟩ := tyB_slice ht
    have hs := run_sizeOf' w k2
    have hb := run_bounds3 (P := K.P) w true b1 b2 h1 h2 b3
    simp [Instr.sliceAt, run_underlying k1, Instr.slice, hb, hs]
  unfold sliceK at hl
  split at hl
  · rename_i fr t x' t' heq hG
    rw [heq] at hv
    cases hc : Ty.beq t t' with
    | false => rw [hc] at hl; exact hl.elim
    | true =>
      rw [hc] at hl
      have e := Ty.beq_iff.1 hc
      subst e
      simp only [cond_true] at hl
      obtain ⟨p, q, c1, c2, c3, c4, c5⟩ := cut_spec hl
      have hd := d_one (t := .slice t) rfl hv
      obtain ⟨ad, cap, d1, d2, d3, d4, rows, d5, d6⟩ := hd
      have d1 : a.eval x = .slice ad (List.length x') cap := by simpa using d1
      have hd : DR _ _ (.slice t) [a.eval x] x' := d_one (t := .slice t) rfl hv
      rw [d1] at hd
      obtain ⟨M, m1, m2, m3⟩ := bnd_m _ q cap c4
      refine fin _ _ _ d1 (run_s t ad _ cap p q M (hT _ _ hG) (resolve_bnd h hlo hri c3) (resolve_bnd h hhi hrj c4) m1 c1 (by omega)) ?_ c5.1
      exact vrel1_of (a := .d fr (.slice t) _) (DR.cut hd c1 c2 (by omega) (by omega)) rfl rfl
  · rename_i fr x' heq hG
    rw [heq] at hv
    obtain ⟨p, q, c1, c2, c3, c4, c5⟩ := cut_spec hl
    obtain rfl := none_m fun t ht => by rw [hG] at ht; cases ht
    obtain ⟨s, d1, d2, d3⟩ := d_one (t := .str) rfl hv
    have d1 : a.eval x = .string s := by simpa using d1
    have hlen : List.length x' = s.size := by rw [d2, List.length_map]; rfl
    have hb := run_bounds (P := K.P) w false (len := s.size) (cap := s.size) (resolve_bnd h hlo hri c3) (resolve_bnd h hhi hrj (by rw [← hlen]; exact c4)) c1 (by omega)
    refine fin _ (.string (s.extract p q)) _ d1 ?_ ?_ c5.1
    · simp [Instr.sliceAt, run_underlying (tyB_str (hT _ _ hG)), Instr.slice, hb]
    · refine vrel1_of (a := .d true .str _) ⟨s.extract p q, rfl, ?_, ?_⟩ rfl rfl
      · rw [d2, ByteArray.data_extract, Array.toList_extract, List.extract_eq_take_drop, List.map_take, List.map_drop]
      · have : (s.extract p q).size ≤ s.size := by
          show (s.extract p q).data.size ≤ s.data.size
          rw [ByteArray.data_extract, Array.size_extract]; omega
        omega
  · rename_i id ver t' heq hG
    rw [heq] at hv
    obtain ⟨hu, hna, hval⟩ := own_inv hv
    obtain ⟨ob, hob, hl⟩ := hl
    have key : ∀ fr t rows, (ob = .sli ver fr t rows ∨ ob = .frz ver fr t rows) → t = t' → Leads K.C S.objs (cutK (List.length rows) i j fun a b => .done (.view id ver a b cp, [])) [id] (v, u) l → Out K S used γ a w o v u base := by
      intro fr t rows hcase ht hk
      subst ht
      have ho' : lookO S.objs id = some (.sli ver fr t rows) ∨ lookO S.objs id = some (.frz ver fr t rows) := by rcases hcase with rfl | rfl <;> simp [hob]
      obtain ⟨p, q, c1, c2, c3, c4, c5⟩ := cut_spec hk
      obtain ⟨ad, cap, k1, k2, k3, k4⟩ := sl_header h ho'
      have e : a.eval x = γ id := hval t _ (isSl_of _ ver fr t rows ho')
      obtain ⟨M, m1, m2, m3⟩ := bnd_m _ q cap c4
      refine fin _ _ _ (e.trans k1) (run_s t ad _ cap p q M (hT _ _ hG) (resolve_bnd h hlo hri c3) (resolve_bnd h hhi hrj c4) m1 c1 (by omega)) ?_ c5.1
      refine vrel1_of (a := .view id ver p q cp) ⟨hu, _, rfl, rfl, fun t' n' hs => ?_⟩ rfl rfl
      obtain ⟨rfl, rfl⟩ := isSl_fun (isSl_of _ ver fr t rows ho') hs
      refine ⟨c1, c2, _, _, rfl, by omega, by omega, fun hn => ?_, fun hlt => ?_, fun hc => by have := m3 hc; omega⟩
      · by_cases hc : M = p
        · omega
        · rw [if_neg hc] at hn
          cases ad with
          | none => have := k4 rfl; omega
          | some _ => cases hn
      · have hne : rows ≠ [] := by rintro rfl; simp at c2; omega
        obtain ⟨g, cp, cs, s1, _⟩ := sl_cells h ho' hne
        refine ⟨g, _, cp, s1, ?_⟩
        rw [k1] at s1
        cases s1
        rw [if_neg (by omega)]
        simp [add_zero_off]
    dsimp only at hl
    split at hl
    · rename_i ver' fr t rows
      cases hc : (Nat.beq ver' ver && Ty.beq t t') with
      | false => rw [hc] at hl; exact hl.elim
      | true =>
        rw [hc] at hl
        simp only [Bool.and_eq_true, Nat.beq_eq] at hc
        obtain ⟨rfl, h2⟩ := hc
        exact key fr t rows (.inl rfl) (Ty.beq_iff.1 h2) hl
    · rename_i ver' fr t rows
      cases hc : (Nat.beq ver' ver && Ty.beq t t') with
      | false => rw [hc] at hl; exact hl.elim
      | true =>
        rw [hc] at hl
        simp only [Bool.and_eq_true, Nat.beq_eq] at hc
        obtain ⟨rfl, h2⟩ := hc
        exact key fr t rows (.inr rfl) (Ty.beq_iff.1 h2) hl
    · exact hl.elim
  · rename_i id path n t heq hG
    rw [heq] at hv
    cases hc : Nat.ble n 9223372036854775807 with
    | false => rw [hc] at hl; exact hl.elim
    | true =>
      rw [hc] at hl
      have hnm : n ≤ maxLen := by have := Nat.le_of_ble_eq_true hc; simp only [maxLen]; omega
      obtain ⟨g, off, l1, e1, e2, e3⟩ := ptr_part h hv (q := []) hl (inT_nil _) ⟨_, tyAt_nil _⟩
      obtain ⟨p, q, c1, c2, c3, c4, c5⟩ := cut_spec e2
      obtain ⟨e, k1, k2⟩ := tyB_arr (hT _ _ hG)
      obtain rfl := none_m fun t ht => by rw [hG] at ht; cases ht
      have hs := run_sizeOf' w k2
      have hb := run_bounds (P := K.P) w false (resolve_bnd h hlo hri c3) (resolve_bnd h hhi hrj c4) c1 c2
      refine fin _ (.slice (some (if n = p then ⟨g, off, none⟩ else (⟨g, off, none⟩ : Addr).add (p * t.size))) (q - p) (n - p)) _ e1 ?_ ?_ c5.1
      · simp [Instr.sliceAt, run_underlying k1, Instr.sureAddr, hb, hs]
      · obtain ⟨hu, hp⟩ := ptr_inv hv
        obtain ⟨hu', hp'⟩ := ptr_inv e3
        refine vrel1_of (a := .mview id path p q) ⟨hu, _, rfl, rfl, fun t' ht' => ?_⟩ rfl rfl
        obtain ⟨g', u', q1, q2, q3, q4⟩ := hp t' ht'
        rw [e1] at q4
        obtain ⟨rfl, rfl⟩ : g = g' ∧ off = offT t' path := by cases q4; exact ⟨rfl, rfl⟩
        have hu2 : u' = .arr n t := by
          obtain ⟨ob, hob, hl⟩ := hl
          obtain ⟨fr2, c2, h2⟩ := ht'
          have h2 : lookO S.objs id = some (.mem fr2 t' c2) ∨ lookO S.objs id = some (.mfz fr2 t' c2) := h2
          dsimp only at hl
          rcases h2 with h2 | h2
          all_goals
            rw [h2] at hob
            cases hob
            dsimp only at hl
            rw [q2] at hl
            dsimp only at hl
            cases hb2 : Ty.beq u' (.arr n t) with
            | false => rw [hb2] at hl; exact hl.elim
            | true => exact Ty.beq_iff.1 hb2
        subst hu2
        refine ⟨g, n, t, q1, q2, q3, c1, c2, _, _, rfl, by omega, by omega, fun hlt => ?_⟩
        rw [if_neg (by omega), add_zero_off]
  · rename_i id ver x0 y0 _ t' heq hG
    rw [heq] at hv
    obtain ⟨hu, hp⟩ := view_inv hv
    obtain ⟨ob, hob, hl⟩ := hl
    have key : ∀ fr t rows, (ob = .sli ver fr t rows ∨ ob = .frz ver fr t rows) → t = t' → Leads K.C S.objs (cutK (y0 - x0) i j fun a b => .done (.view id ver (x0 + a) (x0 + b) cp, [])) [id] (v, u) l → Out K S used γ a w o v u base := by
      intro fr t rows hcase ht hk
      subst ht
      have ho' : lookO S.objs id = some (.sli ver fr t rows) ∨ lookO S.objs id = some (.frz ver fr t rows) := by rcases hcase with rfl | rfl <;> simp [hob]
      obtain ⟨p, q, c1, c2, c3, c4, c5⟩ := cut_spec hk
      obtain ⟨v1, v2, ad, cap, v3, v4, v5, v6, v7, _⟩ := hp t _ (isSl_of _ ver fr t rows ho')
      obtain ⟨M, m1, m2, m3⟩ := bnd_m _ q cap c4
      refine fin _ _ _ v3 (run_s t ad _ cap p q M (hT _ _ hG) (resolve_bnd h hlo hri c3) (resolve_bnd h hhi hrj c4) m1 c1 (by omega)) ?_ c5.1
      refine vrel1_of (a := .view id ver (x0 + p) (x0 + q) cp) ⟨hu, _, rfl, rfl, fun t' n' hs => ?_⟩ rfl rfl
      obtain ⟨rfl, rfl⟩ := isSl_fun (isSl_of _ ver fr t rows ho') hs
      refine ⟨by omega, by omega, _, _, by rw [show x0 + q - (x0 + p) = q - p by omega], by omega, by omega, fun hn => ?_, fun hlt => ?_, fun hc => by have := m3 hc; omega⟩
      · by_cases hc : M = p
        · omega
        · rw [if_neg hc] at hn
          cases ad with
          | none => have := v6 rfl; omega
          | some _ => cases hn
      · obtain ⟨g, m', cp, s1, s2⟩ := v7 (by omega)
        refine ⟨g, m', cp, s1, ?_⟩
        subst s2
        rw [if_neg (by omega)]
        simp only [Option.map_some, add_zero_off, Nat.add_mul]
    dsimp only at hl
    split at hl
    · rename_i ver' fr t rows
      cases hc : (Nat.beq ver' ver && Ty.beq t t') with
      | false => rw [hc] at hl; exact hl.elim
      | true =>
        rw [hc] at hl
        simp only [Bool.and_eq_true, Nat.beq_eq] at hc
        obtain ⟨rfl, h2⟩ := hc
        exact key fr t rows (.inl rfl) (Ty.beq_iff.1 h2) hl
    · rename_i ver' fr t rows
      cases hc : (Nat.beq ver' ver && Ty.beq t t') with
      | false => rw [hc] at hl; exact hl.elim
      | true =>
        rw [hc] at hl
        simp only [Bool.and_eq_true, Nat.beq_eq] at hc
        obtain ⟨rfl, h2⟩ := hc
        exact key fr t rows (.inr rfl) (Ty.beq_iff.1 h2) hl
    · exact hl.elim
  · rename_i t' heq hG
    rw [heq] at hv
    have hval : a.eval x = .slice none 0 0 := by
      obtain ⟨k1, k2⟩ := (show vrel1 _ .nils _ from hv)
      rw [cells_one k2.symm] at k1
      simpa [ARc] using k1
    obtain ⟨p, q, c1, c2, c3, c4, c5⟩ := cut_spec hl
    obtain ⟨M, m1, m2, m3⟩ := bnd_m _ q 0 c4
    obtain rfl : q = 0 := by omega
    obtain rfl : p = 0 := by omega
    obtain rfl : M = 0 := by omega
    have hr := run_s t' none 0 0 0 0 0 (hT _ _ hG) (resolve_bnd h hlo hri c3) (resolve_bnd h hhi hrj c4) m1 (Nat.le_refl _) (Nat.le_refl _)
    refine fin _ _ _ hval hr ?_ c5.1
    exact vrel1_of (a := .nils) rfl rfl rfl
  · rename_i fr n t x' m t' heq hG
    rw [heq] at hv
    cases hc : ((Nat.beq n m && Ty.beq t t') && Nat.ble n 9223372036854775807) with
    | false => rw [hc] at hl; exact hl.elim
    | true =>
      rw [hc] at hl
      simp only [Bool.and_eq_true, Nat.beq_eq] at hc
      obtain ⟨⟨rfl, ht⟩, hnm⟩ := hc
      obtain rfl := Ty.beq_iff.1 ht
      have hnm : n ≤ maxLen := by have := Nat.le_of_ble_eq_true hnm; simp only [maxLen]; omega
      simp only [cond_true] at hl
      obtain ⟨p, q, c1, c2, c3, c4, c5⟩ := cut_spec hl
      obtain ⟨ad, vs, d1, d2, d3, d4, d5, d6⟩ := rptr_inv hv
      obtain ⟨e, k1, k2⟩ := tyB_arr (hT _ _ hG)
      obtain rfl := none_m fun t ht => by rw [hG] at ht; cases ht
      have hs := run_sizeOf' w k2
      have hb := run_bounds (P := K.P) w false (resolve_bnd h hlo hri c3) (resolve_bnd h hhi hrj c4) c1 c2
      have hd : DR (envOf K S.objs used γ w).w ((envOf K S.objs used γ w).ok fr) (.slice t) [.slice (some ad) (List.length x') n] x' := by
        refine ⟨some ad, n, rfl, by omega, hnm, (by intro hn; cases hn), vs, d6, fun hne => ⟨ad, rfl, d3 ?_, d4⟩⟩
        have hl2 := RowsR.length d6
        rw [d5] at hl2
        have : vs.length ≠ 0 := by simpa using hne
        simp only [Ty.size]
        omega
      refine fin _ (.slice (if n = p then some ad else (some ad).map (·.add (p * t.size))) (q - p) (n - p)) _ d1 ?_ ?_ c5.1
      · by_cases hnp : n = p
        · simp [Instr.sliceAt, run_underlying k1, Instr.sureAddr, hb, hs]
          rw [if_pos hnp, if_pos hnp]
        · simp [Instr.sliceAt, run_underlying k1, Instr.sureAddr, hb, hs]
          rw [if_neg hnp, if_neg hnp]
      · exact vrel1_of (a := .d fr (.slice t) _) (DR.cut hd c1 (by omega) (by omega) (by omega)) rfl rfl
  · exact hl.elim
end
end Go.Pon
set_option autoImplicit false
set_option linter.unusedVariables false
namespace Go.Pon
open Go
theorem eqL_iff {α : Type} {e : α → α → Bool} : ∀ {l m : List α}, (∀ a ∈ l, ∀ b, e a b = true ↔ a = b) → (eqL e l m = true ↔ l = m)
  | [], [], _ => by simp [eqL]
  | [], _ :: _, _ => by simp [eqL]
  | _ :: _, [], _ => by simp [eqL]
  | a :: l, b :: m, h => by
    simp only [eqL, Bool.and_eq_true, List.cons.injEq]
    rw [h a (by simp), eqL_iff fun a ha => h a (by simp [ha])]
theorem eqD_iff : ∀ {t : Ty} {x y : t.den}, eqD t x y = true ↔ x = y
  | .unit, x, y => by simp [eqD]
  | .pair a b, x, y => by
    simp only [eqD, Bool.and_eq_true, eqD_iff (t := a), eqD_iff (t := b)]
    exact Prod.ext_iff.symm
  | .int _, x, y => by simp [eqD]
  | .bool, x, y => by simp [eqD]
  | .str, x, y => by simp [eqD]
  | .arr _ t, x, y => eqL_iff fun a _ b => eqD_iff (t := t)
  | .slice t, x, y => eqL_iff fun a _ b => eqD_iff (t := t)
  | .ptr, x, y => by simp [eqD]
section
variable {P : Program} {w : World}
theorem run_part' {T : TypeId} {t : Ty} (h : tyB P t T = true) {xs : Array Value} {off : Nat} {c : List Value} (hc : (xs.toList.drop off).take t.size = c) (hl : c.length = t.size) (h1 : t.agg = false → ∀ v ∈ c, isAgg' v = false) :
    ∃ v, (part T xs off).run P w = .ok v w ∧ v.cells.toList = c ∧ isAgg' v = t.agg := by
  cases hg : t.agg with
  | true =>
    refine ⟨.agg (xs.extract off (off + t.size)), ?_, ?_, rfl⟩
    · simp [part, run_isAgg' w h, hg, run_sizeOf' w h]
    · show (xs.extract off (off + t.size)).toList = c
      rw [Array.toList_extract, List.extract_eq_take_drop, ← hc]
      congr 1; omega
  | false =>
    rw [one_size hg] at hc hl
    obtain ⟨v, rfl⟩ : ∃ v, c = [v] := by
      cases c with
      | nil => simp at hl
      | cons v r => cases r with
        | nil => exact ⟨v, rfl⟩
        | cons _ _ => simp at hl
    have hv : xs[off]? = some v := by
      have h2 : ((xs.toList.drop off).take 1)[0]? = some v := by rw [hc]; rfl
      rw [List.getElem?_take] at h2
      simpa using h2
    have hna := h1 hg v (by simp)
    exact ⟨v, by simp [part, run_isAgg' w h, hg, hv], cells_one hna, hna⟩
theorem one_not_agg {v : Value} (h : v.oneCell' = true) : isAgg' v = false := by cases v <;> simp_all [Value.oneCell', isAgg']
theorem str_inj {s s' : ByteArray} : (s.data.toList.map (fun b => (b.toNat : Int))) = s'.data.toList.map (fun b => (b.toNat : Int)) ↔ s = s' := by
  constructor
  · intro h
    have : s.data.toList = s'.data.toList := by
      refine List.map_inj_right (fun a b hab => ?_) |>.1 h
      have : a.toNat = b.toNat := by omega
      exact UInt8.toNat_inj.1 this
    cases s with | mk s => cases s' with | mk s' =>
    congr 1
    exact Array.toList_inj.1 this
  · rintro rfl; rfl
def VD (w : World) (ok : Nat → Prop) (t : Ty) (v : Value) (x : t.den) : Prop := DR w ok t v.cells.toList x ∧ isAgg' v = t.agg
theorem run_eqD {ok : Nat → Prop} : ∀ (t : Ty), t.flat = true →
    (∀ (T : TypeId) (d : Nat) (vx vy : Value) (x y : t.den), tyB P t T = true → t.dep ≤ d → VD w ok t vx x → VD w ok t vy y → (Op.equalIn (d + 1) T vx vy).run P w = .ok (eqD t x y) w) ∧
    (∀ (fs : List Field) (off d : Nat) (xs ys : Array Value) (x y : t.den), fieldsB P t off fs = true → t.dep ≤ d + 1 → DR w ok t (xs.toList.drop off) x → DR w ok t (ys.toList.drop off) y →
      (Op.eqFields (d + 1) xs ys fs).run P w = .ok (eqD t x y) w)
  | .unit, _ => by
    have hf : ∀ (fs : List Field) (off d : Nat) (xs ys : Array Value) (x y : Unit), fieldsB P .unit off fs = true → (Op.eqFields (d + 1) xs ys fs).run P w = .ok true w := by
      intro fs off d xs ys x y h
      rw [fieldsB_unit h]; rfl
    refine ⟨fun T d vx vy x y h hd hx hy => ?_, fun fs off d xs ys x y h _ _ _ => hf fs off d xs ys x y h⟩
    obtain ⟨fs, h1, h2, h3⟩ := tyB_unit h
    have hfo : P.fieldsOf T = fs := by simp [Program.fieldsOf, h1]
    have hxa := hx.2
    have hya := hy.2
    cases vx <;> simp [isAgg', Ty.agg] at hxa
    cases vy <;> simp [isAgg', Ty.agg] at hya
    rename_i xs ys
    rw [run_equalIn_struct w d T xs ys (by rw [hfo]; exact h1) h3, hfo, fieldsB_unit h2]
    rfl
  | .pair a b, hfl => by
    simp only [Ty.flat, Bool.and_eq_true] at hfl
    obtain ⟨ia1, ia2⟩ := run_eqD (ok := ok) a hfl.1
    obtain ⟨ib1, ib2⟩ := run_eqD (ok := ok) b hfl.2
    have hf : ∀ (fs : List Field) (off d : Nat) (xs ys : Array Value) (x y : (Ty.pair a b).den), fieldsB P (.pair a b) off fs = true → (Ty.pair a b).dep ≤ d + 1 → DR w ok (.pair a b) (xs.toList.drop off) x → DR w ok (.pair a b) (ys.toList.drop off) y →
      (Op.eqFields (d + 1) xs ys fs).run P w = .ok (eqD (.pair a b) x y) w := by
      intro fs off d xs ys x y h hd hx hy
      obtain ⟨f, r, rfl, h1, h2, h3, h4, h5⟩ := fieldsB_pair h
      simp only [Ty.dep] at hd
      obtain ⟨vx, p1, p2, p3⟩ := run_part' (w := w) h2 (xs := xs) (off := off) rfl (DR.len hx.1) (fun hg v hv => one_not_agg (DR.one hx.1 v hv))
      obtain ⟨vy, q1, q2, q3⟩ := run_part' (w := w) h2 (xs := ys) (off := off) rfl (DR.len hy.1) (fun hg v hv => one_not_agg (DR.one hy.1 v hv))
      have e := ia1 f.type d vx vy x.1 y.1 h2 (by omega) ⟨by rw [p2]; exact hx.1, p3⟩ ⟨by rw [q2]; exact hy.1, q3⟩
      have hx2 := hx.2
      have hy2 := hy.2
      rw [List.drop_drop] at hx2 hy2
      have e2 := ib2 r (off + a.size) d xs ys x.2 y.2 h5 (by omega) hx2 hy2
      simp only [Op.eqFields, h4, ne_eq, not_false_eq_true, if_true, Sem.run_bind, h1, p1, q1, e, Result.andThen_ok, Sem.run_ite]
      cases hq : eqD a x.1 y.1
      · simp [eqD, hq]
      · simp [eqD, hq, e2]
    refine ⟨fun T d vx vy x y h hd hx hy => ?_, hf⟩
    obtain ⟨fs, h1, h2, h3⟩ := tyB_pair h
    have hfo : P.fieldsOf T = fs := by simp [Program.fieldsOf, h1]
    cases vx <;> simp [VD, isAgg', Ty.agg] at hx
    cases vy <;> simp [VD, isAgg', Ty.agg] at hy
    rename_i xs ys
    rw [run_equalIn_struct w d T xs ys (by rw [hfo]; exact h1) h3, hfo]
    have hd1 : 1 ≤ d := by simp only [Ty.dep] at hd; omega
    obtain ⟨d', rfl⟩ : ∃ d', d = d' + 1 := ⟨d - 1, by omega⟩
    exact hf fs.toList 0 d' xs ys x y h2 hd (by simpa [Value.cells] using hx) (by simpa [Value.cells] using hy)
  | .int k, _ => ⟨fun T d vx vy x y h hd hx hy => by
      have ex : vx = .int k x := by have := hx.1; rw [cells_one hx.2] at this; simpa using this.1
      have ey : vy = .int k y := by have := hy.1; rw [cells_one hy.2] at this; simpa using this.1
      rw [ex, ey, run_equalIn_int w d T k k x y (tyB_int h)]
      simp [eqD, beq_dec], fun fs off d xs ys x y h => by simp [fieldsB, tyC] at h⟩
  | .bool, _ => ⟨fun T d vx vy x y h hd hx hy => by
      have ex : vx = .bool x := by have := hx.1; rw [cells_one hx.2] at this; simpa using (show [vx] = [_] from this)
      have ey : vy = .bool y := by have := hy.1; rw [cells_one hy.2] at this; simpa using (show [vy] = [_] from this)
      rw [ex, ey, run_equalIn_bool' w d T x y (tyB_bool h)]
      rfl, fun fs off d xs ys x y h => by simp [fieldsB, tyC] at h⟩
  | .str, _ => ⟨fun T d vx vy x y h hd hx hy => by
      have h1 := hx.1; rw [cells_one hx.2] at h1
      have h2 := hy.1; rw [cells_one hy.2] at h2
      obtain ⟨s, e1, e2, _⟩ := h1
      obtain ⟨s', f1, f2, _⟩ := h2
      have e1 : vx = .string s := by simpa using e1
      have f1 : vy = .string s' := by simpa using f1
      rw [e1, f1]
      rw [run_equalIn_string w d T s s' (tyB_str h)]
      congr 1
      rw [Bool.eq_iff_iff, eqD_iff, beq_iff_eq, e2, f2, str_inj, ByteArray.toList_eq, ByteArray.toList_eq]
      constructor
      · intro h
        cases s with | mk s => cases s' with | mk s' =>
        congr 1
        exact Array.toList_inj.1 h
      · rintro rfl; rfl, fun fs off d xs ys x y h => by simp [fieldsB, tyC] at h⟩
  | .arr n t, hfl => ⟨fun T d vx vy x y h hd hx hy => by
      obtain ⟨e, h1, h2⟩ := tyB_arr h
      obtain ⟨it, _⟩ := run_eqD (ok := ok) t hfl
      obtain ⟨i, z, i1, i2, _⟩ := rowB_spec (tyB_row h2)
      simp only [Ty.dep] at hd
      obtain ⟨d', rfl⟩ : ∃ d', d = d' + 1 := ⟨d - 1, by omega⟩
      obtain ⟨hxd, hxa⟩ := hx
      obtain ⟨hyd, hya⟩ := hy
      cases vx <;> simp [isAgg', Ty.agg] at hxa
      cases vy <;> simp [isAgg', Ty.agg] at hya
      rename_i xs ys
      have hco : P.cellsOf e = t.size := by simp [Program.cellsOf, i1, i2]
      rw [run_equalIn_array w (d' + 1) xs ys h1 i1, hco]
      obtain ⟨lx, rx⟩ := hxd
      obtain ⟨ly, ry⟩ := hyd
      have key : ∀ (m : Nat) (x y : List t.den) (k : Nat), List.length x = m → List.length y = m → RowsR (DR w ok t) t.size (xs.toList.drop (k * t.size)) x → RowsR (DR w ok t) t.size (ys.toList.drop (k * t.size)) y →
          (Op.eqItems (d' + 1) e t.size xs ys (List.range' k m)).run P w = .ok (eqL (eqD t) x y) w := by
        intro m
        induction m with
        | zero => intro x y k hx hy _ _; rw [List.eq_nil_of_length_eq_zero hx, List.eq_nil_of_length_eq_zero hy]; simp [Op.eqItems, eqL]
        | succ m ih =>
          intro x y k hx hy rx ry
          cases x with
          | nil => simp at hx
          | cons x0 x =>
            cases y with
            | nil => simp at hy
            | cons y0 y =>
              obtain ⟨a1, a2, a3⟩ := rx
              obtain ⟨b1, b2, b3⟩ := ry
              obtain ⟨vx, p1, p2, p3⟩ := run_part' (w := w) h2 (xs := xs) (off := k * t.size) rfl (DR.len a2) (fun hg v hv => one_not_agg (DR.one a2 v hv))
              obtain ⟨vy, q1, q2, q3⟩ := run_part' (w := w) h2 (xs := ys) (off := k * t.size) rfl (DR.len b2) (fun hg v hv => one_not_agg (DR.one b2 v hv))
              have e1 := it e d' vx vy x0 y0 h2 (by omega) ⟨by rw [p2]; exact a2, p3⟩ ⟨by rw [q2]; exact b2, q3⟩
              rw [List.drop_drop, show k * t.size + t.size = (k + 1) * t.size by simp [Nat.add_mul]] at a3 b3
              have e2 := ih x y (k + 1) (by simpa using hx) (by simpa using hy) a3 b3
              simp only [List.range'_succ, Op.eqItems, Sem.run_bind, p1, q1, e1, Result.andThen_ok, Sem.run_ite]
              cases hq : eqD t x0 y0
              · simp [eqL, hq]
              · simp [eqL, hq, e2]
      rw [List.range_eq_range']
      exact key n x y 0 lx ly (by simpa [Value.cells] using rx) (by simpa [Value.cells] using ry), fun fs off d xs ys x y h => by simp [fieldsB, tyC] at h⟩
  | .ptr, _ => ⟨fun T d vx vy x y h hd hx hy => by
      obtain ⟨e, h1⟩ := tyB_ptr h
      have ex : vx = .pointer none := by have := hx.1; rw [cells_one hx.2] at this; simpa using (show [vx] = [_] from this)
      have ey : vy = .pointer none := by have := hy.1; rw [cells_one hy.2] at this; simpa using (show [vy] = [_] from this)
      rw [ex, ey]
      simp [Op.equalIn, run_underlying h1, eqD], fun fs off d xs ys x y h => by simp [fieldsB, tyC] at h⟩
end
end Go.Pon
set_option autoImplicit false
set_option linter.unusedVariables false
namespace Go.Pon
open Go
section
variable {P : Program} {w : World}
theorem guard_false : ∀ (t : Ty), (∀ (T : TypeId) (d : Nat), tyB P t T = true → t.dep ≤ d → P.eqGuardType d T = false) ∧
    (∀ (fs : List Field) (off d : Nat), fieldsB P t off fs = true → t.dep ≤ d + 1 → (fs.any fun f => f.name != "_" && P.eqGuardType d f.type) = false)
  | .unit => ⟨fun T d h hd => by
      obtain ⟨fs, h1, h2, _⟩ := tyB_unit h
      obtain ⟨d', rfl⟩ : ∃ d', d = d' + 1 := ⟨d - 1, by simp only [Ty.dep] at hd; omega⟩
      have := fieldsB_unit h2
      have e : fs = #[] := by cases fs; simp_all
      simp [Program.eqGuardType, h1, e], fun fs off d h _ => by rw [fieldsB_unit h]; rfl⟩
  | .pair a b => by
    obtain ⟨ia, _⟩ := guard_false a
    obtain ⟨_, ib⟩ := guard_false b
    have hf : ∀ (fs : List Field) (off d : Nat), fieldsB P (.pair a b) off fs = true → (Ty.pair a b).dep ≤ d + 1 → (fs.any fun f => f.name != "_" && P.eqGuardType d f.type) = false := by
      intro fs off d h hd
      obtain ⟨f, r, rfl, h1, h2, h3, h4, h5⟩ := fieldsB_pair h
      simp only [Ty.dep] at hd
      rw [List.any_cons, ia f.type d h2 (by omega), ib r _ d h5 (by omega)]
      simp
    refine ⟨fun T d h hd => ?_, hf⟩
    obtain ⟨fs, h1, h2, _⟩ := tyB_pair h
    obtain ⟨d', rfl⟩ : ∃ d', d = d' + 1 := ⟨d - 1, by simp only [Ty.dep] at hd; omega⟩
    have := hf fs.toList 0 d' h2 hd
    simp only [Program.eqGuardType, h1]
    rw [← Array.any_toList]
    exact this
  | .int k => ⟨fun T d h hd => by
      obtain ⟨d', rfl⟩ : ∃ d', d = d' + 1 := ⟨d - 1, by simp only [Ty.dep] at hd; omega⟩
      simp [Program.eqGuardType, tyB_int h], fun fs off d h => by simp [fieldsB, tyC] at h⟩
  | .bool => ⟨fun T d h hd => by
      obtain ⟨d', rfl⟩ : ∃ d', d = d' + 1 := ⟨d - 1, by simp only [Ty.dep] at hd; omega⟩
      simp [Program.eqGuardType, tyB_bool h], fun fs off d h => by simp [fieldsB, tyC] at h⟩
  | .str => ⟨fun T d h hd => by
      obtain ⟨d', rfl⟩ : ∃ d', d = d' + 1 := ⟨d - 1, by simp only [Ty.dep] at hd; omega⟩
      simp [Program.eqGuardType, tyB_str h], fun fs off d h => by simp [fieldsB, tyC] at h⟩
  | .arr n t => ⟨fun T d h hd => by
      obtain ⟨it, _⟩ := guard_false t
      obtain ⟨e, h1, h2⟩ := tyB_arr h
      obtain ⟨d', rfl⟩ : ∃ d', d = d' + 1 := ⟨d - 1, by simp only [Ty.dep] at hd; omega⟩
      simp only [Program.eqGuardType, h1]
      exact it e d' h2 (by simp only [Ty.dep] at hd; omega), fun fs off d h => by simp [fieldsB, tyC] at h⟩
  | .slice t => ⟨fun T d h hd => by
      obtain ⟨e, h1, h2⟩ := tyB_slice h
      obtain ⟨d', rfl⟩ : ∃ d', d = d' + 1 := ⟨d - 1, by simp only [Ty.dep] at hd; omega⟩
      simp [Program.eqGuardType, h1], fun fs off d h => by simp [fieldsB, tyC] at h⟩
  | .ptr => ⟨fun T d h hd => by
      obtain ⟨e, h1⟩ := tyB_ptr h
      obtain ⟨d', rfl⟩ : ∃ d', d = d' + 1 := ⟨d - 1, by simp only [Ty.dep] at hd; omega⟩
      simp [Program.eqGuardType, h1], fun fs off d h => by simp [fieldsB, tyC] at h⟩
theorem run_eq {ok : Nat → Prop} {t : Ty} {T : TypeId} (hT : tyB P t T = true) (hf : t.flat = true) (hd : t.dep ≤ 50) (hP : 64 ≤ P.depth) {vx vy : Value} {x y : t.den} (hx : VD w ok t vx x) (hy : VD w ok t vy y)
    (o1 o2 : Operand) :
    ((do eqGuard .eql T o1 o2 vx vy; binOp .eql T vx vy : Sem Value).run P w = .ok (.bool (eqD t x y)) w) ∧
    ((do eqGuard .neq T o1 o2 vx vy; binOp .neq T vx vy : Sem Value).run P w = .ok (.bool (!eqD t x y)) w) := by
  have hg := (guard_false (P := P) t).1 T P.depth hT (by omega)
  have he := (run_eqD (P := P) (w := w) (ok := ok) t hf).1 T 9999 vx vy x y hT (by omega) hx hy
  have hq : (Op.equal T vx vy).run P w = .ok (eqD t x y) w := he
  have agg : ∀ xs ys, vx = .agg xs → vy = .agg ys →
      ((do eqGuard .eql T o1 o2 vx vy; binOp .eql T vx vy : Sem Value).run P w = .ok (.bool (eqD t x y)) w) ∧
      ((do eqGuard .neq T o1 o2 vx vy; binOp .neq T vx vy : Sem Value).run P w = .ok (.bool (!eqD t x y)) w) := by
    rintro xs ys rfl rfl
    refine ⟨?_, ?_⟩
    · rw [Sem.run_bind, run_eqGuard_agg w _ T o1 o2 xs ys hg, Result.andThen_ok, run_eql_struct, he]; rfl
    · rw [Sem.run_bind, run_eqGuard_agg w _ T o1 o2 xs ys hg, Result.andThen_ok, run_neq_struct, he]; rfl
  cases t with
  | unit =>
    have h1 := hx.2; have h2 := hy.2
    cases vx <;> simp [isAgg', Ty.agg] at h1
    cases vy <;> simp [isAgg', Ty.agg] at h2
    exact agg _ _ rfl rfl
  | pair a b =>
    have h1 := hx.2; have h2 := hy.2
    cases vx <;> simp [isAgg', Ty.agg] at h1
    cases vy <;> simp [isAgg', Ty.agg] at h2
    exact agg _ _ rfl rfl
  | arr n t =>
    have h1 := hx.2; have h2 := hy.2
    cases vx <;> simp [isAgg', Ty.agg] at h1
    cases vy <;> simp [isAgg', Ty.agg] at h2
    exact agg _ _ rfl rfl
  | int k =>
    have ex : vx = .int k x := by have := hx.1; rw [cells_one hx.2] at this; simpa using this.1
    have ey : vy = .int k y := by have := hy.1; rw [cells_one hy.2] at this; simpa using this.1
    subst ex ey
    refine ⟨?_, ?_⟩ <;> simp [eqGuard, binOp, Op.intCmp, eqD, bne, beq_dec]
  | bool =>
    have ex : vx = .bool x := by have := hx.1; rw [cells_one hx.2] at this; simpa using (show [vx] = [_] from this)
    have ey : vy = .bool y := by have := hy.1; rw [cells_one hy.2] at this; simpa using (show [vy] = [_] from this)
    subst ex ey
    refine ⟨?_, ?_⟩ <;> simp [eqGuard, binOp, hq]
  | str =>
    have h1 := hx.1; rw [cells_one hx.2] at h1
    have h2 := hy.1; rw [cells_one hy.2] at h2
    obtain ⟨s, e1, e2, _⟩ := h1
    obtain ⟨s', f1, f2, _⟩ := h2
    have e1 : vx = .string s := by simpa using e1
    have f1 : vy = .string s' := by simpa using f1
    subst e1 f1
    have hs : (s.toList == s'.toList) = eqD .str x y := by
      rw [run_equalIn_string w 9999 T s s' (tyB_str hT)] at he
      injection he
    refine ⟨?_, ?_⟩ <;> simp [eqGuard, binOp, Op.stringOp, hs]
  | slice t => simp [Ty.flat] at hf
  | ptr =>
    have ex : vx = .pointer none := by have := hx.1; rw [cells_one hx.2] at this; simpa using (show [vx] = [_] from this)
    have ey : vy = .pointer none := by have := hy.1; rw [cells_one hy.2] at this; simpa using (show [vy] = [_] from this)
    subst ex ey
    refine ⟨?_, ?_⟩ <;> simp [eqGuard, binOp, hq]
end
section
variable {K : Konst} {S : St} {used : Id → Nat → Prop} {γ : Id → Value} {a : Act} {w : World} {o : Oper} {base : Id} {v : AV} {u : Ups} {l : List Id}
theorem ok_mono {o : Id → Option Obj} {f g : Bool} (h : g = true → f = true) (b : Nat) (hb : okOf K o γ f b) : okOf K o γ g b := ⟨hb.1, hb.2.1, fun hg => hb.2.2 (h hg)⟩
theorem asD_spec : ∀ (x : AV) (t : Ty) (f : Bool) (y : t.den) (cs : List Value), asD x t = some (f, y) → ARc (envOf K S.objs used γ w) x cs → DR w (okOf K (lookO S.objs) γ f) t cs y
  | .d fr u x, t, f, y, cs, h, hr => by
    simp only [asD, Option.map_eq_some_iff, Prod.mk.injEq] at h
    obtain ⟨z, h1, rfl, rfl⟩ := h
    obtain ⟨e, rfl⟩ := castD_some h1
    subst e
    exact hr
  | .pair p q, t, f, y, cs, h, ⟨c1, c2, h1, h2, h3⟩ => by
    cases t <;> simp only [asD, reduceCtorEq] at h
    rename_i t u
    split at h
    · rename_i f1 x1 f2 x2 e1 e2
      cases h
      have k1 := (asD_spec p t f1 x1 c1 e1 h2).mono (ok' := okOf K (lookO S.objs) γ (f1 && f2)) (fun b hb => ok_mono (by simp; intro h _; exact h) b hb)
      have k2 := (asD_spec q u f2 x2 c2 e2 h3).mono (ok' := okOf K (lookO S.objs) γ (f1 && f2)) (fun b hb => ok_mono (by simp) b hb)
      have l1 := DR.len k1
      subst h1
      refine ⟨?_, ?_⟩
      · rw [List.take_append_of_le_length (by omega), List.take_of_length_le (by omega)]; exact k1
      · rw [List.drop_append_of_le_length (by omega), List.drop_eq_nil_of_le (by omega)]; exact k2
    · cases h
  | .nils, t, f, y, cs, h, hr => by
    cases t <;> simp only [asD, reduceCtorEq] at h
    cases h
    exact ⟨none, 0, hr, Nat.le_refl _, Nat.zero_le _, fun _ => rfl, [], rfl, fun h => absurd rfl h⟩
  | .nilp, t, f, y, cs, h, hr => by
    cases t <;> simp only [asD, reduceCtorEq] at h
    cases h
    exact hr
theorem asD_agg : ∀ (x : AV) (t : Ty) (f : Bool) (y : t.den), asD x t = some (f, y) → aggA x = t.agg
  | .d fr u x, t, f, y, h => by
    simp only [asD, Option.map_eq_some_iff, Prod.mk.injEq] at h
    obtain ⟨z, h1, rfl, rfl⟩ := h
    obtain ⟨e, rfl⟩ := castD_some h1
    subst e
    rfl
  | .pair p q, t, f, y, h => by cases t <;> simp only [asD, reduceCtorEq] at h; rfl
  | .nils, t, f, y, h => by cases t <;> simp only [asD, reduceCtorEq] at h; rfl
  | .nilp, t, f, y, h => by cases t <;> simp only [asD, reduceCtorEq] at h; rfl
theorem tyIs_spec {G : Ctx} {T : TypeId} {t : Ty} (h : tyIs (G.ty T) t = true) : G.ty T = some t := by
  cases hg : G.ty T with
  | none => rw [hg] at h; cases h
  | some u => rw [hg] at h; rw [Ty.beq_iff.1 h]
theorem vrel_not {E : Env} {x : AV} {val : Value} (hn : x ≠ .any) (hu : x ≠ .un) (ht : ∀ y, x ≠ .tup y) (hv : vrel E x val) : vrel1 E x val := by
  cases x with
  | any => exact absurd rfl hn
  | un => exact absurd rfl hu
  | tup y => exact absurd rfl (ht y)
  | _ => exact hv
theorem run_equalIn_ptr {P : Program} {w : World} {T e : TypeId} (he : P.underlying T = some (.pointer e)) (d : Nat) (p : Option Addr) :
    (Op.equalIn (d + 1) T (.pointer none) (.pointer p)).run P w = .ok p.isNone w ∧ (Op.equalIn (d + 1) T (.pointer p) (.pointer none)).run P w = .ok p.isNone w := by
  cases p <;> simp [Op.equalIn, run_underlying he]
theorem run_eq_ptr {P : Program} {w : World} {T e : TypeId} (he : P.underlying T = some (.pointer e)) (p : Option Addr) (o1 o2 : Operand) :
    (((do eqGuard .eql T o1 o2 (.pointer none) (.pointer p); binOp .eql T (.pointer none) (.pointer p) : Sem Value).run P w = .ok (.bool p.isNone) w) ∧
    ((do eqGuard .neq T o1 o2 (.pointer none) (.pointer p); binOp .neq T (.pointer none) (.pointer p) : Sem Value).run P w = .ok (.bool (!p.isNone)) w)) ∧
    (((do eqGuard .eql T o1 o2 (.pointer p) (.pointer none); binOp .eql T (.pointer p) (.pointer none) : Sem Value).run P w = .ok (.bool p.isNone) w) ∧
    ((do eqGuard .neq T o1 o2 (.pointer p) (.pointer none); binOp .neq T (.pointer p) (.pointer none) : Sem Value).run P w = .ok (.bool (!p.isNone)) w)) := by
  have h1 : (Op.equal T (.pointer none) (.pointer p)).run P w = .ok p.isNone w := (run_equalIn_ptr he 9999 p).1
  have h2 : (Op.equal T (.pointer p) (.pointer none)).run P w = .ok p.isNone w := (run_equalIn_ptr he 9999 p).2
  refine ⟨⟨?_, ?_⟩, ?_, ?_⟩ <;> simp [eqGuard, binOp, h1, h2]
theorem eqK_out (h : Rel K S used γ a w) {T : TypeId} {x y : AV} {vx vy : Value} (hT : ∀ T t, K.G.ty T = some t → tyB K.P t T = true) (hP : 64 ≤ K.P.depth)
    (hx : vrel (envOf K S.objs used γ w) x vx) (hy : vrel (envOf K S.objs used γ w) y vy) {k : Bool → OpV} {l0 : List Id}
    (hl : Leads K.C S.objs (eqK (K.G.ty T) x y k) l0 (v, u) l) (o1 o2 : Operand) (hc1 : ∀ z, o1 = .const z → True) (hc : (o1 matches .const _) = true ∨ (o2 matches .const _) = true ∨ True) :
    ∃ b l1, Leads K.C S.objs (k b) l1 (v, u) l ∧
      ((do eqGuard .eql T o1 o2 vx vy; binOp .eql T vx vy : Sem Value).run K.P w = .ok (.bool b) w) ∧
      ((do eqGuard .neq T o1 o2 vx vy; binOp .neq T vx vy : Sem Value).run K.P w = .ok (.bool (!b)) w) := by
  unfold eqK at hl
  split at hl
  · cases hc : tyIs (K.G.ty T) .ptr with
    | false => rw [hc] at hl; exact hl.elim
    | true =>
      rw [hc] at hl
      obtain ⟨e, he⟩ := tyB_ptr (hT T _ (tyIs_spec hc))
      have ex : vx = .pointer none := by have := (one_vrel (x := .nilp) rfl (by simp) (by simp) (by simp) hx).1; simpa using (show [vx] = [_] from this)
      have ey : vy = .pointer none := by have := (one_vrel (x := .nilp) rfl (by simp) (by simp) (by simp) hy).1; simpa using (show [vy] = [_] from this)
      subst ex ey
      exact ⟨true, _, hl, (run_eq_ptr he none o1 o2).1.1, (run_eq_ptr he none o1 o2).1.2⟩
  · rename_i id p
    cases hc : tyIs (K.G.ty T) .ptr with
    | false => rw [hc] at hl; exact hl.elim
    | true =>
      rw [hc] at hl
      obtain ⟨e, he⟩ := tyB_ptr (hT T _ (tyIs_spec hc))
      obtain ⟨_, hp⟩ := ptr_inv hx
      have ey : vy = .pointer none := by have := (one_vrel (x := .nilp) rfl (by simp) (by simp) (by simp) hy).1; simpa using (show [vy] = [_] from this)
      obtain ⟨ob, hob, hl⟩ := hl
      have hm : ∃ t, isMm (lookO S.objs id) t ∧ Leads K.C S.objs (k false) (id :: l0) (v, u) l := by
        dsimp only at hl
        split at hl
        · exact ⟨_, ⟨_, _, .inl hob⟩, hl⟩
        · exact ⟨_, ⟨_, _, .inr hob⟩, hl⟩
        · exact hl.elim
      obtain ⟨t, hm, hl⟩ := hm
      obtain ⟨g, u', _, _, _, ex⟩ := hp t hm
      subst ex ey
      exact ⟨false, _, hl, (run_eq_ptr he (some _) o1 o2).2.1, (run_eq_ptr he (some _) o1 o2).2.2⟩
  · rename_i id p
    cases hc : tyIs (K.G.ty T) .ptr with
    | false => rw [hc] at hl; exact hl.elim
    | true =>
      rw [hc] at hl
      obtain ⟨e, he⟩ := tyB_ptr (hT T _ (tyIs_spec hc))
      obtain ⟨_, hp⟩ := ptr_inv hy
      have ex : vx = .pointer none := by have := (one_vrel (x := .nilp) rfl (by simp) (by simp) (by simp) hx).1; simpa using (show [vx] = [_] from this)
      obtain ⟨ob, hob, hl⟩ := hl
      have hm : ∃ t, isMm (lookO S.objs id) t ∧ Leads K.C S.objs (k false) (id :: l0) (v, u) l := by
        dsimp only at hl
        split at hl
        · exact ⟨_, ⟨_, _, .inl hob⟩, hl⟩
        · exact ⟨_, ⟨_, _, .inr hob⟩, hl⟩
        · exact hl.elim
      obtain ⟨t, hm, hl⟩ := hm
      obtain ⟨g, u', _, _, _, ey⟩ := hp t hm
      subst ex ey
      exact ⟨false, _, hl, (run_eq_ptr he (some _) o1 o2).1.1, (run_eq_ptr he (some _) o1 o2).1.2⟩
  · rename_i fr t x'
    split at hl
    · rename_i f z hz
      cases hc : (t.flat && tyIs (K.G.ty T) t && Nat.ble t.dep 50) with
      | false => rw [hc] at hz; cases hz
      | true =>
        rw [hc] at hz
        simp only [Bool.and_eq_true] at hc
        obtain ⟨⟨hf, ht⟩, hd⟩ := hc
        have hx1 : vrel1 (envOf K S.objs used γ w) (.d fr t x') vx := hx
        have hy1 : vrel1 (envOf K S.objs used γ w) y vy := by
          refine vrel_not ?_ ?_ ?_ hy
          · rintro rfl; simp [asD] at hz
          · rintro rfl; simp [asD] at hz
          · rintro q rfl; simp [asD] at hz
        have vx' : VD w (fun _ => True) t vx x' := ⟨DR.flat hf hx1.1, hx1.2.symm⟩
        have vy' : VD w (fun _ => True) t vy z := ⟨DR.flat hf (asD_spec y t f z _ hz hy1.1), by rw [← hy1.2]; exact asD_agg y t f z hz⟩
        obtain ⟨r1, r2⟩ := run_eq (P := K.P) (w := w) (hT T _ (tyIs_spec ht)) hf (Nat.le_of_ble_eq_true hd) hP vx' vy' o1 o2
        exact ⟨_, _, hl, r1, r2⟩
    · exact hl.elim
  · exact hl.elim
theorem slA_spec {E : Env} {x : AV} {val : Value} (hs : slA x = true) (hv : vrel E x val) : ∃ a l c, val = .slice a l c ∧ (nilsB x = true → val = .slice none 0 0) ∧ (emptyB x = false → a.isNone = false) := by
  cases x with
  | d fr t y =>
    cases t with
    | slice t =>
      obtain ⟨ad, cap, d1, d2, d3, d4, _⟩ := d_one (t := .slice t) rfl hv
      refine ⟨ad, _, cap, by simpa using d1, (fun h => by cases h), fun h => ?_⟩
      cases ad with
      | some _ => rfl
      | none =>
        have := d4 rfl
        simp only [emptyB, decide_eq_false_iff_not] at h
        omega
    | _ => cases hs
  | nils =>
    obtain ⟨k1, k2⟩ := (show vrel1 E .nils val from hv)
    rw [cells_one k2.symm] at k1
    have : val = .slice none 0 0 := by simpa [ARc] using k1
    exact ⟨none, 0, 0, this, fun _ => this, fun h => by cases h⟩
  | _ => cases hs
theorem run_equalIn_nils {P : Program} {w : World} {T e : TypeId} (he : P.underlying T = some (.slice e)) (d : Nat) (a : Option Addr) (l c : Nat) :
    (Op.equalIn (d + 1) T (.slice none 0 0) (.slice a l c)).run P w = .ok a.isNone w ∧ (Op.equalIn (d + 1) T (.slice a l c) (.slice none 0 0)).run P w = .ok a.isNone w := by
  cases a <;> simp [Op.equalIn, run_underlying he]
theorem run_eq_nils {P : Program} {w : World} {T e : TypeId} (he : P.underlying T = some (.slice e)) (a : Option Addr) (l c : Nat) (o1 o2 : Operand) :
    (((do eqGuard .eql T o1 o2 (.slice none 0 0) (.slice a l c); binOp .eql T (.slice none 0 0) (.slice a l c) : Sem Value).run P w = .ok (.bool a.isNone) w) ∧
    ((do eqGuard .neq T o1 o2 (.slice none 0 0) (.slice a l c); binOp .neq T (.slice none 0 0) (.slice a l c) : Sem Value).run P w = .ok (.bool (!a.isNone)) w)) ∧
    (((do eqGuard .eql T o1 o2 (.slice a l c) (.slice none 0 0); binOp .eql T (.slice a l c) (.slice none 0 0) : Sem Value).run P w = .ok (.bool a.isNone) w) ∧
    ((do eqGuard .neq T o1 o2 (.slice a l c) (.slice none 0 0); binOp .neq T (.slice a l c) (.slice none 0 0) : Sem Value).run P w = .ok (.bool (!a.isNone)) w)) := by
  have h1 : (Op.equal T (.slice none 0 0) (.slice a l c)).run P w = .ok a.isNone w := (run_equalIn_nils he 9999 a l c).1
  have h2 : (Op.equal T (.slice a l c) (.slice none 0 0)).run P w = .ok a.isNone w := (run_equalIn_nils he 9999 a l c).2
  refine ⟨⟨?_, ?_⟩, ?_, ?_⟩ <;> simp [eqGuard, binOp, h1, h2]
theorem nilCmp_out (h : Rel K S used γ a w) {T : TypeId} {x y : AV} {vx vy : Value} (hT : ∀ T t, K.G.ty T = some t → tyB K.P t T = true) (hc : nilCmp (K.G.ty T) x y = true)
    (hx : vrel (envOf K S.objs used γ w) x vx) (hy : vrel (envOf K S.objs used γ w) y vy) (o1 o2 : Operand) :
    ∃ b, (emptyOf x y = false → b = false) ∧ ((do eqGuard .eql T o1 o2 vx vy; binOp .eql T vx vy : Sem Value).run K.P w = .ok (.bool b) w) ∧ ((do eqGuard .neq T o1 o2 vx vy; binOp .neq T vx vy : Sem Value).run K.P w = .ok (.bool (!b)) w) := by
  simp only [nilCmp, Bool.and_eq_true, Bool.or_eq_true] at hc
  obtain ⟨⟨⟨h1, h2⟩, h3⟩, h4⟩ := hc
  have ht : ∃ e, K.P.underlying T = some (.slice e) := by
    unfold isSlTy at h1
    split at h1
    · rename_i t hg
      obtain ⟨e, he, _⟩ := tyB_slice (hT T _ hg)
      exact ⟨e, he⟩
    · cases h1
  obtain ⟨e, he⟩ := ht
  obtain ⟨a1, l1, c1, e1, n1, m1⟩ := slA_spec h2 hx
  obtain ⟨a2, l2, c2, e2, n2, m2⟩ := slA_spec h3 hy
  rcases h4 with h4 | h4
  · rw [n1 h4, e2]
    refine ⟨_, fun he => m2 ?_, (run_eq_nils he a2 l2 c2 o1 o2).1⟩
    cases x <;> first | exact he | cases h4
  · rw [n2 h4, e1]
    refine ⟨_, fun he => m1 ?_, (run_eq_nils he a1 l1 c1 o1 o2).2⟩
    cases y with
    | nils => cases x <;> first | exact he | cases he
    | _ => cases h4
theorem ub_rel (E : Env) {e r : Bool} (b : Bool) (h : e = false → b = r) : vrel E (.ub e r) (.bool b) := vrel1_of (a := .ub e r) ⟨b, rfl, h⟩ rfl rfl
theorem addS_out {E : Env} {P : Program} {w : World} {fx fy : Bool} {x y : List Int} {vx vy : Value} (hx : vrel1 E (.d fx .str x) vx) (hy : vrel1 E (.d fy .str y) vy) (hl : List.length x + List.length y ≤ 9223372036854775807) (T : TypeId) (o1 o2 : Operand) :
    ∃ val, (do eqGuard .add T o1 o2 vx vy; binOp .add T vx vy : Sem Value).run P w = .ok val w ∧ vrel E (.d true .str (List.append x y)) val := by
  obtain ⟨x1, x2⟩ := hx
  obtain ⟨y1, y2⟩ := hy
  rw [cells_one x2.symm] at x1
  rw [cells_one y2.symm] at y1
  obtain ⟨s, sx, ex, lx⟩ := x1
  obtain ⟨r, ry, ey, ly⟩ := y1
  have sx : vx = .string s := by simpa using sx
  have ry : vy = .string r := by simpa using ry
  subst sx ry
  have e1 : s.size = List.length x := by rw [ex, List.length_map, Array.length_toList]; rfl
  have e2 : r.size = List.length y := by rw [ey, List.length_map, Array.length_toList]; rfl
  have hmax : ¬ (((s.size + r.size : Nat) : Int) > IntKind.i64.max) := by
    simp only [IntKind.max, IntKind.signed, IntKind.bits]; simp; omega
  refine ⟨.string (s ++ r), ?_, vrel1_of (a := .d true .str (List.append x y)) ⟨s ++ r, rfl, ?_, ?_⟩ rfl rfl⟩
  · simp [eqGuard, binOp, Op.stringOp]
    omega
  · rw [ex, ey, ByteArray.data_append]
    simp
  · have : (s ++ r).size = s.size + r.size := ByteArray.size_append
    have hm : maxLen = 9223372036854775807 := by decide
    rw [this, e1, e2, hm]; omega
theorem binK_out (h : Rel K S used γ a w) {op : BinOp} {T T' : TypeId} {x y : Operand} (ho : o.op = .binOp op T x y T') (hx : constOK x = true) (hy : constOK y = true)
    (hT : ∀ T t, K.G.ty T = some t → tyB K.P t T = true) (hP : 64 ≤ K.P.depth)
    (hl : Leads K.C S.objs (binK op (K.G.ty T) (S.eval x) (S.eval y)) [] (v, u) l) : Out K S used γ a w o v u base := by
  have hvx := eval_rel h x hx
  have hvy := eval_rel h y hy
  have fin : Pure (envOf K S.objs used γ w) v u (do eqGuard op T x y (a.eval x) (a.eval y); binOp op T (a.eval x) (a.eval y)) K.P w → Out K S used γ a w o v u base := by
    rintro ⟨rfl, val, h1, h2⟩
    exact Out.pure h (by simp only [execOp, ho, Sem.run_bind] at *; rw [h1]; rfl) h2
  unfold binK at hl
  split at hl
  · rename_i k n k' n' e1 e2
    obtain ⟨f1, g1⟩ := asInt_spec e1 hvx
    obtain ⟨f2, g2⟩ := asInt_spec e2 hvy
    rw [f1, f2] at fin
    cases hs : isShift op with
    | true =>
      rw [hs] at hl
      obtain ⟨u0, val, p1, p2⟩ := shiftOp_pure (envOf K S.objs used γ w) (k' := k') T g1 hs hl (P := K.P) (w := w)
      exact fin ⟨u0, val, by rw [Sem.run_bind, eqGuard_int]; exact p1, p2⟩
    | false =>
      rw [hs] at hl
      cases hk : kEq k k' with
      | false => rw [hk] at hl; exact hl.elim
      | true =>
        rw [hk] at hl
        have := kEq_iff.1 hk
        subst this
        obtain ⟨u0, val, p1, p2⟩ := intOp_pure (envOf K S.objs used γ w) T g1 g2 hs hl (P := K.P) (w := w)
        exact fin ⟨u0, val, by rw [Sem.run_bind, eqGuard_int]; exact p1, p2⟩
  · split at hl
    · cases hc : nilCmp (K.G.ty T) (S.eval x) (S.eval y) with
      | true =>
        rw [hc] at hl
        obtain ⟨e, _⟩ := hl
        cases e
        obtain ⟨b, h1, h2, h3⟩ := nilCmp_out h hT hc hvx hvy x y
        exact fin ⟨rfl, _, h2, ub_rel _ _ h1⟩
      | false =>
        rw [hc] at hl
        simp only [cond_false] at hl
        obtain ⟨b, l1, h1, h2, h3⟩ := eqK_out h hT hP hvx hvy hl x y (fun _ _ => trivial) (.inr (.inr trivial))
        obtain ⟨e, _⟩ := h1
        cases e
        exact fin ⟨rfl, _, h2, mkBool_rel _ b⟩
    · cases hc : nilCmp (K.G.ty T) (S.eval x) (S.eval y) with
      | true =>
        rw [hc] at hl
        obtain ⟨e, _⟩ := hl
        cases e
        obtain ⟨b, h1, h2, h3⟩ := nilCmp_out h hT hc hvx hvy x y
        exact fin ⟨rfl, _, h3, ub_rel _ _ fun he => by rw [h1 he]; rfl⟩
      | false =>
        rw [hc] at hl
        simp only [cond_false] at hl
        obtain ⟨b, l1, h1, h2, h3⟩ := eqK_out h hT hP hvx hvy hl x y (fun _ _ => trivial) (.inr (.inr trivial))
        obtain ⟨e, _⟩ := h1
        cases e
        exact fin ⟨rfl, _, h3, mkBool_rel _ (!b)⟩
    · unfold addS at hl
      split at hl
      · rename_i fx x' fy y' e1 e2
        obtain ⟨hle, hl⟩ := leads_chk hl
        obtain ⟨e, _⟩ := hl
        cases e
        rw [e1] at hvx
        rw [e2] at hvy
        obtain ⟨val, q1, q2⟩ := addS_out (P := K.P) (w := w) hvx hvy (of_decide_eq_true hle) T x y
        exact fin ⟨rfl, val, q1, q2⟩
      · exact hl.elim
    · exact hl.elim
end
end Go.Pon
set_option autoImplicit false
set_option linter.unusedVariables false
namespace Go.Pon
open Go
section
variable {K : Konst} {S : St} {used : Id → Nat → Prop} {γ : Id → Value} {a : Act} {w : World} {o : Oper} {base : Id} {v : AV} {u : Ups} {l : List Id}
theorem move_out (h : Rel K S used γ a w) {x : Operand} (ho : o.op = .move x ∨ o.op = .assign x) (hx : constOK x = true) : Out K S used γ a w o (S.eval x) [] base :=
  Out.pure h (by rcases ho with ho | ho <;> simp [execOp, ho]) (eval_rel h x hx)
theorem pick_out (h : Rel K S used γ a w) {c x y : Operand} {q : Bool} (ho : o.op = .pick c x y) (hc : constOK c = true) (hx : constOK x = true) (hy : constOK y = true) (hq : asBool (S.eval c) = some q)
    (hl : Leads K.C S.objs (.br q (.done (S.eval x, [])) (.done (S.eval y, []))) [] (v, u) l) : Out K S used γ a w o v u base := by
  have e := asBool_spec hq (eval_rel h c hc)
  rcases hl with ⟨rfl, e1, _⟩ | ⟨rfl, e1, _⟩
  · cases e1
    exact Out.pure h (by simp [execOp, ho, e, Go.asBool]) (eval_rel h x hx)
  · cases e1
    exact Out.pure h (by simp [execOp, ho, e, Go.asBool]) (eval_rel h y hy)
theorem unOp_out (h : Rel K S used γ a w) {op : UnOp} {T : TypeId} {x : Operand} (ho : o.op = .unOp op T x) (hx : constOK x = true)
    (hl : Leads K.C S.objs (unK op (S.eval x)) [] (v, u) l) : Out K S used γ a w o v u base := by
  obtain ⟨rfl, val, h1, h2⟩ := unK_pure (P := K.P) (w := w) (envOf K S.objs used γ w) (eval_rel h x hx) hl
  exact Out.pure h (by simp only [execOp, ho, Sem.run_bind, h1, Result.andThen_ok, Sem.run_pure]) h2
theorem alive_mm (h : Rel K S used γ a w) {id : Id} {k : OpV} {l0 : List Id} (hl : Leads K.C S.objs (alive id k) l0 (v, u) l) : ∃ t, isMm (lookO S.objs id) t ∧ Leads K.C S.objs k (id :: l0) (v, u) l := by
  obtain ⟨ob, hob, hl⟩ := hl
  dsimp only at hl
  split at hl
  · exact ⟨_, ⟨_, _, .inl hob⟩, hl⟩
  · exact ⟨_, ⟨_, _, .inr hob⟩, hl⟩
  · exact hl.elim
theorem nilCheck_out (h : Rel K S used γ a w) {x : Operand} (ho : o.op = .nilCheck x) (hx : constOK x = true) {ad : Addr} (hp : a.eval x = .pointer (some ad)) : Out K S used γ a w o (S.eval x) [] base :=
  Out.pure h (by simp [execOp, ho, hp]) (eval_rel h x hx)
theorem extract_out (h : Rel K S used γ a w) {x : Operand} {n : Nat} {t y : AV} (ho : o.op = .extract x n) (hx : constOK x = true) (ht : S.eval x = .tup t) (hy : nthA t n = some y) : Out K S used γ a w o y [] base := by
  have hv := eval_rel h x hx
  rw [ht] at hv
  obtain ⟨vs, h1, h2⟩ := hv
  have key : ∀ (t : AV) (n : Nat) (vs : List Value), nthA t n = some y → ARt (envOf K S.objs used γ w) t vs → ∃ v, vs[n]? = some v ∧ vrel1 (envOf K S.objs used γ w) y v := by
    intro t
    induction t with
    | pair p q ihp ihq =>
      intro n vs hn hr
      cases vs with
      | nil => exact hr.elim
      | cons v0 vs =>
        cases n with
        | zero => cases hn; exact ⟨v0, rfl, hr.1⟩
        | succ n => obtain ⟨v, k1, k2⟩ := ihq n vs hn hr.2; exact ⟨v, by simpa using k1, k2⟩
    | _ => intro n vs hn; cases n <;> cases hn
  obtain ⟨v, k1, k2⟩ := key t n vs.toList hy h2
  refine Out.pure h (val := v) ?_ ?_
  · have : vs[n]? = some v := by simpa using k1
    simp [execOp, ho, h1, Instr.extract, this]
  · cases y with
    | any => trivial
    | un => exact k2.1.elim
    | tup z => exact k2.1.elim
    | _ => exact k2
theorem field_out (h : Rel K S used γ a w) {T : TypeId} {x : Operand} {n : Nat} {t : Ty} {y : AV} (ho : o.op = .field T x n) (hx : constOK x = true) (hT : tyB K.P t T = true)
    (hy : navA (S.eval x) [n] = some y) (hf : fitsA t (S.eval x) = true) (hn : hasField t n = true) : Out K S used γ a w o y [] base := by
  obtain ⟨f1, f2⟩ := fits_vrel hf (eval_rel h x hx)
  obtain ⟨fs, k1, k2⟩ := struct_of hT hn
  obtain ⟨f, uT, q1, q2, q3, q4, q5, q6⟩ := field_spec t 0 fs.toList n k2 hn
  obtain ⟨n1, n2, n3⟩ := navA_spec (S.eval x) t [n] uT _ hf q3 q6 f1 y hy
  have hagg : t.agg = true := by cases t <;> first | rfl | (cases n <;> simp [hasField] at hn)
  rw [hagg] at f2
  obtain ⟨cs, hcs⟩ : ∃ cs, a.eval x = .agg cs := by cases hv : a.eval x <;> simp [hv, isAgg'] at f2; exact ⟨_, rfl⟩
  have q1 : fs[n]? = some f := by simpa using q1
  have q2 : f.offset = offT t [n] := by omega
  rw [hcs] at n2
  have n2' : ARc (envOf K S.objs used γ w) y (List.take uT.size (List.drop (offT t [n]) cs.toList)) := n2
  obtain ⟨val, p1, p2, p3⟩ := run_part' (w := w) q4 (xs := cs) (off := f.offset) (c := List.take uT.size (List.drop (offT t [n]) cs.toList)) (by rw [q2]) (fits_len n1 n2')
    (fun hg v hv => one_not_agg (fits_one n1 n2' v hv))
  exact Out.pure h (by simp [execOp, ho, hcs, Instr.field, run_underlying k1, q1, asAgg, p1]) (vrel_fits n1 (by rw [p2]; exact n2') p3)
theorem index_arr_out (h : Rel K S used γ a w) {T : TypeId} {x y : Operand} {n : Int} {k : IntKind} {fr : Bool} {m : Nat} {t : Ty} {xs : List t.den} (ho : o.op = .index T x y) (hx : constOK x = true)
    (hT : tyB K.P (.arr m t) T = true) (hy : a.eval y = .int k n) (he : S.eval x = .d fr (.arr m t) xs) (hi : inR n m = true) : Out K S used γ a w o (.d fr t (List.getD xs n.toNat t.zero)) [] base := by
  have hv := eval_rel h x hx
  rw [he] at hv
  obtain ⟨⟨l1, r1⟩, h2⟩ := (show vrel1 _ (.d fr (.arr m t) xs) _ from hv)
  obtain ⟨i0, i1, i2⟩ := inR_spec hi
  obtain ⟨e, k1, k2⟩ := tyB_arr hT
  obtain ⟨cs, hcs⟩ : ∃ cs, a.eval x = .agg cs := by cases hv : a.eval x <;> simp [hv, isAgg', aggA, Ty.agg] at h2; exact ⟨_, rfl⟩
  rw [hcs] at r1
  have hlt : n.toNat < List.length xs := by omega
  have hrow := r1.get n.toNat hlt
  have hs := run_sizeOf' w k2
  rw [getD_lt hlt]
  obtain ⟨val, p1, p2, p3⟩ := run_part' (w := w) k2 (xs := cs) (off := n.toNat * t.size) rfl (DR.len hrow) (fun hg v hv => one_not_agg (DR.one hrow v hv))
  exact Out.pure h (by simp [execOp, ho, hcs, hy, Instr.index, asIntOf, run_underlying k1, i0, i1, hs, p1]) ⟨by rw [p2]; exact hrow, p3.symm⟩
theorem index_str_out (h : Rel K S used γ a w) {T : TypeId} {x y : Operand} {n : Int} {k : IntKind} {fr : Bool} {xs : List Int} (ho : o.op = .index T x y) (hx : constOK x = true)
    (hT : tyB K.P .str T = true) (hy : a.eval y = .int k n) (he : S.eval x = .d fr .str xs) (hi : inR n (List.length xs) = true) : Out K S used γ a w o (mkInt .u8 (List.getD xs n.toNat 0)) [] base := by
  have hv := eval_rel h x hx
  rw [he] at hv
  obtain ⟨s, d1, d2, d3⟩ := d_one (t := .str) rfl hv
  have d1 : a.eval x = .string s := by simpa using d1
  obtain ⟨i0, i1, i2⟩ := inR_spec hi
  have hlt : n.toNat < s.size := by
    rw [d2, List.length_map] at i2
    exact i2
  have hb : s[n.toNat]? = some s[n.toNat] := by simp [hlt]
  have hg : List.getD xs n.toNat 0 = (s[n.toNat].toNat : Int) := by
    rw [d2, List.getD, List.getElem?_map]
    have : s.data.toList[n.toNat]? = some s[n.toNat] := by
      rw [Array.getElem?_toList, Array.getElem?_eq_getElem (by exact hlt)]
      rfl
    rw [this]; rfl
  refine Out.pure h (val := .int .u8 (s[n.toNat].toNat : Int)) (by simp [execOp, ho, d1, hy, Instr.index, asIntOf, run_underlying (tyB_str hT), i0, hb]) ?_
  rw [hg]
  exact mkInt_rel _ (by
    have := s[n.toNat].toNat_lt
    simp only [inK, IntKind.min, IntKind.max, IntKind.signed, IntKind.bits]
    simp
    omega)
theorem conv_int_out (h : Rel K S used γ a w) {T T' : TypeId} {x : Operand} {k k' : IntKind} {n : Int} {fr : Bool} (ho : o.op = .convert T T' x) (hx : constOK x = true) {k0 : IntKind} (h1 : tyB K.P (.int k0) T = true) (h2 : tyB K.P (.int k) T' = true)
    (he : S.eval x = .d fr (.int k') n) : Out K S used γ a w o (mkInt k (k.wrap n)) [] base := by
  have hv := eval_rel h x hx
  rw [he] at hv
  obtain ⟨e, _⟩ := int_rel hv
  exact Out.pure h (by simp [execOp, ho, e, convert, run_underlying (tyB_int h1), run_underlying (tyB_int h2), Conv.intToInt]) (mkInt_rel _ (wrap_in _ _))
end
end Go.Pon
set_option autoImplicit false
set_option linter.unusedVariables false
namespace Go.Pon
open Go
theorem memI_iff {l : List Id} {id : Id} : memI l id = true ↔ id ∈ l := by
  induction l with
  | nil => simp [memI]
  | cons a l ih => simp only [memI, Bool.or_eq_true, idE_iff, ih, List.mem_cons]; exact or_congr_left eq_comm
def lent (c : Cl) (id : Id) : Prop := id ∈ c.br ∨ ∃ o, (id, some o) ∈ c.ups
def movedL : Ups → List Id
  | [] => []
  | (i, none) :: r => i :: movedL r
  | (_, some _) :: r => movedL r
theorem mem_moved {u : Ups} {id : Id} : id ∈ movedL u ↔ (id, none) ∈ u := by
  induction u with
  | nil => simp [movedL]
  | cons p u ih =>
    obtain ⟨i, o⟩ := p
    cases o with
    | none => simp [movedL, ih]
    | some o => simp [movedL, ih]
theorem taken_iff {u : Ups} {id : Id} : taken u id = true ↔ ∃ o, (id, o) ∈ u := by
  induction u with
  | nil => simp [taken]
  | cons p u ih =>
    simp only [taken, Bool.or_eq_true, idE_iff, ih, List.mem_cons]
    constructor
    · rintro (rfl | ⟨o, h⟩)
      · exact ⟨p.2, .inl rfl⟩
      · exact ⟨o, .inr h⟩
    · rintro ⟨o, rfl | h⟩
      · exact .inl rfl
      · exact .inr ⟨o, h⟩
theorem gone_iff : ∀ {u : Ups} {id : Id}, gone u id = true ↔ (id, none) ∈ u
  | [], id => by simp [gone]
  | (i, none) :: r, id => by
    simp only [gone, Bool.or_eq_true, idE_iff, gone_iff (u := r), List.mem_cons, Prod.mk.injEq, and_true]
    exact or_congr_left eq_comm
  | (i, some o) :: r, id => by
    simp [gone, gone_iff (u := r)]
structure Ext (c c' : Cl) : Prop where
  ups : ∃ d, c'.ups = d ++ c.ups
  br : ∃ d, c'.br = d ++ c.br
theorem Ext.refl (c : Cl) : Ext c c := ⟨⟨[], rfl⟩, ⟨[], rfl⟩⟩
theorem Ext.trans {a b c : Cl} (h : Ext a b) (k : Ext b c) : Ext a c := by
  obtain ⟨⟨d, h1⟩, ⟨e, h2⟩⟩ := h
  obtain ⟨⟨d', k1⟩, ⟨e', k2⟩⟩ := k
  exact ⟨⟨d' ++ d, by rw [k1, h1, List.append_assoc]⟩, ⟨e' ++ e, by rw [k2, h2, List.append_assoc]⟩⟩
theorem Ext.lent {c c' : Cl} (h : Ext c c') {id : Id} (hl : lent c id) : lent c' id := by
  obtain ⟨⟨d, h1⟩, ⟨e, h2⟩⟩ := h
  rcases hl with hl | ⟨o, hl⟩
  · exact .inl (by rw [h2]; exact List.mem_append_right _ hl)
  · exact .inr ⟨o, by rw [h1]; exact List.mem_append_right _ hl⟩
section
variable {K : Konst} {S : St} {used : Id → Nat → Prop} {γ : Id → Value} {a : Act} {w : World}
def okL (K : Konst) (S : St) (γ : Id → Value) (c : Cl) (fr : Bool) (b : Nat) : Prop :=
  (∀ id, liveBlk (lookO S.objs id) (γ id) = some b → lent c id) ∧ ¬ K.B b ∧ (fr = true → K.base ≤ b)
theorem okL_mono {c c' : Cl} {f g : Bool} (h : Ext c c') (hf : g = true → f = true) (b : Nat) (hb : okL K S γ c f b) : okL K S γ c' g b :=
  ⟨fun id hid => h.lent (hb.1 id hid), hb.2.1, fun hg => hb.2.2 (hf hg)⟩
theorem okL_of {c : Cl} {f g : Bool} (hf : g = true → f = true) (b : Nat) (hb : okOf K (lookO S.objs) γ f b) : okL K S γ c g b :=
  ⟨fun id hid => absurd hid (hb.1 id), hb.2.1, fun hg => hb.2.2 (hf hg)⟩
structure CInv (S : St) (frz : Bool) (c : Cl) : Prop where
  moved : ∀ id, (id, none) ∈ c.ups → (∃ ver fr t rows, lookO S.objs id = some (.sli ver fr t rows)) ∨ ∃ fr t m, lookO S.objs id = some (.mem fr t m)
  apart : ∀ id, (id, none) ∈ c.ups → ¬ lent c id
  nodup : (movedL c.ups).Nodup
  frozen : ∀ id o, (id, some o) ∈ c.ups → frz = true ∧ ((∃ ver fr t rows, lookO S.objs id = some (.sli ver fr t rows) ∧ o = .frz ver fr t rows) ∨ ∃ fr t m, lookO S.objs id = some (.mem fr t m) ∧ o = .mfz fr t m)
  borrow : frz = true → c.br = []
theorem CInv.start (S : St) (frz : Bool) : CInv S frz ⟨[], []⟩ :=
  ⟨fun _ h => by simp at h, fun _ h => by simp at h, List.nodup_nil, fun _ _ h => by simp at h, fun _ => rfl⟩
theorem CInv.lend {frz : Bool} {c : Cl} (h : CInv S frz c) {id : Id} {o : Obj} (hg : ¬ (id, none) ∈ c.ups)
    (ho : (∃ ver fr t rows, lookO S.objs id = some (.sli ver fr t rows) ∧ o = .frz ver fr t rows) ∨ ∃ fr t m, lookO S.objs id = some (.mem fr t m) ∧ o = .mfz fr t m) :
    CInv S frz (c.lend frz id o) ∧ Ext c (c.lend frz id o) ∧ movedL (c.lend frz id o).ups = movedL c.ups ∧ lent (c.lend frz id o) id := by
  cases frz with
  | true =>
    have hb := h.borrow rfl
    have e : c.lend true id o = ⟨(id, some o) :: c.ups, c.br⟩ := rfl
    rw [e]
    refine ⟨⟨fun i hi => ?_, fun i hi hl => ?_, h.nodup, fun i o' hi => ?_, fun _ => hb⟩, ⟨⟨[(id, some o)], rfl⟩, ⟨[], rfl⟩⟩, rfl, .inr ⟨o, by simp⟩⟩
    · simp at hi; exact h.moved i hi
    · simp at hi
      rcases hl with hl | ⟨o', hl⟩
      · rw [hb] at hl; simp at hl
      · simp only [List.mem_cons, Prod.mk.injEq, Option.some.injEq] at hl
        rcases hl with ⟨rfl, _⟩ | hl
        · exact hg hi
        · exact h.apart i hi (.inr ⟨o', hl⟩)
    · simp only [List.mem_cons, Prod.mk.injEq, Option.some.injEq] at hi
      rcases hi with ⟨rfl, rfl⟩ | hi
      · exact ⟨rfl, ho⟩
      · exact h.frozen i o' hi
  | false =>
    have e : c.lend false id o = ⟨c.ups, id :: c.br⟩ := rfl
    rw [e]
    refine ⟨⟨h.moved, fun i hi hl => ?_, h.nodup, h.frozen, fun h => by cases h⟩, ⟨⟨[], rfl⟩, ⟨[id], rfl⟩⟩, rfl, .inl (by simp)⟩
    rcases hl with hl | ⟨o', hl⟩
    · simp only [List.mem_cons] at hl
      rcases hl with rfl | hl
      · exact hg hi
      · exact h.apart i hi (.inl hl)
    · exact h.apart i hi (.inr ⟨o', hl⟩)
theorem CInv.move {frz : Bool} {c : Cl} (h : CInv S frz c) {id : Id} (ht : taken c.ups id = false) (hb : memI c.br id = false)
    (ho : (∃ ver fr t rows, lookO S.objs id = some (.sli ver fr t rows)) ∨ ∃ fr t m, lookO S.objs id = some (.mem fr t m)) :
    CInv S frz ⟨(id, none) :: c.ups, c.br⟩ ∧ Ext c ⟨(id, none) :: c.ups, c.br⟩ ∧ movedL ((id, none) :: c.ups) = id :: movedL c.ups := by
  have ht' : ∀ o, (id, o) ∉ c.ups := fun o ho => by
    have : taken c.ups id = true := taken_iff.2 ⟨o, ho⟩
    rw [ht] at this; cases this
  have hb' : id ∉ c.br := fun hm => by
    have : memI c.br id = true := memI_iff.2 hm
    rw [hb] at this; cases this
  refine ⟨⟨fun i hi => ?_, fun i hi hl => ?_, ?_, fun i o hi => ?_, h.borrow⟩, ⟨⟨[(id, none)], rfl⟩, ⟨[], rfl⟩⟩, rfl⟩
  · simp only [List.mem_cons, Prod.mk.injEq, and_true] at hi
    rcases hi with rfl | hi
    · exact ho
    · exact h.moved i hi
  · simp only [List.mem_cons, Prod.mk.injEq, and_true] at hi
    have hl' : lent c i := by
      rcases hl with hl | ⟨o, hl⟩
      · exact .inl hl
      · simp at hl; exact .inr ⟨o, hl⟩
    rcases hi with rfl | hi
    · rcases hl' with hl | ⟨o, hl⟩
      · exact hb' hl
      · exact ht' _ hl
    · exact h.apart i hi hl'
  · show (id :: movedL c.ups).Nodup
    exact List.nodup_cons.2 ⟨fun hm => ht' _ (mem_moved.1 hm), h.nodup⟩
  · simp at hi; exact h.frozen i o hi
theorem sl_DR (h : Rel K S used γ a w) {id : Id} {ver : Nat} {fr : Bool} {t : Ty} {rows : List t.den}
    (ho : lookO S.objs id = some (.sli ver fr t rows) ∨ lookO S.objs id = some (.frz ver fr t rows)) {c : Cl}
    (hc : (∃ ver fr t rows, lookO S.objs id = some (.sli ver fr t rows)) → lent c id) : DR w (okL K S γ c fr) (.slice t) [γ id] rows := by
  rcases ho with ho | ho
  · rcases h.objs id _ ho with ⟨h1, h2⟩ | ⟨g, cap, cur, e, h1, h2, h3, h4, h5, h6, h7⟩
    · have h1 : γ id = _ := h1
      rw [h1, h2]
      exact ⟨none, 0, rfl, Nat.le_refl _, Nat.zero_le _, fun _ => rfl, [], rfl, fun h => absurd rfl h⟩
    · have h1 : γ id = _ := h1
      have hl : liveBlk (lookO S.objs id) (γ id) = some g := by rw [ho, h1]; rfl
      rw [h1]
      refine ⟨_, cap, rfl, h3, h4, (fun e => by cases e), _, h6.mono fun _ _ => DR.mono fun b hb => okL_of (fun h => h) b hb, fun _ => ⟨_, rfl, ⟨fun id' hid' => ?_, (h.mod id g hl).2, h7⟩, fun j y hj => ?_⟩⟩
      · rw [h.sep id' id g hid' hl]; exact hc ⟨_, _, _, _, ho⟩
      · exact cells_at h2 0 _ j y (by simpa using hj)
  · exact (h.objs id _ ho).1.mono fun b hb => okL_of (fun h => h) b hb
theorem view_DR {ok : Nat → Prop} {t : Ty} {g lo hi cp : Nat} {rows : List t.den} {c : Nat} {ad : Option Addr} (h : DR w ok (.slice t) [.slice (some ⟨g, 0, none⟩) rows.length cp] rows) (h1 : lo < hi) (h2 : hi ≤ rows.length)
    (h3 : hi - lo ≤ c) (h4 : c ≤ maxLen) (had : ad = some ⟨g, lo * t.size, none⟩) : DR w ok (.slice t) [.slice ad (hi - lo) c] ((rows.drop lo).take (hi - lo)) := by
  obtain ⟨ad', cap', d1, d2, d3, d4, cs, d5, d6⟩ := h
  have hl : ((rows.drop lo).take (hi - lo)).length = hi - lo := by simp; omega
  refine ⟨ad, c, by rw [hl], by rw [hl]; exact h3, h4, (fun hn => by rw [had] at hn; cases hn), _, (d5.drop lo).take (hi - lo), fun hne => ?_⟩
  have hr : cs ≠ [] := by rintro rfl; simp at hne
  obtain ⟨adr, e1, e2, e3⟩ := d6 hr
  have e0 : adr = ⟨g, 0, none⟩ := by
    have : Value.slice (some ⟨g, 0, none⟩) rows.length cp = .slice ad' rows.length cap' := by simpa using d1
    rw [e1] at this
    cases this
    rfl
  subst e0
  refine ⟨_, had, e2, fun j v hj => ?_⟩
  have := e3 (lo * t.size + j) v (by
    rw [List.getElem?_take] at hj
    split at hj
    · rwa [List.getElem?_drop] at hj
    · cases hj)
  rw [add_zero_off] at this ⊢
  rwa [Nat.zero_add] at this
theorem empty_DR {ok : Nat → Prop} {t : Ty} {c : Nat} {ad : Option Addr} {n : Nat} {x : List t.den} (hx : x = []) (hn : n = 0) (hc : c ≤ maxLen) (h0 : ad = none → c = 0) : DR w ok (.slice t) [.slice ad n c] x := by
  subst hx hn
  exact ⟨ad, c, rfl, Nat.zero_le _, hc, h0, [], rfl, fun h => absurd rfl h⟩
theorem rowsK_spec {α : Type} {C : CallD} (h : Rel K S used γ a w) {frz : Bool} {v : AV} {t : Ty} {c : Cl} (hc : CInv S frz c) {k : Bool → List t.den → Cl → OpT α} {l0 l : List Id} {r : α}
    (hl : Leads C S.objs (rowsK v t c frz k) l0 r l) :
    ∃ fr x c' l1, Leads C S.objs (k fr x c') l1 r l ∧ CInv S frz c' ∧ Ext c c' ∧ movedL c'.ups = movedL c.ups ∧ aggA v = false ∧
      ∀ cs, ARc (envOf K S.objs used γ w) v cs → DR w (okL K S γ c' fr) (.slice t) cs x := by
  unfold rowsK at hl
  split at hl
  · rename_i fr u' x
    split at hl
    · rename_i y hy
      obtain ⟨e, rfl⟩ := castD_some hy
      subst e
      exact ⟨fr, _, c, l0, hl, hc, Ext.refl c, rfl, rfl, fun cs hr => DR.mono (fun b hb => okL_of (fun h => h) b hb) hr⟩
    · exact hl.elim
  · exact ⟨true, [], c, l0, hl, hc, Ext.refl c, rfl, rfl, fun cs hr => by rw [show cs = _ from hr]; exact empty_DR rfl rfl (Nat.zero_le _) (fun _ => rfl)⟩
  · rename_i id ver
    cases hg : gone c.ups id with
    | true => rw [hg] at hl; exact hl.elim
    | false =>
      rw [hg] at hl
      have hg' : ¬ (id, none) ∈ c.ups := fun hm => by rw [gone_iff.2 hm] at hg; cases hg
      obtain ⟨ob, hob, hl⟩ := hl
      dsimp only at hl
      split at hl
      · rename_i ver' fr u' rows
        split at hl
        · rename_i y h1 hy
          obtain rfl := Nat.eq_of_beq_eq_true h1
          obtain ⟨e, rfl⟩ := castD_some hy
          cases e
          obtain ⟨i1, i2, i3, i4⟩ := hc.lend (id := id) (o := .frz ver' fr t rows) hg' (.inl ⟨_, _, _, _, hob, rfl⟩)
          refine ⟨fr, _, _, _, hl, i1, i2, i3, rfl, fun cs hr => ?_⟩
          obtain ⟨_, v0, rfl, _, hv0⟩ := hr
          rw [hv0 t _ (isSl_of _ ver' fr t rows (.inl hob))]
          exact sl_DR h (.inl hob) (fun _ => i4)
        · exact hl.elim
      · rename_i ver' fr u' rows
        split at hl
        · rename_i y h1 hy
          obtain rfl := Nat.eq_of_beq_eq_true h1
          obtain ⟨e, rfl⟩ := castD_some hy
          cases e
          refine ⟨fr, _, _, _, hl, hc, Ext.refl c, rfl, rfl, fun cs hr => ?_⟩
          obtain ⟨_, v0, rfl, _, hv0⟩ := hr
          rw [hv0 t _ (isSl_of _ ver' fr t rows (.inr hob))]
          exact sl_DR h (.inr hob) (fun ⟨_, _, _, _, h⟩ => by rw [hob] at h; cases h)
        · exact hl.elim
      · exact hl.elim
  · rename_i id ver lo hi cp0
    cases hg : gone c.ups id with
    | true => rw [hg] at hl; exact hl.elim
    | false =>
      rw [hg] at hl
      have hg' : ¬ (id, none) ∈ c.ups := fun hm => by rw [gone_iff.2 hm] at hg; cases hg
      have key : ∀ (ver : Nat) (fr : Bool) (t : Ty) (rows : List t.den) (c' : Cl), (lookO S.objs id = some (.sli ver fr t rows) ∨ lookO S.objs id = some (.frz ver fr t rows)) →
          ((∃ ver fr t rows, lookO S.objs id = some (.sli ver fr t rows)) → lent c' id) → ∀ cs, ARc (envOf K S.objs used γ w) (.view id ver lo hi cp0) cs → DR w (okL K S γ c' fr) (.slice t) cs ((rows.drop lo).take (hi - lo)) := by
        intro ver fr t rows c' ho' hlen cs hr
        obtain ⟨_, v0, rfl, _, hv0⟩ := hr
        obtain ⟨v1, v2, ad, cc, v3, v4, v5, v6, v7, _⟩ := hv0 t _ (isSl_of _ ver fr t rows ho')
        subst v3
        rcases Nat.lt_or_ge lo hi with hlt | hge
        · obtain ⟨g, m, cp, v8, v9⟩ := v7 hlt
          have hd := sl_DR h ho' hlen
          have v8 : γ id = _ := v8
          have hm : m = rows.length := by
            obtain ⟨ad2, cap2, k1, _⟩ := sl_header h ho'
            rw [v8] at k1; cases k1; rfl
          rw [v8, hm] at hd
          exact view_DR hd hlt v2 v4 v5 v9
        · exact empty_DR (by rw [show hi - lo = 0 by omega, List.take_zero]) (by omega) v5 v6
      obtain ⟨ob, hob, hl⟩ := hl
      dsimp only at hl
      split at hl
      · rename_i ver' fr u' rows
        split at hl
        · rename_i y h1 hy
          obtain rfl := Nat.eq_of_beq_eq_true h1
          obtain ⟨e, rfl⟩ := castD_some hy
          cases e
          obtain ⟨i1, i2, i3, i4⟩ := hc.lend (id := id) (o := .frz ver' fr t rows) hg' (.inl ⟨_, _, _, _, hob, rfl⟩)
          exact ⟨fr, _, _, _, hl, i1, i2, i3, rfl, key ver' fr t rows _ (.inl hob) (fun _ => i4)⟩
        · exact hl.elim
      · rename_i ver' fr u' rows
        split at hl
        · rename_i y h1 hy
          obtain rfl := Nat.eq_of_beq_eq_true h1
          obtain ⟨e, rfl⟩ := castD_some hy
          cases e
          exact ⟨fr, _, _, _, hl, hc, Ext.refl c, rfl, rfl, key ver' fr t rows _ (.inr hob) (fun ⟨_, _, _, _, h⟩ => by rw [hob] at h; cases h)⟩
        · exact hl.elim
      · exact hl.elim
  · rename_i id path lo hi
    cases hg : gone c.ups id with
    | true => rw [hg] at hl; exact hl.elim
    | false =>
      rw [hg] at hl
      have hg' : ¬ (id, none) ∈ c.ups := fun hm => by rw [gone_iff.2 hm] at hg; cases hg
      have key : ∀ (fm fr : Bool) (tm u' : Ty) (m : AV) (n : Nat) (x : List u'.den) (c' : Cl), (lookO S.objs id = some (.mem fm tm m) ∨ lookO S.objs id = some (.mfz fm tm m)) → navA m path = some (.d fr (.arr n u') x) →
          ((∃ fr t m, lookO S.objs id = some (.mem fr t m)) → lent c' id) → ∀ cs, ARc (envOf K S.objs used γ w) (.mview id path lo hi) cs → DR w (okL K S γ c' (fr && fm)) (.slice u') cs ((x.drop lo).take (hi - lo)) := by
        intro fm fr tm u' m n x c' ho' hnav hlen cs hr
        obtain ⟨_, v0, rfl, _, hv0⟩ := hr
        obtain ⟨g, n', uu, q1, q2, q3, q4, q5, ad, cc, q6, q7, q8, q9⟩ := hv0 tm (isMm_of _ fm tm m ho')
        subst q6
        obtain ⟨g', e', cur, m1, m2, m3, m4⟩ := mm_cells h ho'
        have q1 : γ id = _ := q1
        rw [q1] at m1
        cases m1
        obtain ⟨n1, n2, n3⟩ := navA_spec m tm path _ _ m3 q2 q3 m4 _ hnav
        have eu : Ty.arr n u' = .arr n' uu := Ty.beq_iff.1 (by simpa [fitsA] using n1)
        cases eu
        obtain ⟨nl, nr⟩ := n2
        have hgo : okL K S γ c' (fr && fm) g := by
          have hfr : (fr && fm) = true → fm = true := by simp
          rcases ho' with ho' | ho'
          · have hlv : liveBlk (lookO S.objs id) (γ id) = some g := by rw [ho', q1]; rfl
            obtain ⟨g2, e2, cur2, o1, _, _, _, o5⟩ := h.objs id _ ho'
            have o1 : γ id = _ := o1
            rw [q1] at o1; cases o1
            exact ⟨fun id' hid' => by rw [h.sep id' id g hid' hlv]; exact hlen ⟨_, _, _, ho'⟩, (h.mod id g hlv).2, fun hf => o5 (hfr hf)⟩
          · obtain ⟨_, o6⟩ := h.objs id _ ho'
            exact okL_of hfr g (o6 _ q1)
        rcases Nat.lt_or_ge lo hi with hlt | hge
        · have hl2 : ((x.drop lo).take (hi - lo)).length = hi - lo := by simp; omega
          refine ⟨some ad, cc, by rw [hl2], by rw [hl2]; exact q7, q8, (fun e => by cases e), _, ((nr.mono fun _ _ => DR.mono fun b hb => okL_of (fun h => (Bool.and_eq_true _ _ ▸ h : fr = true ∧ fm = true).1) b hb).drop lo).take (hi - lo), fun hne => ⟨ad, rfl, ?_, fun j v hj => ?_⟩⟩
          · rw [q9 hlt]; exact hgo
          · rw [q9 hlt, add_zero_off]
            have := cells_at m2 (offT tm path) (Ty.size (.arr n u')) (lo * u'.size + j) v (by
              rw [List.getElem?_take] at hj
              split at hj
              · rwa [List.getElem?_drop] at hj
              · cases hj)
            rw [add_zero_off] at this
            rwa [Nat.add_assoc]
        · exact empty_DR (by rw [show hi - lo = 0 by omega, List.take_zero]) (by omega) q8 (fun e => by cases e)
      obtain ⟨ob, hob, hl⟩ := hl
      dsimp only at hl
      split at hl
      · rename_i fm tm m
        split at hl
        · rename_i fr n u' x hnav
          split at hl
          · rename_i y hy
            obtain ⟨e, rfl⟩ := castD_some hy
            cases e
            obtain ⟨i1, i2, i3, i4⟩ := hc.lend (id := id) (o := .mfz fm tm m) hg' (.inr ⟨_, _, _, hob, rfl⟩)
            exact ⟨_, _, _, _, hl, i1, i2, i3, rfl, key fm fr tm t m n x _ (.inl hob) hnav (fun _ => i4)⟩
          · exact hl.elim
        · exact hl.elim
      · rename_i fm tm m
        split at hl
        · rename_i fr n u' x hnav
          split at hl
          · rename_i y hy
            obtain ⟨e, rfl⟩ := castD_some hy
            cases e
            exact ⟨_, _, _, _, hl, hc, Ext.refl c, rfl, rfl, key fm fr tm t m n x _ (.inr hob) hnav (fun ⟨_, _, _, h⟩ => by rw [hob] at h; cases h)⟩
          · exact hl.elim
        · exact hl.elim
      · exact hl.elim
  · exact hl.elim
end
end Go.Pon
set_option autoImplicit false
set_option linter.unusedVariables false
namespace Go.Pon
open Go
def MR (w : World) (ok : Bool → Nat → Prop) (base : Nat) : (m : MTy) → List Value → m.den → List Nat → Prop
  | .ro fr t, cs, x, bs => bs = [] ∧ DR w (ok fr) t cs x
  | .own fr t, cs, x, bs => ∃ v, cs = [v] ∧ ((v = .slice none 0 0 ∧ x = ([] : List t.den) ∧ bs = []) ∨
      ∃ g cap cur e, v = .slice (some ⟨g, 0, none⟩) (List.length x) cap ∧ w.heap[g]? = some (.cells cur e (0, 0)) ∧
        List.length x ≤ cap ∧ cap ≤ maxLen ∧ cur.size = cap * t.size ∧ RowsR (DR w (ok fr) t) t.size (cur.toList.take (List.length x * t.size)) x ∧ (fr = true → base ≤ g) ∧ bs = [g])
  | .ptr m, cs, x, bs => ∃ g e cur bs', cs = [.pointer (some ⟨g, 0, none⟩)] ∧ w.heap[g]? = some (.cells cur e (0, 0)) ∧ MR w ok base m cur.toList x bs' ∧ bs = g :: bs'
  | .optr m, cs, x, bs => match x with
    | none => cs = [.pointer none] ∧ bs = []
    | some y => ∃ g e cur bs', cs = [.pointer (some ⟨g, 0, none⟩)] ∧ w.heap[g]? = some (.cells cur e (0, 0)) ∧ MR w ok base m cur.toList y bs' ∧ bs = g :: bs'
  | .pair a b, cs, x, bs => ∃ c1 c2 b1 b2, cs = c1 ++ c2 ∧ MR w ok base a c1 x.1 b1 ∧ MR w ok base b c2 x.2 b2 ∧ bs = b1 ++ b2
  | .fn f m, cs, x, bs => ∃ vs : Array Value, cs = [.func (.func f) #[] vs] ∧ MR w ok base m vs.toList x bs
  | .nilm _, cs, _, bs => cs = [.slice none 0 0] ∧ bs = []
  | .full t, cs, x, bs => t.flat = true ∧ ∃ g cap cur e, cs = [.slice (some ⟨g, 0, none⟩) (List.length x) (List.length x)] ∧ w.heap[g]? = some (.cells cur e (0, 0)) ∧
      List.length x ≤ cap ∧ cap ≤ maxLen ∧ cur.size = cap * t.size ∧ RowsR (DR w (ok false) t) t.size (cur.toList.take (List.length x * t.size)) x ∧ bs = [g]
  | .rp t, cs, x, bs => bs = [] ∧ oneC cs fun v => ∃ a vs, v = .pointer (some a) ∧ a.spot = none ∧ (0 < t.size → ok false a.block) ∧ (∀ j y, vs[j]? = some y → w.cell? (a.add j) = some y) ∧ DR w (ok false) t vs x
theorem MR.mono {w : World} {ok ok' : Bool → Nat → Prop} {base : Nat} (h : ∀ f b, ok f b → ok' f b) : ∀ {m : MTy} {cs : List Value} {x : m.den} {bs : List Nat}, MR w ok base m cs x bs → MR w ok' base m cs x bs
  | .ro _ _, _, _, _, ⟨h1, h2⟩ => ⟨h1, h2.mono (h _)⟩
  | .own _ _, _, _, _, ⟨v, h0, hr⟩ => ⟨v, h0, hr.imp id fun ⟨g, cap, cur, e, h1, h2, h3, h4, h5, h6, h7⟩ => ⟨g, cap, cur, e, h1, h2, h3, h4, h5, h6.mono fun _ _ => DR.mono (h _), h7⟩⟩
  | .ptr m, _, _, _, ⟨g, e, cur, bs', h1, h2, h3, h4⟩ => ⟨g, e, cur, bs', h1, h2, MR.mono h h3, h4⟩
  | .optr m, _, none, _, hr => hr
  | .optr m, _, some _, _, ⟨g, e, cur, bs', h1, h2, h3, h4⟩ => ⟨g, e, cur, bs', h1, h2, MR.mono h h3, h4⟩
  | .pair _ _, _, _, _, ⟨c1, c2, b1, b2, h1, h2, h3, h4⟩ => ⟨c1, c2, b1, b2, h1, MR.mono h h2, MR.mono h h3, h4⟩
  | .fn _ _, _, _, _, ⟨vs, h1, h2⟩ => ⟨vs, h1, MR.mono h h2⟩
  | .nilm _, _, _, _, hr => hr
  | .full _, _, _, _, ⟨h0, g, cap, cur, e, h1, h2, h3, h4, h5, h6, h7⟩ => ⟨h0, g, cap, cur, e, h1, h2, h3, h4, h5, h6.mono fun _ _ => DR.mono (h _), h7⟩
  | .rp _, _, _, _, ⟨h0, v, h1, h2, a, vs, h3, h4, h5, h6, h7⟩ => ⟨h0, v, h1, h2, a, vs, h3, h4, fun hp => h _ _ (h5 hp), h6, h7.mono (h _)⟩
def MRL (w : World) (ok : Bool → Nat → Prop) (base : Nat) : (ms : List MTy) → List Value → denL ms → List Nat → Prop
  | [], vs, _, bs => vs = [] ∧ bs = []
  | m :: ms, vs, x, bs => ∃ v r b1 b2, vs = v :: r ∧ isAgg' v = m.ty.agg ∧ MR w ok base m v.cells.toList x.1 b1 ∧ MRL w ok base ms r x.2 b2 ∧ bs = b1 ++ b2
theorem MRL.mono {w : World} {ok ok' : Bool → Nat → Prop} {base : Nat} (h : ∀ f b, ok f b → ok' f b) : ∀ {ms : List MTy} {vs : List Value} {x : denL ms} {bs : List Nat}, MRL w ok base ms vs x bs → MRL w ok' base ms vs x bs
  | [], _, _, _, hr => hr
  | _ :: _, _, _, _, ⟨v, r, b1, b2, h1, h2, h3, h4, h5⟩ => ⟨v, r, b1, b2, h1, h2, h3.mono h, MRL.mono h h4, h5⟩
section
variable {K : Konst} {S : St} {used : Id → Nat → Prop} {γ : Id → Value} {a : Act} {w : World}
def blkOf (S : St) (γ : Id → Value) (l : List Id) : List Nat := l.filterMap fun id => liveBlk (lookO S.objs id) (γ id)
theorem roK_spec {α : Type} {C : CallD} (h : Rel K S used γ a w) {frz : Bool} : ∀ (v : AV) (t : Ty) {c : Cl} (hc : CInv S frz c) {k : Bool → t.den → Cl → OpT α} {l0 l : List Id} {r : α}
    (hl : Leads C S.objs (roK frz v t c k) l0 r l),
    ∃ fr x c' l1, Leads C S.objs (k fr x c') l1 r l ∧ CInv S frz c' ∧ Ext c c' ∧ movedL c'.ups = movedL c.ups ∧ aggA v = t.agg ∧
      ∀ cs, ARc (envOf K S.objs used γ w) v cs → DR w (okL K S γ c' fr) t cs x := by
  intro v
  induction v with
  | d fr u y =>
    intro t c hc k l0 l r hl
    simp only [roK] at hl
    split at hl
    · rename_i z hz
      obtain ⟨e, rfl⟩ := castD_some hz
      subst e
      exact ⟨fr, _, c, l0, hl, hc, Ext.refl c, rfl, rfl, fun cs hr => DR.mono (fun b hb => okL_of (fun h => h) b hb) hr⟩
    · exact hl.elim
  | pair v1 v2 ih1 ih2 =>
    intro t c hc k l0 l r hl
    cases t with
    | pair t u =>
      obtain ⟨f1, x1, c1, l1, a1, a2, a3, a4, a5, a6⟩ := ih1 t hc hl
      obtain ⟨f2, x2, c2, l2, b1, b2, b3, b4, b5, b6⟩ := ih2 u a2 a1
      refine ⟨(f1 || t.flat) && (f2 || u.flat), (x1, x2), c2, l2, b1, b2, a3.trans b3, b4.trans a4, rfl, fun cs ⟨d1, d2, e1, e2, e3⟩ => ?_⟩
      have k1 := a6 d1 e2
      have k2 := b6 d2 e3
      have hn := DR.len k1
      refine ⟨?_, ?_⟩
      · rw [e1, List.take_append_of_le_length (by omega), List.take_of_length_le (by omega)]
        cases hft : t.flat with
        | true => exact DR.flat hft k1
        | false => exact k1.mono (okL_mono b3 (by simp; intro h _; exact h))
      · rw [e1, List.drop_append_of_le_length (by omega), List.drop_eq_nil_of_le (by omega)]
        cases hfu : u.flat with
        | true => exact DR.flat hfu k2
        | false => exact k2.mono (okL_mono (Ext.refl _) (by simp))
    | slice t => obtain ⟨f, x, c', l1, a1, a2, a3, a4, a5, a6⟩ := rowsK_spec h hc (v := .pair v1 v2) (k := k) hl; exact ⟨f, x, c', l1, a1, a2, a3, a4, a5, a6⟩
    | _ => exact hl.elim
  | nilp =>
    intro t c hc k l0 l r hl
    cases t with
    | ptr => exact ⟨true, (), c, l0, hl, hc, Ext.refl c, rfl, rfl, fun cs hr => hr⟩
    | slice t => obtain ⟨f, x, c', l1, a1, a2, a3, a4, a5, a6⟩ := rowsK_spec h hc (v := .nilp) (k := k) hl; exact ⟨f, x, c', l1, a1, a2, a3, a4, a5, a6⟩
    | _ => exact hl.elim
  | any => intro t c hc k l0 l r hl; cases t with
    | slice t => obtain ⟨f, x, c', l1, a1, a2, a3, a4, a5, a6⟩ := rowsK_spec h hc (v := .any) (k := k) hl; exact ⟨f, x, c', l1, a1, a2, a3, a4, a5, a6⟩
    | _ => exact hl.elim
  | un => intro t c hc k l0 l r hl; cases t with
    | slice t => obtain ⟨f, x, c', l1, a1, a2, a3, a4, a5, a6⟩ := rowsK_spec h hc (v := .un) (k := k) hl; exact ⟨f, x, c', l1, a1, a2, a3, a4, a5, a6⟩
    | _ => exact hl.elim
  | nils => intro t c hc k l0 l r hl; cases t with
    | slice t => obtain ⟨f, x, c', l1, a1, a2, a3, a4, a5, a6⟩ := rowsK_spec h hc (v := .nils) (k := k) hl; exact ⟨f, x, c', l1, a1, a2, a3, a4, a5, a6⟩
    | _ => exact hl.elim
  | own i n => intro t c hc k l0 l r hl; cases t with
    | slice t => obtain ⟨f, x, c', l1, a1, a2, a3, a4, a5, a6⟩ := rowsK_spec h hc (v := .own i n) (k := k) hl; exact ⟨f, x, c', l1, a1, a2, a3, a4, a5, a6⟩
    | _ => exact hl.elim
  | view i n p q cp => intro t c hc k l0 l r hl; cases t with
    | slice t => obtain ⟨f, x, c', l1, a1, a2, a3, a4, a5, a6⟩ := rowsK_spec h hc (v := .view i n p q cp) (k := k) hl; exact ⟨f, x, c', l1, a1, a2, a3, a4, a5, a6⟩
    | _ => exact hl.elim
  | mview i n p q => intro t c hc k l0 l r hl; cases t with
    | slice t => obtain ⟨f, x, c', l1, a1, a2, a3, a4, a5, a6⟩ := rowsK_spec h hc (v := .mview i n p q) (k := k) hl; exact ⟨f, x, c', l1, a1, a2, a3, a4, a5, a6⟩
    | _ => exact hl.elim
  | ptr i n => intro t c hc k l0 l r hl; cases t with
    | slice t => obtain ⟨f, x, c', l1, a1, a2, a3, a4, a5, a6⟩ := rowsK_spec h hc (v := .ptr i n) (k := k) hl; exact ⟨f, x, c', l1, a1, a2, a3, a4, a5, a6⟩
    | _ => exact hl.elim
  | eptr i n p q => intro t c hc k l0 l r hl; cases t with
    | slice t => obtain ⟨f, x, c', l1, a1, a2, a3, a4, a5, a6⟩ := rowsK_spec h hc (v := .eptr i n p q) (k := k) hl; exact ⟨f, x, c', l1, a1, a2, a3, a4, a5, a6⟩
    | _ => exact hl.elim
  | rptr i n p => intro t c hc k l0 l r hl; cases t with
    | slice t => obtain ⟨f, x, c', l1, a1, a2, a3, a4, a5, a6⟩ := rowsK_spec h hc (v := .rptr i n p) (k := k) hl; exact ⟨f, x, c', l1, a1, a2, a3, a4, a5, a6⟩
    | _ => exact hl.elim
  | tup v ih => intro t c hc k l0 l r hl; cases t with
    | slice t => obtain ⟨f, x, c', l1, a1, a2, a3, a4, a5, a6⟩ := rowsK_spec h hc (v := .tup v) (k := k) hl; exact ⟨f, x, c', l1, a1, a2, a3, a4, a5, a6⟩
    | _ => exact hl.elim
  | ub e r0 => intro t c hc k l0 l r hl; cases t with
    | slice t => obtain ⟨f, x, c', l1, a1, a2, a3, a4, a5, a6⟩ := rowsK_spec h hc (v := .ub e r0) (k := k) hl; exact ⟨f, x, c', l1, a1, a2, a3, a4, a5, a6⟩
    | _ => exact hl.elim
  | fn g v ih => intro t c hc k l0 l r hl; cases t with
    | slice t => obtain ⟨f, x, c', l1, a1, a2, a3, a4, a5, a6⟩ := rowsK_spec h hc (v := .fn g v) (k := k) hl; exact ⟨f, x, c', l1, a1, a2, a3, a4, a5, a6⟩
    | _ => exact hl.elim
end
end Go.Pon
