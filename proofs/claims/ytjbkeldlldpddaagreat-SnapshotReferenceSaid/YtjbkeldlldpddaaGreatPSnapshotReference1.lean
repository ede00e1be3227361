/-
  Part of a proof: general lemmas, merged by a program of this work.
-/
import Derived.Test.YtjbkeldlldpddaaGreatF3
set_option autoImplicit false
set_option linter.unusedVariables false
set_option linter.unusedSimpArgs false
noncomputable section
set_option autoImplicit false
namespace Go.Pon
open Go
abbrev Y1:Type:=(List (List Int))
abbrev Y2:Type:=(Int×(List Int))
abbrev Y3:Type:=(Int×Int×Unit)
abbrev Y4:Type:=((List Int)×Unit)
abbrev Y5:Type:=(Int×Int×(Unit))
abbrev Y6:Type:=(Y4×Unit×Unit)
abbrev Y7:Type:=(Int×Int×Int×Unit)
abbrev Y8:Type:=((List Int)×Int×Unit)
abbrev Y9:Type:=(Int×(List Int)×Unit)
abbrev Y10:Type:=(Y3×Unit×Unit×Unit)
abbrev T2:Type:=(Y4×Unit×Unit×Unit)
abbrev Y12:Type:=((List Int)×Bool×Unit)
abbrev Y13:Type:=(Bool×(List Int)×Unit)
abbrev Y14:Type:=((Int×Unit)×Unit×Unit)
abbrev Xs:Type:=((Bool×Unit)×Unit×Unit)
abbrev Y16:Type:=((List Int)×Int×Int×Unit)
abbrev Y17:Type:=(Int×(List Int)×Int×Unit)
abbrev Y18:Type:=(Int×Int×(List Int)×Unit)
abbrev Y19:Type:=((List Y9)×Unit)
abbrev Y20:Type:=(Y13×Int×Unit)
abbrev Y21:Type:=(Y8×Unit×Unit)
abbrev Y22:Type:=((List Y17)×Unit)
abbrev Y23:Type:=((List Y17)×Y1×Unit)
abbrev Y24:Type:=((List Y9)×Int×Unit)
abbrev Y25:Type:=(Y4×Y23×Unit)
abbrev Y26:Type:=(Y23×Int×Unit)
abbrev Y27:Type:=(Y19×Unit×Unit)
abbrev Y28:Type:=(Y22×Unit×Unit)
abbrev Y29:Type:=((List Int)×Y13×Unit)
abbrev Y30:Type:=((List Y18)×Int×Unit)
abbrev Y31:Type:=(Y8×Unit×Unit×Unit)
abbrev Y32:Type:=(Y24×Unit×Unit×Unit)
abbrev Y33:Type:=((Option Y23)×Int×Unit)
abbrev Y34:Type:=((Y13×Unit)×Unit×Unit)
abbrev Y35:Type:=(Y23×(List Int)×Int×Unit)
abbrev Y36:Type:=(Y23×(List Y17)×Int×Unit)
abbrev Y37:Type:=(Y23×Int×(List Int)×Unit)
abbrev Y38:Type:=(Y33×Unit×Unit×Unit)
abbrev Y39:Type:=((List Int)×(List Int)×Unit)
abbrev Y40:Type:=((List Int)×Int×Bool×Unit)
abbrev Y41:Type:=(Y3×Unit×Unit×Unit×Unit)
abbrev Y42:Type:=(Y4×Unit×Unit×Unit×Unit)
abbrev Y43:Type:=(Y8×Unit×Unit×Unit×Unit)
abbrev Y44:Type:=(Unit×Y40×Unit×Unit)
abbrev Y45:Type:=(Y39×Unit×Unit×Unit)
abbrev Y46:Type:=((Int×Unit)×Y40×Unit)
abbrev Y47:Type:=((Bool×Unit)×Y40×Unit)
abbrev Y48:Type:=(Unit×Y23×Unit×Unit×Unit)
abbrev Y49:Type:=(Y16×Unit×Unit×Unit×Unit)
abbrev Y50:Type:=((Int×Unit)×Y23×Unit×Unit)
abbrev Y51:Type:=((Y1×Unit)×Unit×Unit×Unit)
abbrev Y52:Type:=((Y17×Unit)×Y23×Unit×Unit)
abbrev Y53:Type:=(Y5×Unit×Unit×Unit×(Unit))
abbrev Y54:Type:=((Bool×Unit)×Unit×Int×Unit)
abbrev Y55:Type:=((Int×Bool×Unit)×Unit×Unit)
abbrev Y56:Type:=((Int×Unit)×Unit×Unit×Unit)
abbrev Y57:Type:=((Y13×Unit)×Unit×Unit×Unit)
abbrev Y58:Type:=((Bool×Unit)×Unit×Unit×Unit)
abbrev Y59:Type:=((List Int)×Y1×Int×Int×Unit)
abbrev Y60:Type:=(Int×Int×(List Int)×Y1×Unit)
abbrev Y61:Type:=(Int×(List Int)×(List Y9)×Unit)
abbrev Y62:Type:=(Int×Int×Int×(List Int)×Unit)
abbrev Y63:Type:=(Y23×Int×Int×(List Int)×Unit)
abbrev Y64:Type:=((List Int)×(List Int)×Int×Unit)
abbrev Y65:Type:=(Y3×Unit×Unit×Unit×Unit×Unit)
abbrev Y66:Type:=(Y7×Unit×Unit×Unit×Unit×Unit)
abbrev Y67:Type:=(Y62×Int×Unit)
abbrev Y68:Type:=(Y12×Unit×Unit×Unit×Unit×Unit)
abbrev Y69:Type:=(Y20×Unit×Unit×Unit×Unit×Unit)
abbrev Y70:Type:=(Y67×Unit×Unit×Unit×Unit×Unit)
abbrev Y71:Type:=((Int×Unit)×Y23×Unit×Unit×Unit)
abbrev Y72:Type:=((Bool×Unit)×Y23×Unit×Unit×Unit)
abbrev Y73:Type:=((Bool×Unit)×Y40×Unit×Unit×Unit)
abbrev Y74:Type:=((Int×Unit)×Unit×Unit×Unit×Unit)
abbrev Y75:Type:=(Int×Int×Int×(List Int)×Y1×Unit)
abbrev Y76:Type:=((Bool×Unit)×Unit×Unit×Unit×Unit)
abbrev Y77:Type:=(((Option Int)×Unit)×Unit×Unit×Unit)
abbrev Y78:Type:=((List Int)×(List Int)×Int×Int×Unit)
abbrev Y79:Type:=((List Int)×(List Int)×(List Int)×Unit)
abbrev Y80:Type:=(Y8×Unit×Unit×Unit×Unit×Unit×Unit)
abbrev Y81:Type:=((Y13×Int×Int×Unit)×Unit×Unit×Unit)
abbrev Y82:Type:=((Int×Unit)×Y23×Unit×Unit×Unit×Unit)
abbrev Y83:Type:=((Y1×Bool×Unit)×Unit×Unit×Unit×Unit)
abbrev Y84:Type:=((Int×Unit)×Unit×Unit×Unit×Unit×Unit)
abbrev Y85:Type:=((List Int)×Int×Int×(List Int)×Y1×Unit)
abbrev Y86:Type:=((List Int)×Y1×(List Int)×(List Y9)×Unit)
abbrev Y87:Type:=((Bool×Unit)×Unit×Unit×Unit×Unit×Unit)
abbrev Y88:Type:=(((Option (List Int))×Unit)×Unit×Unit×Unit)
abbrev Y89:Type:=((List Int)×(List Int)×(List Int)×Int×Unit)
abbrev Y90:Type:=(Y4×Y86×Unit×Unit)
abbrev Y91:Type:=(Y86×(List Y9)×Int×Unit)
abbrev Y92:Type:=((Int×Unit)×Y86×Unit×Unit)
abbrev Y93:Type:=((List Int)×(List Int)×Int×Int×Int×Int×Unit)
abbrev Y94:Type:=((Bool×Unit)×Unit×Unit×Unit×Unit×Unit×Unit)
abbrev Y95:Type:=((List Int)×(List Int)×(List Int)×Int×Int×Unit)
abbrev Y96:Type:=((List Int)×(List Int)×(List Int)×(List Int)×Int×Unit)
abbrev Y97:Type:=((List Int)×(List Int)×(List Int)×(List Int)×Int×Int×Unit)
abbrev Y98:Type:=(Int×(List Int)×(List Int)×(List Int)×(List Int)×Int×Unit)
abbrev Y99:Type:=((List Y98)×Unit)
abbrev Ccb:Type:=((List Y98)×Int×Unit)
abbrev Bwd:Type:=(Y99×Unit×Unit)
abbrev Bzh:Type:=(Ccb×Unit×Unit×Unit)
abbrev Clz:Type:=(Ccb×Unit×Unit×Unit×Unit)
abbrev Crj:Type:=((List Y98)×(List Y98)×Int×Unit)
abbrev Crb:Type:=((List Y98)×Int×(List Int)×Unit)
abbrev Cqk:Type:=((List Y98)×(List Y98)×Int×Int×Unit)
abbrev Cl1:Type:=(Ccb×Unit×Unit×Unit×Unit×Unit×Unit)
abbrev Auk:Type:=((List Int)×Int×Int×Int×Y13×(List Y98)×Unit)
abbrev Cqb:Type:=((List Y98)×Int×(List Int)×(List Int)×Int×Unit)
abbrev Cmo:Type:=(Auk×Int×Unit)
abbrev Clw:Type:=(Cmo×Unit×Unit×Unit)
abbrev Cqc:Type:=((Auk×Y61×Int×Unit)×Unit×Unit×Unit×Unit×Unit×Unit)
abbrev Cn9:Type:=((List Int)×(List Int)×(List Int)×(List Int)×(List Int)×Int×Unit)
abbrev Bdn:Type:=(Int×Int×Int×(List Int)×Int×(List Int)×(List Int)×Int×(List Int)×Unit)
abbrev Bbk:Type:=(Int×Bdn×Y18×Int×Int×(List Int)×Int×Y75×Unit)
abbrev Cgm:Type:=((List Bbk)×Unit)
abbrev Cpt:Type:=((Bbk×Unit)×Unit×Unit)
abbrev Cqe:Type:=((Bbk×Unit)×Unit×Unit×Unit×Unit)
abbrev Pc:Type:=(Int×Int×Int×(List Int)×Int×(List Int)×Int×(List Int)×Int×Int×Int×Int×Unit)
abbrev Cqj:Type:=(Int×Int×Int×Int×Bool×(List Int)×(List Int)×(List Int)×(List Int)×(List Int)×Unit)
abbrev Cff:Type:=(Pc×Int×Unit)
abbrev Cla:Type:=(Cff×Unit×Unit×Unit×Unit)
abbrev Cpx:Type:=(Bdn×(List Int)×(List Int)×Pc×Unit)
abbrev Cpr:Type:=((Cqj×Int×Unit)×Unit×Unit×Unit×Unit×Unit)
abbrev Re:Type:=(Int×Pc×Y62×Int×Auk×Y23×(List Y18)×Y86×Unit)
abbrev Cq7:Type:=((Int×Unit)×Re×Unit×Unit)
abbrev Cra:Type:=((Y18×Unit)×Unit×Re×Unit)
abbrev Cpm:Type:=((Y75×Unit)×Unit×Re×Unit)
abbrev Cp6:Type:=((Y18×Unit)×Re×Unit×Unit×Unit)
abbrev Cq5:Type:=((Bdn×Unit)×Unit×Unit×Re×Unit)
abbrev Cph:Type:=((Bbk×Unit)×Unit×Re×Unit×Unit)
abbrev Bvg:Type:=(Int×Int×Cqj×(List Int)×(List Int)×Int×(List Int)×(List Int)×(List Y18)×Unit)
abbrev Byh:Type:=((Bvg×Unit)×Re×Unit×Unit)
abbrev Cti:Type:=(Re×(List Bbk)×(List Bvg)×Unit)
abbrev Cfr:Type:=(Cti×Unit×Unit×Unit)
abbrev Cq0:Type:=((List Int)×Bool×Re×(List Bbk)×(List Bvg)×Int×Unit)
abbrev Db:Type:=(Int×Pc×Y62×Int×Auk×(List Y17)×Y1×(List Y18)×(List Bool)×(List Int)×(List Y9)×Unit)
abbrev Ck6:Type:=(Db×Int×Unit)
abbrev Cmg:Type:=(Ck6×Unit×Unit)
abbrev Clp:Type:=(Unit×Db×Unit×Unit)
abbrev Ck8:Type:=((Db×Unit)×Re×Unit)
abbrev Bzt:Type:=(Db×(List Int)×Int×Unit)
abbrev Cp1:Type:=(Unit×Db×Unit×Bool×Unit)
abbrev Bga:Type:=((Db×Unit)×Unit×Unit×Unit×Unit)
abbrev Crl:Type:=(Db×(List Int)×(List Y17)×Int×Int×Unit)
abbrev Cp3:Type:=(Db×(List Int)×(List Y18)×Int×Int×Unit)
abbrev W1:Ty:=(.slice .bool)
abbrev W2:Ty:=(.slice (.int .u8))
abbrev W3:Ty:=(.arr 32 (.int .u8))
abbrev W4:Ty:=(.arr 4 (.int .u64))
abbrev W5:Ty:=(.arr 5 (.int .u64))
abbrev W6:Ty:=(.arr 8 (.int .u32))
abbrev W7:Ty:=(.slice (.int .i64))
abbrev W8:Ty:=(.slice (.int .u64))
abbrev W9:Ty:=(.pair W2 .unit)
abbrev W10:Ty:=(.pair W4 .unit)
abbrev W11:Ty:=(.pair W7 .unit)
abbrev W12:Ty:=(.arr 64 (.int .u32))
abbrev W13:Ty:=(.pair W4 W10)
abbrev W14:Ty:=(.pair .bool W10)
abbrev W15:Ty:=(.pair .bool W11)
abbrev W16:Ty:=(.pair W4 W13)
abbrev W17:Ty:=(.pair W4 W16)
abbrev W18:Ty:=(.pair W4 W17)
abbrev W19:Ty:=(.pair .bool W18)
abbrev W20:Ty:=(.pair (.int .u64) W9)
abbrev W21:Ty:=(.pair (.int .u64) W10)
abbrev W22:Ty:=(.pair W4 W20)
abbrev W23:Ty:=(.pair W4 W22)
abbrev W24:Ty:=(.pair (.int .u64) W19)
abbrev W25:Ty:=(.pair (.int .u64) W21)
abbrev W26:Ty:=(.pair (.int .u64) W23)
abbrev W27:Ty:=(.pair (.arr 4 W4) .unit)
abbrev W28:Ty:=(.pair (.int .u64) .unit)
abbrev W29:Ty:=(.pair (.slice W3) .unit)
abbrev W30:Ty:=(.pair (.slice W21) .unit)
abbrev W31:Ty:=(.pair W4 W26)
abbrev W32:Ty:=(.pair W4 W28)
abbrev W33:Ty:=(.pair W4 W29)
abbrev W34:Ty:=(.pair W4 W30)
abbrev W35:Ty:=(.pair W8 W30)
abbrev W36:Ty:=(.pair W1 W34)
abbrev W37:Ty:=(.pair W4 W32)
abbrev W38:Ty:=(.pair W4 W37)
abbrev W39:Ty:=(.pair W4 W38)
abbrev W40:Ty:=(.pair (.int .u64) W24)
abbrev W41:Ty:=(.pair (.int .u64) W25)
abbrev W42:Ty:=(.pair (.int .u64) W28)
abbrev W43:Ty:=(.pair (.int .u64) W31)
abbrev W44:Ty:=(.pair (.int .u64) W32)
abbrev W45:Ty:=(.pair (.int .u64) W33)
abbrev W46:Ty:=(.pair (.int .u64) W39)
abbrev W47:Ty:=(.pair (.slice W3) W35)
abbrev W48:Ty:=(.pair (.slice W25) W36)
abbrev W49:Ty:=(.pair (.slice W25) .unit)
abbrev W50:Ty:=(.pair W4 W47)
abbrev W51:Ty:=(.pair W4 W49)
abbrev W52:Ty:=(.pair W4 W51)
abbrev W53:Ty:=(.pair (.arr 4 W4) W48)
abbrev W54:Ty:=(.pair (.int .u64) W40)
abbrev W55:Ty:=(.pair (.int .u64) W42)
abbrev W56:Ty:=(.pair (.int .u64) W43)
abbrev W57:Ty:=(.pair (.int .u64) W45)
abbrev W58:Ty:=(.pair (.int .u64) W52)
abbrev W59:Ty:=(.pair (.slice W44) W27)
abbrev W60:Ty:=(.pair (.slice W46) .unit)
abbrev W61:Ty:=(.pair W4 W58)
abbrev W62:Ty:=(.pair W14 W60)
abbrev W63:Ty:=(.pair W4 W61)
abbrev W64:Ty:=(.pair (.int .u64) W54)
abbrev W65:Ty:=(.pair (.int .u64) W55)
abbrev W66:Ty:=(.pair (.int .u64) W56)
abbrev W67:Ty:=(.pair (.int .u64) W57)
abbrev W68:Ty:=(.pair (.int .u64) W62)
abbrev W69:Ty:=(.pair (.slice W44) W53)
abbrev W70:Ty:=(.pair W4 W65)
abbrev W71:Ty:=(.pair W64 W63)
abbrev W72:Ty:=(.pair W67 .unit)
abbrev W73:Ty:=(.pair (.int .i64) W71)
abbrev W74:Ty:=(.pair (.int .u64) W68)
abbrev W75:Ty:=(.pair (.int .u64) W70)
abbrev W76:Ty:=(.pair (.int .u64) W72)
abbrev W77:Ty:=(.pair W4 W75)
abbrev W78:Ty:=(.pair W4 W76)
abbrev W79:Ty:=(.pair (.int .i64) W73)
abbrev W80:Ty:=(.pair (.int .i64) W78)
abbrev W81:Ty:=(.pair (.int .u64) W74)
abbrev W82:Ty:=(.pair (.int .u64) W77)
abbrev W83:Ty:=(.pair W4 W81)
abbrev W84:Ty:=(.pair W4 W82)
abbrev W85:Ty:=(.pair W83 W69)
abbrev W86:Ty:=(.pair (.int .u64) W80)
abbrev W87:Ty:=(.pair (.int .u64) W84)
abbrev W88:Ty:=(.pair (.int .u64) W85)
abbrev W89:Ty:=(.pair W25 W86)
abbrev W90:Ty:=(.pair W41 W88)
abbrev W91:Ty:=(.pair W66 W89)
abbrev W92:Ty:=(.pair (.int .i64) W91)
abbrev W93:Ty:=(.pair (.int .u64) W87)
abbrev W94:Ty:=(.pair (.int .u64) W93)
abbrev W95:Ty:=(.pair W94 W90)
abbrev W96:Ty:=(.pair (.int .u64) W95)
abbrev W97:Ty:=(.pair (.int .i64) (.pair .bool .unit))
abbrev V1:Ez:=(.own true W3)
abbrev V2:Ez:=(.ro false W1)
abbrev V3:Ez:=(.ro false W2)
abbrev V4:Ez:=(.ro false W7)
abbrev V5:Ez:=(.ro false W8)
abbrev V6:Ez:=(.ro true W12)
abbrev V7:Ez:=(.ro true W14)
abbrev V8:Ez:=(.ro true W25)
abbrev V9:Ez:=(.ro true W41)
abbrev V10:Ez:=(.ro true W44)
abbrev V11:Ez:=(.ro true W83)
abbrev V12:Ez:=(.ro true W94)
abbrev V13:Ez:=(.own false W3)
abbrev V14:Ez:=(.own true W21)
abbrev V15:Ez:=(.own true W44)
abbrev V16:Ez:=(.own true W46)
abbrev V17:Ez:=(.ro false W15)
abbrev V18:Ez:=(.ro false W66)
abbrev V19:Ez:=(.ro false W83)
abbrev V20:Ez:=(.ro false W96)
abbrev V21:Ez:=(.own false W21)
abbrev V22:Ez:=(.own false W25)
abbrev V23:Ez:=(.own false W44)
abbrev V24:Ez:=(.ro false .ptr)
abbrev V25:Ez:=(.ro true .bool)
abbrev V26:Ez:=(.ro true .unit)
abbrev V27:Ez:=(.own false .bool)
abbrev V28:Ez:=(.ptr (.ro true W3))
abbrev V29:Ez:=(.ptr (.ro true W4))
abbrev V30:Ez:=(.ptr (.ro true W5))
abbrev V31:Ez:=(.ptr (.ro true W6))
abbrev V32:Ez:=(.own true (.int .u8))
abbrev V33:Ez:=(.ro true (.arr 4 W4))
abbrev Bv:Ez:=(.ro true (.int .i64))
abbrev V35:Ez:=(.ro true (.int .u32))
abbrev J1:Ez:=(.ro true (.int .u64))
abbrev V37:Ez:=(.own false (.int .u8))
abbrev V38:Ez:=(.own true (.int .i64))
abbrev V39:Ez:=(.ro false (.slice W2))
abbrev V40:Ez:=(.ro false (.slice W3))
abbrev V41:Ez:=(.ro false (.slice W4))
abbrev V42:Ez:=(.own false (.int .u64))
abbrev V43:Ez:=(.ro false (.slice W21))
abbrev V44:Ez:=(.ro false (.slice W25))
abbrev V45:Ez:=(.ro false (.slice W44))
abbrev V46:Ez:=(.ro false (.slice W46))
abbrev V47:Ez:=(.ptr (.pair V23 (.pair V33 V26)))
abbrev V48:Ez:=(.pair (.ro true W4) (.pair V21 V26))
abbrev V49:Ez:=(.pair (.ro true W4) (.pair V22 V26))
abbrev V50:Ez:=(.pair (.ro true W4) (.pair V43 V26))
abbrev V51:Ez:=(.pair J1 (.pair (.ro true W4) V49))
abbrev V52:Ez:=(.ptr (.pair V3 (.pair Bv (.pair V25 V26))))
abbrev V53:Ez:=(.pair (.ro true W4) (.pair (.ro true W4) V51))
abbrev V54:Ez:=(.pair Bv (.pair (.ro true W64) V53))
abbrev V55:Ez:=(.pair (.ro true W4) (.pair V13 (.pair V42 (.pair V21 V26))))
abbrev V56:Ez:=(.pair (.ptr V55) V26)
abbrev V57:Ez:=(.pair (.ro true W4) (.pair J1 (.pair J1 (.pair J1 (.pair V7 (.pair V46 V26))))))
abbrev V58:Ez:=(.ptr (.pair J1 (.pair V12 (.pair V9 (.pair J1 (.pair V19 (.pair V47 (.pair V22 V56))))))))
abbrev V59:Ez:=(.ptr (.pair J1 (.pair V12 (.pair V9 (.pair J1 (.pair V57 (.pair V45 (.pair V33 (.pair V44 (.pair V2 V50))))))))))
abbrev V60:Ez:=(.ptr (.pair J1 (.pair V12 (.pair V9 (.pair J1 (.pair V19 (.pair V23 (.pair V33 (.pair V22 (.pair V27 V48))))))))))
abbrev R1:Ty:=((Ty.int IntKind.u64).pair Ty.unit)
abbrev R2:Ty:=((Ty.int IntKind.u8).slice.pair Ty.unit)
abbrev R3:Ty:=((Ty.int IntKind.u64).pair R2)
abbrev R4:Ty:=((Ty.arr 4 (Ty.int IntKind.u64)).pair R1)
abbrev R5:Ty:=((Ty.arr 4 (Ty.int IntKind.u64)).pair R3)
abbrev R6:Ty:=((Ty.arr 4 (Ty.int IntKind.u64)).pair Ty.unit)
abbrev R7:Ty:=((Ty.int IntKind.u64).pair R4)
abbrev R8:Ty:=((Ty.int IntKind.u64).pair R6)
abbrev R9:Ty:=((Ty.int IntKind.u64).pair R8)
abbrev R10:Ty:=((Ty.arr 4 (Ty.int IntKind.u64)).pair R4)
abbrev R11:Ty:=((Ty.arr 4 (Ty.int IntKind.u64)).pair R5)
abbrev R12:Ty:=((Ty.arr 4 (Ty.int IntKind.u64)).pair R6)
abbrev R13:Ty:=((Ty.int IntKind.u64).pair R11)
abbrev R14:Ty:=((Ty.arr 4 (Ty.int IntKind.u64)).pair R10)
abbrev R15:Ty:=((Ty.arr 4 (Ty.int IntKind.u64)).pair R12)
abbrev R16:Ty:=((Ty.arr 4 (Ty.int IntKind.u64)).pair R13)
abbrev R17:Ty:=((Ty.int IntKind.u64).pair R16)
abbrev R18:Ty:=((Ty.int IntKind.u64).pair R17)
abbrev R19:Ty:=((Ty.int IntKind.u64).pair R18)
abbrev R20:Ty:=((Ty.arr 4 (Ty.int IntKind.u64)).pair R14)
abbrev R21:Ty:=((Ty.arr 4 (Ty.int IntKind.u64)).pair R15)
abbrev D9:Ty:=((Ty.int IntKind.u64).pair R20)
abbrev R23:Ty:=((Ty.arr 4 (Ty.int IntKind.u64)).pair R21)
abbrev R24:Ty:=((Ty.int IntKind.u64).pair (Ty.bool.pair R23))
abbrev R25:Ty:=((Ty.arr 32 (Ty.int IntKind.u8)).slice.pair Ty.unit)
abbrev R26:Ty:=((Ty.int IntKind.u64).pair R24)
abbrev R27:Ty:=((Ty.int IntKind.u64).pair R26)
abbrev R28:Ty:=((Ty.int IntKind.u64).pair R27)
abbrev R29:Ty:=((Ty.arr 4 (Ty.int IntKind.u64)).pair R25)
abbrev R30:Ty:=((Ty.int IntKind.u64).pair R29)
abbrev R31:Ty:=((Ty.int IntKind.u64).pair R30)
abbrev R32:Ty:=((Ty.int IntKind.u64).pair R31)
abbrev R33:Ty:=((Ty.int IntKind.u64).pair (R32.pair Ty.unit))
abbrev R34:Ty:=((Ty.arr 4 (Ty.int IntKind.u64)).pair R33)
abbrev R35:Ty:=((Ty.int IntKind.i64).pair R34)
abbrev R36:Ty:=((Ty.int IntKind.u64).pair R35)
abbrev R37:Ty:=((Ty.int IntKind.i64).pair (R19.pair (R9.pair R36)))
abbrev R38:Ty:=((Ty.arr 4 (Ty.int IntKind.u64)).pair (R9.slice.pair Ty.unit))
abbrev R39:Ty:=((Ty.arr 4 (Ty.int IntKind.u64)).pair R38)
abbrev R40:Ty:=((Ty.int IntKind.u64).pair R39)
abbrev R41:Ty:=((Ty.arr 4 (Ty.int IntKind.u64)).pair R40)
abbrev R42:Ty:=((Ty.arr 4 (Ty.int IntKind.u64)).pair R41)
abbrev R43:Ty:=((Ty.int IntKind.i64).pair (R28.pair R42))
abbrev R44:Ty:=((Ty.int IntKind.i64).pair R43)
set_option maxRecDepth 100000
abbrev Hs:Ce:=⟨[J1,J1,J1],[J1,J1]⟩
abbrev Hv:=(Int×Int×Int×(Unit))→Option Y53
def Af5(L:Ae)(a:Int)(b:Int)(c:Int):Option Y53:=Ckx (a,b,c,(()))
def Ex:Hv:=fun x=>Af5 Ac x.1 x.2.1 x.2.2.1
abbrev Ql:Ce:=⟨[J1],[Bv]⟩
abbrev Afb:=(Int×Unit)→Option Y14
def Agb(L:Ae)(a:Int):Option Y14:=(Ah (decide (a≥4294967296)) (Ah (decide ((Int.fdiv a 4294967296)≥65536)) (Ah (decide ((Int.fdiv (Int.fdiv a 4294967296) 65536)≥256)) (Ah (B0 (IntKind.wrap .u8 (Int.fdiv (Int.fdiv (Int.fdiv a 4294967296) 65536) 256)) 256) (some (((IntKind.wrap .i64 (56+(IntKind.wrap .i64 (List.getD [0,1,2,2,3,3,3,3,4,4,4,4,4,4,4,4,5,5,5,5,5,5,5,5,5,5,5,5,5,5,5,5,6,6,6,6,6,6,6,6,6,6,6,6,6,6,6,6,6,6,6,6,6,6,6,6,6,6,6,6,6,6,6,6,7,7,7,7,7,7,7,7,7,7,7,7,7,7,7,7,7,7,7,7,7,7,7,7,7,7,7,7,7,7,7,7,7,7,7,7,7,7,7,7,7,7,7,7,7,7,7,7,7,7,7,7,7,7,7,7,7,7,7,7,7,7,7,7,8,8,8,8,8,8,8,8,8,8,8,8,8,8,8,8,8,8,8,8,8,8,8,8,8,8,8,8,8,8,8,8,8,8,8,8,8,8,8,8,8,8,8,8,8,8,8,8,8,8,8,8,8,8,8,8,8,8,8,8,8,8,8,8,8,8,8,8,8,8,8,8,8,8,8,8,8,8,8,8,8,8,8,8,8,8,8,8,8,8,8,8,8,8,8,8,8,8,8,8,8,8,8,8,8,8,8,8,8,8,8,8,8,8,8,8,8,8,8,8,8,8,8,8,8,8,8,8] (Int.toNat (IntKind.wrap .u8 (Int.fdiv (Int.fdiv (Int.fdiv a 4294967296) 65536) 256))) 0)))),()),(),())) none) (Ah (B0 (IntKind.wrap .u8 (Int.fdiv (Int.fdiv a 4294967296) 65536)) 256) (some (((IntKind.wrap .i64 (48+(IntKind.wrap .i64 (List.getD [0,1,2,2,3,3,3,3,4,4,4,4,4,4,4,4,5,5,5,5,5,5,5,5,5,5,5,5,5,5,5,5,6,6,6,6,6,6,6,6,6,6,6,6,6,6,6,6,6,6,6,6,6,6,6,6,6,6,6,6,6,6,6,6,7,7,7,7,7,7,7,7,7,7,7,7,7,7,7,7,7,7,7,7,7,7,7,7,7,7,7,7,7,7,7,7,7,7,7,7,7,7,7,7,7,7,7,7,7,7,7,7,7,7,7,7,7,7,7,7,7,7,7,7,7,7,7,7,8,8,8,8,8,8,8,8,8,8,8,8,8,8,8,8,8,8,8,8,8,8,8,8,8,8,8,8,8,8,8,8,8,8,8,8,8,8,8,8,8,8,8,8,8,8,8,8,8,8,8,8,8,8,8,8,8,8,8,8,8,8,8,8,8,8,8,8,8,8,8,8,8,8,8,8,8,8,8,8,8,8,8,8,8,8,8,8,8,8,8,8,8,8,8,8,8,8,8,8,8,8,8,8,8,8,8,8,8,8,8,8,8,8,8,8,8,8,8,8,8,8,8,8,8,8,8,8] (Int.toNat (IntKind.wrap .u8 (Int.fdiv (Int.fdiv a 4294967296) 65536))) 0)))),()),(),())) none)) (Ah (decide ((Int.fdiv a 4294967296)≥256)) (Ah (B0 (IntKind.wrap .u8 (Int.fdiv (Int.fdiv a 4294967296) 256)) 256) (some (((IntKind.wrap .i64 (40+(IntKind.wrap .i64 (List.getD [0,1,2,2,3,3,3,3,4,4,4,4,4,4,4,4,5,5,5,5,5,5,5,5,5,5,5,5,5,5,5,5,6,6,6,6,6,6,6,6,6,6,6,6,6,6,6,6,6,6,6,6,6,6,6,6,6,6,6,6,6,6,6,6,7,7,7,7,7,7,7,7,7,7,7,7,7,7,7,7,7,7,7,7,7,7,7,7,7,7,7,7,7,7,7,7,7,7,7,7,7,7,7,7,7,7,7,7,7,7,7,7,7,7,7,7,7,7,7,7,7,7,7,7,7,7,7,7,8,8,8,8,8,8,8,8,8,8,8,8,8,8,8,8,8,8,8,8,8,8,8,8,8,8,8,8,8,8,8,8,8,8,8,8,8,8,8,8,8,8,8,8,8,8,8,8,8,8,8,8,8,8,8,8,8,8,8,8,8,8,8,8,8,8,8,8,8,8,8,8,8,8,8,8,8,8,8,8,8,8,8,8,8,8,8,8,8,8,8,8,8,8,8,8,8,8,8,8,8,8,8,8,8,8,8,8,8,8,8,8,8,8,8,8,8,8,8,8,8,8,8,8,8,8,8,8] (Int.toNat (IntKind.wrap .u8 (Int.fdiv (Int.fdiv a 4294967296) 256))) 0)))),()),(),())) none) (Ah (B0 (IntKind.wrap .u8 (Int.fdiv a 4294967296)) 256) (some (((IntKind.wrap .i64 (32+(IntKind.wrap .i64 (List.getD [0,1,2,2,3,3,3,3,4,4,4,4,4,4,4,4,5,5,5,5,5,5,5,5,5,5,5,5,5,5,5,5,6,6,6,6,6,6,6,6,6,6,6,6,6,6,6,6,6,6,6,6,6,6,6,6,6,6,6,6,6,6,6,6,7,7,7,7,7,7,7,7,7,7,7,7,7,7,7,7,7,7,7,7,7,7,7,7,7,7,7,7,7,7,7,7,7,7,7,7,7,7,7,7,7,7,7,7,7,7,7,7,7,7,7,7,7,7,7,7,7,7,7,7,7,7,7,7,8,8,8,8,8,8,8,8,8,8,8,8,8,8,8,8,8,8,8,8,8,8,8,8,8,8,8,8,8,8,8,8,8,8,8,8,8,8,8,8,8,8,8,8,8,8,8,8,8,8,8,8,8,8,8,8,8,8,8,8,8,8,8,8,8,8,8,8,8,8,8,8,8,8,8,8,8,8,8,8,8,8,8,8,8,8,8,8,8,8,8,8,8,8,8,8,8,8,8,8,8,8,8,8,8,8,8,8,8,8,8,8,8,8,8,8,8,8,8,8,8,8,8,8,8,8,8,8] (Int.toNat (IntKind.wrap .u8 (Int.fdiv a 4294967296))) 0)))),()),(),())) none))) (Ah (decide (a≥65536)) (Ah (decide ((Int.fdiv a 65536)≥256)) (Ah (B0 (IntKind.wrap .u8 (Int.fdiv (Int.fdiv a 65536) 256)) 256) (some (((IntKind.wrap .i64 (24+(IntKind.wrap .i64 (List.getD [0,1,2,2,3,3,3,3,4,4,4,4,4,4,4,4,5,5,5,5,5,5,5,5,5,5,5,5,5,5,5,5,6,6,6,6,6,6,6,6,6,6,6,6,6,6,6,6,6,6,6,6,6,6,6,6,6,6,6,6,6,6,6,6,7,7,7,7,7,7,7,7,7,7,7,7,7,7,7,7,7,7,7,7,7,7,7,7,7,7,7,7,7,7,7,7,7,7,7,7,7,7,7,7,7,7,7,7,7,7,7,7,7,7,7,7,7,7,7,7,7,7,7,7,7,7,7,7,8,8,8,8,8,8,8,8,8,8,8,8,8,8,8,8,8,8,8,8,8,8,8,8,8,8,8,8,8,8,8,8,8,8,8,8,8,8,8,8,8,8,8,8,8,8,8,8,8,8,8,8,8,8,8,8,8,8,8,8,8,8,8,8,8,8,8,8,8,8,8,8,8,8,8,8,8,8,8,8,8,8,8,8,8,8,8,8,8,8,8,8,8,8,8,8,8,8,8,8,8,8,8,8,8,8,8,8,8,8,8,8,8,8,8,8,8,8,8,8,8,8,8,8,8,8,8,8] (Int.toNat (IntKind.wrap .u8 (Int.fdiv (Int.fdiv a 65536) 256))) 0)))),()),(),())) none) (Ah (B0 (IntKind.wrap .u8 (Int.fdiv a 65536)) 256) (some (((IntKind.wrap .i64 (16+(IntKind.wrap .i64 (List.getD [0,1,2,2,3,3,3,3,4,4,4,4,4,4,4,4,5,5,5,5,5,5,5,5,5,5,5,5,5,5,5,5,6,6,6,6,6,6,6,6,6,6,6,6,6,6,6,6,6,6,6,6,6,6,6,6,6,6,6,6,6,6,6,6,7,7,7,7,7,7,7,7,7,7,7,7,7,7,7,7,7,7,7,7,7,7,7,7,7,7,7,7,7,7,7,7,7,7,7,7,7,7,7,7,7,7,7,7,7,7,7,7,7,7,7,7,7,7,7,7,7,7,7,7,7,7,7,7,8,8,8,8,8,8,8,8,8,8,8,8,8,8,8,8,8,8,8,8,8,8,8,8,8,8,8,8,8,8,8,8,8,8,8,8,8,8,8,8,8,8,8,8,8,8,8,8,8,8,8,8,8,8,8,8,8,8,8,8,8,8,8,8,8,8,8,8,8,8,8,8,8,8,8,8,8,8,8,8,8,8,8,8,8,8,8,8,8,8,8,8,8,8,8,8,8,8,8,8,8,8,8,8,8,8,8,8,8,8,8,8,8,8,8,8,8,8,8,8,8,8,8,8,8,8,8,8] (Int.toNat (IntKind.wrap .u8 (Int.fdiv a 65536))) 0)))),()),(),())) none)) (Ah (decide (a≥256)) (Ah (B0 (IntKind.wrap .u8 (Int.fdiv a 256)) 256) (some (((IntKind.wrap .i64 (8+(IntKind.wrap .i64 (List.getD [0,1,2,2,3,3,3,3,4,4,4,4,4,4,4,4,5,5,5,5,5,5,5,5,5,5,5,5,5,5,5,5,6,6,6,6,6,6,6,6,6,6,6,6,6,6,6,6,6,6,6,6,6,6,6,6,6,6,6,6,6,6,6,6,7,7,7,7,7,7,7,7,7,7,7,7,7,7,7,7,7,7,7,7,7,7,7,7,7,7,7,7,7,7,7,7,7,7,7,7,7,7,7,7,7,7,7,7,7,7,7,7,7,7,7,7,7,7,7,7,7,7,7,7,7,7,7,7,8,8,8,8,8,8,8,8,8,8,8,8,8,8,8,8,8,8,8,8,8,8,8,8,8,8,8,8,8,8,8,8,8,8,8,8,8,8,8,8,8,8,8,8,8,8,8,8,8,8,8,8,8,8,8,8,8,8,8,8,8,8,8,8,8,8,8,8,8,8,8,8,8,8,8,8,8,8,8,8,8,8,8,8,8,8,8,8,8,8,8,8,8,8,8,8,8,8,8,8,8,8,8,8,8,8,8,8,8,8,8,8,8,8,8,8,8,8,8,8,8,8,8,8,8,8,8,8] (Int.toNat (IntKind.wrap .u8 (Int.fdiv a 256))) 0)))),()),(),())) none) (Ah (B0 (IntKind.wrap .u8 a) 256) (some (((IntKind.wrap .i64 (0+(IntKind.wrap .i64 (List.getD [0,1,2,2,3,3,3,3,4,4,4,4,4,4,4,4,5,5,5,5,5,5,5,5,5,5,5,5,5,5,5,5,6,6,6,6,6,6,6,6,6,6,6,6,6,6,6,6,6,6,6,6,6,6,6,6,6,6,6,6,6,6,6,6,7,7,7,7,7,7,7,7,7,7,7,7,7,7,7,7,7,7,7,7,7,7,7,7,7,7,7,7,7,7,7,7,7,7,7,7,7,7,7,7,7,7,7,7,7,7,7,7,7,7,7,7,7,7,7,7,7,7,7,7,7,7,7,7,8,8,8,8,8,8,8,8,8,8,8,8,8,8,8,8,8,8,8,8,8,8,8,8,8,8,8,8,8,8,8,8,8,8,8,8,8,8,8,8,8,8,8,8,8,8,8,8,8,8,8,8,8,8,8,8,8,8,8,8,8,8,8,8,8,8,8,8,8,8,8,8,8,8,8,8,8,8,8,8,8,8,8,8,8,8,8,8,8,8,8,8,8,8,8,8,8,8,8,8,8,8,8,8,8,8,8,8,8,8,8,8,8,8,8,8,8,8,8,8,8,8,8,8,8,8,8,8] (Int.toNat (IntKind.wrap .u8 a)) 0)))),()),(),())) none))))
def Ml:Afb:=fun x=>Agb Ac x.1
abbrev Ew:Ce:=⟨[V35,Bv],[V35]⟩
abbrev Gb:=Y3→Option Y56
def Q8(L:Ae)(b:Int)(d:Int):Option Y56:=(A2 (IntKind.wrap .u64 (((BitVec.toNat ((BitVec.ofInt 64 (IntKind.wrap .u64 d)) &&& (BitVec.ofInt 64 31))):Nat):Int)) fun a=>A2 (IntKind.wrap .u64 (32-a)) fun c=>Ah (decide (0≤a)) (Ah (decide (0≤c)) (some (((IntKind.wrap .u32 (((BitVec.toNat ((BitVec.ofInt 32 (IntKind.wrap .u32 (b*(2 ^ (min (Int.toNat a) 32))))) ||| (BitVec.ofInt 32 (Int.fdiv b (2 ^ (min (Int.toNat c) 32)))))):Nat):Int)),()),(),(),())) none) none)
def Bb:Gb:=fun x=>Q8 Ac x.1 x.2.1
abbrev Afh:=(Int×Int×Int×(Unit))→Option Y53
def Arb(L:Ae)(a:Int)(b:Int)(c:Int):Option Y53:=Cpz (a,b,c,(()))
def Aa1:Afh:=fun x=>Arb Ac x.1 x.2.1 x.2.2.1
set_option maxRecDepth 100000
abbrev Hb:Ce:=⟨[(.ro true W5),(.ro true W4)],[(.ro true W5)]⟩
abbrev G9:=Y39→Option T2
def Afc(f:Hv)(g:Y95→Option T2)(b:(List Int))(c:(List Int))(h:(List Int))(d:Int)(a:Int):Option T2:=(Ah (decide (a<4)) (Ah (B0 a 5) (Ah (B0 a 4) ((f ((List.getD b (Int.toNat a) 0),(List.getD c (Int.toNat a) 0),d,())).bind fun e=>Ah (B0 a 5) (g ((List.set b (Int.toNat a) e.1.1),c,h,e.1.2.1,(IntKind.wrap .i64 (a+1)),())) none) none) none) (some (((List.set b 4 (IntKind.wrap .u64 ((List.getD b 4 0)+d))),()),(),(),())))
def Z3(L:Ae)(a:Hv)(b:(List Int))(c:(List Int)):Option T2:=(L _ _ (fun z x=>Afc a z x.1 x.2.1 x.2.2.1 x.2.2.2.1 x.2.2.2.2.1) (b,c,[0,0,0,0,0],0,0,()))
def Et:G9:=fun x=>Z3 Ac Ex x.1 x.2.1
abbrev Xy:Ce:=⟨[V41],[(.ro true W5)]⟩
abbrev Tg:=(Y1×Unit)→Option Y6
def Aq1(e:G9)(f:((List Int)×(List Int)×Y1×Int×Int×Unit)→Option Y6)(g:(List Int))(c:(List Int))(b:Y1)(d:Int)(a:Int):Option Y6:=(Ah (decide (a<d)) (Ah (B0 a (List.length b)) ((e (c,(List.getD b (Int.toNat a) [0,0,0,0]),())).bind fun h=>f (g,h.1.1,b,d,(IntKind.wrap .i64 (a+1)),())) none) (some ((c,()),(),())))
def Ap8(L:Ae)(b:G9)(a:Y1):Option Y6:=(L _ _ (fun z x=>Aq1 b z x.1 x.2.1 x.2.2.1 x.2.2.2.1 x.2.2.2.2.1) ([0,0,0,0,0],[0,0,0,0,0],a,(List.length a:Int),0,()))
def Lc:Tg:=fun x=>Ap8 Ac Et x.1
set_option maxRecDepth 100000
abbrev I0:Ce:=⟨[.nilm (.int .u8),.ro true (.int .i64)],[.own true (.int .u8)]⟩
abbrev Rx:=(Unit×Int×Unit)→Option T2
def Sz(L:Ae)(b:Unit)(a:Int):Option T2:=(Ah (decide (a<0)) none (Ah (decide ((IntKind.wrap .i64 (a-0))>0)) (Ah (((decide (0≤(IntKind.wrap .i64 (a-0))))&&(A9 (Int.toNat (IntKind.wrap .i64 (a-0))) (Ty.int IntKind.u8)))&&true) (Ah (decide (0≤(((List.length (List.replicate (Int.toNat (IntKind.wrap .i64 (a-0))) 0)):Nat):Int))) (some (((List.take 0 (List.replicate (Int.toNat (IntKind.wrap .i64 (a-0))) 0)),()),(),(),())) none) none) (some (([],()),(),(),()))))
def Hg:Rx:=fun x=>Sz Ac x.1 x.2.1
abbrev C1:Ce:=⟨[V39],[V32]⟩
abbrev Hl:=(Y1×Unit)→Option Y6
def J5(e:Y59→Option Y6)(c:(List Int))(b:Y1)(d:Int)(a:Int):Option Y6:=(Ah (decide (a<d)) (Ah (B0 a (List.length b)) (Ah (A9 ((List.length c)+(List.length (List.getD b (Int.toNat a) []))) (Ty.int IntKind.u8)) (e ((List.append c (List.getD b (Int.toNat a) [])),b,d,(IntKind.wrap .i64 (a+1)),())) none) none) (some ((c,()),(),())))
def Rb(L:Ae)(g:Rx)(h:(Y1×Int×Y1×Int×Int×Unit)→Option Y6)(b:Y1)(d:Int)(c:Y1)(e:Int)(a:Int):Option Y6:=(A2 (IntKind.wrap .i64 (d+(((List.length (List.getD c (Int.toNat a) [])):Nat):Int))) fun f=>Ah (decide (a<e)) (Ah (B0 a (List.length c)) (Ah (decide (f<0)) none (h (b,f,c,e,(IntKind.wrap .i64 (a+1)),()))) none) ((g ((),d,())).bind fun i=>L _ _ (fun z x=>J5 z x.1 x.2.1 x.2.2.1 x.2.2.2.1) (i.1.1,b,(List.length b:Int),0,())))
def Pb(L:Ae)(b:Rx)(a:Y1):Option Y6:=(L _ _ (fun z x=>Rb L b z x.1 x.2.1 x.2.2.1 x.2.2.2.1 x.2.2.2.2.1) (a,0,a,(List.length a:Int),0,()))
def B6:Hl:=fun x=>Pb Ac Hg x.1
abbrev Df:Ce:=⟨[V45],[V15]⟩
abbrev Co:=Y22→Option Y28
def Eg(L:Ae)(a:(List Y17)):Option Y28:=(A2 (List.length a) fun b=>Ah (decide (b=0)) (Bj6 (some (([],()),(),())) (Ah (A9 (0+b) R7) (some ((a,()),(),())) none)) (Ah (A9 (0+b) R7) (some ((a,()),(),())) none))
def Bx:Co:=fun x=>Eg Ac x.1
abbrev Hn:=Y99→Option Bwd
def Mi(L:Ae)(a:(List Y98)):Option Bwd:=(A2 (List.length a) fun b=>Ah (decide (b=0)) (Bj6 (some (([],()),(),())) (Ah (A9 (0+b) D9) (some ((a,()),(),())) none)) (Ah (A9 (0+b) D9) (some ((a,()),(),())) none))
def Ei:Hn:=fun x=>Mi Ac x.1
abbrev H8:Ce:=⟨[V3],[V32]⟩
abbrev Ab3:=Y4→Option Y6
def Q2(L:Ae)(a:(List Int)):Option Y6:=(Ah (decide ((List.length a)=0)) (Bj6 (some (([],()),(),())) (Ah (A9 (0+(List.length a)) (Ty.int IntKind.u8)) (some ((a,()),(),())) none)) (Ah (A9 (0+(List.length a)) (Ty.int IntKind.u8)) (some ((a,()),(),())) none))
def Gy:Ab3:=fun x=>Q2 Ac x.1
abbrev Iv:Ce:=⟨[V37],[(.full (.int .u8))]⟩
abbrev Gp:=Y4→Option Y6
def Se(L:Ae)(a:(List Int)):Option Y6:=(Ah (decide ((List.length a:Int)=(List.length a:Int))) (Ah ((decide (0≤(List.length a:Int)))&&(decide ((List.length a:Int)≤(List.length a:Int)))) (Ah ((decide (0<(Int.toNat (List.length a:Int))))&&(decide ((Int.toNat (List.length a:Int))=(List.length a)))) (some ((a,()),(),())) none) none) none)
def C2:Gp:=fun x=>Se Ac x.1
set_option maxRecDepth 100000
abbrev Ke:Ce:=⟨[],[V6]⟩
abbrev Ov:=Unit→Option (Y4×Unit)
def Vz(L:Ae):Option (Y4×Unit):=(some (((List.set (List.set (List.set (List.set (List.set (List.set (List.set (List.set (List.set (List.set (List.set (List.set (List.set (List.set (List.set (List.set (List.set (List.set (List.set (List.set (List.set (List.set (List.set (List.set (List.set (List.set (List.set (List.set (List.set (List.set (List.set (List.set (List.set (List.set (List.set (List.set (List.set (List.set (List.set (List.set (List.set (List.set (List.set (List.set (List.set (List.set (List.set (List.set (List.set (List.set (List.set (List.set (List.set (List.set (List.set (List.set (List.set (List.set (List.set (List.set (List.set (List.set (List.set (List.set (List.replicate 64 0) 0 1116352408) 1 1899447441) 2 3049323471) 3 3921009573) 4 961987163) 5 1508970993) 6 2453635748) 7 2870763221) 8 3624381080) 9 310598401) 10 607225278) 11 1426881987) 12 1925078388) 13 2162078206) 14 2614888103) 15 3248222580) 16 3835390401) 17 4022224774) 18 264347078) 19 604807628) 20 770255983) 21 1249150122) 22 1555081692) 23 1996064986) 24 2554220882) 25 2821834349) 26 2952996808) 27 3210313671) 28 3336571891) 29 3584528711) 30 113926993) 31 338241895) 32 666307205) 33 773529912) 34 1294757372) 35 1396182291) 36 1695183700) 37 1986661051) 38 2177026350) 39 2456956037) 40 2730485921) 41 2820302411) 42 3259730800) 43 3345764771) 44 3516065817) 45 3600352804) 46 4094571909) 47 275423344) 48 430227734) 49 506948616) 50 659060556) 51 883997877) 52 958139571) 53 1322822218) 54 1537002063) 55 1747873779) 56 1955562222) 57 2024104815) 58 2227730452) 59 2361852424) 60 2428436474) 61 2756734187) 62 3204031479) 63 3329325298),()),()))
def Gm:Ov:=fun x=>Vz Ac
abbrev Ur:Ce:=⟨[V3],[V6]⟩
abbrev Uy:=Y4→Option Y6
def Ws(c:Gb)(j:Y64→Option Y6)(k:(List Int))(b:(List Int))(a:Int):Option Y6:=(A2 (IntKind.wrap .i64 (a-15)) fun f=>A2 (IntKind.wrap .i64 (a-2)) fun g=>A2 (IntKind.wrap .i64 (a-16)) fun h=>A2 (IntKind.wrap .i64 (a-7)) fun i=>A2 (List.getD b (Int.toNat f) 0) fun d=>A2 (List.getD b (Int.toNat g) 0) fun e=>Ah (decide (a<64)) (Ah (B0 f 64) (Ah (B0 g 64) ((c (d,(-7:Int),())).bind fun l=>(c (d,(-18:Int),())).bind fun m=>(c (e,(-17:Int),())).bind fun n=>(c (e,(-19:Int),())).bind fun o=>Ah (B0 h 64) (Ah (B0 i 64) (Ah (B0 a 64) (j (k,(List.set b (Int.toNat a) (IntKind.wrap .u32 ((IntKind.wrap .u32 ((IntKind.wrap .u32 ((List.getD b (Int.toNat h) 0)+(IntKind.wrap .u32 (((BitVec.toNat ((BitVec.ofInt 32 (IntKind.wrap .u32 (((BitVec.toNat ((BitVec.ofInt 32 l.1.1) ^^^ (BitVec.ofInt 32 m.1.1))):Nat):Int))) ^^^ (BitVec.ofInt 32 (Int.fdiv d 8)))):Nat):Int))))+(List.getD b (Int.toNat i) 0)))+(IntKind.wrap .u32 (((BitVec.toNat ((BitVec.ofInt 32 (IntKind.wrap .u32 (((BitVec.toNat ((BitVec.ofInt 32 n.1.1) ^^^ (BitVec.ofInt 32 o.1.1))):Nat):Int))) ^^^ (BitVec.ofInt 32 (Int.fdiv e 1024)))):Nat):Int))))),(IntKind.wrap .i64 (a+1)),())) none) none) none) none) none) (some ((b,()),(),())))
def Ag7(L:Ae)(i:Gb)(j:Y89→Option Y6)(a:(List Int))(d:(List Int))(e:(List Int))(b:Int):Option Y6:=(A2 (IntKind.wrap .i64 (4*b)) fun c=>A2 (IntKind.wrap .i64 (c+1)) fun f=>A2 (IntKind.wrap .i64 (c+2)) fun g=>A2 (IntKind.wrap .i64 (c+3)) fun h=>Ah (decide (b<16)) (Ah (B0 c (List.length a)) (Ah (B0 f (List.length a)) (Ah (B0 g (List.length a)) (Ah (B0 h (List.length a)) (Ah (B0 b 64) (j (a,d,(List.set e (Int.toNat b) (IntKind.wrap .u32 (((BitVec.toNat ((BitVec.ofInt 32 (IntKind.wrap .u32 (((BitVec.toNat ((BitVec.ofInt 32 (IntKind.wrap .u32 (((BitVec.toNat ((BitVec.ofInt 32 (IntKind.wrap .u32 ((IntKind.wrap .u32 (List.getD a (Int.toNat c) 0))*16777216))) ||| (BitVec.ofInt 32 (IntKind.wrap .u32 ((IntKind.wrap .u32 (List.getD a (Int.toNat f) 0))*65536))))):Nat):Int))) ||| (BitVec.ofInt 32 (IntKind.wrap .u32 ((IntKind.wrap .u32 (List.getD a (Int.toNat g) 0))*256))))):Nat):Int))) ||| (BitVec.ofInt 32 (IntKind.wrap .u32 (List.getD a (Int.toNat h) 0))))):Nat):Int))),(IntKind.wrap .i64 (b+1)),())) none) none) none) none) none) (L _ _ (fun z x=>Ws i z x.1 x.2.1 x.2.2.1) (d,e,16,())))
def Alf(L:Ae)(a:Gb)(b:(List Int)):Option Y6:=(L _ _ (fun z x=>Ag7 L a z x.1 x.2.1 x.2.2.1 x.2.2.2.1) (b,(List.replicate 64 0),(List.replicate 64 0),0,()))
def Jq:Uy:=fun x=>Alf Ac Bb x.1
abbrev Va:Ce:=⟨[(.ro true W6),V6,V6],[(.ro true W6)]⟩
abbrev Uv:=Y79→Option Y42
def Wl(d:Y89→Option Y42)(c:(List Int))(e:(List Int))(b:(List Int))(a:Int):Option Y42:=(Ah (decide (a<8)) (Ah (B0 a 8) (Ah (B0 a 8) (Ah (B0 a 8) (d (c,e,(List.set b (Int.toNat a) (IntKind.wrap .u32 ((List.getD b (Int.toNat a) 0)+(List.getD c (Int.toNat a) 0)))),(IntKind.wrap .i64 (a+1)),())) none) none) none) (some ((b,()),(),(),(),())))
def Ag8(L:Ae)(b:Gb)(o:Cn9→Option Y42)(h:(List Int))(i:(List Int))(j:(List Int))(k:(List Int))(a:(List Int))(c:Int):Option Y42:=(A2 (List.getD a 4 0) fun d=>A2 (List.getD a 0 0) fun e=>A2 (List.getD a 7 0) fun p=>A2 (List.getD a 5 0) fun l=>A2 (List.getD a 6 0) fun m=>A2 (List.getD a 1 0) fun f=>A2 (List.getD a 2 0) fun g=>A2 (IntKind.wrap .u32 (((BitVec.toNat ((BitVec.ofInt 32 (IntKind.wrap .u32 (((BitVec.toNat ((BitVec.ofInt 32 d) &&& (BitVec.ofInt 32 l))):Nat):Int))) ^^^ (BitVec.ofInt 32 (IntKind.wrap .u32 (((BitVec.toNat ((BitVec.ofInt 32 (IntKind.wrap .u32 (((BitVec.toNat ((BitVec.ofInt 32 4294967295) ^^^ (BitVec.ofInt 32 d))):Nat):Int))) &&& (BitVec.ofInt 32 m))):Nat):Int))))):Nat):Int)) fun q=>Ah (decide (c<64)) ((b (d,(-6:Int),())).bind fun r=>(b (d,(-11:Int),())).bind fun s=>(b (d,(-25:Int),())).bind fun t=>A2 (IntKind.wrap .u32 ((IntKind.wrap .u32 ((IntKind.wrap .u32 ((IntKind.wrap .u32 (p+(IntKind.wrap .u32 (((BitVec.toNat ((BitVec.ofInt 32 (IntKind.wrap .u32 (((BitVec.toNat ((BitVec.ofInt 32 r.1.1) ^^^ (BitVec.ofInt 32 s.1.1))):Nat):Int))) ^^^ (BitVec.ofInt 32 t.1.1))):Nat):Int))))+q))+(List.getD j (Int.toNat c) 0)))+(List.getD i (Int.toNat c) 0))) fun n=>(b (e,(-2:Int),())).bind fun u=>(b (e,(-13:Int),())).bind fun v=>(b (e,(-22:Int),())).bind fun w=>Ah (B0 c 64) (Ah (B0 c 64) (o (h,i,j,k,[(IntKind.wrap .u32 ((IntKind.wrap .u32 (n+(IntKind.wrap .u32 (((BitVec.toNat ((BitVec.ofInt 32 (IntKind.wrap .u32 (((BitVec.toNat ((BitVec.ofInt 32 u.1.1) ^^^ (BitVec.ofInt 32 v.1.1))):Nat):Int))) ^^^ (BitVec.ofInt 32 w.1.1))):Nat):Int))))+(IntKind.wrap .u32 (((BitVec.toNat ((BitVec.ofInt 32 (IntKind.wrap .u32 (((BitVec.toNat ((BitVec.ofInt 32 (IntKind.wrap .u32 (((BitVec.toNat ((BitVec.ofInt 32 e) &&& (BitVec.ofInt 32 f))):Nat):Int))) ^^^ (BitVec.ofInt 32 (IntKind.wrap .u32 (((BitVec.toNat ((BitVec.ofInt 32 e) &&& (BitVec.ofInt 32 g))):Nat):Int))))):Nat):Int))) ^^^ (BitVec.ofInt 32 (IntKind.wrap .u32 (((BitVec.toNat ((BitVec.ofInt 32 f) &&& (BitVec.ofInt 32 g))):Nat):Int))))):Nat):Int)))),e,f,g,(IntKind.wrap .u32 ((List.getD a 3 0)+n)),d,l,m],(IntKind.wrap .i64 (c+1)),())) none) none) (L _ _ (fun z x=>Wl z x.1 x.2.1 x.2.2.1 x.2.2.2.1) (h,k,a,0,())))
def Ak7(L:Ae)(b:Gb)(a:(List Int))(c:(List Int))(d:(List Int)):Option Y42:=(L _ _ (fun z x=>Ag8 L b z x.1 x.2.1 x.2.2.1 x.2.2.2.1 x.2.2.2.2.1 x.2.2.2.2.2.1) (a,c,d,[0,0,0,0,0,0,0,0],a,0,()))
def Jd:Uv:=fun x=>Ak7 Ac Bb x.1 x.2.1 x.2.2.1
abbrev Aoo:Ce:=⟨[V3],[(.ro true W3)]⟩
abbrev Bdo:=Y4→Option Y6
def Ahp(e:Y89→Option Y6)(f:(List Int))(b:(List Int))(c:(List Int))(a:Int):Option Y6:=(A2 (IntKind.wrap .i64 (24-(IntKind.wrap .i64 (8*(Int.tmod a 4))))) fun d=>Ah (decide (a<32)) (Ah (B0 (IntKind.wrap .i64 (Int.tdiv a 4)) 8) (Ah (decide (0≤d)) (Ah (B0 a 32) (e (f,b,(List.set c (Int.toNat a) (IntKind.wrap .u8 (Int.fdiv (List.getD b (Int.toNat (IntKind.wrap .i64 (Int.tdiv a 4))) 0) (2 ^ (min (Int.toNat d) 32))))),(IntKind.wrap .i64 (a+1)),())) none) none) none) (some ((c,()),(),())))
def Ahw(L:Ae)(g:Uy)(h:Uv)(i:Y96→Option Y6)(d:(List Int))(b:(List Int))(e:(List Int))(f:(List Int))(a:Int):Option Y6:=(A2 (IntKind.wrap .i64 (a+64)) fun c=>Ah (decide (a<(List.length b:Int))) (Ah (((decide (0≤a))&&(decide (a≤c)))&&(decide (c≤(List.length b:Int)))) ((g ((List.take ((Int.toNat c)-(Int.toNat a)) (List.drop (Int.toNat a) b)),())).bind fun j=>(h (e,j.1.1,f,())).bind fun k=>i (d,b,k.1.1,f,c,())) none) (L _ _ (fun z x=>Ahp z x.1 x.2.1 x.2.2.1 x.2.2.2.1) (d,e,(List.replicate 32 0),0,())))
def Ahs(L:Ae)(f:Ov)(g:Uy)(h:Uv)(i:((List Int)×Int×(List Int)×Int×Unit)→Option Y6)(c:(List Int))(d:Int)(a:(List Int))(b:Int):Option Y6:=(A2 (IntKind.wrap .i64 (8*b)) fun e=>Ah (decide (b≥0)) (Ah (decide (0≤e)) (Ah (A9 ((List.length a)+1) (Ty.int IntKind.u8)) (i (c,d,(List.append a [(IntKind.wrap .u8 (Int.fdiv d (2 ^ (min (Int.toNat e) 64))))]),(IntKind.wrap .i64 (b-1)),())) none) none) ((f ()).bind fun j=>L _ _ (fun z x=>Ahw L g h z x.1 x.2.1 x.2.2.1 x.2.2.2.1 x.2.2.2.2.1) (c,a,[1779033703,3144134277,1013904242,2773480762,1359893119,2600822924,528734635,1541459225],j.1.1,0,())))
def Ate(L:Ae)(d:Ov)(e:Uy)(f:Uv)(g:((List Int)×Int×(List Int)×Unit)→Option Y6)(b:(List Int))(c:Int)(a:(List Int)):Option Y6:=(Ah (!(decide ((Int.tmod (List.length a:Int) 64)=56))) (Ah (A9 ((List.length a)+1) (Ty.int IntKind.u8)) (g (b,c,(List.append a [0]),())) none) (L _ _ (fun z x=>Ahs L d e f z x.1 x.2.1 x.2.2.1 x.2.2.2.1) (b,c,a,7,())))
def Bc1(L:Ae)(b:Hl)(c:Ov)(d:Uy)(e:Uv)(a:(List Int)):Option Y6:=((b ([a,[128]],())).bind fun f=>L _ _ (fun z x=>Ate L c d e z x.1 x.2.1 x.2.2.1) ((List.replicate 32 0),(IntKind.wrap .u64 ((IntKind.wrap .u64 (List.length a:Int))*8)),f.1.1,()))
def Z1:Bdo:=fun x=>Bc1 Ac B6 Gm Jq Jd x.1
abbrev Bjj:=Y39→Option T2
def Bjs(L:Ae)(a:Hl)(b:Bdo)(c:(List Int))(d:(List Int)):Option T2:=((a ([[1],(List.take ((32:Nat)-(0:Nat)) (List.drop 0 c)),(List.take ((32:Nat)-(0:Nat)) (List.drop 0 d))],())).bind fun e=>(b (e.1.1,())).bind fun f=>some ((f.1.1,()),(),(),()))
def Ast:Bjj:=fun x=>Bjs Ac B6 Z1 x.1 x.2.1
set_option maxRecDepth 100000
abbrev Ju:Ce:=⟨[V7],[V25]⟩
abbrev Su:=(Y13×Unit)→Option Xs
def Afa(L:Ae)(a:Y13):Option Xs:=(Ah (!a.1) (some ((true,()),(),())) (some (((!(eqD (Ty.arr 4 (Ty.int IntKind.u64)) a.2.1 [(0:Int),(0:Int),(0:Int),(0:Int)])),()),(),())))
def F8:Su:=fun x=>Afa Ac x.1
set_option maxRecDepth 100000
abbrev Ir:Ce:=⟨[(.bor (.int .i64))],[V4]⟩
abbrev Hr:=Y4→Option Y6
def Aqb(d:Y8→Option Y6)(b:(List Int))(a:Int):Option Y6:=(A2 (IntKind.wrap .i64 (a-1)) fun c=>Ah (decide (a>0)) (Ah (B0 c (List.length b)) (Ah (decide ((List.getD b (Int.toNat c) 0)=0)) (d (b,c,())) (Ah ((decide (0≤a))&&(decide (a≤(List.length b:Int)))) (some (((List.take ((Int.toNat a)-0) (List.drop 0 b)),()),(),())) none)) none) (Ah ((decide (0≤a))&&(decide (a≤(List.length b:Int)))) (some (((List.take ((Int.toNat a)-0) (List.drop 0 b)),()),(),())) none))
def Aq2(L:Ae)(a:(List Int)):Option Y6:=(L _ _ (fun z x=>Aqb z x.1 x.2.1) (a,(List.length a:Int),()))
def Ep:Hr:=fun x=>Aq2 Ac x.1
abbrev Aj:Ce:=⟨[(.ro true W4)],[(.ro true W7)]⟩
abbrev As:=Y4→Option Y6
def Abu(e:Hr)(f:Y64→Option Y6)(c:(List Int))(b:(List Int))(a:Int):Option Y6:=(A2 (IntKind.wrap .u64 (IntKind.wrap .i64 (16*(Int.tmod a 4)))) fun d=>Ah (decide (a<16)) (Ah (B0 (IntKind.wrap .i64 (Int.tdiv a 4)) 4) (Ah (decide (0≤d)) (Ah (B0 a (List.length b)) (f (c,(List.set b (Int.toNat a) (IntKind.wrap .i64 (IntKind.wrap .u64 (((BitVec.toNat ((BitVec.ofInt 64 (Int.fdiv (List.getD c (Int.toNat (IntKind.wrap .i64 (Int.tdiv a 4))) 0) (2 ^ (min (Int.toNat d) 64)))) &&& (BitVec.ofInt 64 65535))):Nat):Int)))),(IntKind.wrap .i64 (a+1)),())) none) none) none) ((e (b,())).bind fun g=>some (((List.take ((List.length g.1.1)-0) (List.drop 0 b)),()),(),())))
def T4(L:Ae)(a:Hr)(b:(List Int)):Option Y6:=(L _ _ (fun z x=>Abu a z x.1 x.2.1 x.2.2.1) (b,[0,0,0,0,0,0,0,0,0,0,0,0,0,0,0,0],0,()))
def Ai:As:=fun x=>T4 Ac Ep x.1
abbrev Bc:Ce:=⟨[J1],[(.ro true W7)]⟩
abbrev Cj:=(Int×Unit)→Option Y6
def Xn(L:Ae)(a:As)(b:Int):Option Y6:=((a ([b,0,0,0],())).bind fun c=>some ((c.1.1,()),(),()))
def A1:Cj:=fun x=>Xn Ac Ai x.1
abbrev Bm:Ce:=⟨[V4,V4],[V38]⟩
abbrev Cc:=Y39→Option T2
def Auc(e:Y95→Option T2)(d:(List Int))(b:(List Int))(c:(List Int))(f:Int)(a:Int):Option T2:=(A2 (IntKind.wrap .i64 (f+(List.getD d (Int.toNat a) 0))) fun g=>A2 (IntKind.wrap .i64 (f+(List.getD b (Int.toNat a) 0))) fun h=>A2 (IntKind.wrap .i64 (g+(List.getD b (Int.toNat a) 0))) fun i=>Ah (decide (a<(List.length d:Int))) (Ah (decide (a<(List.length d:Int))) (Ah (B0 a (List.length d)) (Ah (decide (a<(List.length b:Int))) (Ah (B0 a (List.length b)) (Ah (A9 ((List.length c)+1) (Ty.int IntKind.i64)) (e (d,b,(List.append c [(IntKind.wrap .i64 (((BitVec.toNat ((BitVec.ofInt 64 i) &&& (BitVec.ofInt 64 65535))):Nat):Int))]),(Int.fdiv i 65536),(IntKind.wrap .i64 (a+1)),())) none) none) (Ah (A9 ((List.length c)+1) (Ty.int IntKind.i64)) (e (d,b,(List.append c [(IntKind.wrap .i64 (((BitVec.toNat ((BitVec.ofInt 64 g) &&& (BitVec.ofInt 64 65535))):Nat):Int))]),(Int.fdiv g 65536),(IntKind.wrap .i64 (a+1)),())) none)) none) (Ah (decide (a<(List.length b:Int))) (Ah (B0 a (List.length b)) (Ah (A9 ((List.length c)+1) (Ty.int IntKind.i64)) (e (d,b,(List.append c [(IntKind.wrap .i64 (((BitVec.toNat ((BitVec.ofInt 64 h) &&& (BitVec.ofInt 64 65535))):Nat):Int))]),(Int.fdiv h 65536),(IntKind.wrap .i64 (a+1)),())) none) none) (Ah (A9 ((List.length c)+1) (Ty.int IntKind.i64)) (e (d,b,(List.append c [(IntKind.wrap .i64 (((BitVec.toNat ((BitVec.ofInt 64 f) &&& (BitVec.ofInt 64 65535))):Nat):Int))]),(Int.fdiv f 65536),(IntKind.wrap .i64 (a+1)),())) none))) (Ah (decide (a<(List.length b:Int))) (Ah (decide (a<(List.length d:Int))) (Ah (B0 a (List.length d)) (Ah (decide (a<(List.length b:Int))) (Ah (B0 a (List.length b)) (Ah (A9 ((List.length c)+1) (Ty.int IntKind.i64)) (e (d,b,(List.append c [(IntKind.wrap .i64 (((BitVec.toNat ((BitVec.ofInt 64 i) &&& (BitVec.ofInt 64 65535))):Nat):Int))]),(Int.fdiv i 65536),(IntKind.wrap .i64 (a+1)),())) none) none) (Ah (A9 ((List.length c)+1) (Ty.int IntKind.i64)) (e (d,b,(List.append c [(IntKind.wrap .i64 (((BitVec.toNat ((BitVec.ofInt 64 g) &&& (BitVec.ofInt 64 65535))):Nat):Int))]),(Int.fdiv g 65536),(IntKind.wrap .i64 (a+1)),())) none)) none) (Ah (decide (a<(List.length b:Int))) (Ah (B0 a (List.length b)) (Ah (A9 ((List.length c)+1) (Ty.int IntKind.i64)) (e (d,b,(List.append c [(IntKind.wrap .i64 (((BitVec.toNat ((BitVec.ofInt 64 h) &&& (BitVec.ofInt 64 65535))):Nat):Int))]),(Int.fdiv h 65536),(IntKind.wrap .i64 (a+1)),())) none) none) (Ah (A9 ((List.length c)+1) (Ty.int IntKind.i64)) (e (d,b,(List.append c [(IntKind.wrap .i64 (((BitVec.toNat ((BitVec.ofInt 64 f) &&& (BitVec.ofInt 64 65535))):Nat):Int))]),(Int.fdiv f 65536),(IntKind.wrap .i64 (a+1)),())) none))) (Ah (decide (f>0)) (Ah (decide (a<(List.length d:Int))) (Ah (B0 a (List.length d)) (Ah (decide (a<(List.length b:Int))) (Ah (B0 a (List.length b)) (Ah (A9 ((List.length c)+1) (Ty.int IntKind.i64)) (e (d,b,(List.append c [(IntKind.wrap .i64 (((BitVec.toNat ((BitVec.ofInt 64 i) &&& (BitVec.ofInt 64 65535))):Nat):Int))]),(Int.fdiv i 65536),(IntKind.wrap .i64 (a+1)),())) none) none) (Ah (A9 ((List.length c)+1) (Ty.int IntKind.i64)) (e (d,b,(List.append c [(IntKind.wrap .i64 (((BitVec.toNat ((BitVec.ofInt 64 g) &&& (BitVec.ofInt 64 65535))):Nat):Int))]),(Int.fdiv g 65536),(IntKind.wrap .i64 (a+1)),())) none)) none) (Ah (decide (a<(List.length b:Int))) (Ah (B0 a (List.length b)) (Ah (A9 ((List.length c)+1) (Ty.int IntKind.i64)) (e (d,b,(List.append c [(IntKind.wrap .i64 (((BitVec.toNat ((BitVec.ofInt 64 h) &&& (BitVec.ofInt 64 65535))):Nat):Int))]),(Int.fdiv h 65536),(IntKind.wrap .i64 (a+1)),())) none) none) (Ah (A9 ((List.length c)+1) (Ty.int IntKind.i64)) (e (d,b,(List.append c [(IntKind.wrap .i64 (((BitVec.toNat ((BitVec.ofInt 64 f) &&& (BitVec.ofInt 64 65535))):Nat):Int))]),(Int.fdiv f 65536),(IntKind.wrap .i64 (a+1)),())) none))) (some ((c,()),(),(),())))))
def Au0(L:Ae)(a:(List Int))(b:(List Int)):Option T2:=(L _ _ (fun z x=>Auc z x.1 x.2.1 x.2.2.1 x.2.2.2.1 x.2.2.2.2.1) (a,b,[],0,0,()))
def A7:Cc:=fun x=>Au0 Ac x.1 x.2.1
abbrev Qy:Ce:=⟨[],[(.ro true W4)]⟩
abbrev Aiu:=Unit→Option (Y4×Unit)
def Aih(L:Ae):Option (Y4×Unit):=(some (([18446744073709551615,18446744073709551615,18446744073709551615,18446744073709551615],()),()))
def Me:Aiu:=fun x=>Aih Ac
abbrev Ea:Ce:=⟨[V4,V4],[Bv]⟩
abbrev Ho:=Y39→Option Y56
def Atk(d:Y64→Option Y56)(b:(List Int))(c:(List Int))(a:Int):Option Y56:=(Ah (decide (a≥0)) (Ah (B0 a (List.length b)) (Ah (B0 a (List.length c)) (Ah (decide ((List.getD b (Int.toNat a) 0)<(List.getD c (Int.toNat a) 0))) (some (((-1:Int),()),(),(),())) (Ah (B0 a (List.length b)) (Ah (B0 a (List.length c)) (Ah (decide ((List.getD b (Int.toNat a) 0)>(List.getD c (Int.toNat a) 0))) (some ((1,()),(),(),())) (d (b,c,(IntKind.wrap .i64 (a-1)),()))) none) none)) none) none) (some ((0,()),(),(),())))
def Awl(L:Ae)(a:(List Int))(b:(List Int)):Option Y56:=(Ah (!(decide ((List.length a:Int)=(List.length b:Int)))) (Ah (decide ((List.length a:Int)<(List.length b:Int))) (some (((-1:Int),()),(),(),())) (some ((1,()),(),(),()))) (L _ _ (fun z x=>Atk z x.1 x.2.1 x.2.2.1) (a,b,(IntKind.wrap .i64 ((List.length a:Int)-1)),())))
def Ca:Ho:=fun x=>Awl Ac x.1 x.2.1
abbrev Kw:Ce:=⟨[V4,V4],[V4]⟩
abbrev Zu:=Y39→Option T2
def Aus(L:Ae)(c:Ho)(a:(List Int))(b:(List Int)):Option T2:=((c (a,b,())).bind fun d=>Ah (decide (d.1.1>0)) (some ((b,()),(),(),())) (some ((a,()),(),(),())))
def G8:Zu:=fun x=>Aus Ac Ca x.1 x.2.1
abbrev A8:Ce:=⟨[V4],[(.ro true W4)]⟩
abbrev B2:=Y4→Option Y6
def Agi(e:Y89→Option Y6)(b:(List Int))(f:(List Int))(c:(List Int))(a:Int):Option Y6:=(A2 (IntKind.wrap .u64 (IntKind.wrap .i64 (16*(Int.tmod a 4)))) fun d=>Ah (decide (a<(List.length b:Int))) (Ah (decide (a<16)) (Ah (B0 (IntKind.wrap .i64 (Int.tdiv a 4)) 4) (Ah (B0 a (List.length b)) (Ah (decide (0≤d)) (Ah (B0 (IntKind.wrap .i64 (Int.tdiv a 4)) 4) (e (b,f,(List.set c (Int.toNat (IntKind.wrap .i64 (Int.tdiv a 4))) (IntKind.wrap .u64 ((List.getD c (Int.toNat (IntKind.wrap .i64 (Int.tdiv a 4))) 0)+(IntKind.wrap .u64 ((IntKind.wrap .u64 (List.getD b (Int.toNat a) 0))*(2 ^ (min (Int.toNat d) 64))))))),(IntKind.wrap .i64 (a+1)),())) none) none) none) none) (some ((c,()),(),()))) (some ((c,()),(),())))
def Z7(L:Ae)(a:(List Int)):Option Y6:=(L _ _ (fun z x=>Agi z x.1 x.2.1 x.2.2.1 x.2.2.2.1) (a,[0,0,0,0],[0,0,0,0],0,()))
def Ay:B2:=fun x=>Z7 Ac x.1
abbrev Dk:Ce:=⟨[V4,V4],[(.ro true W7)]⟩
abbrev Js:=Y39→Option T2
def Aie(i:Y89→Option T2)(j:((List Int)×(List Int)×(List Int)×Int×Int×Int×Unit)→Option T2)(e:(List Int))(c:(List Int))(d:(List Int))(a:Int)(f:Int)(b:Int):Option T2:=(A2 (IntKind.wrap .i64 (a+(List.length c:Int))) fun g=>A2 (IntKind.wrap .i64 ((IntKind.wrap .i64 (f+(List.getD d (Int.toNat (IntKind.wrap .i64 (a+b))) 0)))+(IntKind.wrap .i64 ((List.getD e (Int.toNat a) 0)*(List.getD c (Int.toNat b) 0))))) fun h=>Ah (decide (b<(List.length c:Int))) (Ah (B0 (IntKind.wrap .i64 (a+b)) (List.length d)) (Ah (B0 a (List.length e)) (Ah (B0 b (List.length c)) (Ah (B0 (IntKind.wrap .i64 (a+b)) (List.length d)) (j (e,c,(List.set d (Int.toNat (IntKind.wrap .i64 (a+b))) (IntKind.wrap .i64 (((BitVec.toNat ((BitVec.ofInt 64 h) &&& (BitVec.ofInt 64 65535))):Nat):Int))),a,(Int.fdiv h 65536),(IntKind.wrap .i64 (b+1)),())) none) none) none) none) (Ah (B0 g (List.length d)) (i (e,c,(List.set d (Int.toNat g) f),(IntKind.wrap .i64 (a+1)),())) none))
def Atn(L:Ae)(d:Hr)(e:Y89→Option T2)(b:(List Int))(f:(List Int))(a:(List Int))(c:Int):Option T2:=(Ah (decide (c<(List.length b:Int))) (L _ _ (fun z x=>Aie e z x.1 x.2.1 x.2.2.1 x.2.2.2.1 x.2.2.2.2.1 x.2.2.2.2.2.1) (b,f,a,c,0,0,())) ((d (a,())).bind fun g=>some (((List.take ((List.length g.1.1)-0) (List.drop 0 a)),()),(),(),())))
def Aur(L:Ae)(d:Hr)(b:(List Int))(c:(List Int)):Option T2:=(A2 (IntKind.wrap .i64 ((List.length b:Int)+(List.length c:Int))) fun a=>Ah ((((decide (0≤a))&&(decide (a≤a)))&&(A9 (Int.toNat a) (Ty.int IntKind.i64)))&&true) (L _ _ (fun z x=>Atn L d z x.1 x.2.1 x.2.2.1 x.2.2.2.1) (b,c,(List.replicate (Int.toNat a) 0),0,())) none)
def Ci:Js:=fun x=>Aur Ac Ep x.1 x.2.1
abbrev K6:Ce:=⟨[(.ro true W4)],[J1,V25]⟩
abbrev Vu:=Y4→Option Y55
def Aiz(L:Ae)(a:(List Int)):Option Y55:=(Ah (!(decide ((List.getD a 1 0)=0))) (some ((0,false,()),(),())) (Ah (!(decide ((List.getD a 2 0)=0))) (some ((0,false,()),(),())) (Ah (!(decide ((List.getD a 3 0)=0))) (some ((0,false,()),(),())) (some (((List.getD a 0 0),true,()),(),())))))
def G6:Vu:=fun x=>Aiz Ac x.1
abbrev G5:Ce:=⟨[V4,V4],[(.ro true W7)]⟩
abbrev Ky:=Y39→Option T2
def Atp(h:Hr)(e:Y95→Option T2)(c:(List Int))(d:(List Int))(b:(List Int))(i:Int)(a:Int):Option T2:=(A2 (IntKind.wrap .i64 ((List.getD c (Int.toNat a) 0)-i)) fun f=>A2 (IntKind.wrap .i64 (f-(List.getD d (Int.toNat a) 0))) fun g=>Ah (decide (a<(List.length c:Int))) (Ah (B0 a (List.length c)) (Ah (decide (a<(List.length d:Int))) (Ah (B0 a (List.length d)) (Ah (decide (g<0)) (Ah (B0 a (List.length b)) (e (c,d,(List.set b (Int.toNat a) (IntKind.wrap .i64 (g+65536))),1,(IntKind.wrap .i64 (a+1)),())) none) (Ah (B0 a (List.length b)) (e (c,d,(List.set b (Int.toNat a) g),0,(IntKind.wrap .i64 (a+1)),())) none)) none) (Ah (decide (f<0)) (Ah (B0 a (List.length b)) (e (c,d,(List.set b (Int.toNat a) (IntKind.wrap .i64 (f+65536))),1,(IntKind.wrap .i64 (a+1)),())) none) (Ah (B0 a (List.length b)) (e (c,d,(List.set b (Int.toNat a) f),0,(IntKind.wrap .i64 (a+1)),())) none))) none) ((h (b,())).bind fun j=>some (((List.take ((List.length j.1.1)-0) (List.drop 0 b)),()),(),(),())))
def Aup(L:Ae)(b:Hr)(a:(List Int))(c:(List Int)):Option T2:=(Ah ((((decide (0≤(List.length a:Int)))&&(decide ((List.length a:Int)≤(List.length a:Int))))&&(A9 (Int.toNat (List.length a:Int)) (Ty.int IntKind.i64)))&&true) (L _ _ (fun z x=>Atp b z x.1 x.2.1 x.2.2.1 x.2.2.2.1 x.2.2.2.2.1) (a,c,(List.replicate (Int.toNat (List.length a:Int)) 0),0,0,())) none)
def Dr:Ky:=fun x=>Aup Ac Ep x.1 x.2.1
abbrev Agl:Ce:=⟨[V4,Bv],[(.ro true W7),(.ro true W7)]⟩
abbrev Awa:=Y8→Option Y45
def Aoy(f:Hr)(h:((List Int)×Int×(List Int)×Int×Int×Unit)→Option Y45)(d:(List Int))(b:Int)(c:(List Int))(e:Int)(a:Int):Option Y45:=(A2 (IntKind.wrap .i64 ((IntKind.wrap .i64 (65536*e))+(List.getD d (Int.toNat a) 0))) fun g=>Ah (decide (a≥0)) (Ah (B0 a (List.length d)) (Ah (decide (b≠0)) (Ah (decide (b≠0)) (Ah (B0 a (List.length c)) (h (d,b,(List.set c (Int.toNat a) (IntKind.wrap .i64 (Int.tdiv g b))),(Int.tmod g b),(IntKind.wrap .i64 (a-1)),())) none) none) none) none) ((f (c,())).bind fun i=>(f ([e],())).bind fun j=>some (((List.take ((List.length i.1.1)-0) (List.drop 0 c)),(List.take ((List.length j.1.1)-0) (List.drop 0 [e])),()),(),(),())))
def Amd(L:Ae)(b:Hr)(a:(List Int))(c:Int):Option Y45:=(Ah ((((decide (0≤(List.length a:Int)))&&(decide ((List.length a:Int)≤(List.length a:Int))))&&(A9 (Int.toNat (List.length a:Int)) (Ty.int IntKind.i64)))&&true) (L _ _ (fun z x=>Aoy b z x.1 x.2.1 x.2.2.1 x.2.2.2.1 x.2.2.2.2.1) (a,c,(List.replicate (Int.toNat (List.length a:Int)) 0),0,(IntKind.wrap .i64 ((List.length a:Int)-1)),())) none)
def Yk:Awa:=fun x=>Amd Ac Ep x.1 x.2.1
abbrev Fv:Ce:=⟨[V4,V4],[(.ro true W7),(.ro true W7)]⟩
abbrev N4:=Y39→Option Y45
def Ahr(j:Y97→Option Y45)(i:((List Int)×(List Int)×(List Int)×(List Int)×Int×Int×(List Int)×Int×Unit)→Option Y45)(g:(List Int))(h:(List Int))(c:(List Int))(d:(List Int))(b:Int)(e:Int)(f:(List Int))(a:Int):Option Y45:=(Ah (decide (a<(List.length d:Int))) (Ah (B0 a (List.length d)) (Ah (decide (a<(List.length f:Int))) (Ah (B0 a (List.length f)) (Ah (B0 a (List.length (List.set d (Int.toNat a) 0))) (i (g,h,c,(List.set (List.set d (Int.toNat a) 0) (Int.toNat a) (List.getD f (Int.toNat a) 0)),b,e,f,(IntKind.wrap .i64 (a+1)),())) none) none) (i (g,h,c,(List.set d (Int.toNat a) 0),b,e,f,(IntKind.wrap .i64 (a+1)),()))) none) (Ah (B0 b (List.length c)) (Ah (decide (0≤(IntKind.wrap .u64 e))) (Ah (B0 b (List.length c)) (j (g,h,(List.set c (Int.toNat b) (IntKind.wrap .i64 ((List.getD c (Int.toNat b) 0)+(IntKind.wrap .i64 (1*(2 ^ (min (Int.toNat (IntKind.wrap .u64 e)) 64))))))),d,b,(IntKind.wrap .i64 (e-1)),())) none) none) none))
def Ahq(L:Ae)(h:Hr)(k:Ho)(l:Ky)(i:Y97→Option Y45)(m:((List Int)×(List Int)×(List Int)×(List Int)×Int×Int×Int×Int×Unit)→Option Y45)(d:(List Int))(c:(List Int))(e:(List Int))(a:(List Int))(f:Int)(g:Int)(n:Int)(b:Int):Option Y45:=(A2 (IntKind.wrap .i64 (n+(IntKind.wrap .i64 (2*(List.getD a (Int.toNat b) 0))))) fun j=>Ah (decide (b<(List.length a:Int))) (Ah (B0 b (List.length a)) (Ah (B0 b (List.length a)) (m (d,c,e,(List.set a (Int.toNat b) (IntKind.wrap .i64 (((BitVec.toNat ((BitVec.ofInt 64 j) &&& (BitVec.ofInt 64 65535))):Nat):Int))),f,g,(Int.fdiv j 65536),(IntKind.wrap .i64 (b+1)),())) none) none) ((h (a,())).bind fun o=>(k ((List.take ((List.length o.1.1)-0) (List.drop 0 a)),c,())).bind fun p=>Ah (decide (p.1.1≥0)) ((h (a,())).bind fun q=>(l ((List.take ((List.length q.1.1)-0) (List.drop 0 a)),c,())).bind fun r=>L _ _ (fun z x=>Ahr i z x.1 x.2.1 x.2.2.1 x.2.2.2.1 x.2.2.2.2.1 x.2.2.2.2.2.1 x.2.2.2.2.2.2.1 x.2.2.2.2.2.2.2.1) (d,c,e,a,f,g,r.1.1,0,())) (i (d,c,e,a,f,(IntKind.wrap .i64 (g-1)),()))))
def Ahv(L:Ae)(g:Hr)(h:Ho)(i:Ky)(j:Y96→Option Y45)(k:Y97→Option Y45)(a:(List Int))(d:(List Int))(e:(List Int))(f:(List Int))(b:Int)(c:Int):Option Y45:=(Ah (decide (c≥0)) (Ah (B0 b (List.length a)) (Ah (decide (0≤(IntKind.wrap .u64 c))) (L _ _ (fun z x=>Ahq L g h i k z x.1 x.2.1 x.2.2.1 x.2.2.2.1 x.2.2.2.2.1 x.2.2.2.2.2.1 x.2.2.2.2.2.2.1 x.2.2.2.2.2.2.2.1) (a,d,e,f,b,c,(IntKind.wrap .i64 (((BitVec.toNat ((BitVec.ofInt 64 (Int.fdiv (List.getD a (Int.toNat b) 0) (2 ^ (min (Int.toNat (IntKind.wrap .u64 c)) 64)))) &&& (BitVec.ofInt 64 1))):Nat):Int)),0,())) none) none) (j (a,d,e,f,(IntKind.wrap .i64 (b-1)),())))
def Auf(L:Ae)(a:Hr)(e:Ho)(f:Ky)(g:Y96→Option Y45)(h:(List Int))(i:(List Int))(b:(List Int))(c:(List Int))(d:Int):Option Y45:=(Ah (decide (d≥0)) (L _ _ (fun z x=>Ahv L a e f g z x.1 x.2.1 x.2.2.1 x.2.2.2.1 x.2.2.2.2.1 x.2.2.2.2.2.1) (h,i,b,c,d,15,())) ((a (b,())).bind fun j=>(a (c,())).bind fun k=>some (((List.take ((List.length j.1.1)-0) (List.drop 0 b)),(List.take ((List.length k.1.1)-0) (List.drop 0 c)),()),(),(),())))
def Awc(L:Ae)(e:Awa)(f:Hr)(g:Ho)(h:Ky)(a:(List Int))(b:(List Int)):Option Y45:=(A2 (IntKind.wrap .i64 ((List.length b:Int)+1)) fun c=>Ah (decide ((List.length b:Int)=1)) (Ah (B0 0 (List.length b)) ((e (a,(List.getD b 0 0),())).bind fun d=>some ((d.1.1,d.1.2.1,()),(),(),())) none) (Ah ((((decide (0≤(List.length a:Int)))&&(decide ((List.length a:Int)≤(List.length a:Int))))&&(A9 (Int.toNat (List.length a:Int)) (Ty.int IntKind.i64)))&&true) (Ah ((((decide (0≤c))&&(decide (c≤c)))&&(A9 (Int.toNat c) (Ty.int IntKind.i64)))&&true) (L _ _ (fun z x=>Auf L f g h z x.1 x.2.1 x.2.2.1 x.2.2.2.1 x.2.2.2.2.1) (a,b,(List.replicate (Int.toNat (List.length a:Int)) 0),(List.replicate (Int.toNat c) 0),(IntKind.wrap .i64 ((List.length a:Int)-1)),())) none) none))
def Ds:N4:=fun x=>Awc Ac Yk Ep Ca Dr x.1 x.2.1
abbrev Fk:Ce:=⟨[V4],[V25]⟩
abbrev Pp:=Y4→Option Xs
def Ara(L:Ae)(a:(List Int)):Option Xs:=(some (((decide ((List.length a:Int)≤16)),()),(),()))
def Dx:Pp:=fun x=>Ara Ac x.1
abbrev Ct:Ce:=⟨[V4],[(.ro true W4),Bv]⟩
abbrev F0:=Y4→Option Y21
def Aeo(L:Ae)(b:Pp)(c:B2)(a:(List Int)):Option Y21:=((b (a,())).bind fun d=>Ah (!d.1.1) (some (([0,0,0,0],4,()),(),())) ((c (a,())).bind fun e=>some ((e.1.1,0,()),(),())))
def B3:F0:=fun x=>Aeo Ac Dx Ay x.1
abbrev Br:Ce:=⟨[(.ro true W4)],[V25]⟩
abbrev C0:=Y4→Option Xs
def Air(L:Ae)(a:(List Int)):Option Xs:=(some (((eqD (Ty.arr 4 (Ty.int IntKind.u64)) a [(0:Int),(0:Int),(0:Int),(0:Int)]),()),(),()))
def Bd:C0:=fun x=>Air Ac x.1
abbrev F7:Ce:=⟨[(.ro true W4),(.ro true W4)],[(.ro true W4),Bv]⟩
abbrev Qv:=Y39→Option Y31
def Ajk(L:Ae)(a:As)(d:Ho)(e:Ky)(f:B2)(g:(List Int))(h:(List Int)):Option Y31:=((a (g,())).bind fun b=>(a (h,())).bind fun c=>(d (b.1.1,c.1.1,())).bind fun i=>Ah (decide (i.1.1<0)) (some (([0,0,0,0],4,()),(),(),())) ((e (b.1.1,c.1.1,())).bind fun j=>(f (j.1.1,())).bind fun k=>some ((k.1.1,0,()),(),(),())))
def Ee:Qv:=fun x=>Ajk Ac Ai Ca Dr Ay x.1 x.2.1
abbrev Aci:Ce:=⟨[(.ro true W4)],[Bv]⟩
abbrev Asj:=Y4→Option Y14
def Aln(d:Y16→Option Y14)(b:(List Int))(e:Int)(a:Int):Option Y14:=(A2 (IntKind.wrap .i64 (a+1)) fun c=>Ah (decide (a<256)) (Ah (B0 (IntKind.wrap .i64 (Int.tdiv a 64)) 4) (Ah (decide (0≤(IntKind.wrap .u64 (Int.tmod a 64)))) (Ah (decide ((IntKind.wrap .u64 (((BitVec.toNat ((BitVec.ofInt 64 (Int.fdiv (List.getD b (Int.toNat (IntKind.wrap .i64 (Int.tdiv a 64))) 0) (2 ^ (min (Int.toNat (IntKind.wrap .u64 (Int.tmod a 64))) 64)))) &&& (BitVec.ofInt 64 1))):Nat):Int))=1)) (d (b,c,c,())) (d (b,e,c,()))) none) none) (some ((e,()),(),())))
def Aiq(L:Ae)(a:(List Int)):Option Y14:=(L _ _ (fun z x=>Aln z x.1 x.2.1 x.2.2.1) (a,0,0,()))
def Vr:Asj:=fun x=>Aiq Ac x.1
abbrev Abl:Ce:=⟨[(.ro true W4),(.ro true W4)],[(.ro true W4),Bv]⟩
abbrev Asm:=Y39→Option Y31
def Aje(L:Ae)(a:As)(c:Js)(d:F0)(e:(List Int))(f:(List Int)):Option Y31:=((a (e,())).bind fun g=>(a (f,())).bind fun h=>(c (g.1.1,h.1.1,())).bind fun i=>(d (i.1.1,())).bind fun b=>some ((b.1.1,b.1.2.1,()),(),(),()))
def Vo:Asm:=fun x=>Aje Ac Ai Ci B3 x.1 x.2.1
abbrev Ld:Ce:=⟨[(.ro true W4),(.ro true W4)],[(.ro true W4),Bv]⟩
abbrev Abw:=Y39→Option Y31
def Ai4(L:Ae)(a:As)(c:Cc)(d:F0)(e:(List Int))(f:(List Int)):Option Y31:=((a (e,())).bind fun g=>(a (f,())).bind fun h=>(c (g.1.1,h.1.1,())).bind fun i=>(d (i.1.1,())).bind fun b=>some ((b.1.1,b.1.2.1,()),(),(),()))
def Ii:Abw:=fun x=>Ai4 Ac Ai A7 B3 x.1 x.2.1
set_option maxRecDepth 100000
abbrev Jh:Ce:=⟨[V47,J1],[Bv]⟩
abbrev Xo:=Y26→Option Y50
def Adr(e:(Y23×Int×Int×Unit)→Option Y50)(a:Y23)(c:Int)(b:Int):Option Y50:=(A2 (List.length a.1) fun d=>Ah (decide (b<((d:Nat):Int))) (Ah (B0 b d) (Ah (decide ((List.getD a.1 (Int.toNat b) (Ty.zero R7)).1=c)) (some ((b,()),a,(),())) (e (a,c,(IntKind.wrap .i64 (b+1)),()))) none) (some (((-1:Int),()),a,(),())))
def Wv(L:Ae)(a:Y23)(b:Int):Option Y50:=(L _ _ (fun z x=>Adr z x.1 x.2.1 x.2.2.1) (a,b,0,()))
def Hq:Xo:=fun x=>Wv Ac x.1 x.2.1
abbrev C6:Ce:=⟨[V47,J1],[V10]⟩
abbrev Ik:=Y26→Option Y52
def Tq(L:Ae)(c:Xo)(d:Y23)(b:Int):Option Y52:=((c (d,b,())).bind fun a=>Ah (decide (a.1.1≥0)) (Ah (B0 a.1.1 (List.length a.2.1.1)) (some (((List.getD a.2.1.1 (Int.toNat a.1.1) (0,[0,0,0,0],0,())),()),a.2.1,(),())) none) (some (((b,[0,0,0,0],0,()),()),a.2.1,(),())))
def Cm:Ik:=fun x=>Tq Ac Hq x.1 x.2.1
abbrev Akm:Ce:=⟨[],[V47]⟩
abbrev Aze:=Unit→Option ((Y23×Unit)×Unit)
def Az3(L:Ae):Option ((Y23×Unit)×Unit):=(some ((([],[[0,0,0,0],[0,0,0,0],[0,0,0,0],[0,0,0,0]],()),()),()))
def Ai0:Aze:=fun x=>Az3 Ac
abbrev Fs:Ce:=⟨[V47,V10],[]⟩
abbrev Ob:=(Y23×Y17×Unit)→Option (Unit×Y23×Unit×Unit)
def Uk(L:Ae)(d:Xo)(e:Y23)(b:Y17):Option (Unit×Y23×Unit×Unit):=((d (e,b.1,())).bind fun a=>A2 (List.length a.2.1.1) fun c=>Ah (decide (a.1.1≥0)) (Ah (B0 a.1.1 c) (some ((),((List.set a.2.1.1 (Int.toNat a.1.1) b),a.2.1.2),(),())) none) (Ah (A9 (c+1) R7) (some ((),((List.append a.2.1.1 [b]),a.2.1.2),(),())) none))
def Eh:Ob:=fun x=>Uk Ac Hq x.1 x.2.1
abbrev El:Ce:=⟨[V47,J1,(.ro true W4)],[V25]⟩
abbrev Lj:=Y37→Option Y72
def Lp(L:Ae)(c:Ik)(d:Qv)(e:Ob)(f:Y23)(g:Int)(h:(List Int)):Option Y72:=((c (f,g,())).bind fun a=>(d (a.1.1.2.1,h,())).bind fun b=>Ah (!(decide (b.1.2.1=0))) (some ((false,()),a.2.1,(),(),())) ((e (a.2.1,(a.1.1.1,b.1.1,a.1.1.2.2),())).bind fun i=>some ((true,()),i.2.1,(),(),())))
def Cv:Lj:=fun x=>Lp Ac Cm Ee Eh x.1 x.2.1 x.2.2.1
abbrev Io:Ce:=⟨[V47,J1,Bv,(.ro true W4)],[Bv]⟩
abbrev S7:=Y63→Option Y82
def L2(L:Ae)(h:Lj)(e:As)(i:Cc)(j:B2)(b:Y23)(f:Int)(d:Int)(g:(List Int)):Option Y82:=(A2 (IntKind.wrap .i64 (d-1)) fun c=>Ah (decide (f=0)) (some ((2,()),b,(),(),(),())) (Ah (decide (d<1)) (some ((2,()),b,(),(),(),())) (Ah (decide (d>4)) (some ((2,()),b,(),(),(),())) ((h (b,f,g,())).bind fun a=>Ah (!a.1.1) (some ((10,()),a.2.1,(),(),(),())) (Ah (B0 c 4) ((e ((List.getD a.2.1.2.1 (Int.toNat c) [0,0,0,0]),())).bind fun k=>(e (g,())).bind fun l=>(i (k.1.1,l.1.1,())).bind fun m=>(j (m.1.1,())).bind fun n=>Ah (B0 c 4) (some ((0,()),(a.2.1.1,(List.set a.2.1.2.1 (Int.toNat c) n.1.1),a.2.1.2.2),(),(),(),())) none) none)))))
def Fo:S7:=fun x=>L2 Ac Cv Ai A7 Ay x.1 x.2.1 x.2.2.1 x.2.2.2.1
abbrev Fj:Ce:=⟨[V47,J1],[Bv]⟩
abbrev Lk:=Y26→Option Y50
def Ht(L:Ae)(e:Ik)(f:Ob)(b:Y23)(c:Int):Option Y50:=(Ah (decide (c=0)) (some ((2,()),b,(),())) ((e (b,c,())).bind fun a=>A2 (IntKind.wrap .u64 (a.1.1.2.2.1+1)) fun d=>Ah (decide (d=0)) (some ((4,()),a.2.1,(),())) ((f (a.2.1,(a.1.1.1,a.1.1.2.1,d,a.1.1.2.2.2),())).bind fun g=>some ((0,()),g.2.1,(),()))))
def Dp:Lk:=fun x=>Ht Ac Cm Eh x.1 x.2.1
abbrev Ge:Ce:=⟨[V47,J1,(.ro true W4)],[]⟩
abbrev O2:=Y37→Option Y48
def Ot(L:Ae)(c:Ik)(b:As)(d:Cc)(e:B2)(f:Ob)(g:Y23)(h:Int)(i:(List Int)):Option Y48:=((c (g,h,())).bind fun a=>(b (a.1.1.2.1,())).bind fun j=>(b (i,())).bind fun k=>(d (j.1.1,k.1.1,())).bind fun l=>(e (l.1.1,())).bind fun m=>(f (a.2.1,(a.1.1.1,m.1.1,a.1.1.2.2),())).bind fun n=>some ((),n.2.1,(),(),()))
def Fb:O2:=fun x=>Ot Ac Cm Ai A7 Ay Eh x.1 x.2.1 x.2.2.1
abbrev I2:Ce:=⟨[V47,J1,J1,(.ro true W4)],[Bv]⟩
abbrev Ry:=Y63→Option Y82
def Lw(L:Ae)(f:Lj)(g:O2)(a:Y23)(c:Int)(d:Int)(e:(List Int)):Option Y82:=(Ah (decide (c=0)) (some ((2,()),a,(),(),(),())) (Ah (decide (d=0)) (some ((2,()),a,(),(),(),())) ((f (a,c,e,())).bind fun b=>Ah (!b.1.1) (some ((10,()),b.2.1,(),(),(),())) ((g (b.2.1,d,e,())).bind fun h=>some ((0,()),h.2.1,(),(),(),())))))
def Fm:Ry:=fun x=>Lw Ac Cv Fb x.1 x.2.1 x.2.2.1 x.2.2.2.1
abbrev Is:Ce:=⟨[V47,J1,(.ro true W4)],[Bv]⟩
abbrev Sl:=Y37→Option Y71
def L0(L:Ae)(d:Lj)(b:Y23)(c:Int)(e:(List Int)):Option Y71:=(Ah (decide (c=0)) (some ((2,()),b,(),(),())) ((d (b,c,e,())).bind fun a=>Ah (!a.1.1) (some ((10,()),a.2.1,(),(),())) (some ((0,()),a.2.1,(),(),()))))
def Fq:Sl:=fun x=>L0 Ac Cv x.1 x.2.1 x.2.2.1
abbrev Ls:Ce:=⟨[V47,Bv],[(.ro true W4)]⟩
abbrev Zy:=Y26→Option (Y4×Y23×Unit×Unit)
def Ps(L:Ae)(a:Y23)(b:Int):Option (Y4×Y23×Unit×Unit):=(A2 (IntKind.wrap .i64 (b-1)) fun c=>Ah (decide (b<1)) (some (([0,0,0,0],()),a,(),())) (Ah (decide (b>4)) (some (([0,0,0,0],()),a,(),())) (Ah (B0 c 4) (some (((List.getD a.2.1 (Int.toNat c) [0,0,0,0]),()),a,(),())) none)))
def Jw:Zy:=fun x=>Ps Ac x.1 x.2.1
abbrev F6:Ce:=⟨[V47,Bv,(.ro true W4)],[Bv]⟩
abbrev If:=Y37→Option Y71
def Ig(L:Ae)(e:Qv)(a:Y23)(c:Int)(f:(List Int)):Option Y71:=(A2 (IntKind.wrap .i64 (c-1)) fun b=>Ah (decide (c<1)) (some ((2,()),a,(),(),())) (Ah (decide (c>4)) (some ((2,()),a,(),(),())) (Ah (B0 b 4) ((e ((List.getD a.2.1 (Int.toNat b) [0,0,0,0]),f,())).bind fun d=>Ah (!(decide (d.1.2.1=0))) (some ((10,()),a,(),(),())) (Ah (B0 b 4) (some ((0,()),(a.1,(List.set a.2.1 (Int.toNat b) d.1.1),a.2.2),(),(),())) none)) none)))
def D8:If:=fun x=>Ig Ac Ee x.1 x.2.1 x.2.2.1
abbrev Kf:Ce:=⟨[V47],[V38]⟩
abbrev Wt:=(Y23×Unit)→Option Y25
def Xg(d:As)(e:Cc)(f:Y35→Option Y25)(b:Y23)(c:(List Int))(a:Int):Option Y25:=(Ah (decide (a<4)) (Ah (B0 a 4) ((d ((List.getD b.2.1 (Int.toNat a) [0,0,0,0]),())).bind fun g=>(e (c,g.1.1,())).bind fun h=>f (b,h.1.1,(IntKind.wrap .i64 (a+1)),())) none) (some ((c,()),b,())))
def Xm(L:Ae)(c:As)(d:Cc)(g:Y35→Option Y25)(a:Y23)(e:(List Int))(b:Int):Option Y25:=(A2 (List.length a.1) fun f=>Ah (decide (b<((f:Nat):Int))) (Ah (B0 b f) ((c ((List.getD a.1 (Int.toNat b) (Ty.zero R7)).2.1,())).bind fun h=>(d (e,h.1.1,())).bind fun i=>g (a,i.1.1,(IntKind.wrap .i64 (b+1)),())) none) (L _ _ (fun z x=>Xg c d z x.1 x.2.1 x.2.2.1) (a,e,0,())))
def Or(L:Ae)(a:As)(b:Cc)(c:Y23):Option Y25:=(L _ _ (fun z x=>Xm L a b z x.1 x.2.1 x.2.2.1) (c,[],0,()))
def Gr:Wt:=fun x=>Or Ac Ai A7 x.1
abbrev Mk:Ce:=⟨[V47,J1,(.ro true W4)],[Bv]⟩
abbrev Aas:=Y37→Option Y71
def Rk(L:Ae)(e:Wt)(f:As)(g:Cc)(h:Pp)(i:O2)(b:Y23)(c:Int)(d:(List Int)):Option Y71:=(Ah (decide (c=0)) (some ((2,()),b,(),(),())) ((e (b,())).bind fun a=>(f (d,())).bind fun j=>(g (a.1.1,j.1.1,())).bind fun k=>(h (k.1.1,())).bind fun l=>Ah (!l.1.1) (some ((4,()),a.2.1,(),(),())) ((i (a.2.1,c,d,())).bind fun m=>some ((0,()),m.2.1,(),(),()))))
def Hx:Aas:=fun x=>Rk Ac Gr Ai A7 Dx Fb x.1 x.2.1 x.2.2.1
abbrev Im:Ce:=⟨[(.rp W59)],[V15]⟩
abbrev Ss:=(Y23×Unit)→Option Y28
def Hw(l:Y36→Option Y28)(m:(Y23×(List Y17)×Int×Y17×Int×Unit)→Option Y28)(f:Y23)(c:(List Y17))(g:Int)(h:Y17)(a:Int):Option Y28:=(A2 (IntKind.wrap .i64 (a-1)) fun i=>A2 (List.length c) fun b=>A2 (List.take ((Int.toNat a)-0) (List.drop 0 c)) fun d=>A2 (List.take (b-(Int.toNat a)) (List.drop (Int.toNat a) c)) fun j=>A2 (List.append [h] j) fun k=>A2 (List.length k) fun e=>Ah (decide (a>0)) (Ah (B0 i b) (Ah (decide ((List.getD c (Int.toNat i) (0,[0,0,0,0],0,())).1>h.1)) (m (f,c,g,h,i,())) (Ah (decide (a=a)) (Ah ((decide (0≤a))&&(decide (a≤((b:Nat):Int)))) (Ah ((decide (0≤a))&&(decide (a≤((b:Nat):Int)))) (Ah (A9 (1+(List.length j)) R7) (Ah ((decide (0<e))&&(A9 ((List.length d)+e) R7)) (l (f,(List.append d k),(IntKind.wrap .i64 (g+1)),())) none) none) none) none) none)) none) (Ah (decide (a=a)) (Ah ((decide (0≤a))&&(decide (a≤((b:Nat):Int)))) (Ah ((decide (0≤a))&&(decide (a≤((b:Nat):Int)))) (Ah (A9 (1+(List.length j)) R7) (Ah ((decide (0<e))&&(A9 ((List.length d)+e) R7)) (l (f,(List.append d k),(IntKind.wrap .i64 (g+1)),())) none) none) none) none) none))
def Tl(L:Ae)(f:C0)(d:Y36→Option Y28)(b:Y23)(c:(List Y17))(a:Int):Option Y28:=(A2 (List.length b.1) fun e=>Ah (decide (a<((e:Nat):Int))) (Ah (B0 a e) ((f ((List.getD b.1 (Int.toNat a) (0,[0,0,0,0],0,())).2.1,())).bind fun g=>Ah g.1.1 (Ah (decide ((List.getD b.1 (Int.toNat a) (0,[0,0,0,0],0,())).2.2.1=0)) (d (b,c,(IntKind.wrap .i64 (a+1)),())) (L _ _ (fun z x=>Hw d z x.1 x.2.1 x.2.2.1 x.2.2.2.1 x.2.2.2.2.1) (b,c,a,(List.getD b.1 (Int.toNat a) (0,[0,0,0,0],0,())),(List.length c:Int),()))) (L _ _ (fun z x=>Hw d z x.1 x.2.1 x.2.2.1 x.2.2.2.1 x.2.2.2.2.1) (b,c,a,(List.getD b.1 (Int.toNat a) (0,[0,0,0,0],0,())),(List.length c:Int),()))) none) (some ((c,()),(),())))
def Ly(L:Ae)(a:C0)(b:Y23):Option Y28:=(L _ _ (fun z x=>Tl L a z x.1 x.2.1 x.2.2.1) (b,[],0,()))
def Hf:Ss:=fun x=>Ly Ac Bd x.1
abbrev Kn:Ce:=⟨[V45],[V25]⟩
abbrev Agy:=Y22→Option Xs
def Wx(e:C0)(d:((List Y17)×Int×Unit)→Option Xs)(b:(List Y17))(a:Int):Option Xs:=(A2 (IntKind.wrap .i64 (a-1)) fun f=>A2 (List.length b) fun c=>Ah (decide (a<((c:Nat):Int))) (Ah (B0 a c) (Ah (decide ((List.getD b (Int.toNat a) (Ty.zero R7)).1=0)) (some ((false,()),(),())) (Ah (decide (a>0)) (Ah (B0 a c) (Ah (B0 f c) (Ah (decide ((List.getD b (Int.toNat a) (Ty.zero R7)).1≤(List.getD b (Int.toNat f) (Ty.zero R7)).1)) (some ((false,()),(),())) (Ah (B0 a c) ((e ((List.getD b (Int.toNat a) (Ty.zero R7)).2.1,())).bind fun g=>Ah g.1.1 (Ah (B0 a c) (Ah (decide ((List.getD b (Int.toNat a) (Ty.zero R7)).2.2.1=0)) (some ((false,()),(),())) (d (b,(IntKind.wrap .i64 (a+1)),()))) none) (d (b,(IntKind.wrap .i64 (a+1)),()))) none)) none) none) (Ah (B0 a c) ((e ((List.getD b (Int.toNat a) (Ty.zero R7)).2.1,())).bind fun h=>Ah h.1.1 (Ah (B0 a c) (Ah (decide ((List.getD b (Int.toNat a) (Ty.zero R7)).2.2.1=0)) (some ((false,()),(),())) (d (b,(IntKind.wrap .i64 (a+1)),()))) none) (d (b,(IntKind.wrap .i64 (a+1)),()))) none))) none) (some ((true,()),(),())))
def Wf(L:Ae)(a:C0)(b:(List Y17)):Option Xs:=(L _ _ (fun z x=>Wx a z x.1 x.2.1) (b,0,()))
def Iu:Agy:=fun x=>Wf Ac Bd x.1
set_option maxRecDepth 100000
abbrev Abk:Ce:=⟨[(.ro true W4)],[V32]⟩
abbrev Arj:=Y4→Option Y6
def Al6(d:Y64→Option Y6)(c:(List Int))(a:(List Int))(b:Int):Option Y6:=(A2 (IntKind.wrap .u64 (IntKind.wrap .i64 (8*(Int.tmod b 8)))) fun f=>A2 (IntKind.wrap .u8 (Int.fdiv (List.getD c (Int.toNat (IntKind.wrap .i64 (Int.tdiv b 8))) 0) (2 ^ (min (Int.toNat f) 64)))) fun e=>Ah (decide (b≥0)) (Ah (B0 (IntKind.wrap .i64 (Int.tdiv b 8)) 4) (Ah (decide (0≤f)) (Ah (decide ((List.length a:Int)>0)) (Ah (A9 ((List.length a)+1) (Ty.int IntKind.u8)) (d (c,(List.append a [e]),(IntKind.wrap .i64 (b-1)),())) none) (Ah (decide (e>0)) (Ah (A9 ((List.length a)+1) (Ty.int IntKind.u8)) (d (c,(List.append a [e]),(IntKind.wrap .i64 (b-1)),())) none) (d (c,a,(IntKind.wrap .i64 (b-1)),())))) none) none) (some ((a,()),(),())))
def Ais(L:Ae)(a:(List Int)):Option Y6:=(L _ _ (fun z x=>Al6 z x.1 x.2.1 x.2.2.1) (a,[],31,()))
def Vg:Arj:=fun x=>Ais Ac x.1
abbrev Ck:Ce:=⟨[V3,(.ro true W4)],[V32]⟩
abbrev Cy:=Y39→Option T2
def Qi(L:Ae)(e:Arj)(a:(List Int))(f:(List Int)):Option T2:=((e (f,())).bind fun b=>A2 (List.length b.1.1) fun c=>A2 (List.append a [(IntKind.wrap .u8 ((c:Nat):Int))]) fun d=>Ah (A9 (0+(List.length a)) (Ty.int IntKind.u8)) (Ah (A9 ((List.length a)+1) (Ty.int IntKind.u8)) (Ah (A9 ((List.length d)+c) (Ty.int IntKind.u8)) (some (((List.append d b.1.1),()),(),(),())) none) none) none)
def Bl:Cy:=fun x=>Qi Ac Vg x.1 x.2.1
abbrev Do:Ce:=⟨[V3,J1],[V32]⟩
abbrev C8:=Y8→Option T2
def Ri(L:Ae)(a:Cy)(b:(List Int))(c:Int):Option T2:=((a (b,[c,0,0,0],())).bind fun d=>some ((d.1.1,()),(),(),()))
def Bu:C8:=fun x=>Ri Ac Bl x.1 x.2.1
abbrev Mf:Ce:=⟨[V3,V7],[V32]⟩
abbrev Alq:=Y29→Option T2
def Aba(L:Ae)(c:Cy)(a:(List Int))(b:Y13):Option T2:=(Ah b.1 (Ah (eqD (Ty.arr 4 (Ty.int IntKind.u64)) b.2.1 [(0:Int),(0:Int),(0:Int),(0:Int)]) (Ah (A9 (0+(List.length a)) (Ty.int IntKind.u8)) (some ((a,()),(),(),())) none) (Ah b.1 (Ah (A9 (0+(List.length a)) (Ty.int IntKind.u8)) (Ah (A9 ((List.length a)+1) (Ty.int IntKind.u8)) ((c ((List.append a [1]),b.2.1,())).bind fun d=>some ((d.1.1,()),(),(),())) none) none) (Ah (A9 (0+(List.length a)) (Ty.int IntKind.u8)) (Ah (A9 ((List.length a)+1) (Ty.int IntKind.u8)) ((c ((List.append a [0]),b.2.1,())).bind fun e=>some ((e.1.1,()),(),(),())) none) none))) (Ah b.1 (Ah (A9 (0+(List.length a)) (Ty.int IntKind.u8)) (Ah (A9 ((List.length a)+1) (Ty.int IntKind.u8)) ((c ((List.append a [1]),b.2.1,())).bind fun f=>some ((f.1.1,()),(),(),())) none) none) (Ah (A9 (0+(List.length a)) (Ty.int IntKind.u8)) (Ah (A9 ((List.length a)+1) (Ty.int IntKind.u8)) ((c ((List.append a [0]),b.2.1,())).bind fun g=>some ((g.1.1,()),(),(),())) none) none)))
def Kq:Alq:=fun x=>Aba Ac Bl x.1 x.2.1
set_option maxRecDepth 100000
abbrev Aey:Ce:=⟨[],[V6]⟩
abbrev Avd:=Unit→Option (Y4×Unit)
def Amf(L:Ae):Option (Y4×Unit):=(some (((List.set (List.set (List.set (List.set (List.set (List.set (List.set (List.set (List.set (List.set (List.set (List.set (List.set (List.set (List.set (List.set (List.set (List.set (List.set (List.set (List.set (List.set (List.set (List.set (List.set (List.set (List.set (List.set (List.set (List.set (List.set (List.set (List.set (List.set (List.set (List.set (List.set (List.set (List.set (List.set (List.set (List.set (List.set (List.set (List.set (List.set (List.set (List.set (List.set (List.set (List.set (List.set (List.set (List.set (List.set (List.set (List.set (List.set (List.set (List.set (List.set (List.set (List.set (List.set (List.replicate 64 0) 0 1116352408) 1 1899447441) 2 3049323471) 3 3921009573) 4 961987163) 5 1508970993) 6 2453635748) 7 2870763221) 8 3624381080) 9 310598401) 10 607225278) 11 1426881987) 12 1925078388) 13 2162078206) 14 2614888103) 15 3248222580) 16 3835390401) 17 4022224774) 18 264347078) 19 604807628) 20 770255983) 21 1249150122) 22 1555081692) 23 1996064986) 24 2554220882) 25 2821834349) 26 2952996808) 27 3210313671) 28 3336571891) 29 3584528711) 30 113926993) 31 338241895) 32 666307205) 33 773529912) 34 1294757372) 35 1396182291) 36 1695183700) 37 1986661051) 38 2177026350) 39 2456956037) 40 2730485921) 41 2820302411) 42 3259730800) 43 3345764771) 44 3516065817) 45 3600352804) 46 4094571909) 47 275423344) 48 430227734) 49 506948616) 50 659060556) 51 883997877) 52 958139571) 53 1322822218) 54 1537002063) 55 1747873779) 56 1955562222) 57 2024104815) 58 2227730452) 59 2361852424) 60 2428436474) 61 2756734187) 62 3204031479) 63 3329325298),()),()))
def Xz:Avd:=fun x=>Amf Ac
abbrev Agq:Ce:=⟨[V35,J1],[V35]⟩
abbrev Agf:=Y3→Option Y56
def Am1(L:Ae)(b:Int)(a:Int):Option Y56:=(A2 (IntKind.wrap .u64 (32-a)) fun c=>Ah (decide (0≤a)) (Ah (decide (0≤c)) (some (((IntKind.wrap .u32 (((BitVec.toNat ((BitVec.ofInt 32 (Int.fdiv b (2 ^ (min (Int.toNat a) 32)))) ||| (BitVec.ofInt 32 (IntKind.wrap .u32 (b*(2 ^ (min (Int.toNat c) 32))))))):Nat):Int)),()),(),(),())) none) none)
def Dm:Agf:=fun x=>Am1 Ac x.1 x.2.1
abbrev Aeh:Ce:=⟨[(.ro true W6),V3],[(.ro true W6)]⟩
abbrev Z2:=Y39→Option T2
def Ac9(d:Y89→Option T2)(c:(List Int))(e:(List Int))(b:(List Int))(a:Int):Option T2:=(Ah (decide (a<8)) (Ah (B0 a 8) (Ah (B0 a 8) (Ah (B0 a 8) (d (c,e,(List.set b (Int.toNat a) (IntKind.wrap .u32 ((List.getD b (Int.toNat a) 0)+(List.getD c (Int.toNat a) 0)))),(IntKind.wrap .i64 (a+1)),())) none) none) none) (some ((b,()),(),(),())))
def Ado(L:Ae)(b:Agf)(o:Cn9→Option T2)(h:(List Int))(i:(List Int))(j:(List Int))(k:(List Int))(a:(List Int))(c:Int):Option T2:=(A2 (List.getD a 4 0) fun d=>A2 (List.getD a 0 0) fun e=>A2 (List.getD a 7 0) fun p=>A2 (List.getD a 5 0) fun l=>A2 (List.getD a 6 0) fun m=>A2 (List.getD a 1 0) fun f=>A2 (List.getD a 2 0) fun g=>A2 (IntKind.wrap .u32 (((BitVec.toNat ((BitVec.ofInt 32 (IntKind.wrap .u32 (((BitVec.toNat ((BitVec.ofInt 32 d) &&& (BitVec.ofInt 32 l))):Nat):Int))) ^^^ (BitVec.ofInt 32 (IntKind.wrap .u32 (((BitVec.toNat ((BitVec.ofInt 32 (IntKind.wrap .u32 (((BitVec.toNat ((BitVec.ofInt 32 4294967295) ^^^ (BitVec.ofInt 32 d))):Nat):Int))) &&& (BitVec.ofInt 32 m))):Nat):Int))))):Nat):Int)) fun q=>Ah (decide (c<64)) ((b (d,6,())).bind fun r=>(b (d,11,())).bind fun s=>(b (d,25,())).bind fun t=>A2 (IntKind.wrap .u32 ((IntKind.wrap .u32 ((IntKind.wrap .u32 ((IntKind.wrap .u32 (p+(IntKind.wrap .u32 (((BitVec.toNat ((BitVec.ofInt 32 (IntKind.wrap .u32 (((BitVec.toNat ((BitVec.ofInt 32 r.1.1) ^^^ (BitVec.ofInt 32 s.1.1))):Nat):Int))) ^^^ (BitVec.ofInt 32 t.1.1))):Nat):Int))))+q))+(List.getD j (Int.toNat c) 0)))+(List.getD k (Int.toNat c) 0))) fun n=>Ah (B0 c 64) (Ah (B0 c 64) ((b (e,2,())).bind fun u=>(b (e,13,())).bind fun v=>(b (e,22,())).bind fun w=>o (h,i,j,k,[(IntKind.wrap .u32 (n+(IntKind.wrap .u32 ((IntKind.wrap .u32 (((BitVec.toNat ((BitVec.ofInt 32 (IntKind.wrap .u32 (((BitVec.toNat ((BitVec.ofInt 32 u.1.1) ^^^ (BitVec.ofInt 32 v.1.1))):Nat):Int))) ^^^ (BitVec.ofInt 32 w.1.1))):Nat):Int))+(IntKind.wrap .u32 (((BitVec.toNat ((BitVec.ofInt 32 (IntKind.wrap .u32 (((BitVec.toNat ((BitVec.ofInt 32 (IntKind.wrap .u32 (((BitVec.toNat ((BitVec.ofInt 32 e) &&& (BitVec.ofInt 32 f))):Nat):Int))) ^^^ (BitVec.ofInt 32 (IntKind.wrap .u32 (((BitVec.toNat ((BitVec.ofInt 32 e) &&& (BitVec.ofInt 32 g))):Nat):Int))))):Nat):Int))) ^^^ (BitVec.ofInt 32 (IntKind.wrap .u32 (((BitVec.toNat ((BitVec.ofInt 32 f) &&& (BitVec.ofInt 32 g))):Nat):Int))))):Nat):Int)))))),e,f,g,(IntKind.wrap .u32 ((List.getD a 3 0)+n)),d,l,m],(IntKind.wrap .i64 (c+1)),())) none) none) (L _ _ (fun z x=>Ac9 z x.1 x.2.1 x.2.2.1 x.2.2.2.1) (h,i,a,0,())))
def Ano(L:Ae)(d:Agf)(k:Cn9→Option T2)(b:(List Int))(f:(List Int))(g:(List Int))(h:(List Int))(c:(List Int))(a:Int):Option T2:=(A2 (IntKind.wrap .i64 (4*a)) fun e=>A2 (IntKind.wrap .i64 (a-15)) fun l=>A2 (IntKind.wrap .i64 (a-2)) fun m=>A2 (IntKind.wrap .i64 (a-16)) fun n=>A2 (IntKind.wrap .i64 (a-7)) fun o=>A2 (List.getD c (Int.toNat l) 0) fun i=>A2 (List.getD c (Int.toNat m) 0) fun j=>A2 (IntKind.wrap .i64 (e+1)) fun p=>A2 (IntKind.wrap .i64 (e+2)) fun q=>A2 (IntKind.wrap .i64 (e+3)) fun r=>Ah (decide (a<64)) (Ah (decide (a<16)) (Ah (B0 e (List.length b)) (Ah (B0 p (List.length b)) (Ah (B0 q (List.length b)) (Ah (B0 r (List.length b)) (Ah (B0 a 64) (k (b,f,g,h,(List.set c (Int.toNat a) (IntKind.wrap .u32 ((IntKind.wrap .u32 ((IntKind.wrap .u32 ((IntKind.wrap .u32 ((IntKind.wrap .u32 (List.getD b (Int.toNat e) 0))*16777216))+(IntKind.wrap .u32 ((IntKind.wrap .u32 (List.getD b (Int.toNat p) 0))*65536))))+(IntKind.wrap .u32 ((IntKind.wrap .u32 (List.getD b (Int.toNat q) 0))*256))))+(IntKind.wrap .u32 (List.getD b (Int.toNat r) 0))))),(IntKind.wrap .i64 (a+1)),())) none) none) none) none) none) (Ah (B0 l 64) (Ah (B0 m 64) (Ah (B0 n 64) ((d (i,7,())).bind fun s=>(d (i,18,())).bind fun t=>Ah (B0 o 64) ((d (j,17,())).bind fun u=>(d (j,19,())).bind fun v=>Ah (B0 a 64) (k (b,f,g,h,(List.set c (Int.toNat a) (IntKind.wrap .u32 ((IntKind.wrap .u32 ((IntKind.wrap .u32 ((List.getD c (Int.toNat n) 0)+(IntKind.wrap .u32 (((BitVec.toNat ((BitVec.ofInt 32 (IntKind.wrap .u32 (((BitVec.toNat ((BitVec.ofInt 32 s.1.1) ^^^ (BitVec.ofInt 32 t.1.1))):Nat):Int))) ^^^ (BitVec.ofInt 32 (Int.fdiv i 8)))):Nat):Int))))+(List.getD c (Int.toNat o) 0)))+(IntKind.wrap .u32 (((BitVec.toNat ((BitVec.ofInt 32 (IntKind.wrap .u32 (((BitVec.toNat ((BitVec.ofInt 32 u.1.1) ^^^ (BitVec.ofInt 32 v.1.1))):Nat):Int))) ^^^ (BitVec.ofInt 32 (Int.fdiv j 1024)))):Nat):Int))))),(IntKind.wrap .i64 (a+1)),())) none) none) none) none) none)) (L _ _ (fun z x=>Ado L d z x.1 x.2.1 x.2.2.1 x.2.2.2.1 x.2.2.2.2.1 x.2.2.2.2.2.1) (f,g,h,c,f,0,())))
def Amj(L:Ae)(a:Avd)(b:Agf)(c:(List Int))(d:(List Int)):Option T2:=((a ()).bind fun e=>L _ _ (fun z x=>Ano L b z x.1 x.2.1 x.2.2.1 x.2.2.2.1 x.2.2.2.2.1 x.2.2.2.2.2.1) (d,c,[0,0,0,0,0,0,0,0],e.1.1,(List.replicate 64 0),0,()))
def Oq:Z2:=fun x=>Amj Ac Xz Dm x.1 x.2.1
abbrev Nm:Ce:=⟨[V3],[(.ro true W3)]⟩
abbrev Aic:=Y4→Option Y6
def Ahl(e:Y89→Option Y6)(f:(List Int))(b:(List Int))(c:(List Int))(a:Int):Option Y6:=(A2 (IntKind.wrap .u64 (IntKind.wrap .i64 (24-(IntKind.wrap .i64 (8*(Int.tmod a 4)))))) fun d=>Ah (decide (a<32)) (Ah (B0 (IntKind.wrap .i64 (Int.tdiv a 4)) 8) (Ah (decide (0≤d)) (Ah (B0 a 32) (e (f,b,(List.set c (Int.toNat a) (IntKind.wrap .u8 (Int.fdiv (List.getD b (Int.toNat (IntKind.wrap .i64 (Int.tdiv a 4))) 0) (2 ^ (min (Int.toNat d) 32))))),(IntKind.wrap .i64 (a+1)),())) none) none) none) (some ((c,()),(),())))
def Ah8(L:Ae)(f:Z2)(g:Y89→Option Y6)(d:(List Int))(b:(List Int))(e:(List Int))(a:Int):Option Y6:=(A2 (IntKind.wrap .i64 (a+64)) fun c=>Ah (decide (a<(List.length b:Int))) (Ah (((decide (0≤a))&&(decide (a≤c)))&&(decide (c≤(List.length b:Int)))) ((f (e,(List.take ((Int.toNat c)-(Int.toNat a)) (List.drop (Int.toNat a) b)),())).bind fun h=>g (d,b,h.1.1,c,())) none) (L _ _ (fun z x=>Ahl z x.1 x.2.1 x.2.2.1 x.2.2.2.1) (d,e,(List.replicate 32 0),0,())))
def Ahc(L:Ae)(f:Z2)(g:Y78→Option Y6)(c:(List Int))(a:(List Int))(d:Int)(b:Int):Option Y6:=(A2 (IntKind.wrap .u64 (IntKind.wrap .i64 (8*b))) fun e=>Ah (decide (b≥0)) (Ah (decide (0≤e)) (Ah (A9 ((List.length a)+1) (Ty.int IntKind.u8)) (g (c,(List.append a [(IntKind.wrap .u8 (Int.fdiv d (2 ^ (min (Int.toNat e) 64))))]),d,(IntKind.wrap .i64 (b-1)),())) none) none) (L _ _ (fun z x=>Ah8 L f z x.1 x.2.1 x.2.2.1 x.2.2.2.1) (c,a,[1779033703,3144134277,1013904242,2773480762,1359893119,2600822924,528734635,1541459225],0,())))
def At5(L:Ae)(d:Z2)(e:Y79→Option Y6)(b:(List Int))(c:(List Int))(a:(List Int)):Option Y6:=(Ah (!(decide ((Int.tmod (List.length a:Int) 64)=56))) (Ah (A9 ((List.length a)+1) (Ty.int IntKind.u8)) (e (b,c,(List.append a [0]),())) none) (L _ _ (fun z x=>Ahc L d z x.1 x.2.1 x.2.2.1 x.2.2.2.1) (c,a,(IntKind.wrap .u64 ((IntKind.wrap .u64 (List.length b:Int))*8)),7,())))
def Aui(L:Ae)(b:Z2)(a:(List Int)):Option Y6:=(Ah (A9 (0+(List.length a)) (Ty.int IntKind.u8)) (Ah (A9 ((List.length a)+1) (Ty.int IntKind.u8)) (L _ _ (fun z x=>At5 L b z x.1 x.2.1 x.2.2.1) (a,(List.replicate 32 0),(List.append a [128]),())) none) none)
def Je:Aic:=fun x=>Aui Ac Oq x.1
abbrev Aj4:Ce:=⟨[V3],[(.ro true W3)]⟩
abbrev Azi:=Y4→Option Y6
def Aql(L:Ae)(b:Aic)(a:(List Int)):Option Y6:=(Ah (A9 (1+(List.length a)) (Ty.int IntKind.u8)) ((b ((List.append [0] a),())).bind fun c=>some ((c.1.1,()),(),())) none)
def Abq:Azi:=fun x=>Aql Ac Je x.1
abbrev Yg:Ce:=⟨[(.ro true W3),(.ro true W3)],[(.ro true W3)]⟩
abbrev Azt:=Y39→Option T2
def Az4(L:Ae)(d:Aic)(e:(List Int))(f:(List Int)):Option T2:=(A2 (List.take ((32:Nat)-(0:Nat)) (List.drop 0 e)) fun a=>A2 (List.take ((32:Nat)-(0:Nat)) (List.drop 0 f)) fun b=>A2 (List.append [1] a) fun c=>Ah (A9 (1+(List.length a)) (Ty.int IntKind.u8)) (Ah (A9 ((List.length c)+(List.length b)) (Ty.int IntKind.u8)) ((d ((List.append c b),())).bind fun g=>some ((g.1.1,()),(),(),())) none) none)
def Q3:Azt:=fun x=>Az4 Ac Je x.1 x.2.1
set_option maxRecDepth 100000
abbrev Gi:Ce:=⟨[Bv],[Bv]⟩
abbrev Ww:=(Int×Unit)→Option Y14
def Aec(c:Y3→Option Y14)(b:Int)(a:Int):Option Y14:=(Ah (decide (a<(IntKind.wrap .i64 (b-a)))) (c (b,(IntKind.wrap .i64 (2*a)),())) (some ((a,()),(),())))
def Afu(L:Ae)(a:Int):Option Y14:=(L _ _ (fun z x=>Aec z x.1 x.2.1) (a,1,()))
def E0:Ww:=fun x=>Afu Ac x.1
abbrev I8:Ce:=⟨[V40],[(.ro true W3)]⟩
abbrev Vx:=(Y1×Unit)→Option Y6
def Ar9(L:Ae)(e:Aic)(f:Ww)(d:Vx)(g:Azt)(b:Y1):Option Y6:=(A2 (List.length b:Int) fun c=>Ah (decide (c=0)) ((e ([],())).bind fun h=>some ((h.1.1,()),(),())) (Ah (decide (c=1)) (Ah (B0 0 (List.length b)) (some (((List.getD b 0 (List.replicate 32 0)),()),(),())) none) ((f (c,())).bind fun a=>Ah ((decide (0≤a.1.1))&&(decide (a.1.1≤c))) ((d ((List.take ((Int.toNat a.1.1)-0) (List.drop 0 b)),())).bind fun i=>Ah ((decide (0≤a.1.1))&&(decide (a.1.1≤c))) ((d ((List.take ((List.length b)-(Int.toNat a.1.1)) (List.drop (Int.toNat a.1.1) b)),())).bind fun j=>(g (i.1.1,j.1.1,())).bind fun k=>some ((k.1.1,()),(),())) none) none)))
def Ni:Nat→Vx|0=>fun _=>none|n+1=>fun x=>Ar9 Ac Je E0 (Ni n) Q3 x.1
def Md:Vx:=Ni Bks
abbrev Qc:Ce:=⟨[V40,Bv],[V1]⟩
abbrev Af8:=(Y1×Int×Unit)→Option Y51
def Auj(L:Ae)(k:Ww)(e:Af8)(f:Vx)(c:Y1)(d:Int):Option Y51:=(A2 (List.length c:Int) fun b=>A2 (List.drop 0 c) fun l=>Ah (decide (b<2)) (some (([],()),(),(),())) ((k (b,())).bind fun a=>A2 (List.take ((Int.toNat a.1.1)-0) l) fun g=>A2 (List.take ((List.length c)-(Int.toNat a.1.1)) (List.drop (Int.toNat a.1.1) c)) fun h=>Ah (decide (d<a.1.1)) (Ah ((decide (0≤a.1.1))&&(decide (a.1.1≤b))) ((e (g,d,())).bind fun i=>Ah ((decide (0≤a.1.1))&&(decide (a.1.1≤b))) ((f (h,())).bind fun m=>Ah (A9 ((List.length i.1.1)+1) (Ty.arr 32 (Ty.int IntKind.u8))) (some (((List.append i.1.1 [m.1.1]),()),(),(),())) none) none) none) (Ah ((decide (0≤a.1.1))&&(decide (a.1.1≤b))) ((e (h,(IntKind.wrap .i64 (d-a.1.1)),())).bind fun j=>Ah ((decide (0≤a.1.1))&&(decide (a.1.1≤b))) ((f (g,())).bind fun n=>Ah (A9 ((List.length j.1.1)+1) (Ty.arr 32 (Ty.int IntKind.u8))) (some (((List.append j.1.1 [n.1.1]),()),(),(),())) none) none) none)))
def Pg:Nat→Af8|0=>fun _=>none|n+1=>fun x=>Auj Ac E0 (Pg n) Md x.1 x.2.1
def Yj:Af8:=Pg Bks
abbrev Ad7:Ce:=⟨[Bv,Bv,(.ro true W3),V40],[(.ro true W3),V25]⟩
abbrev As9:=Y60→Option Y68
def Bg6(L:Ae)(m:Ww)(h:As9)(i:Azt)(f:Int)(g:Int)(d:(List Int))(b:Y1):Option Y68:=(A2 (List.length b:Int) fun c=>A2 (IntKind.wrap .i64 (c-1)) fun a=>A2 (List.getD b (Int.toNat a) (List.replicate 32 0)) fun j=>Ah (decide (f=1)) (some ((d,(decide (c=0)),()),(),(),(),(),())) (Ah (decide (c=0)) (some ((d,false,()),(),(),(),(),())) (Ah (B0 a (List.length b)) ((m (f,())).bind fun e=>Ah (decide (g<e.1.1)) (Ah ((decide (0≤a))&&(decide (a≤c))) ((h (e.1.1,g,d,(List.take ((Int.toNat a)-0) (List.drop 0 b)),())).bind fun k=>(i (k.1.1,j,())).bind fun n=>some ((n.1.1,k.1.2.1,()),(),(),(),(),())) none) (Ah ((decide (0≤a))&&(decide (a≤c))) ((h ((IntKind.wrap .i64 (f-e.1.1)),(IntKind.wrap .i64 (g-e.1.1)),d,(List.take ((Int.toNat a)-0) (List.drop 0 b)),())).bind fun l=>(i (j,l.1.1,())).bind fun o=>some ((o.1.1,l.1.2.1,()),(),(),(),(),())) none)) none)))
def Aah:Nat→As9|0=>fun _=>none|n+1=>fun x=>Bg6 Ac E0 (Aah n) Q3 x.1 x.2.1 x.2.2.1 x.2.2.2.1
def Ajt:As9:=Aah Bks
abbrev Ab0:Ce:=⟨[(.ro true W3),Bv,Bv,(.ro true W3),V40],[V25]⟩
abbrev Ars:=Y85→Option Y94
def Aik(L:Ae)(e:As9)(f:(List Int))(b:Int)(a:Int)(g:(List Int))(c:Y1):Option Y94:=(Ah (decide (a<0)) (some ((false,()),(),(),(),(),(),())) (Ah (decide (a≥b)) (some ((false,()),(),(),(),(),(),())) (Ah (decide ((List.length c:Int)>64)) (some ((false,()),(),(),(),(),(),())) ((e (b,a,g,c,())).bind fun d=>Ah d.1.2.1 (some (((eqD (Ty.arr 32 (Ty.int IntKind.u8)) d.1.1 f),()),(),(),(),(),(),())) (some ((false,()),(),(),(),(),(),()))))))
def Ph:Ars:=fun x=>Aik Ac Ajt x.1 x.2.1 x.2.2.1 x.2.2.2.1 x.2.2.2.2.1
set_option maxRecDepth 100000
abbrev Zx:Ce:=⟨[V8],[V32]⟩
abbrev Anu:=(Y18×Unit)→Option Y6
def Agg(L:Ae)(b:C8)(c:Cy)(a:Y18):Option Y6:=((b ([],a.1,())).bind fun d=>(b (d.1.1,a.2.1,())).bind fun e=>(c (e.1.1,a.2.2.1,())).bind fun f=>some ((f.1.1,()),(),()))
def Sh:Anu:=fun x=>Agg Ac Bu Bl x.1
abbrev Tt:Ce:=⟨[V8],[(.ro true W3)]⟩
abbrev Afq:=(Y18×Unit)→Option Y6
def Aml(L:Ae)(a:Anu)(b:Azi)(c:Y18):Option Y6:=((a (c,())).bind fun d=>(b (d.1.1,())).bind fun e=>some ((e.1.1,()),(),()))
def Nn:Afq:=fun x=>Aml Ac Sh Abq x.1
abbrev No:Ce:=⟨[V44,Bv],[V1]⟩
abbrev Aet:=Y30→Option Y51
def Akc(e:Afq)(f:((List Y18)×Int×Y1×Int×Unit)→Option Y51)(b:(List Y18))(d:Int)(c:Y1)(a:Int):Option Y51:=(Ah (decide (a<d)) (Ah (B0 a (List.length b)) ((e ((List.getD b (Int.toNat a) (0,0,[0,0,0,0],())),())).bind fun g=>Ah (A9 ((List.length c)+1) (Ty.arr 32 (Ty.int IntKind.u8))) (f (b,d,(List.append c [g.1.1]),(IntKind.wrap .i64 (a+1)),())) none) none) (some ((c,()),(),(),())))
def Aeg(L:Ae)(a:Afq)(b:(List Y18))(c:Int):Option Y51:=(L _ _ (fun z x=>Akc a z x.1 x.2.1 x.2.2.1 x.2.2.2.1) (b,c,[],0,()))
def K1:Aet:=fun x=>Aeg Ac Nn x.1 x.2.1
abbrev Ab5:Ce:=⟨[V44,Bv,Bv],[V1,V25]⟩
abbrev Asy:=((List Y18)×Int×Int×Unit)→Option Y83
def Aix(L:Ae)(d:Aet)(e:Af8)(c:(List Y18))(a:Int)(b:Int):Option Y83:=(Ah (decide (a<0)) (some (([],false,()),(),(),(),())) (Ah (decide (a≥b)) (some (([],false,()),(),(),(),())) (Ah (decide (b>(List.length c:Int))) (some (([],false,()),(),(),(),())) ((d (c,b,())).bind fun f=>(e (f.1.1,a,())).bind fun g=>some ((g.1.1,true,()),(),(),(),())))))
def Ux:Asy:=fun x=>Aix Ac K1 Yj x.1 x.2.1 x.2.2.1
abbrev Afd:Ce:=⟨[V44,Bv],[(.ro true W3),V25]⟩
abbrev Av2:=Y30→Option (Y12×Unit×Unit×Unit)
def Amn(L:Ae)(c:Aet)(d:Vx)(b:(List Y18))(a:Int):Option (Y12×Unit×Unit×Unit):=(Ah (decide (a<0)) (some (((List.replicate 32 0),false,()),(),(),())) (Ah (decide (a>(List.length b:Int))) (some (((List.replicate 32 0),false,()),(),(),())) ((c (b,a,())).bind fun e=>(d (e.1.1,())).bind fun f=>some ((f.1.1,true,()),(),(),()))))
def Yl:Av2:=fun x=>Amn Ac K1 Md x.1 x.2.1
abbrev Kl:Ce:=⟨[V44],[V25]⟩
abbrev Ag1:=((List Y18)×Unit)→Option Xs
def Xj(d:Y30→Option Xs)(b:(List Y18))(a:Int):Option Xs:=(A2 (List.length b) fun c=>Ah (decide (a<((c:Nat):Int))) (Ah (B0 a c) (Ah (!(decide ((List.getD b (Int.toNat a) (Ty.zero R9)).1=(IntKind.wrap .u64 a)))) (some ((false,()),(),())) (Ah (B0 a c) (Ah (decide ((List.getD b (Int.toNat a) (Ty.zero R9)).2.1=0)) (some ((false,()),(),())) (Ah (B0 a c) (Ah (eqD (Ty.arr 4 (Ty.int IntKind.u64)) (List.getD b (Int.toNat a) (Ty.zero R9)).2.2.1 [(0:Int),(0:Int),(0:Int),(0:Int)]) (some ((false,()),(),())) (d (b,(IntKind.wrap .i64 (a+1)),()))) none)) none)) none) (some ((true,()),(),())))
def Wi(L:Ae)(a:(List Y18)):Option Xs:=(L _ _ (fun z x=>Xj z x.1 x.2.1) (a,0,()))
def I3:Ag1:=fun x=>Wi Ac x.1
set_option maxRecDepth 100000
abbrev Vq:Ce:=⟨[],[V12]⟩
abbrev Aku:=Unit→Option ((Pc×Unit)×Unit)
def Alj(L:Ae):Option ((Pc×Unit)×Unit):=(some (((7000000,10,102,[100000000,0,0,0],32000000,[60000000,0,0,0],1000,[10,0,0,0],160000000,10,16,65536,()),()),()))
def Xp:Aku:=fun x=>Alj Ac
abbrev Aoc:Ce:=⟨[J1,J1,J1],[V25]⟩
abbrev Bcc:=Y7→Option Y76
def Awf(L:Ae)(a:Int)(b:Int)(c:Int):Option Y76:=(Ah (decide (a≥b)) (some (((decide (a≤c)),()),(),(),(),())) (some ((false,()),(),(),(),())))
def Afk:Bcc:=fun x=>Awf Ac x.1 x.2.1 x.2.2.1
abbrev U8:Ce:=⟨[(.ro true W4),J1],[V25]⟩
abbrev Ak8:=Y8→Option Y58
def Acm(L:Ae)(b:Vu)(c:(List Int))(d:Int):Option Y58:=((b (c,())).bind fun a=>Ah a.1.2.1 (some (((decide (a.1.1≥d)),()),(),(),())) (some ((false,()),(),(),())))
def P8:Ak8:=fun x=>Acm Ac G6 x.1 x.2.1
abbrev Lh:Ce:=⟨[V12],[Bv]⟩
abbrev Yv:=(Pc×Unit)→Option Y14
def Nt(d:((List Bool)×Int×Unit)→Option Y14)(b:(List Bool))(a:Int):Option Y14:=(A2 (IntKind.wrap .i64 (a+1)) fun c=>Ah (decide (a<12)) (Ah (B0 a 12) (Ah (!(List.getD b (Int.toNat a) false)) (some ((c,()),(),())) (d (b,c,()))) none) (some ((0,()),(),())))
def Qa(L:Ae)(b:Bcc)(c:Ak8)(a:Pc):Option Y14:=((b (a.1,1,1099511627776,())).bind fun d=>(b (a.2.1,0,1048576,())).bind fun e=>(b (a.2.2.1,1,1048576,())).bind fun f=>(c (a.2.2.2.1,1,())).bind fun g=>(b (a.2.2.2.2.1,1,1099511627776,())).bind fun h=>(c (a.2.2.2.2.2.1,0,())).bind fun i=>(b (a.2.2.2.2.2.2.1,0,10000,())).bind fun j=>(c (a.2.2.2.2.2.2.2.1,0,())).bind fun k=>(b (a.2.2.2.2.2.2.2.2.1,1,1099511627776,())).bind fun l=>(b (a.2.2.2.2.2.2.2.2.2.1,1,1048576,())).bind fun m=>(b (a.2.2.2.2.2.2.2.2.2.2.1,0,1048576,())).bind fun n=>(b (a.2.2.2.2.2.2.2.2.2.2.2.1,a.2.2.2.2.2.2.2.2.2.2.1,16777216,())).bind fun o=>L _ _ (fun z x=>Nt z x.1 x.2.1) ([d.1.1,e.1.1,f.1.1,g.1.1,h.1.1,i.1.1,j.1.1,k.1.1,l.1.1,m.1.1,n.1.1,o.1.1],0,()))
def Mx:Yv:=fun x=>Qa Ac Afk P8 x.1
abbrev Dv:Ce:=⟨[V12],[V25]⟩
abbrev I9:=(Pc×Unit)→Option Xs
def Ajg(L:Ae)(a:Yv)(b:Pc):Option Xs:=((a (b,())).bind fun c=>some (((decide (c.1.1=0)),()),(),()))
def Cr:I9:=fun x=>Ajg Ac Mx x.1
abbrev Aj9:Ce:=⟨[V12],[(.ro true (.arr 12 W4))]⟩
abbrev Ayl:=(Pc×Unit)→Option ((Y1×Unit)×Unit×Unit)
def Aqr(L:Ae)(a:Pc):Option ((Y1×Unit)×Unit×Unit):=(some (([[a.1,0,0,0],[a.2.1,0,0,0],[a.2.2.1,0,0,0],a.2.2.2.1,[a.2.2.2.2.1,0,0,0],a.2.2.2.2.2.1,[a.2.2.2.2.2.2.1,0,0,0],a.2.2.2.2.2.2.2.1,[a.2.2.2.2.2.2.2.2.1,0,0,0],[a.2.2.2.2.2.2.2.2.2.1,0,0,0],[a.2.2.2.2.2.2.2.2.2.2.1,0,0,0],[a.2.2.2.2.2.2.2.2.2.2.2.1,0,0,0]],()),(),()))
def Aiy:Ayl:=fun x=>Aqr Ac x.1
abbrev Ajo:Ce:=⟨[V12,Bv,(.ro true W4)],[V12,Bv]⟩
abbrev Azp:=(Pc×Int×(List Int)×Unit)→Option Cla
def Afx(c:Vu)(d:I9)(e:(Pc×Y1×Int×Unit)→Option Cla)(f:Pc)(a:Y1)(b:Int):Option Cla:=(Ah (decide (b<12)) (Ah (B0 b 12) ((c ((List.getD a (Int.toNat b) [0,0,0,0]),())).bind fun g=>Ah (!g.1.2.1) (some (((0,0,0,[0,0,0,0],0,[0,0,0,0],0,[0,0,0,0],0,0,0,0,()),15,()),(),(),(),())) (e (f,a,(IntKind.wrap .i64 (b+1)),()))) none) ((d (((List.getD (List.getD a 0 [0,0,0,0]) 0 0),(List.getD (List.getD a 1 [0,0,0,0]) 0 0),(List.getD (List.getD a 2 [0,0,0,0]) 0 0),(List.getD a 3 [0,0,0,0]),(List.getD (List.getD a 4 [0,0,0,0]) 0 0),(List.getD a 5 [0,0,0,0]),(List.getD (List.getD a 6 [0,0,0,0]) 0 0),(List.getD a 7 [0,0,0,0]),(List.getD (List.getD a 8 [0,0,0,0]) 0 0),(List.getD (List.getD a 9 [0,0,0,0]) 0 0),(List.getD (List.getD a 10 [0,0,0,0]) 0 0),(List.getD (List.getD a 11 [0,0,0,0]) 0 0),()),())).bind fun h=>Ah (!h.1.1) (some (((0,0,0,[0,0,0,0],0,[0,0,0,0],0,[0,0,0,0],0,0,0,0,()),15,()),(),(),(),())) (some ((((List.getD (List.getD a 0 [0,0,0,0]) 0 0),(List.getD (List.getD a 1 [0,0,0,0]) 0 0),(List.getD (List.getD a 2 [0,0,0,0]) 0 0),(List.getD a 3 [0,0,0,0]),(List.getD (List.getD a 4 [0,0,0,0]) 0 0),(List.getD a 5 [0,0,0,0]),(List.getD (List.getD a 6 [0,0,0,0]) 0 0),(List.getD a 7 [0,0,0,0]),(List.getD (List.getD a 8 [0,0,0,0]) 0 0),(List.getD (List.getD a 9 [0,0,0,0]) 0 0),(List.getD (List.getD a 10 [0,0,0,0]) 0 0),(List.getD (List.getD a 11 [0,0,0,0]) 0 0),()),0,()),(),(),(),()))))
def Aq3(L:Ae)(b:I9)(e:Ayl)(f:Vu)(c:Pc)(a:Int)(g:(List Int)):Option Cla:=(A2 (IntKind.wrap .i64 (a-1)) fun d=>Ah (decide (a<1)) (some (((0,0,0,[0,0,0,0],0,[0,0,0,0],0,[0,0,0,0],0,0,0,0,()),17,()),(),(),(),())) (Ah (decide (a>12)) (some (((0,0,0,[0,0,0,0],0,[0,0,0,0],0,[0,0,0,0],0,0,0,0,()),17,()),(),(),(),())) ((b (c,())).bind fun h=>Ah (!h.1.1) (some (((0,0,0,[0,0,0,0],0,[0,0,0,0],0,[0,0,0,0],0,0,0,0,()),15,()),(),(),(),())) ((e (c,())).bind fun i=>Ah (B0 d 12) (L _ _ (fun z x=>Afx f b z x.1 x.2.1 x.2.2.1) ((0,0,0,[0,0,0,0],0,[0,0,0,0],0,[0,0,0,0],0,0,0,0,()),(List.set i.1.1 (Int.toNat d) g),0,())) none))))
def Ab9:Azp:=fun x=>Aq3 Ac Cr Aiy G6 x.1 x.2.1 x.2.2.1
set_option maxRecDepth 100000
abbrev Tv:Ce:=⟨[J1,J1,J1],[J1]⟩
abbrev Am4:=Y7→Option Y74
def Amh(L:Ae)(a:Cj)(d:Js)(e:Ho)(f:Ky)(g:B2)(h:Int)(i:Int)(j:Int):Option Y74:=((a (h,())).bind fun b=>(a (i,())).bind fun k=>(a (j,())).bind fun l=>(d (k.1.1,l.1.1,())).bind fun c=>(e (b.1.1,c.1.1,())).bind fun m=>Ah (decide (m.1.1≤0)) (some ((0,()),(),(),(),())) ((f (b.1.1,c.1.1,())).bind fun n=>(g (n.1.1,())).bind fun o=>some (((List.getD o.1.1 0 0),()),(),(),(),())))
def N9:Am4:=fun x=>Amh Ac A1 Ci Ca Dr Ay x.1 x.2.1 x.2.2.1
abbrev X2:Ce:=⟨[J1,J1,J1],[J1]⟩
abbrev Anw:=Y7→Option Y74
def Aep(L:Ae)(a:Am4)(b:Int)(c:Int)(d:Int):Option Y74:=((a (b,c,d,())).bind fun e=>some ((e.1.1,()),(),(),(),()))
def Sc:Anw:=fun x=>Aep Ac N9 x.1 x.2.1 x.2.2.1
abbrev Ajv:Ce:=⟨[J1,J1],[J1]⟩
abbrev Azk:=Y3→Option Y56
def Ap3(L:Ae)(a:Cj)(c:Cc)(d:B2)(e:Vu)(f:Int)(g:Int):Option Y56:=((a (f,())).bind fun h=>(a (g,())).bind fun i=>(c (h.1.1,i.1.1,())).bind fun j=>(d (j.1.1,())).bind fun k=>(e (k.1.1,())).bind fun b=>Ah (!b.1.2.1) (some ((18446744073709551615,()),(),(),())) (some ((b.1.1,()),(),(),())))
def Ach:Azk:=fun x=>Ap3 Ac A1 A7 Ay G6 x.1 x.2.1
abbrev Abo:Ce:=⟨[J1,J1,J1],[J1]⟩
abbrev Arh:=Y7→Option Y74
def Ai5(L:Ae)(a:Am4)(b:Int)(c:Int)(d:Int):Option Y74:=((a (b,c,d,())).bind fun e=>some ((e.1.1,()),(),(),(),()))
def Uq:Arh:=fun x=>Ai5 Ac N9 x.1 x.2.1 x.2.2.1
set_option maxRecDepth 100000
abbrev Anx:Ce:=⟨[J1,Bv],[J1,Bv]⟩
abbrev Bct:=Y3→Option Y10
def Atc(a:Cj)(c:Js)(f:N4)(g:Cc)(h:B2)(i:Y17→Option Y10)(d:Int)(e:(List Int))(b:Int):Option Y10:=(Ah (decide (b≥1)) ((a (d,())).bind fun j=>(c (e,j.1.1,())).bind fun k=>(a ((IntKind.wrap .u64 b),())).bind fun l=>(a (10000,())).bind fun m=>(c (l.1.1,m.1.1,())).bind fun n=>(f (k.1.1,n.1.1,())).bind fun o=>(a (10000,())).bind fun p=>(g (p.1.1,o.1.1,())).bind fun q=>i (d,q.1.1,(IntKind.wrap .i64 (b-1)),())) ((h (e,())).bind fun r=>some (((List.getD r.1.1 0 0),0,()),(),(),())))
def Avj(L:Ae)(b:Cj)(d:Js)(e:N4)(f:Cc)(g:B2)(c:Int)(a:Int):Option Y10:=(Ah (decide (c>200000)) (some ((0,2,()),(),(),())) (Ah (decide (a<1)) (some ((0,2,()),(),(),())) (Ah (decide (a>20)) (some ((0,2,()),(),(),())) ((b (10000,())).bind fun h=>L _ _ (fun z x=>Atc b d e f g z x.1 x.2.1 x.2.2.1) (c,h.1.1,a,())))))
def Agj:Bct:=fun x=>Avj Ac A1 Ci Ds A7 Ay x.1 x.2.1
abbrev Af0:Ce:=⟨[(.ro true W4),J1],[(.ro true W4),Bv]⟩
abbrev Avl:=Y8→Option Y31
def Ame(L:Ae)(c:As)(a:Cj)(d:Js)(e:N4)(f:F0)(g:(List Int))(h:Int):Option Y31:=((c (g,())).bind fun i=>(a (h,())).bind fun j=>(d (i.1.1,j.1.1,())).bind fun k=>(a (10000,())).bind fun l=>(e (k.1.1,l.1.1,())).bind fun m=>(f (m.1.1,())).bind fun b=>some ((b.1.1,b.1.2.1,()),(),(),()))
def Zl:Avl:=fun x=>Ame Ac Ai A1 Ci Ds B3 x.1 x.2.1
abbrev Vn:Ce:=⟨[(.ro true W4),J1,Bv],[(.ro true W4),Bv]⟩
abbrev Akz:=Y16→Option Y43
def Acn(L:Ae)(c:Bct)(d:Avl)(e:(List Int))(f:Int)(g:Int):Option Y43:=((c (f,g,())).bind fun a=>Ah (!(decide (a.1.2.1=0))) (some (([0,0,0,0],a.1.2.1,()),(),(),(),())) ((d (e,a.1.1,())).bind fun b=>some ((b.1.1,b.1.2.1,()),(),(),(),())))
def Qe:Akz:=fun x=>Acn Ac Agj Zl x.1 x.2.1 x.2.2.1
set_option maxRecDepth 100000
abbrev S2:Ce:=⟨[J1,V12],[J1,Bv]⟩
abbrev Ahy:=(Int×Pc×Unit)→Option Y10
def Z8(L:Ae)(d:I9)(e:Anw)(a:Cj)(c:Js)(f:N4)(g:Zu)(h:B2)(i:Int)(b:Pc):Option Y10:=((d (b,())).bind fun j=>Ah (!j.1.1) (some ((0,15,()),(),(),())) ((e (i,b.1,b.2.1,())).bind fun k=>(a (k.1.1,())).bind fun l=>(a (10000,())).bind fun m=>(c (l.1.1,m.1.1,())).bind fun n=>(a (b.2.2.1,())).bind fun o=>(a (b.1,())).bind fun p=>(c (o.1.1,p.1.1,())).bind fun q=>(f (n.1.1,q.1.1,())).bind fun r=>(a (200000,())).bind fun s=>(g (r.1.1,s.1.1,())).bind fun t=>(h (t.1.1,())).bind fun u=>some (((List.getD u.1.1 0 0),0,()),(),(),())))
def Kr:Ahy:=fun x=>Z8 Ac Cr Sc A1 Ci Ds G8 Ay x.1 x.2.1
abbrev Ze:Ce:=⟨[J1,V12],[(.ro true W4),Bv]⟩
abbrev Aqy:=(Int×Pc×Unit)→Option Y31
def Aqo(L:Ae)(d:Ahy)(e:Akz)(f:Int)(b:Pc):Option Y31:=((d (f,b,())).bind fun a=>Ah (!(decide (a.1.2.1=0))) (some (([0,0,0,0],a.1.2.1,()),(),(),())) ((e (b.2.2.2.1,a.1.1,10,())).bind fun c=>some ((c.1.1,c.1.2.1,()),(),(),())))
def Nd:Aqy:=fun x=>Aqo Ac Kr Qe x.1 x.2.1
set_option maxRecDepth 100000
abbrev U2:Ce:=⟨[V12],[V9,Bv]⟩
abbrev Ak4:=(Pc×Unit)→Option (Y67×Unit×Unit)
def Acz(L:Ae)(b:Aqy)(c:Pc):Option (Y67×Unit×Unit):=((b (0,c,())).bind fun a=>Ah (!(decide (a.1.2.1=0))) (some (((0,0,0,[0,0,0,0],()),a.1.2.1,()),(),())) (some (((1,0,0,a.1.1,()),0,()),(),())))
def P5:Ak4:=fun x=>Acz Ac Nd x.1
abbrev Ln:Ce:=⟨[V9,V12],[J1]⟩
abbrev Zk:=(Y62×Pc×Unit)→Option Y56
def Qj(L:Ae)(a:Y62)(b:Pc):Option Y56:=(Ah (decide (a.2.2.1>b.2.2.2.2.1)) (some ((0,()),(),(),())) (some (((IntKind.wrap .u64 (b.2.2.2.2.1-a.2.2.1)),()),(),(),())))
def Jt:Zk:=fun x=>Qj Ac x.1 x.2.1
abbrev Afg:Ce:=⟨[V9,J1,J1,V12],[V9,Bv]⟩
abbrev Av1:=(Y62×Int×Int×Pc×Unit)→Option Y70
def Ami(L:Ae)(f:Aqy)(a:Y62)(b:Int)(g:Int)(h:Pc):Option Y70:=(A2 (IntKind.wrap .u64 (a.1+1)) fun d=>A2 (IntKind.wrap .u64 (a.2.1+b)) fun e=>Ah (decide (b<1)) (some (((0,0,0,[0,0,0,0],()),2,()),(),(),(),(),())) (Ah (decide (b>1048576)) (some (((0,0,0,[0,0,0,0],()),2,()),(),(),(),(),())) ((f (g,h,())).bind fun c=>Ah (!(decide (c.1.2.1=0))) (some (((0,0,0,[0,0,0,0],()),c.1.2.1,()),(),(),(),(),())) (Ah (decide (d=0)) (some (((0,0,0,[0,0,0,0],()),4,()),(),(),(),(),())) (Ah (decide (e<a.2.1)) (some (((0,0,0,[0,0,0,0],()),4,()),(),(),(),(),())) (some (((d,e,0,c.1.1,()),0,()),(),(),(),(),())))))))
def Zm:Av1:=fun x=>Ami Ac Nd x.1 x.2.1 x.2.2.1 x.2.2.2.1
set_option maxRecDepth 100000
abbrev Mq:Ce:=⟨[(.ro true W46)],[V25]⟩
abbrev Rj:=(Y98×Unit)→Option Xs
def Rf(L:Ae)(b:As)(c:Cc)(d:Ho)(e:C0)(a:Y98):Option Xs:=((b (a.2.1,())).bind fun f=>(b (a.2.2.2.2.1,())).bind fun g=>(c (f.1.1,g.1.1,())).bind fun h=>(b (a.2.2.1,())).bind fun i=>(b (a.2.2.2.1,())).bind fun j=>(c (i.1.1,j.1.1,())).bind fun k=>Ah (!(decide (a.1=0))) ((d (h.1.1,k.1.1,())).bind fun l=>Ah (decide (l.1.1=0)) ((e (a.2.1,())).bind fun m=>some (((eqD (Ty.bool) (decide (a.2.2.2.2.2.1=(0:Int))) m.1.1),()),(),())) (some ((false,()),(),()))) (some ((false,()),(),())))
def Km:Rj:=fun x=>Rf Ac Ai A7 Ca Bd x.1
abbrev Eu:Ce:=⟨[V46],[V25]⟩
abbrev Na:=Y99→Option Xs
def Alr(f:Rj)(d:Ccb→Option Xs)(b:(List Y98))(a:Int):Option Xs:=(A2 (IntKind.wrap .i64 (a-1)) fun e=>A2 (List.length b) fun c=>Ah (decide (a<((c:Nat):Int))) (Ah (B0 a c) ((f ((List.getD b (Int.toNat a) (0,[0,0,0,0],[0,0,0,0],[0,0,0,0],[0,0,0,0],0,())),())).bind fun g=>Ah (!g.1.1) (some ((false,()),(),())) (Ah (decide (a>0)) (Ah (B0 a c) (Ah (B0 e c) (Ah (decide ((List.getD b (Int.toNat a) (Ty.zero D9)).1≤(List.getD b (Int.toNat e) (Ty.zero D9)).1)) (some ((false,()),(),())) (d (b,(IntKind.wrap .i64 (a+1)),()))) none) none) (d (b,(IntKind.wrap .i64 (a+1)),())))) none) (some ((true,()),(),())))
def Aig(L:Ae)(b:Rj)(a:(List Y98)):Option Xs:=(Ah (decide ((List.length a:Int)>64)) (some ((false,()),(),())) (L _ _ (fun z x=>Alr b z x.1 x.2.1) (a,0,())))
def Dl:Na:=fun x=>Aig Ac Km x.1
abbrev Jr:Ce:=⟨[V46,J1],[Bv]⟩
abbrev Aal:=Ccb→Option Y56
def Aot(e:((List Y98)×Int×Int×Unit)→Option Y56)(b:(List Y98))(c:Int)(a:Int):Option Y56:=(A2 (List.length b) fun d=>Ah (decide (a<((d:Nat):Int))) (Ah (B0 a d) (Ah (decide ((List.getD b (Int.toNat a) (Ty.zero D9)).1=c)) (some ((a,()),(),(),())) (e (b,c,(IntKind.wrap .i64 (a+1)),()))) none) (some (((-1:Int),()),(),(),())))
def Am0(L:Ae)(a:(List Y98))(b:Int):Option Y56:=(L _ _ (fun z x=>Aot z x.1 x.2.1 x.2.2.1) (a,b,0,()))
def G4:Aal:=fun x=>Am0 Ac x.1 x.2.1
abbrev Za:Ce:=⟨[V46,J1,(.ro true W4),(.ro true W4),J1],[V16,Bv]⟩
abbrev Ang:=Cqb→Option Cl1
def Ta(L:Ae)(a0:Na)(a1:Aal)(g:As)(n:Cc)(q:Pp)(a2:C0)(f:B2)(h:(List Y98))(a3:Int)(s:(List Int))(t:(List Int))(r:Int):Option Cl1:=(A2 (List.length h) fun u=>A2 (List.append (List.replicate 0 (Ty.zero D9)) h) fun b=>(a0 (h,())).bind fun a4=>Ah (!a4.1.1) (some (([],2,()),(),(),(),(),(),())) (Ah (decide (r=0)) (some (([],2,()),(),(),(),(),(),())) ((a1 (h,a3,())).bind fun a=>A2 (List.set b (Int.toNat a.1.1) ((List.getD b (Int.toNat a.1.1) (Ty.zero D9)).1,(List.getD b (Int.toNat a.1.1) (Ty.zero D9)).2.1,(List.getD b (Int.toNat a.1.1) (Ty.zero D9)).2.2.1,(List.getD b (Int.toNat a.1.1) (Ty.zero D9)).2.2.2.1,(List.getD b (Int.toNat a.1.1) (Ty.zero D9)).2.2.2.2.1,r,(List.getD b (Int.toNat a.1.1) (Ty.zero D9)).2.2.2.2.2.2)) fun i=>Ah (decide (a.1.1<0)) (some (([],8,()),(),(),(),(),(),())) (Ah (A9 (0+u) D9) (Ah (B0 a.1.1 u) ((g ((List.getD b (Int.toNat a.1.1) (Ty.zero D9)).2.1,())).bind fun a5=>(g (s,())).bind fun a6=>(g (t,())).bind fun a7=>(n (a6.1.1,a7.1.1,())).bind fun a8=>(n (a5.1.1,a8.1.1,())).bind fun j=>(g ((List.getD b (Int.toNat a.1.1) (Ty.zero D9)).2.2.1,())).bind fun a9=>(g (s,())).bind fun b0=>(n (a9.1.1,b0.1.1,())).bind fun o=>(g ((List.getD b (Int.toNat a.1.1) (Ty.zero D9)).2.2.2.1,())).bind fun b1=>(g (t,())).bind fun b2=>(n (b1.1.1,b2.1.1,())).bind fun p=>(q (j.1.1,())).bind fun b3=>Ah (!b3.1.1) (some (([],4,()),(),(),(),(),(),())) ((q (o.1.1,())).bind fun b4=>Ah (!b4.1.1) (some (([],4,()),(),(),(),(),(),())) ((q (p.1.1,())).bind fun b5=>Ah (!b5.1.1) (some (([],4,()),(),(),(),(),(),())) ((a2 ((List.getD b (Int.toNat a.1.1) (Ty.zero D9)).2.1,())).bind fun b6=>Ah b6.1.1 (Ah (decide ((List.length j.1.1:Int)>0)) ((f (j.1.1,())).bind fun v=>A2 (List.set i (Int.toNat a.1.1) ((List.getD i (Int.toNat a.1.1) (Ty.zero D9)).1,v.1.1,(List.getD i (Int.toNat a.1.1) (Ty.zero D9)).2.2)) fun c=>(f (o.1.1,())).bind fun k=>(f (p.1.1,())).bind fun b7=>some (((List.set (List.set (List.set (List.set h (Int.toNat a.1.1) ((List.getD b (Int.toNat a.1.1) (Ty.zero D9)).1,(List.getD b (Int.toNat a.1.1) (Ty.zero D9)).2.1,(List.getD b (Int.toNat a.1.1) (Ty.zero D9)).2.2.1,(List.getD b (Int.toNat a.1.1) (Ty.zero D9)).2.2.2.1,(List.getD b (Int.toNat a.1.1) (Ty.zero D9)).2.2.2.2.1,r,(List.getD b (Int.toNat a.1.1) (Ty.zero D9)).2.2.2.2.2.2)) (Int.toNat a.1.1) ((List.getD i (Int.toNat a.1.1) (Ty.zero D9)).1,v.1.1,(List.getD i (Int.toNat a.1.1) (Ty.zero D9)).2.2)) (Int.toNat a.1.1) ((List.getD c (Int.toNat a.1.1) (Ty.zero D9)).1,(List.getD c (Int.toNat a.1.1) (Ty.zero D9)).2.1,k.1.1,(List.getD c (Int.toNat a.1.1) (Ty.zero D9)).2.2.2)) (Int.toNat a.1.1) ((List.getD (List.set c (Int.toNat a.1.1) ((List.getD c (Int.toNat a.1.1) (Ty.zero D9)).1,(List.getD c (Int.toNat a.1.1) (Ty.zero D9)).2.1,k.1.1,(List.getD c (Int.toNat a.1.1) (Ty.zero D9)).2.2.2)) (Int.toNat a.1.1) (Ty.zero D9)).1,(List.getD (List.set c (Int.toNat a.1.1) ((List.getD c (Int.toNat a.1.1) (Ty.zero D9)).1,(List.getD c (Int.toNat a.1.1) (Ty.zero D9)).2.1,k.1.1,(List.getD c (Int.toNat a.1.1) (Ty.zero D9)).2.2.2)) (Int.toNat a.1.1) (Ty.zero D9)).2.1,(List.getD (List.set c (Int.toNat a.1.1) ((List.getD c (Int.toNat a.1.1) (Ty.zero D9)).1,(List.getD c (Int.toNat a.1.1) (Ty.zero D9)).2.1,k.1.1,(List.getD c (Int.toNat a.1.1) (Ty.zero D9)).2.2.2)) (Int.toNat a.1.1) (Ty.zero D9)).2.2.1,b7.1.1,(List.getD (List.set c (Int.toNat a.1.1) ((List.getD c (Int.toNat a.1.1) (Ty.zero D9)).1,(List.getD c (Int.toNat a.1.1) (Ty.zero D9)).2.1,k.1.1,(List.getD c (Int.toNat a.1.1) (Ty.zero D9)).2.2.2)) (Int.toNat a.1.1) (Ty.zero D9)).2.2.2.2)),0,()),(),(),(),(),(),())) ((f (j.1.1,())).bind fun w=>A2 (List.set b (Int.toNat a.1.1) ((List.getD b (Int.toNat a.1.1) (Ty.zero D9)).1,w.1.1,(List.getD b (Int.toNat a.1.1) (Ty.zero D9)).2.2)) fun d=>(f (o.1.1,())).bind fun l=>(f (p.1.1,())).bind fun b8=>some (((List.set (List.set (List.set h (Int.toNat a.1.1) ((List.getD b (Int.toNat a.1.1) (Ty.zero D9)).1,w.1.1,(List.getD b (Int.toNat a.1.1) (Ty.zero D9)).2.2)) (Int.toNat a.1.1) ((List.getD d (Int.toNat a.1.1) (Ty.zero D9)).1,(List.getD d (Int.toNat a.1.1) (Ty.zero D9)).2.1,l.1.1,(List.getD d (Int.toNat a.1.1) (Ty.zero D9)).2.2.2)) (Int.toNat a.1.1) ((List.getD (List.set d (Int.toNat a.1.1) ((List.getD d (Int.toNat a.1.1) (Ty.zero D9)).1,(List.getD d (Int.toNat a.1.1) (Ty.zero D9)).2.1,l.1.1,(List.getD d (Int.toNat a.1.1) (Ty.zero D9)).2.2.2)) (Int.toNat a.1.1) (Ty.zero D9)).1,(List.getD (List.set d (Int.toNat a.1.1) ((List.getD d (Int.toNat a.1.1) (Ty.zero D9)).1,(List.getD d (Int.toNat a.1.1) (Ty.zero D9)).2.1,l.1.1,(List.getD d (Int.toNat a.1.1) (Ty.zero D9)).2.2.2)) (Int.toNat a.1.1) (Ty.zero D9)).2.1,(List.getD (List.set d (Int.toNat a.1.1) ((List.getD d (Int.toNat a.1.1) (Ty.zero D9)).1,(List.getD d (Int.toNat a.1.1) (Ty.zero D9)).2.1,l.1.1,(List.getD d (Int.toNat a.1.1) (Ty.zero D9)).2.2.2)) (Int.toNat a.1.1) (Ty.zero D9)).2.2.1,b8.1.1,(List.getD (List.set d (Int.toNat a.1.1) ((List.getD d (Int.toNat a.1.1) (Ty.zero D9)).1,(List.getD d (Int.toNat a.1.1) (Ty.zero D9)).2.1,l.1.1,(List.getD d (Int.toNat a.1.1) (Ty.zero D9)).2.2.2)) (Int.toNat a.1.1) (Ty.zero D9)).2.2.2.2)),0,()),(),(),(),(),(),()))) ((f (j.1.1,())).bind fun y=>A2 (List.set b (Int.toNat a.1.1) ((List.getD b (Int.toNat a.1.1) (Ty.zero D9)).1,y.1.1,(List.getD b (Int.toNat a.1.1) (Ty.zero D9)).2.2)) fun e=>(f (o.1.1,())).bind fun m=>(f (p.1.1,())).bind fun b9=>some (((List.set (List.set (List.set h (Int.toNat a.1.1) ((List.getD b (Int.toNat a.1.1) (Ty.zero D9)).1,y.1.1,(List.getD b (Int.toNat a.1.1) (Ty.zero D9)).2.2)) (Int.toNat a.1.1) ((List.getD e (Int.toNat a.1.1) (Ty.zero D9)).1,(List.getD e (Int.toNat a.1.1) (Ty.zero D9)).2.1,m.1.1,(List.getD e (Int.toNat a.1.1) (Ty.zero D9)).2.2.2)) (Int.toNat a.1.1) ((List.getD (List.set e (Int.toNat a.1.1) ((List.getD e (Int.toNat a.1.1) (Ty.zero D9)).1,(List.getD e (Int.toNat a.1.1) (Ty.zero D9)).2.1,m.1.1,(List.getD e (Int.toNat a.1.1) (Ty.zero D9)).2.2.2)) (Int.toNat a.1.1) (Ty.zero D9)).1,(List.getD (List.set e (Int.toNat a.1.1) ((List.getD e (Int.toNat a.1.1) (Ty.zero D9)).1,(List.getD e (Int.toNat a.1.1) (Ty.zero D9)).2.1,m.1.1,(List.getD e (Int.toNat a.1.1) (Ty.zero D9)).2.2.2)) (Int.toNat a.1.1) (Ty.zero D9)).2.1,(List.getD (List.set e (Int.toNat a.1.1) ((List.getD e (Int.toNat a.1.1) (Ty.zero D9)).1,(List.getD e (Int.toNat a.1.1) (Ty.zero D9)).2.1,m.1.1,(List.getD e (Int.toNat a.1.1) (Ty.zero D9)).2.2.2)) (Int.toNat a.1.1) (Ty.zero D9)).2.2.1,b9.1.1,(List.getD (List.set e (Int.toNat a.1.1) ((List.getD e (Int.toNat a.1.1) (Ty.zero D9)).1,(List.getD e (Int.toNat a.1.1) (Ty.zero D9)).2.1,m.1.1,(List.getD e (Int.toNat a.1.1) (Ty.zero D9)).2.2.2)) (Int.toNat a.1.1) (Ty.zero D9)).2.2.2.2)),0,()),(),(),(),(),(),())))))) none) none))))
def E8:Ang:=fun x=>Ta Ac Dl G4 Ai A7 Dx Bd Ay x.1 x.2.1 x.2.2.1 x.2.2.2.1 x.2.2.2.2.1
abbrev Yu:Ce:=⟨[V46,J1,(.ro true W4)],[V16,Bv]⟩
abbrev Aen:=Crb→Option Clz
def Li(L:Ae)(j:Na)(k:Aal)(l:Qv)(m:Abw)(n:C0)(e:(List Y98))(o:Int)(g:(List Int)):Option Clz:=(A2 (List.length e) fun h=>A2 (List.append (List.replicate 0 (Ty.zero D9)) e) fun d=>(j (e,())).bind fun p=>Ah (!p.1.1) (some (([],2,()),(),(),(),())) ((k (e,o,())).bind fun a=>Ah (decide (a.1.1<0)) (some (([],8,()),(),(),(),())) (Ah (A9 (0+h) D9) (Ah (B0 a.1.1 h) ((l ((List.getD d (Int.toNat a.1.1) (Ty.zero D9)).2.1,g,())).bind fun f=>A2 (List.set e (Int.toNat a.1.1) ((List.getD d (Int.toNat a.1.1) (Ty.zero D9)).1,f.1.1,(List.getD d (Int.toNat a.1.1) (Ty.zero D9)).2.2)) fun q=>A2 (List.set d (Int.toNat a.1.1) ((List.getD d (Int.toNat a.1.1) (Ty.zero D9)).1,f.1.1,(List.getD d (Int.toNat a.1.1) (Ty.zero D9)).2.2)) fun b=>Ah (!(decide (f.1.2.1=0))) (some (([],10,()),(),(),(),())) ((m ((List.getD d (Int.toNat a.1.1) (Ty.zero D9)).2.2.2.2.1,g,())).bind fun c=>A2 (List.set q (Int.toNat a.1.1) ((List.getD b (Int.toNat a.1.1) (Ty.zero D9)).1,(List.getD b (Int.toNat a.1.1) (Ty.zero D9)).2.1,(List.getD b (Int.toNat a.1.1) (Ty.zero D9)).2.2.1,(List.getD b (Int.toNat a.1.1) (Ty.zero D9)).2.2.2.1,c.1.1,(List.getD b (Int.toNat a.1.1) (Ty.zero D9)).2.2.2.2.2)) fun i=>Ah (!(decide (c.1.2.1=0))) (some (([],c.1.2.1,()),(),(),(),())) ((n (f.1.1,())).bind fun r=>Ah r.1.1 (some (((List.set i (Int.toNat a.1.1) ((List.getD (List.set b (Int.toNat a.1.1) ((List.getD b (Int.toNat a.1.1) (Ty.zero D9)).1,(List.getD b (Int.toNat a.1.1) (Ty.zero D9)).2.1,(List.getD b (Int.toNat a.1.1) (Ty.zero D9)).2.2.1,(List.getD b (Int.toNat a.1.1) (Ty.zero D9)).2.2.2.1,c.1.1,(List.getD b (Int.toNat a.1.1) (Ty.zero D9)).2.2.2.2.2)) (Int.toNat a.1.1) (Ty.zero D9)).1,(List.getD (List.set b (Int.toNat a.1.1) ((List.getD b (Int.toNat a.1.1) (Ty.zero D9)).1,(List.getD b (Int.toNat a.1.1) (Ty.zero D9)).2.1,(List.getD b (Int.toNat a.1.1) (Ty.zero D9)).2.2.1,(List.getD b (Int.toNat a.1.1) (Ty.zero D9)).2.2.2.1,c.1.1,(List.getD b (Int.toNat a.1.1) (Ty.zero D9)).2.2.2.2.2)) (Int.toNat a.1.1) (Ty.zero D9)).2.1,(List.getD (List.set b (Int.toNat a.1.1) ((List.getD b (Int.toNat a.1.1) (Ty.zero D9)).1,(List.getD b (Int.toNat a.1.1) (Ty.zero D9)).2.1,(List.getD b (Int.toNat a.1.1) (Ty.zero D9)).2.2.1,(List.getD b (Int.toNat a.1.1) (Ty.zero D9)).2.2.2.1,c.1.1,(List.getD b (Int.toNat a.1.1) (Ty.zero D9)).2.2.2.2.2)) (Int.toNat a.1.1) (Ty.zero D9)).2.2.1,(List.getD (List.set b (Int.toNat a.1.1) ((List.getD b (Int.toNat a.1.1) (Ty.zero D9)).1,(List.getD b (Int.toNat a.1.1) (Ty.zero D9)).2.1,(List.getD b (Int.toNat a.1.1) (Ty.zero D9)).2.2.1,(List.getD b (Int.toNat a.1.1) (Ty.zero D9)).2.2.2.1,c.1.1,(List.getD b (Int.toNat a.1.1) (Ty.zero D9)).2.2.2.2.2)) (Int.toNat a.1.1) (Ty.zero D9)).2.2.2.1,(List.getD (List.set b (Int.toNat a.1.1) ((List.getD b (Int.toNat a.1.1) (Ty.zero D9)).1,(List.getD b (Int.toNat a.1.1) (Ty.zero D9)).2.1,(List.getD b (Int.toNat a.1.1) (Ty.zero D9)).2.2.1,(List.getD b (Int.toNat a.1.1) (Ty.zero D9)).2.2.2.1,c.1.1,(List.getD b (Int.toNat a.1.1) (Ty.zero D9)).2.2.2.2.2)) (Int.toNat a.1.1) (Ty.zero D9)).2.2.2.2.1,0,(List.getD (List.set b (Int.toNat a.1.1) ((List.getD b (Int.toNat a.1.1) (Ty.zero D9)).1,(List.getD b (Int.toNat a.1.1) (Ty.zero D9)).2.1,(List.getD b (Int.toNat a.1.1) (Ty.zero D9)).2.2.1,(List.getD b (Int.toNat a.1.1) (Ty.zero D9)).2.2.2.1,c.1.1,(List.getD b (Int.toNat a.1.1) (Ty.zero D9)).2.2.2.2.2)) (Int.toNat a.1.1) (Ty.zero D9)).2.2.2.2.2.2)),0,()),(),(),(),())) (some ((i,0,()),(),(),(),()))))) none) none)))
def F9:Aen:=fun x=>Li Ac Dl G4 Ee Ii Bd x.1 x.2.1 x.2.2.1
abbrev Sk:Ce:=⟨[V46],[(.ro true W4),Bv]⟩
abbrev Aid:=Y99→Option Y21
def Aee(f:As)(g:Cc)(h:F0)(i:((List Y98)×(List Int)×(List Int)×Int×Unit)→Option Y21)(b:(List Y98))(j:(List Int))(c:(List Int))(a:Int):Option Y21:=(A2 (List.length b) fun d=>Ah (decide (a<((d:Nat):Int))) (Ah (B0 a d) ((f ((List.getD b (Int.toNat a) (Ty.zero D9)).2.1,())).bind fun k=>(g (c,k.1.1,())).bind fun l=>i (b,j,l.1.1,(IntKind.wrap .i64 (a+1)),())) none) ((h (c,())).bind fun e=>some ((e.1.1,e.1.2.1,()),(),())))
def Aaj(L:Ae)(b:Na)(c:As)(d:Cc)(e:F0)(a:(List Y98)):Option Y21:=((b (a,())).bind fun f=>Ah (!f.1.1) (some (([0,0,0,0],2,()),(),())) (L _ _ (fun z x=>Aee c d e z x.1 x.2.1 x.2.2.1 x.2.2.2.1) (a,[0,0,0,0],[],0,())))
def N7:Aid:=fun x=>Aaj Ac Dl Ai A7 B3 x.1
abbrev Aj0:Ce:=⟨[V46,J1],[V16,Bv]⟩
abbrev Ayd:=Ccb→Option Bzh
def Aqv(g:((List Y98)×Int×(List Y98)×Bool×Int×Unit)→Option Bzh)(c:(List Y98))(d:Int)(b:(List Y98))(f:Bool)(a:Int):Option Bzh:=(A2 (List.length c) fun e=>A2 (List.append b [(d,[0,0,0,0],[0,0,0,0],[0,0,0,0],[0,0,0,0],0,())]) fun h=>A2 [(List.getD c (Int.toNat a) (0,[0,0,0,0],[0,0,0,0],[0,0,0,0],[0,0,0,0],0,()))] fun i=>Ah (decide (a<((e:Nat):Int))) (Ah (!f) (Ah (B0 a e) (Ah (decide ((List.getD c (Int.toNat a) (Ty.zero D9)).1>d)) (Ah (A9 ((List.length b)+1) D9) (Ah (B0 a e) (Ah (A9 ((List.length h)+1) D9) (g (c,d,(List.append h i),true,(IntKind.wrap .i64 (a+1)),())) none) none) none) (Ah (B0 a e) (Ah (A9 ((List.length b)+1) D9) (g (c,d,(List.append b i),f,(IntKind.wrap .i64 (a+1)),())) none) none)) none) (Ah (B0 a e) (Ah (A9 ((List.length b)+1) D9) (g (c,d,(List.append b i),f,(IntKind.wrap .i64 (a+1)),())) none) none)) (Ah (!f) (Ah (A9 ((List.length b)+1) D9) (some ((h,0,()),(),(),())) none) (some ((b,0,()),(),(),()))))
def Ard(L:Ae)(c:Na)(d:Aal)(a:(List Y98))(b:Int):Option Bzh:=((c (a,())).bind fun e=>Ah (!e.1.1) (some (([],2,()),(),(),())) (Ah (decide (b=0)) (some (([],2,()),(),(),())) ((d (a,b,())).bind fun f=>Ah (decide (f.1.1≥0)) (some (([],9,()),(),(),())) (Ah (decide ((List.length a:Int)≥64)) (some (([],7,()),(),(),())) (L _ _ (fun z x=>Aqv z x.1 x.2.1 x.2.2.1 x.2.2.2.1 x.2.2.2.2.1) (a,b,[],false,0,()))))))
def Acf:Ayd:=fun x=>Ard Ac Dl G4 x.1 x.2.1
set_option maxRecDepth 100000
abbrev Yo:Ce:=⟨[V46],[V16]⟩
abbrev An1:=Y99→Option Bwd
def X7(k:Crj→Option Bwd)(l:Cqk→Option Bwd)(b:(List Y98))(e:(List Y98))(c:Int)(a:Int):Option Bwd:=(A2 (IntKind.wrap .i64 (a-1)) fun f=>A2 (List.length e) fun d=>A2 (List.take ((Int.toNat a)-0) (List.drop 0 e)) fun g=>A2 (List.take (d-(Int.toNat a)) (List.drop (Int.toNat a) e)) fun i=>A2 (List.append [(List.getD b (Int.toNat c) (0,[0,0,0,0],[0,0,0,0],[0,0,0,0],[0,0,0,0],0,()))] i) fun j=>A2 (List.length j) fun h=>Ah (decide (a>0)) (Ah (B0 f d) (Ah (B0 c (List.length b)) (Ah (decide ((List.getD e (Int.toNat f) (0,[0,0,0,0],[0,0,0,0],[0,0,0,0],[0,0,0,0],0,())).2.2.2.2.2.1>(List.getD b (Int.toNat c) (0,[0,0,0,0],[0,0,0,0],[0,0,0,0],[0,0,0,0],0,())).2.2.2.2.2.1)) (l (b,e,c,f,())) (Ah (B0 f d) (Ah (B0 c (List.length b)) (Ah (decide ((List.getD e (Int.toNat f) (0,[0,0,0,0],[0,0,0,0],[0,0,0,0],[0,0,0,0],0,())).2.2.2.2.2.1=(List.getD b (Int.toNat c) (0,[0,0,0,0],[0,0,0,0],[0,0,0,0],[0,0,0,0],0,())).2.2.2.2.2.1)) (Ah (B0 f d) (Ah (B0 c (List.length b)) (Ah (decide ((List.getD e (Int.toNat f) (0,[0,0,0,0],[0,0,0,0],[0,0,0,0],[0,0,0,0],0,())).1>(List.getD b (Int.toNat c) (0,[0,0,0,0],[0,0,0,0],[0,0,0,0],[0,0,0,0],0,())).1)) (l (b,e,c,f,())) (Ah (decide (a=a)) (Ah ((decide (0≤a))&&(decide (a≤((d:Nat):Int)))) (Ah (B0 c (List.length b)) (Ah ((decide (0≤a))&&(decide (a≤((d:Nat):Int)))) (Ah (A9 (1+(List.length i)) D9) (Ah ((decide (0<h))&&(A9 ((List.length g)+h) D9)) (k (b,(List.append g j),(IntKind.wrap .i64 (c+1)),())) none) none) none) none) none) none)) none) none) (Ah (decide (a=a)) (Ah ((decide (0≤a))&&(decide (a≤((d:Nat):Int)))) (Ah (B0 c (List.length b)) (Ah ((decide (0≤a))&&(decide (a≤((d:Nat):Int)))) (Ah (A9 (1+(List.length i)) D9) (Ah ((decide (0<h))&&(A9 ((List.length g)+h) D9)) (k (b,(List.append g j),(IntKind.wrap .i64 (c+1)),())) none) none) none) none) none) none)) none) none)) none) none) (Ah (decide (a=a)) (Ah ((decide (0≤a))&&(decide (a≤((d:Nat):Int)))) (Ah (B0 c (List.length b)) (Ah ((decide (0≤a))&&(decide (a≤((d:Nat):Int)))) (Ah (A9 (1+(List.length i)) D9) (Ah ((decide (0<h))&&(A9 ((List.length g)+h) D9)) (k (b,(List.append g j),(IntKind.wrap .i64 (c+1)),())) none) none) none) none) none) none))
def Akp(L:Ae)(d:Crj→Option Bwd)(b:(List Y98))(c:(List Y98))(a:Int):Option Bwd:=(A2 (List.length b) fun e=>Ah (decide (a<((e:Nat):Int))) (Ah (B0 a e) (Ah (eqD (Ty.arr 4 (Ty.int IntKind.u64)) (List.getD b (Int.toNat a) ((0:Int),[(0:Int),(0:Int),(0:Int),(0:Int)],[(0:Int),(0:Int),(0:Int),(0:Int)],[(0:Int),(0:Int),(0:Int),(0:Int)],[(0:Int),(0:Int),(0:Int),(0:Int)],(0:Int),())).2.1 [(0:Int),(0:Int),(0:Int),(0:Int)]) (d (b,c,(IntKind.wrap .i64 (a+1)),())) (L _ _ (fun z x=>X7 d z x.1 x.2.1 x.2.2.1 x.2.2.2.1) (b,c,a,(List.length c:Int),()))) none) (some ((c,()),(),())))
def Aes(L:Ae)(a:(List Y98)):Option Bwd:=(L _ _ (fun z x=>Akp L z x.1 x.2.1 x.2.2.1) (a,[],0,()))
def Rp:An1:=fun x=>Aes Ac x.1
set_option maxRecDepth 100000
abbrev Af4:Ce:=⟨[V46,(.ro true W4)],[V14,Bv]⟩
abbrev Aux:=((List Y98)×(List Int)×Unit)→Option Y32
def Aog(g:As)(h:Zu)(i:B2)(j:Ky)(k:((List Y9)×(List Y98)×(List Int)×Int×Unit)→Option Y32)(b:(List Y9))(c:(List Y98))(d:(List Int))(a:Int):Option Y32:=(A2 (List.length c) fun e=>Ah (decide (a<((e:Nat):Int))) (Ah (decide ((List.length d:Int)>0)) (Ah (B0 a e) ((g ((List.getD c (Int.toNat a) (0,[0,0,0,0],[0,0,0,0],[0,0,0,0],[0,0,0,0],0,())).2.1,())).bind fun l=>(h (d,l.1.1,())).bind fun f=>Ah (B0 a e) ((i (f.1.1,())).bind fun m=>Ah (A9 ((List.length b)+1) R8) ((j (d,f.1.1,())).bind fun n=>k ((List.append b [((List.getD c (Int.toNat a) (0,[0,0,0,0],[0,0,0,0],[0,0,0,0],[0,0,0,0],0,())).1,m.1.1,())]),c,n.1.1,(IntKind.wrap .i64 (a+1)),())) none) none) none) (some ((b,0,()),(),(),()))) (some ((b,0,()),(),(),())))
def Am3(L:Ae)(c:Na)(d:An1)(a:As)(e:Zu)(f:B2)(g:Ky)(b:(List Y98))(h:(List Int)):Option Y32:=((c (b,())).bind fun i=>Ah (!i.1.1) (some (([],2,()),(),(),())) ((d (b,())).bind fun j=>(a (h,())).bind fun k=>L _ _ (fun z x=>Aog a e f g z x.1 x.2.1 x.2.2.1 x.2.2.2.1) ([],j.1.1,k.1.1,0,())))
def X4:Aux:=fun x=>Am3 Ac Dl Rp Ai G8 Ay Dr x.1 x.2.1
abbrev Abg:Ce:=⟨[V46,V43],[V16,Bv]⟩
abbrev Asq:=((List Y98)×(List Y9)×Unit)→Option Bzh
def Alx(f:Aen)(g:((List Y9)×(List Y98)×Int×Unit)→Option Bzh)(b:(List Y9))(e:(List Y98))(a:Int):Option Bzh:=(A2 (List.length b) fun c=>Ah (decide (a<((c:Nat):Int))) (Ah (B0 a c) (Ah (B0 a c) ((f (e,(List.getD b (Int.toNat a) (0,[0,0,0,0],())).1,(List.getD b (Int.toNat a) (0,[0,0,0,0],())).2.1,())).bind fun d=>Ah (!(decide (d.1.2.1=0))) (some (([],d.1.2.1,()),(),(),())) (g (b,d.1.1,(IntKind.wrap .i64 (a+1)),()))) none) none) (some ((e,0,()),(),(),())))
def Ail(L:Ae)(b:Aen)(a:(List Y98))(c:(List Y9)):Option Bzh:=(Ah (A9 (0+(List.length a)) D9) (L _ _ (fun z x=>Alx b z x.1 x.2.1 x.2.2.1) (c,a,0,())) none)
def Uw:Asq:=fun x=>Ail Ac F9 x.1 x.2.1
abbrev Y0:Ce:=⟨[V43],[(.ro true W4),Bv]⟩
abbrev Aqu:=Y19→Option Y21
def Arf(f:As)(g:Cc)(h:F0)(i:((List Y9)×(List Int)×(List Int)×Int×Unit)→Option Y21)(b:(List Y9))(j:(List Int))(c:(List Int))(a:Int):Option Y21:=(A2 (List.length b) fun d=>Ah (decide (a<((d:Nat):Int))) (Ah (B0 a d) ((f ((List.getD b (Int.toNat a) (0,[0,0,0,0],())).2.1,())).bind fun k=>(g (c,k.1.1,())).bind fun l=>i (b,j,l.1.1,(IntKind.wrap .i64 (a+1)),())) none) ((h (c,())).bind fun e=>some ((e.1.1,e.1.2.1,()),(),())))
def Aqi(L:Ae)(a:As)(b:Cc)(c:F0)(d:(List Y9)):Option Y21:=(L _ _ (fun z x=>Arf a b c z x.1 x.2.1 x.2.2.1 x.2.2.2.1) (d,[0,0,0,0],[],0,()))
def Q1:Aqu:=fun x=>Aqi Ac Ai A7 B3 x.1
set_option maxRecDepth 100000
abbrev S5:Ce:=⟨[J1,J1,J1,J1],[J1,Bv]⟩
abbrev Ahj:=(Int×Int×Int×Int×Unit)→Option Y65
def Aac(L:Ae)(b:Cj)(f:Js)(g:N4)(h:B2)(e:Int)(a:Int)(c:Int)(d:Int):Option Y65:=(Ah (decide (a>c)) (some ((0,14,()),(),(),(),(),())) (Ah (decide (c>d)) (some ((0,14,()),(),(),(),(),())) (Ah (decide (d=a)) (some ((e,0,()),(),(),(),(),())) ((b (e,())).bind fun i=>(b ((IntKind.wrap .u64 (c-a)),())).bind fun j=>(f (i.1.1,j.1.1,())).bind fun k=>(b ((IntKind.wrap .u64 (d-a)),())).bind fun l=>(g (k.1.1,l.1.1,())).bind fun m=>(h (m.1.1,())).bind fun n=>some (((List.getD n.1.1 0 0),0,()),(),(),(),(),())))))
def Nz:Ahj:=fun x=>Aac Ac A1 Ci Ds Ay x.1 x.2.1 x.2.2.1 x.2.2.2.1
set_option maxRecDepth 100000
abbrev Jm:Ce:=⟨[V7],[V25]⟩
abbrev Aab:=(Y13×Unit)→Option Xs
def Amr(L:Ae)(b:C0)(a:Y13):Option Xs:=(Ah a.1 ((b (a.2.1,())).bind fun c=>some (((!c.1.1),()),(),())) (some ((true,()),(),())))
def Ek:Aab:=fun x=>Amr Ac Bd x.1
abbrev Fl:Ce:=⟨[V25,V4],[V17]⟩
abbrev Pn:=Y13→Option Y57
def Aqz(L:Ae)(b:Bool)(a:(List Int)):Option Y57:=(Ah b (some ((((decide ((List.length a:Int)>0)),a,()),()),(),(),())) (some (((false,a,()),()),(),(),())))
def Dz:Pn:=fun x=>Aqz Ac x.1 x.2.1
abbrev T6:Ce:=⟨[V17,V17],[V17]⟩
abbrev Anl:=(Y13×Y13×Unit)→Option Y57
def Awe(L:Ae)(e:Cc)(c:Pn)(f:Ho)(d:Ky)(a:Y13)(b:Y13):Option Y57:=(Ah (eqD (Ty.bool) a.1 b.1) ((e (a.2.1,b.2.1,())).bind fun g=>(c (a.1,g.1.1,())).bind fun h=>some ((h.1.1,()),(),(),())) ((f (a.2.1,b.2.1,())).bind fun i=>Ah (decide (i.1.1≥0)) ((d (a.2.1,b.2.1,())).bind fun j=>(c (a.1,j.1.1,())).bind fun k=>some ((k.1.1,()),(),(),())) ((d (b.2.1,a.2.1,())).bind fun l=>(c (b.1,l.1.1,())).bind fun m=>some ((m.1.1,()),(),(),()))))
def Mv:Anl:=fun x=>Awe Ac A7 Dz Ca Dr x.1 x.2.1
abbrev Nv:Ce:=⟨[V17],[V7,Bv]⟩
abbrev Afz:=(Y13×Unit)→Option (Y20×Unit×Unit)
def Aft(L:Ae)(c:F0)(b:Y13):Option (Y20×Unit×Unit):=((c (b.2.1,())).bind fun a=>Ah (!(decide (a.1.2.1=0))) (some (((false,[0,0,0,0],()),a.1.2.1,()),(),())) (some (((b.1,a.1.1,()),0,()),(),())))
def K0:Afz:=fun x=>Aft Ac B3 x.1
abbrev Ajy:Ce:=⟨[(.ro true W4),(.ro true W4)],[V7]⟩
abbrev Ay9:=Y39→Option Y57
def Aqh(L:Ae)(a:As)(b:Pn)(c:Anl)(d:Afz)(e:(List Int))(f:(List Int)):Option Y57:=((a (e,())).bind fun g=>(b (false,g.1.1,())).bind fun h=>(a (f,())).bind fun i=>(b (true,i.1.1,())).bind fun j=>(c (h.1.1,j.1.1,())).bind fun k=>(d (k.1.1,())).bind fun l=>some ((l.1.1,()),(),(),()))
def Acd:Ay9:=fun x=>Aqh Ac Ai Dz Mv K0 x.1 x.2.1
abbrev Ji:Ce:=⟨[V7],[V17]⟩
abbrev Xf:=(Y13×Unit)→Option Y34
def Wz(L:Ae)(b:As)(c:Pn)(a:Y13):Option Y34:=((b (a.2.1,())).bind fun d=>(c (a.1,d.1.1,())).bind fun e=>some ((e.1.1,()),(),()))
def Hm:Xf:=fun x=>Wz Ac Ai Dz x.1
abbrev Abr:Ce:=⟨[V17],[V17]⟩
abbrev Ar7:=(Y13×Unit)→Option Y34
def Aip(L:Ae)(b:Pn)(a:Y13):Option Y34:=((b ((!a.1),a.2.1,())).bind fun c=>some ((c.1.1,()),(),()))
def Vk:Ar7:=fun x=>Aip Ac Dz x.1
abbrev Vp:Ce:=⟨[V17,V4],[V17]⟩
abbrev Ak5:=(Y13×(List Int)×Unit)→Option Y57
def Ac7(L:Ae)(d:N4)(e:Cj)(f:Cc)(c:Pn)(a:Y13)(g:(List Int)):Option Y57:=((d (a.2.1,g,())).bind fun b=>Ah a.1 (Ah (decide ((List.length b.1.2.1:Int)>0)) ((e (1,())).bind fun h=>(f (b.1.1,h.1.1,())).bind fun i=>(c (a.1,i.1.1,())).bind fun j=>some ((j.1.1,()),(),(),())) ((c (a.1,b.1.1,())).bind fun k=>some ((k.1.1,()),(),(),()))) ((c (a.1,b.1.1,())).bind fun l=>some ((l.1.1,()),(),(),())))
def Pq:Ak5:=fun x=>Ac7 Ac Ds A1 A7 Dz x.1 x.2.1
abbrev Aoi:Ce:=⟨[V17,V17],[V17]⟩
abbrev Bd1:=(Y13×Y13×Unit)→Option Y57
def Au5(L:Ae)(c:Js)(d:Pn)(a:Y13)(b:Y13):Option Y57:=((c (a.2.1,b.2.1,())).bind fun e=>(d ((!(eqD (Ty.bool) a.1 b.1)),e.1.1,())).bind fun f=>some ((f.1.1,()),(),(),()))
def Aeq:Bd1:=fun x=>Au5 Ac Ci Dz x.1 x.2.1
abbrev Qo:Ce:=⟨[(.ro true W4),V7],[(.ro true W4),Bv]⟩
abbrev Ae3:=Y29→Option Y31
def Xk(L:Ae)(d:Aab)(e:As)(f:Pn)(g:Xf)(h:Anl)(i:F0)(j:(List Int))(a:Y13):Option Y31:=((d (a,())).bind fun k=>Ah (!k.1.1) (some (([0,0,0,0],2,()),(),(),())) ((e (j,())).bind fun l=>(f (false,l.1.1,())).bind fun m=>(g (a,())).bind fun n=>(h (m.1.1,n.1.1,())).bind fun b=>Ah b.1.1.1 (some (([0,0,0,0],0,()),(),(),())) ((i (b.1.1.2.1,())).bind fun c=>some ((c.1.1,c.1.2.1,()),(),(),()))))
def Mo:Ae3:=fun x=>Xk Ac Ek Ai Dz Hm Mv B3 x.1 x.2.1
set_option maxRecDepth 100000
abbrev Ab4:Ce:=⟨[V7,V7,J1,V12],[V7,Bv]⟩
abbrev Arw:=(Y13×Y13×Int×Pc×Unit)→Option Y69
def Ain(L:Ae)(p:I9)(i:Aab)(d:Xf)(e:Ar7)(a:Cj)(f:Ak5)(j:Anl)(q:Bd1)(g:Pp)(r:N4)(s:Cc)(t:Afz)(h:Y13)(k:Y13)(b:Int)(c:Pc):Option Y69:=((p (c,())).bind fun u=>Ah (!u.1.1) (some (((false,[0,0,0,0],()),15,()),(),(),(),(),())) ((i (h,())).bind fun v=>Ah (!v.1.1) (some (((false,[0,0,0,0],()),2,()),(),(),(),(),())) ((i (k,())).bind fun w=>Ah (!w.1.1) (some (((false,[0,0,0,0],()),2,()),(),(),(),(),())) (Ah (decide (b=0)) (some (((false,[0,0,0,0],()),2,()),(),(),(),(),())) ((d (h,())).bind fun y=>(e (y.1.1,())).bind fun a0=>(a (c.2.2.2.2.2.2.2.2.1,())).bind fun a1=>(f (a0.1.1,a1.1.1,())).bind fun a2=>(d (h,())).bind fun a3=>(d (k,())).bind fun a4=>(e (a4.1.1,())).bind fun a5=>(j (a3.1.1,a5.1.1,())).bind fun l=>(a (b,())).bind fun a6=>(f (l.1.1,a6.1.1,())).bind fun a7=>(e (a7.1.1,())).bind fun a8=>(j (a2.1.1,a8.1.1,())).bind fun m=>(a (b,())).bind fun a9=>(q (m.1.1,(false,a9.1.1,()),())).bind fun n=>(g (l.1.1.2.1,())).bind fun b0=>Ah (!b0.1.1) (some (((false,[0,0,0,0],()),4,()),(),(),(),(),())) ((g (m.1.1.2.1,())).bind fun b1=>Ah (!b1.1.1) (some (((false,[0,0,0,0],()),4,()),(),(),(),(),())) ((g (n.1.1.2.1,())).bind fun b2=>Ah (!b2.1.1) (some (((false,[0,0,0,0],()),4,()),(),(),(),(),())) ((a (c.2.2.2.2.2.2.2.2.1,())).bind fun b3=>(a (c.2.2.2.2.2.2.2.2.2.1,())).bind fun b4=>(r (b3.1.1,b4.1.1,())).bind fun b5=>(a (b,())).bind fun b6=>(s (b5.1.1,b6.1.1,())).bind fun b7=>(f (n.1.1,b7.1.1,())).bind fun b8=>(t (b8.1.1,())).bind fun o=>some ((o.1.1,o.1.2.1,()),(),(),(),(),())))))))))
def Ve:Arw:=fun x=>Ain Ac Cr Ek Hm Vk A1 Pq Mv Aeq Dx Ds A7 K0 x.1 x.2.1 x.2.2.1 x.2.2.2.1
abbrev Afi:Ce:=⟨[(.ro true W4),V7,V7,J1,V12],[(.ro true W4),Bv]⟩
abbrev Ava:=((List Int)×Y13×Y13×Int×Pc×Unit)→Option Y80
def Amu(L:Ae)(i:I9)(b:Aab)(j:Arw)(k:Ae3)(c:(List Int))(d:Y13)(e:Y13)(f:Int)(g:Pc):Option Y80:=((i (g,())).bind fun l=>Ah (!l.1.1) (some (([0,0,0,0],15,()),(),(),(),(),(),())) ((b (d,())).bind fun m=>Ah (!m.1.1) (some (([0,0,0,0],2,()),(),(),(),(),(),())) ((b (e,())).bind fun n=>Ah (!n.1.1) (some (([0,0,0,0],2,()),(),(),(),(),(),())) (Ah (decide (f=0)) (some ((c,0,()),(),(),(),(),(),())) ((j (d,e,f,g,())).bind fun a=>Ah (!(decide (a.1.2.1=0))) (some (([0,0,0,0],a.1.2.1,()),(),(),(),(),(),())) ((k (c,a.1.1,())).bind fun h=>some ((h.1.1,h.1.2.1,()),(),(),(),(),(),())))))))
def Ya:Ava:=fun x=>Amu Ac Cr Ek Ve Mo x.1 x.2.1 x.2.2.1 x.2.2.2.1 x.2.2.2.2.1
set_option maxRecDepth 100000
abbrev U3:Ce:=⟨[],[V11]⟩
abbrev Ald:=Unit→Option ((Auk×Unit)×Unit)
def Ak3(L:Ae):Option ((Auk×Unit)×Unit):=(some ((([1000000000,0,0,0],0,0,0,(false,[0,0,0,0],()),[],()),()),()))
def Xb:Ald:=fun x=>Ak3 Ac
abbrev Ib:Ce:=⟨[V19],[V25]⟩
abbrev Vt:=(Auk×Unit)→Option Xs
def Alt(d:Cmo→Option Xs)(a:Auk)(b:Int):Option Xs:=(A2 (List.length a.2.2.2.2.2.1) fun c=>Ah (decide (b<((c:Nat):Int))) (Ah (B0 b c) (Ah (decide ((List.getD a.2.2.2.2.2.1 (Int.toNat b) (0,[0,0,0,0],[0,0,0,0],[0,0,0,0],[0,0,0,0],0,())).2.2.2.2.2.1>a.2.2.2.1)) (some ((false,()),(),())) (d (a,(IntKind.wrap .i64 (b+1)),()))) none) (some ((true,()),(),())))
def Aii(L:Ae)(b:Na)(c:Aab)(a:Auk):Option Xs:=((b (a.2.2.2.2.2.1,())).bind fun d=>Ah (!d.1.1) (some ((false,()),(),())) ((c (a.2.2.2.2.1,())).bind fun e=>Ah (!e.1.1) (some ((false,()),(),())) (L _ _ (fun z x=>Alt z x.1 x.2.1) (a,0,()))))
def E6:Vt:=fun x=>Aii Ac Dl Ek x.1
abbrev Rz:Ce:=⟨[V19,J1],[V11,Bv]⟩
abbrev Aht:=Cmo→Option Clw
def Aae(L:Ae)(d:Vt)(a:Auk)(b:Int):Option Clw:=(A2 (IntKind.wrap .u64 (a.2.1+b)) fun c=>(d (a,())).bind fun e=>Ah (!e.1.1) (some ((([0,0,0,0],0,0,0,(false,[0,0,0,0],()),[],()),2,()),(),(),())) (Ah (decide (c<b)) (some ((([0,0,0,0],0,0,0,(false,[0,0,0,0],()),[],()),4,()),(),(),())) (Ah (A9 (0+(List.length a.2.2.2.2.2.1)) D9) (some (((a.1,c,a.2.2),0,()),(),(),())) none)))
def Om:Aht:=fun x=>Aae Ac E6 x.1 x.2.1
abbrev Acc:Ce:=⟨[V19,V12,V8,J1],[Bv]⟩
abbrev Arl:=(Auk×Pc×Y18×Int×Unit)→Option Y84
def Aiw(L:Ae)(c:Vt)(d:I9)(e:Aal)(f:Asj)(b:Auk)(g:Pc)(a:Y18)(h:Int):Option Y84:=((c (b,())).bind fun i=>Ah (!i.1.1) (some ((2,()),(),(),(),(),())) ((d (g,())).bind fun j=>Ah (!j.1.1) (some ((15,()),(),(),(),(),())) ((e (b.2.2.2.2.2.1,a.1,())).bind fun k=>Ah (decide (k.1.1<0)) (some ((8,()),(),(),(),(),())) (Ah (decide (a.2.1<b.2.2.1)) (some ((14,()),(),(),(),(),())) (Ah (decide (a.2.1>h)) (some ((14,()),(),(),(),(),())) ((f (a.2.2.1,())).bind fun l=>Ah (decide (l.1.1>128)) (some ((2,()),(),(),(),(),())) (some ((0,()),(),(),(),(),()))))))))
def Vj:Arl:=fun x=>Aiw Ac E6 Cr G4 Vr x.1 x.2.1 x.2.2.1 x.2.2.2.1
abbrev Zi:Ce:=⟨[V19,V12,(.ro true W4),V8,J1],[V11,(.ro true (.pair (.int .u64) W34)),Bv]⟩
abbrev An9:=(Auk×Pc×(List Int)×Y18×Int×Unit)→Option Cqc
def Ae8(L:Ae)(q:Arl)(r:Ahj)(s:Asm)(t:Ang)(u:Aux)(v:Asq)(w:Aqu)(y:Qv)(a0:Aid)(a1:Ay9)(a2:Ava)(a:Auk)(h:Pc)(j:(List Int))(b:Y18)(k:Int):Option Cqc:=(A2 (IntKind.wrap .u64 (a.2.2.2.1+1)) fun d=>(q (a,h,b,k,())).bind fun l=>Ah (!(decide (l.1.1=0))) (some ((([0,0,0,0],0,0,0,(false,[0,0,0,0],()),[],()),(0,[0,0,0,0],[],()),l.1.1,()),(),(),(),(),(),())) ((r (a.2.1,a.2.2.1,b.2.1,k,())).bind fun c=>A2 (IntKind.wrap .u64 (a.2.1-c.1.1)) fun m=>(s (h.2.2.2.2.2.2.2.1,[c.1.1,0,0,0],())).bind fun e=>Ah (!(decide (e.1.2.1=0))) (some ((([0,0,0,0],0,0,0,(false,[0,0,0,0],()),[],()),(0,[0,0,0,0],[],()),4,()),(),(),(),(),(),())) (Ah (decide (d=0)) (some ((([0,0,0,0],0,0,0,(false,[0,0,0,0],()),[],()),(0,[0,0,0,0],[],()),4,()),(),(),(),(),(),())) ((t (a.2.2.2.2.2.1,b.1,b.2.2.1,e.1.1,d,())).bind fun i=>Ah (!(decide (i.1.2.1=0))) (some ((([0,0,0,0],0,0,0,(false,[0,0,0,0],()),[],()),(0,[0,0,0,0],[],()),4,()),(),(),(),(),(),())) ((u (i.1.1,j,())).bind fun f=>(v (i.1.1,f.1.1,())).bind fun g=>Ah (!(decide (g.1.2.1=0))) (some ((([0,0,0,0],0,0,0,(false,[0,0,0,0],()),[],()),(0,[0,0,0,0],[],()),4,()),(),(),(),(),(),())) ((w (f.1.1,())).bind fun a3=>(y (j,a3.1.1,())).bind fun a4=>(a0 (g.1.1,())).bind fun n=>Ah (!(decide (n.1.2.1=0))) (some ((([0,0,0,0],0,0,0,(false,[0,0,0,0],()),[],()),(0,[0,0,0,0],[],()),4,()),(),(),(),(),(),())) ((a1 (a4.1.1,n.1.1,())).bind fun o=>Ah (decide (c.1.1>0)) ((a2 (a.1,o.1.1,a.2.2.2.2.1,c.1.1,h,())).bind fun p=>Ah (!(decide (p.1.2.1=0))) (some ((([0,0,0,0],0,0,0,(false,[0,0,0,0],()),[],()),(0,[0,0,0,0],[],()),4,()),(),(),(),(),(),())) (some (((p.1.1,m,b.2.1,d,o.1.1,g.1.1,a.2.2.2.2.2.2),(c.1.1,e.1.1,f.1.1,()),0,()),(),(),(),(),(),()))) (some (((a.1,m,b.2.1,d,a.2.2.2.2.1,g.1.1,a.2.2.2.2.2.2),(c.1.1,e.1.1,f.1.1,()),0,()),(),(),(),(),(),())))))))))
def Sr:An9:=fun x=>Ae8 Ac Vj Nz Vo E8 X4 Uw Q1 Ee N7 Acd Ya x.1 x.2.1 x.2.2.1 x.2.2.2.1 x.2.2.2.2.1
abbrev Qn:Ce:=⟨[V19,J1],[V11,Bv]⟩
abbrev Agc:=Cmo→Option Clw
def Xq(L:Ae)(c:Vt)(d:Ayd)(a:Auk)(e:Int):Option Clw:=((c (a,())).bind fun f=>Ah (!f.1.1) (some ((([0,0,0,0],0,0,0,(false,[0,0,0,0],()),[],()),2,()),(),(),())) ((d (a.2.2.2.2.2.1,e,())).bind fun b=>Ah (!(decide (b.1.2.1=0))) (some ((([0,0,0,0],0,0,0,(false,[0,0,0,0],()),[],()),b.1.2.1,()),(),(),())) (some (((a.1,a.2.1,a.2.2.1,a.2.2.2.1,a.2.2.2.2.1,b.1.1,a.2.2.2.2.2.2),0,()),(),(),()))))
def Mp:Agc:=fun x=>Xq Ac E6 Acf x.1 x.2.1
set_option maxRecDepth 100000
abbrev Og:Ce:=⟨[V3,Bv,Bv],[Bv]⟩
abbrev Ul:=Y16→Option Y74
def Ace(f:((List Int)×Int×Int×Int×Unit)→Option Y74)(b:(List Int))(c:Int)(d:Int)(a:Int):Option Y74:=(A2 (IntKind.wrap .i64 ((IntKind.wrap .i64 (c+a))-d)) fun e=>Ah (decide (a<131)) (Ah (decide ((IntKind.wrap .i64 (c+a))<(List.length b:Int))) (Ah (B0 (IntKind.wrap .i64 (c+a)) (List.length b)) (Ah (B0 e (List.length b)) (Ah (decide ((List.getD b (Int.toNat (IntKind.wrap .i64 (c+a))) 0)=(List.getD b (Int.toNat e) 0))) (f (b,c,d,(IntKind.wrap .i64 (a+1)),())) (some ((a,()),(),(),(),()))) none) none) (some ((a,()),(),(),(),()))) (some ((a,()),(),(),(),())))
def Tm(L:Ae)(a:(List Int))(b:Int)(c:Int):Option Y74:=(L _ _ (fun z x=>Ace z x.1 x.2.1 x.2.2.1 x.2.2.2.1) (a,b,c,0,()))
def Lo:Ul:=fun x=>Tm Ac x.1 x.2.1 x.2.2.1
abbrev Akg:Ce:=⟨[V3,Bv],[Bv,Bv]⟩
abbrev Ap5:=Y8→Option Y10
def Aqs(h:Ul)(f:((List Int)×Int×Int×Int×Int×Unit)→Option Y10)(d:(List Int))(b:Int)(c:Int)(e:Int)(a:Int):Option Y10:=(Ah (decide (a≤1024)) (Ah (decide (a≤b)) ((h (d,b,a,())).bind fun g=>Ah (decide (g.1.1>c)) (f (d,b,g.1.1,a,(IntKind.wrap .i64 (a+1)),())) (f (d,b,c,e,(IntKind.wrap .i64 (a+1)),()))) (some ((c,e,()),(),(),()))) (some ((c,e,()),(),(),())))
def Aqx(L:Ae)(a:Ul)(b:(List Int))(c:Int):Option Y10:=(L _ _ (fun z x=>Aqs a z x.1 x.2.1 x.2.2.1 x.2.2.2.1 x.2.2.2.2.1) (b,c,0,0,1,()))
def Aby:Ap5:=fun x=>Aqx Ac Lo x.1 x.2.1
abbrev Un:Ce:=⟨[V37,V3],[V37]⟩
abbrev Ac1:=Y39→Option T2
def Ahb(c:Y39→Option T2)(b:(List Int))(a:(List Int)):Option T2:=(A2 (List.append b [127]) fun d=>A2 (List.append b [(IntKind.wrap .u8 (List.length a:Int))]) fun e=>A2 (List.take ((127:Nat)-(0:Nat)) (List.drop 0 a)) fun f=>A2 (List.take ((Int.toNat (List.length a:Int))-0) (List.drop 0 a)) fun g=>Ah (decide ((List.length a:Int)>0)) (Ah (decide ((List.length a:Int)>127)) (Ah (A9 ((List.length b)+1) (Ty.int IntKind.u8)) (Ah (decide (127≤(List.length a:Int))) (Ah (A9 ((List.length d)+(List.length f)) (Ty.int IntKind.u8)) (Ah (decide (127≤(List.length a:Int))) (c ((List.append d f),(List.take ((List.length a)-127) (List.drop 127 a)),())) none) none) none) none) (Ah (A9 ((List.length b)+1) (Ty.int IntKind.u8)) (Ah ((decide (0≤(List.length a:Int)))&&(decide ((List.length a:Int)≤(List.length a:Int)))) (Ah (A9 ((List.length e)+(List.length g)) (Ty.int IntKind.u8)) (Ah ((decide (0≤(List.length a:Int)))&&(decide ((List.length a:Int)≤(List.length a:Int)))) (c ((List.append e g),(List.take ((List.length a)-(Int.toNat (List.length a:Int))) (List.drop (Int.toNat (List.length a:Int)) a)),())) none) none) none) none)) (some ((b,()),(),(),())))
def Ac5(L:Ae)(a:(List Int))(b:(List Int)):Option T2:=(L _ _ (fun z x=>Ahb z x.1 x.2.1) (a,b,()))
def Qk:Ac1:=fun x=>Ac5 Ac x.1 x.2.1
abbrev Up:Ce:=⟨[V3],[V37]⟩
abbrev Alh:=Y4→Option Y6
def Aha(k:Ap5)(f:Ac1)(g:Y78→Option Y6)(a:(List Int))(e:(List Int))(b:Int)(c:Int):Option Y6:=(Ah (decide (c<(List.length a:Int))) ((k (a,c,())).bind fun d=>A2 (IntKind.wrap .i64 (c+d.1.1)) fun h=>A2 (IntKind.wrap .i64 (d.1.2.1-1)) fun i=>Ah (decide (d.1.1<4)) (g (a,e,b,(IntKind.wrap .i64 (c+1)),())) (Ah (((decide (0≤b))&&(decide (b≤c)))&&(decide (c≤(List.length a:Int)))) ((f (e,(List.take ((Int.toNat c)-(Int.toNat b)) (List.drop (Int.toNat b) a)),())).bind fun j=>Ah (A9 ((List.length j.1.1)+3) (Ty.int IntKind.u8)) (g (a,(List.append j.1.1 [(IntKind.wrap .u8 (IntKind.wrap .i64 (d.1.1+124))),(IntKind.wrap .u8 (IntKind.wrap .i64 (Int.tdiv i 256))),(IntKind.wrap .u8 (Int.tmod i 256))]),h,h,())) none) none)) (Ah ((decide (0≤b))&&(decide (b≤(List.length a:Int)))) ((f (e,(List.take ((List.length a)-(Int.toNat b)) (List.drop (Int.toNat b) a)),())).bind fun l=>some ((l.1.1,()),(),())) none))
def Acx(L:Ae)(a:Ap5)(b:Ac1)(c:(List Int)):Option Y6:=(L _ _ (fun z x=>Aha a b z x.1 x.2.1 x.2.2.1 x.2.2.2.1) (c,[],0,0,()))
def P3:Alh:=fun x=>Acx Ac Aby Qk x.1
set_option maxRecDepth 100000
abbrev Abh:Ce:=⟨[V3,J1,J1],[J1,Bv]⟩
abbrev Asa:=Y16→Option Y41
def Ai8(L:Ae)(e:Alh)(d:(List Int))(b:Int)(a:Int):Option Y41:=(Ah (decide (b>a)) (some ((0,2,()),(),(),(),())) (Ah (decide ((List.length d:Int)>4096)) (some ((0,6,()),(),(),(),())) ((e (d,())).bind fun f=>A2 (IntKind.wrap .u64 ((IntKind.wrap .u64 (List.length f.1.1:Int))*16)) fun c=>Ah (decide (c<b)) (Ah (decide (b>a)) (some ((a,0,()),(),(),(),())) (some ((b,0,()),(),(),(),()))) (Ah (decide (c>a)) (some ((a,0,()),(),(),(),())) (some ((c,0,()),(),(),(),()))))))
def Vc:Asa:=fun x=>Ai8 Ac P3 x.1 x.2.1 x.2.2.1
set_option maxRecDepth 100000
abbrev Yb:Ce:=⟨[V18,(.ro true W4)],[V4]⟩
abbrev Aqt:=(Bdn×(List Int)×Unit)→Option T2
def Aqd(L:Ae)(a:As)(c:Ky)(d:Zu)(b:Bdn)(e:(List Int)):Option T2:=((a (b.2.2.2.2.2.2.1,())).bind fun f=>(a (b.2.2.2.2.2.1,())).bind fun g=>(a (e,())).bind fun h=>(c (g.1.1,h.1.1,())).bind fun i=>(d (f.1.1,i.1.1,())).bind fun j=>some ((j.1.1,()),(),(),()))
def Qx:Aqt:=fun x=>Aqd Ac Ai Dr G8 x.1 x.2.1
abbrev Si:Ce:=⟨[V18,(.ro true W4)],[(.ro true W4),Bv]⟩
abbrev Ahf:=(Bdn×(List Int)×Unit)→Option Y31
def Aai(L:Ae)(a:As)(e:Ho)(f:Aqt)(g:Cc)(h:F0)(c:Bdn)(b:(List Int)):Option Y31:=((a (c.2.2.2.2.2.1,())).bind fun i=>(a (b,())).bind fun j=>(e (i.1.1,j.1.1,())).bind fun k=>Ah (decide (k.1.1<0)) (some (([0,0,0,0],12,()),(),(),())) ((a (b,())).bind fun l=>(f (c,b,())).bind fun m=>(g (l.1.1,m.1.1,())).bind fun n=>(h (n.1.1,())).bind fun d=>some ((d.1.1,d.1.2.1,()),(),(),())))
def Nx:Ahf:=fun x=>Aai Ac Ai Ca Qx A7 B3 x.1 x.2.1
abbrev Xx:Ce:=⟨[V18,(.ro true W4),(.ro true W4)],[V25]⟩
abbrev Ani:=(Bdn×(List Int)×(List Int)×Unit)→Option Y76
def Afj(L:Ae)(c:Cj)(a:As)(d:Js)(e:Cc)(f:Ho)(b:Bdn)(g:(List Int))(h:(List Int)):Option Y76:=((c (b.2.2.2.2.1,())).bind fun i=>(a (g,())).bind fun j=>(d (i.1.1,j.1.1,())).bind fun k=>(a (b.2.2.2.1,())).bind fun l=>(e (k.1.1,l.1.1,())).bind fun m=>(a (h,())).bind fun n=>(f (n.1.1,m.1.1,())).bind fun o=>some (((decide (o.1.1≥0)),()),(),(),(),()))
def S6:Ani:=fun x=>Afj Ac A1 Ai Ci A7 Ca x.1 x.2.1 x.2.2.1
abbrev Ajq:Ce:=⟨[V18,(.ro true W4),(.ro true W4),V12],[J1,J1,Bv]⟩
abbrev Azs:=Cpx→Option Y66
def Aqa(L:Ae)(j:I9)(k:C0)(a:As)(f:Ho)(l:Asa)(g:Cj)(m:Js)(n:Pp)(o:N4)(p:B2)(c:Bdn)(d:(List Int))(q:(List Int))(e:Pc):Option Y66:=((j (e,())).bind fun r=>Ah (!r.1.1) (some ((0,0,15,()),(),(),(),(),())) ((k (d,())).bind fun s=>Ah s.1.1 (some ((0,0,5,()),(),(),(),(),())) ((a (c.2.2.2.2.2.1,())).bind fun t=>(a (d,())).bind fun u=>(f (t.1.1,u.1.1,())).bind fun v=>Ah (decide (v.1.1<0)) (some ((0,0,12,()),(),(),(),(),())) ((l (c.2.2.2.2.2.2.2.2.1,e.2.2.2.2.2.2.2.2.2.2.1,e.2.2.2.2.2.2.2.2.2.2.2.1,())).bind fun b=>Ah (!(decide (b.1.2.1=0))) (some ((0,0,b.1.2.1,()),(),(),(),(),())) ((g (b.1.1,())).bind fun w=>(a (q,())).bind fun y=>(m (w.1.1,y.1.1,())).bind fun h=>(n (h.1.1,())).bind fun a0=>Ah (!a0.1.1) (some ((0,0,4,()),(),(),(),(),())) ((a (d,())).bind fun a1=>(o (h.1.1,a1.1.1,())).bind fun i=>(g (c.2.2.2.2.1,())).bind fun a2=>(f (i.1.1,a2.1.1,())).bind fun a3=>Ah (decide (a3.1.1>0)) (some ((0,0,13,()),(),(),(),(),())) ((p (i.1.1,())).bind fun a4=>some ((b.1.1,(List.getD a4.1.1 0 0),0,()),(),(),(),(),()))))))))
def Ab2:Azs:=fun x=>Aqa Ac Cr Bd Ai Ca Vc A1 Ci Dx Ds Ay x.1 x.2.1 x.2.2.1 x.2.2.2.1
abbrev U5:Ce:=⟨[V18,(.ro true W4),(.ro true W4),V12],[(.ro true W64),Bv]⟩
abbrev Aky:=Cpx→Option Cpr
def Acy(L:Ae)(a9:Azs)(j:As)(n:Aqt)(a:Cj)(c:Js)(o:Zu)(k:Ky)(p:N4)(q:Cc)(f:Pp)(d:B2)(e:Bdn)(g:(List Int))(b0:(List Int))(h:Pc):Option Cpr:=((a9 (e,g,b0,h,())).bind fun b=>A2 (IntKind.wrap .u64 (e.2.2.2.2.1-b.1.2.1)) fun i=>A2 (IntKind.wrap .u64 (b.1.2.1+i)) fun r=>A2 (IntKind.wrap .u64 (b.1.2.1+e.2.2.2.2.2.2.2.1)) fun s=>Ah (!(decide (b.1.2.2.1=0))) (some (((0,0,0,0,false,[0,0,0,0],[0,0,0,0],[0,0,0,0],[0,0,0,0],[0,0,0,0],()),b.1.2.2.1,()),(),(),(),(),())) (Ah (decide (e.2.2.2.2.2.2.2.1>i)) ((j (g,())).bind fun l=>(n (e,g,())).bind fun t=>(a (b.1.2.1,())).bind fun b1=>(c (l.1.1,b1.1.1,())).bind fun u=>(a (i,())).bind fun b2=>(c (l.1.1,b2.1.1,())).bind fun v=>(j (h.2.2.2.2.2.1,())).bind fun b3=>(o (b3.1.1,l.1.1,())).bind fun b4=>(a (i,())).bind fun b5=>(c (b4.1.1,b5.1.1,())).bind fun w=>(k (v.1.1,w.1.1,())).bind fun y=>(a (h.2.2.2.2.2.2.1,())).bind fun b6=>(c (y.1.1,b6.1.1,())).bind fun b7=>(a (10000,())).bind fun b8=>(p (b7.1.1,b8.1.1,())).bind fun a0=>(k (y.1.1,a0.1.1,())).bind fun b9=>(a (r,())).bind fun c0=>(c (t.1.1,c0.1.1,())).bind fun c1=>(q (b9.1.1,c1.1.1,())).bind fun a1=>(f (u.1.1,())).bind fun c2=>Ah (!c2.1.1) (some (((0,0,0,0,false,[0,0,0,0],[0,0,0,0],[0,0,0,0],[0,0,0,0],[0,0,0,0],()),4,()),(),(),(),(),())) ((f (v.1.1,())).bind fun c3=>Ah (!c3.1.1) (some (((0,0,0,0,false,[0,0,0,0],[0,0,0,0],[0,0,0,0],[0,0,0,0],[0,0,0,0],()),4,()),(),(),(),(),())) ((f (a1.1.1,())).bind fun c4=>Ah (!c4.1.1) (some (((0,0,0,0,false,[0,0,0,0],[0,0,0,0],[0,0,0,0],[0,0,0,0],[0,0,0,0],()),4,()),(),(),(),(),())) ((d (t.1.1,())).bind fun c5=>(d (u.1.1,())).bind fun c6=>(d (w.1.1,())).bind fun c7=>(d (a0.1.1,())).bind fun c8=>(d (a1.1.1,())).bind fun c9=>some (((b.1.1,b.1.2.1,i,r,true,c5.1.1,c6.1.1,c7.1.1,c9.1.1,c8.1.1,()),0,()),(),(),(),(),()))))) ((j (g,())).bind fun m=>(n (e,g,())).bind fun a2=>(a (b.1.2.1,())).bind fun d0=>(c (m.1.1,d0.1.1,())).bind fun a3=>(a (e.2.2.2.2.2.2.2.1,())).bind fun d1=>(c (m.1.1,d1.1.1,())).bind fun a4=>(j (h.2.2.2.2.2.1,())).bind fun d2=>(o (d2.1.1,m.1.1,())).bind fun d3=>(a (e.2.2.2.2.2.2.2.1,())).bind fun d4=>(c (d3.1.1,d4.1.1,())).bind fun a5=>(k (a4.1.1,a5.1.1,())).bind fun a6=>(a (h.2.2.2.2.2.2.1,())).bind fun d5=>(c (a6.1.1,d5.1.1,())).bind fun d6=>(a (10000,())).bind fun d7=>(p (d6.1.1,d7.1.1,())).bind fun a7=>(k (a6.1.1,a7.1.1,())).bind fun d8=>(a (s,())).bind fun d9=>(c (a2.1.1,d9.1.1,())).bind fun e0=>(q (d8.1.1,e0.1.1,())).bind fun a8=>(f (a3.1.1,())).bind fun e1=>Ah (!e1.1.1) (some (((0,0,0,0,false,[0,0,0,0],[0,0,0,0],[0,0,0,0],[0,0,0,0],[0,0,0,0],()),4,()),(),(),(),(),())) ((f (a4.1.1,())).bind fun e2=>Ah (!e2.1.1) (some (((0,0,0,0,false,[0,0,0,0],[0,0,0,0],[0,0,0,0],[0,0,0,0],[0,0,0,0],()),4,()),(),(),(),(),())) ((f (a8.1.1,())).bind fun e3=>Ah (!e3.1.1) (some (((0,0,0,0,false,[0,0,0,0],[0,0,0,0],[0,0,0,0],[0,0,0,0],[0,0,0,0],()),4,()),(),(),(),(),())) ((d (a2.1.1,())).bind fun e4=>(d (a3.1.1,())).bind fun e5=>(d (a5.1.1,())).bind fun e6=>(d (a7.1.1,())).bind fun e7=>(d (a8.1.1,())).bind fun e8=>some (((b.1.1,b.1.2.1,e.2.2.2.2.2.2.2.1,s,false,e4.1.1,e5.1.1,e6.1.1,e8.1.1,e7.1.1,()),0,()),(),(),(),(),())))))))
def P1:Aky:=fun x=>Acy Ac Ab2 Ai Qx A1 Ci G8 Dr Ds A7 Dx Ay x.1 x.2.1 x.2.2.1 x.2.2.2.1
set_option maxRecDepth 100000
abbrev Ajx:Ce:=⟨[],[(.ptr V55)]⟩
abbrev Ay6:=Unit→Option ((Y86×Unit)×Unit)
def Ay3(L:Ae):Option ((Y86×Unit)×Unit):=(some ((([0,0,0,0],[],[],[],()),()),()))
def Ajf:Ay6:=fun x=>Ay3 Ac
abbrev Jp:Ce:=⟨[(.ptr V55),(.ro true W4)],[Bv]⟩
abbrev Ui:=(Y86×(List Int)×Unit)→Option Y92
def Mu(L:Ae)(d:C0)(e:Abw)(a:Y86)(c:(List Int)):Option Y92:=((d (c,())).bind fun f=>Ah f.1.1 (some ((2,()),a,(),())) ((e (a.1,c,())).bind fun b=>Ah (!(decide (b.1.2.1=0))) (some ((b.1.2.1,()),a,(),())) (some ((0,()),(b.1.1,a.2),(),()))))
def Ic:Ui:=fun x=>Mu Ac Bd Ii x.1 x.2.1
abbrev Fu:Ce:=⟨[(.rp W50),J1],[V25]⟩
abbrev Jf:=(Y86×Int×Unit)→Option Y58
def U4(e:(Y86×Int×Int×Unit)→Option Y58)(b:Y86)(c:Int)(a:Int):Option Y58:=(A2 (List.length b.2.2.1) fun d=>Ah (decide (a<((d:Nat):Int))) (Ah (B0 a d) (Ah (decide ((List.getD b.2.2.1 (Int.toNat a) 0)=c)) (some ((true,()),(),(),())) (e (b,c,(IntKind.wrap .i64 (a+1)),()))) none) (some ((false,()),(),(),())))
def Mw(L:Ae)(a:Y86)(b:Int):Option Y58:=(L _ _ (fun z x=>U4 z x.1 x.2.1 x.2.2.1) (a,b,0,()))
def Er:Jf:=fun x=>Mw Ac x.1 x.2.1
abbrev H9:Ce:=⟨[(.ptr V55),J1],[(.ro true W4)]⟩
abbrev Qr:=(Y86×Int×Unit)→Option Y90
def Sm(e:(Y86×Int×(List Int)×Int×Unit)→Option Y90)(a:Y86)(d:Int)(f:(List Int))(b:Int):Option Y90:=(A2 (List.length a.2.2.2.1) fun c=>Ah (decide (b<((c:Nat):Int))) (Ah (B0 b c) (Ah (decide ((List.getD a.2.2.2.1 (Int.toNat b) (0,[0,0,0,0],())).1=d)) (Ah (B0 b c) (some (((List.getD a.2.2.2.1 (Int.toNat b) (0,[0,0,0,0],())).2.1,()),a,(),())) none) (e (a,d,f,(IntKind.wrap .i64 (b+1)),()))) none) (some (([0,0,0,0],()),a,(),())))
def K8(L:Ae)(a:Y86)(b:Int):Option Y90:=(L _ _ (fun z x=>Sm z x.1 x.2.1 x.2.2.1 x.2.2.2.1) (a,b,[0,0,0,0],0,()))
def Gv:Qr:=fun x=>K8 Ac x.1 x.2.1
abbrev Lq:Ce:=⟨[(.ptr V55),(.ro false W67)],[Bv]⟩
abbrev Zj:=(Y86×Y75×Unit)→Option Y92
def Nq(f:(Y86×Y75×(List Int)×Int×Unit)→Option Y92)(a:Y86)(d:Y75)(e:(List Int))(b:Int):Option Y92:=(A2 (List.length a.2.2.2.1) fun c=>Ah (decide (b<((c:Nat):Int))) (Ah (B0 b c) (Ah (decide ((List.getD a.2.2.2.1 (Int.toNat b) (0,[0,0,0,0],())).1=d.2.2.1)) (Ah (B0 b c) (some ((0,()),(a.1,a.2.1,a.2.2.1,(List.set a.2.2.2.1 (Int.toNat b) ((List.getD a.2.2.2.1 (Int.toNat b) (0,[0,0,0,0],())).1,e,(List.getD a.2.2.2.1 (Int.toNat b) (0,[0,0,0,0],())).2.2)),a.2.2.2.2),(),())) none) (f (a,d,e,(IntKind.wrap .i64 (b+1)),()))) none) (Ah (A9 (c+1) R8) (some ((0,()),(a.1,a.2.1,a.2.2.1,(List.append a.2.2.2.1 [(d.2.2.1,e,())]),a.2.2.2.2),(),())) none))
def Qp(L:Ae)(h:C0)(i:Jf)(j:Afq)(k:Ars)(l:Qv)(m:Qr)(n:Abw)(b:Y86)(a:Y75):Option Y92:=(A2 (IntKind.wrap .u64 (a.2.1-1)) fun e=>A2 (List.length b.2.1) fun f=>Ah (decide (a.2.2.1=0)) (some ((2,()),b,(),())) ((h (a.2.2.2.1,())).bind fun o=>Ah o.1.1 (some ((2,()),b,(),())) (Ah (decide ((List.length a.2.2.2.2.1:Int)>64)) (some ((2,()),b,(),())) (Ah (decide (a.2.1<1)) (some ((8,()),b,(),())) (Ah (decide (a.2.1>(IntKind.wrap .u64 ((f:Nat):Int)))) (some ((8,()),b,(),())) (Ah (decide (a.1≥a.2.1)) (some ((8,()),b,(),())) ((i (b,a.1,())).bind fun p=>Ah p.1.1 (some ((9,()),b,(),())) (Ah (B0 e f) ((j ((a.1,a.2.2.1,a.2.2.2.1,()),())).bind fun q=>(k ((List.getD b.2.1 (Int.toNat e) (List.replicate 32 0)),(IntKind.wrap .i64 a.2.1),(IntKind.wrap .i64 a.1),q.1.1,a.2.2.2.2.1,())).bind fun r=>Ah (!r.1.1) (some ((16,()),b,(),())) ((l (b.1,a.2.2.2.1,())).bind fun g=>Ah (!(decide (g.1.2.1=0))) (some ((10,()),b,(),())) ((m (b,a.2.2.1,())).bind fun c=>(n (c.1.1,a.2.2.2.1,())).bind fun d=>Ah (!(decide (d.1.2.1=0))) (some ((d.1.2.1,()),c.2.1,(),())) (Ah (A9 ((List.length c.2.1.2.2.1)+1) (Ty.int IntKind.u64)) (L _ _ (fun z x=>Nq z x.1 x.2.1 x.2.2.1 x.2.2.2.1) ((g.1.1,c.2.1.2.1,(List.append c.2.1.2.2.1 [a.1]),c.2.1.2.2.2),a,d.1.1,0,())) none)))) none))))))))
def Jv:Zj:=fun x=>Qp Ac Bd Er Nn Ph Ee Gv Ii x.1 x.2.1
abbrev Hk:Ce:=⟨[(.rp W50)],[V14]⟩
abbrev Pa:=(Y86×Unit)→Option Y27
def J3(k:Y91→Option Y27)(l:(Y86×(List Y9)×Int×Int×Unit)→Option Y27)(b:Y86)(e:(List Y9))(c:Int)(a:Int):Option Y27:=(A2 (IntKind.wrap .i64 (a-1)) fun h=>A2 (List.length e) fun d=>A2 (List.take ((Int.toNat a)-0) (List.drop 0 e)) fun f=>A2 (List.take (d-(Int.toNat a)) (List.drop (Int.toNat a) e)) fun i=>A2 (List.append [(List.getD b.2.2.2.1 (Int.toNat c) (0,[0,0,0,0],()))] i) fun j=>A2 (List.length j) fun g=>Ah (decide (a>0)) (Ah (B0 h d) (Ah (B0 c (List.length b.2.2.2.1)) (Ah (decide ((List.getD e (Int.toNat h) (0,[0,0,0,0],())).1>(List.getD b.2.2.2.1 (Int.toNat c) (0,[0,0,0,0],())).1)) (l (b,e,c,h,())) (Ah (decide (a=a)) (Ah ((decide (0≤a))&&(decide (a≤((d:Nat):Int)))) (Ah (B0 c (List.length b.2.2.2.1)) (Ah ((decide (0≤a))&&(decide (a≤((d:Nat):Int)))) (Ah (A9 (1+(List.length i)) R8) (Ah ((decide (0<g))&&(A9 ((List.length f)+g) R8)) (k (b,(List.append f j),(IntKind.wrap .i64 (c+1)),())) none) none) none) none) none) none)) none) none) (Ah (decide (a=a)) (Ah ((decide (0≤a))&&(decide (a≤((d:Nat):Int)))) (Ah (B0 c (List.length b.2.2.2.1)) (Ah ((decide (0≤a))&&(decide (a≤((d:Nat):Int)))) (Ah (A9 (1+(List.length i)) R8) (Ah ((decide (0<g))&&(A9 ((List.length f)+g) R8)) (k (b,(List.append f j),(IntKind.wrap .i64 (c+1)),())) none) none) none) none) none) none))
def Ra(L:Ae)(d:Y91→Option Y27)(b:Y86)(a:(List Y9))(c:Int):Option Y27:=(Ah (decide (c<(List.length b.2.2.2.1:Int))) (L _ _ (fun z x=>J3 d z x.1 x.2.1 x.2.2.1 x.2.2.2.1) (b,a,c,(List.length a:Int),())) (some ((a,()),(),())))
def J6(L:Ae)(a:Y86):Option Y27:=(L _ _ (fun z x=>Ra L z x.1 x.2.1 x.2.2.1) (a,[],0,()))
def Gh:Pa:=fun x=>J6 Ac x.1
abbrev Kp:Ce:=⟨[V43],[V25]⟩
abbrev Agz:=Y19→Option Xs
def Xc(d:C0)(e:Y24→Option Xs)(b:(List Y9))(a:Int):Option Xs:=(A2 (IntKind.wrap .i64 (a-1)) fun f=>A2 (List.length b) fun c=>Ah (decide (a<((c:Nat):Int))) (Ah (B0 a c) (Ah (decide ((List.getD b (Int.toNat a) (0,[0,0,0,0],())).1=0)) (some ((false,()),(),())) (Ah (decide (a>0)) (Ah (B0 a c) (Ah (B0 f c) (Ah (decide ((List.getD b (Int.toNat a) (0,[0,0,0,0],())).1≤(List.getD b (Int.toNat f) (0,[0,0,0,0],())).1)) (some ((false,()),(),())) (Ah (B0 a c) ((d ((List.getD b (Int.toNat a) (0,[0,0,0,0],())).2.1,())).bind fun g=>Ah g.1.1 (some ((false,()),(),())) (e (b,(IntKind.wrap .i64 (a+1)),()))) none)) none) none) (Ah (B0 a c) ((d ((List.getD b (Int.toNat a) (0,[0,0,0,0],())).2.1,())).bind fun h=>Ah h.1.1 (some ((false,()),(),())) (e (b,(IntKind.wrap .i64 (a+1)),()))) none))) none) (some ((true,()),(),())))
def Wo(L:Ae)(a:C0)(b:(List Y9)):Option Xs:=(L _ _ (fun z x=>Xc a z x.1 x.2.1) (b,0,()))
def Iq:Agz:=fun x=>Wo Ac Bd x.1
set_option maxRecDepth 100000
abbrev Pv:Ce:=⟨[Bv],[V25]⟩
abbrev Ae6:=(Int×Unit)→Option Xs
def Xr(L:Ae)(a:Int):Option Xs:=(Ah (decide (a≥1)) (some (((decide (a≤7)),()),(),())) (some ((false,()),(),())))
def Jx:Ae6:=fun x=>Xr Ac x.1
set_option maxRecDepth 100000
abbrev Aju:Ce:=⟨[],[V58]⟩
abbrev Ays:=Unit→Option ((Re×Unit)×Unit)
def Aq5(L:Ae)(b:Aku)(c:Ak4)(d:Ald)(e:Aze)(f:Ay6):Option ((Re×Unit)×Unit):=((b ()).bind fun a=>(c (a.1.1,())).bind fun g=>(d ()).bind fun h=>(e ()).bind fun i=>(f ()).bind fun j=>some (((0,a.1.1,g.1.1,0,h.1.1,i.1.1,[],j.1.1,()),()),()))
def Ack:Ays:=fun x=>Aq5 Ac Xp P5 Xb Ai0 Ajf
abbrev Ko:Ce:=⟨[V58,V18],[(.ro true W4),Bv]⟩
abbrev We:=(Re×Bdn×Unit)→Option (Y8×Re×Unit×Unit)
def Oy(L:Ae)(e:Ik)(f:Ahf)(g:Zk)(h:Ani)(a:Re)(b:Bdn):Option (Y8×Re×Unit×Unit):=(Ah (decide ((List.length b.2.2.2.2.2.2.2.2.1:Int)>4096)) (some (([0,0,0,0],6,()),a,(),())) (Ah (decide (b.1=0)) (some (([0,0,0,0],2,()),a,(),())) (Ah (decide (b.2.2.1=0)) (some (([0,0,0,0],2,()),a,(),())) (Ah (decide (b.1=18446744073709551615)) (some (([0,0,0,0],2,()),a,(),())) ((e (a.2.2.2.2.2.1,b.1,())).bind fun c=>Ah (!(decide (b.2.1=c.1.1.2.2.1))) (some (([0,0,0,0],11,()),(a.1,a.2.1,a.2.2.1,a.2.2.2.1,a.2.2.2.2.1,c.2.1,a.2.2.2.2.2.2),(),())) (Ah (decide ((IntKind.wrap .u64 (c.1.1.2.2.1+1))=0)) (some (([0,0,0,0],4,()),(a.1,a.2.1,a.2.2.1,a.2.2.2.1,a.2.2.2.2.1,c.2.1,a.2.2.2.2.2.2),(),())) ((f (b,a.2.2.1.2.2.2.1,())).bind fun d=>Ah (!(decide (d.1.2.1=0))) (some (([0,0,0,0],d.1.2.1,()),(a.1,a.2.1,a.2.2.1,a.2.2.2.1,a.2.2.2.2.1,c.2.1,a.2.2.2.2.2.2),(),())) ((g (a.2.2.1,a.2.1,())).bind fun i=>Ah (decide (b.2.2.2.2.1>i.1.1)) (some (([0,0,0,0],13,()),(a.1,a.2.1,a.2.2.1,a.2.2.2.1,a.2.2.2.2.1,c.2.1,a.2.2.2.2.2.2),(),())) ((h (b,d.1.1,c.1.1.2.1,())).bind fun j=>Ah (!j.1.1) (some (([0,0,0,0],10,()),(a.1,a.2.1,a.2.2.1,a.2.2.2.1,a.2.2.2.2.1,c.2.1,a.2.2.2.2.2.2),(),())) (some ((d.1.1,0,()),(a.1,a.2.1,a.2.2.1,a.2.2.2.1,a.2.2.2.2.1,c.2.1,a.2.2.2.2.2.2),(),())))))))))))
def Iz:We:=fun x=>Oy Ac Cm Nx Jt S6 x.1 x.2.1
abbrev G2:Ce:=⟨[V58,J1,(.ro true W4)],[V8]⟩
abbrev Lf:=(Re×Int×(List Int)×Unit)→Option Cp6
def P7(L:Ae)(f:Av2)(a:Re)(d:Int)(e:(List Int)):Option Cp6:=(A2 (List.length a.2.2.2.2.2.2.1) fun b=>A2 (List.append a.2.2.2.2.2.2.1 [((IntKind.wrap .u64 ((b:Nat):Int)),d,e,())]) fun c=>Ah (A9 (b+1) R9) ((f (c,(List.length c:Int),())).bind fun g=>Ah (A9 ((List.length a.2.2.2.2.2.2.2.1.2.1)+1) (Ty.arr 32 (Ty.int IntKind.u8))) (some ((((IntKind.wrap .u64 ((b:Nat):Int)),d,e,()),()),(a.1,a.2.1,a.2.2.1,a.2.2.2.1,a.2.2.2.2.1,a.2.2.2.2.2.1,c,(a.2.2.2.2.2.2.2.1.1,(List.append a.2.2.2.2.2.2.2.1.2.1 [g.1.1]),a.2.2.2.2.2.2.2.1.2.2),a.2.2.2.2.2.2.2.2),(),(),())) none) none)
def Fr:Lf:=fun x=>P7 Ac Yl x.1 x.2.1 x.2.2.1
abbrev Oh:Ce:=⟨[V58,V18],[(.ro false W79)]⟩
abbrev Adk:=(Re×Bdn×Unit)→Option Byh
def Tw(L:Ae)(i:We)(j:Aky)(k:Aht)(g:S7)(l:Lk)(m:Azk)(n:Ry)(o:C0)(p:Sl)(q:Lf)(r:Re)(b:Bdn):Option Byh:=((i (r,b,())).bind fun a=>Ah (!(decide (a.1.2.1=0))) (some (((0,a.1.2.1,(0,0,0,0,false,[0,0,0,0],[0,0,0,0],[0,0,0,0],[0,0,0,0],[0,0,0,0],()),[0,0,0,0],[0,0,0,0],0,[0,0,0,0],[0,0,0,0],[],()),()),a.2.1,(),())) ((j (b,a.2.1.2.2.1.2.2.2.1,a.2.1.2.2.2.2.1.1,a.2.1.2.1,())).bind fun c=>Ah (!(decide (c.1.2.1=0))) (some (((0,c.1.2.1,(0,0,0,0,false,[0,0,0,0],[0,0,0,0],[0,0,0,0],[0,0,0,0],[0,0,0,0],()),[0,0,0,0],[0,0,0,0],0,[0,0,0,0],[0,0,0,0],[],()),()),a.2.1,(),())) ((k (a.2.1.2.2.2.2.1,c.1.1.1,())).bind fun d=>Ah (!(decide (d.1.2.1=0))) (some (((0,4,(0,0,0,0,false,[0,0,0,0],[0,0,0,0],[0,0,0,0],[0,0,0,0],[0,0,0,0],()),[0,0,0,0],[0,0,0,0],0,[0,0,0,0],[0,0,0,0],[],()),()),a.2.1,(),())) ((g (a.2.1.2.2.2.2.2.1,b.1,3,c.1.1.2.2.2.2.2.2.1,())).bind fun s=>(g (s.2.1,b.1,2,c.1.1.2.2.2.2.2.2.2.1,())).bind fun t=>(g (t.2.1,b.1,1,c.1.1.2.2.2.2.2.2.2.2.1,())).bind fun u=>(g (u.2.1,b.1,4,c.1.1.2.2.2.2.2.2.2.2.2.1,())).bind fun v=>(l (v.2.1,b.1,())).bind fun e=>(m (a.2.1.2.2.2.1,c.1.1.2.2.1,())).bind fun f=>Ah c.1.1.2.2.2.2.1 (some (((0,0,c.1.1,a.1.1,[0,0,0,0],0,[0,0,0,0],[0,0,0,0],[],()),()),(a.2.1.1,a.2.1.2.1,(a.2.1.2.2.1.1,a.2.1.2.2.1.2.1,(IntKind.wrap .u64 (a.2.1.2.2.1.2.2.1+c.1.1.2.2.2.1)),a.2.1.2.2.1.2.2.2),f.1.1,d.1.1,e.2.1,a.2.1.2.2.2.2.2.2),(),())) (Ah (decide (b.2.2.1=b.1)) (some (((0,0,c.1.1,a.1.1,[0,0,0,0],0,[0,0,0,0],[0,0,0,0],[],()),()),(a.2.1.1,a.2.1.2.1,(a.2.1.2.2.1.1,a.2.1.2.2.1.2.1,(IntKind.wrap .u64 (a.2.1.2.2.1.2.2.1+c.1.1.2.2.2.1)),a.2.1.2.2.1.2.2.2),f.1.1,d.1.1,e.2.1,a.2.1.2.2.2.2.2.2),(),())) (Ah (!(decide (b.2.2.1=18446744073709551615))) ((n (e.2.1,b.1,b.2.2.1,b.2.2.2.1,())).bind fun w=>some (((0,0,c.1.1,a.1.1,b.2.2.2.1,0,[0,0,0,0],[0,0,0,0],[],()),()),(a.2.1.1,a.2.1.2.1,(a.2.1.2.2.1.1,a.2.1.2.2.1.2.1,(IntKind.wrap .u64 (a.2.1.2.2.1.2.2.1+c.1.1.2.2.2.1)),a.2.1.2.2.1.2.2.2),f.1.1,d.1.1,w.2.1,a.2.1.2.2.2.2.2.2),(),())) ((o (b.2.2.2.1,())).bind fun y=>Ah (!y.1.1) ((p (e.2.1,b.1,b.2.2.2.1,())).bind fun a0=>(q ((a.2.1.1,a.2.1.2.1,(a.2.1.2.2.1.1,a.2.1.2.2.1.2.1,(IntKind.wrap .u64 (a.2.1.2.2.1.2.2.1+c.1.1.2.2.2.1)),a.2.1.2.2.1.2.2.2),f.1.1,d.1.1,a0.2.1,a.2.1.2.2.2.2.2.2),b.1,b.2.2.2.1,())).bind fun h=>some (((0,0,c.1.1,a.1.1,b.2.2.2.1,0,[0,0,0,0],[0,0,0,0],[h.1.1],()),()),h.2.1,(),())) (some (((0,0,c.1.1,a.1.1,b.2.2.2.1,0,[0,0,0,0],[0,0,0,0],[],()),()),(a.2.1.1,a.2.1.2.1,(a.2.1.2.2.1.1,a.2.1.2.2.1.2.1,(IntKind.wrap .u64 (a.2.1.2.2.1.2.2.1+c.1.1.2.2.2.1)),a.2.1.2.2.1.2.2.2),f.1.1,d.1.1,e.2.1,a.2.1.2.2.2.2.2.2),(),())))))))))
def G1:Adk:=fun x=>Tw Ac Iz P1 Om Fo Dp Ach Fm Bd Fq Fr x.1 x.2.1
abbrev Jl:Ce:=⟨[V58,V8],[(.ro false W79)]⟩
abbrev Tp:=(Re×Y18×Unit)→Option Byh
def U7(g:If)(h:Lf)(i:(Re×Bvg×Y61×Bvg×Int×Unit)→Option Byh)(b:Re)(j:Bvg)(d:Y61)(a:Bvg)(c:Int):Option Byh:=(A2 (List.length d.2.2.1) fun e=>Ah (decide (c<((e:Nat):Int))) (Ah (B0 c e) ((g (b.2.2.2.2.2.1,3,(List.getD d.2.2.1 (Int.toNat c) (0,[0,0,0,0],())).2.1,())).bind fun k=>Ah (B0 c e) (Ah (B0 c e) ((h ((b.1,b.2.1,b.2.2.1,b.2.2.2.1,b.2.2.2.2.1,k.2.1,b.2.2.2.2.2.2),(List.getD d.2.2.1 (Int.toNat c) (0,[0,0,0,0],())).1,(List.getD d.2.2.1 (Int.toNat c) (0,[0,0,0,0],())).2.1,())).bind fun f=>Ah (A9 ((List.length a.2.2.2.2.2.2.2.2.1)+1) R9) (i (f.2.1,j,d,(a.1,a.2.1,a.2.2.1,a.2.2.2.1,a.2.2.2.2.1,a.2.2.2.2.2.1,a.2.2.2.2.2.2.1,a.2.2.2.2.2.2.2.1,(List.append a.2.2.2.2.2.2.2.2.1 [f.1.1]),a.2.2.2.2.2.2.2.2.2),(IntKind.wrap .i64 (c+1)),())) none) none) none) none) (some ((a,()),b,(),())))
def M5(L:Ae)(d:Zy)(e:An9)(f:Aqu)(g:If)(h:Lf)(a:Re)(i:Y18):Option Byh:=((d (a.2.2.2.2.2.1,3,())).bind fun c=>(e (a.2.2.2.2.1,a.2.1,c.1.1,i,a.2.2.1.2.1,())).bind fun b=>Ah (!(decide (b.1.2.2.1=0))) (some (((0,b.1.2.2.1,(0,0,0,0,false,[0,0,0,0],[0,0,0,0],[0,0,0,0],[0,0,0,0],[0,0,0,0],()),[0,0,0,0],[0,0,0,0],0,[0,0,0,0],[0,0,0,0],[],()),()),(a.1,a.2.1,a.2.2.1,a.2.2.2.1,a.2.2.2.2.1,c.2.1,a.2.2.2.2.2.2),(),())) ((f (b.1.2.1.2.2.1,())).bind fun j=>L _ _ (fun z x=>U7 g h z x.1 x.2.1 x.2.2.1 x.2.2.2.1 x.2.2.2.2.1) ((a.1,a.2.1,a.2.2.1,a.2.2.2.1,b.1.1,c.2.1,a.2.2.2.2.2.2),(0,0,(0,0,0,0,false,[0,0,0,0],[0,0,0,0],[0,0,0,0],[0,0,0,0],[0,0,0,0],()),[0,0,0,0],[0,0,0,0],0,[0,0,0,0],[0,0,0,0],[],()),b.1.2.1,(0,0,(0,0,0,0,false,[0,0,0,0],[0,0,0,0],[0,0,0,0],[0,0,0,0],[0,0,0,0],()),[0,0,0,0],[0,0,0,0],b.1.2.1.1,b.1.2.1.2.1,j.1.1,[],()),0,())))
def Es:Tp:=fun x=>M5 Ac Jw Sr Q1 D8 Fr x.1 x.2.1
abbrev Kj:Ce:=⟨[V58,(.ro false W92)],[Bv]⟩
abbrev Wq:=(Re×Bbk×Unit)→Option Cq7
def O0(L:Ae)(j:Arh)(k:Av1)(l:Azp)(m:Agc)(n:C0)(f:As)(o:Cc)(p:Pp)(q:Ui)(r:Aas)(s:Zj)(a:Re)(b:Bbk):Option Cq7:=(Ah (decide (b.1=3)) ((j (a.2.2.2.1,a.2.1.1,b.2.2.2.1,())).bind fun g=>(k (a.2.2.1,b.2.2.2.1,g.1.1,a.2.1,())).bind fun c=>Ah (decide (c.1.2.1=0)) (some ((c.1.2.1,()),(a.1,a.2.1,c.1.1,g.1.1,a.2.2.2.2),(),())) (some ((c.1.2.1,()),a,(),()))) (Ah (decide (b.1=4)) ((l (a.2.1,b.2.2.2.2.1,b.2.2.2.2.2.1,())).bind fun d=>Ah (decide (d.1.2.1=0)) (some ((d.1.2.1,()),(a.1,d.1.1,a.2.2),(),())) (some ((d.1.2.1,()),a,(),()))) (Ah (decide (b.1=5)) ((m (a.2.2.2.2.1,b.2.2.2.2.2.2.1,())).bind fun e=>Ah (decide (e.1.2.1=0)) (some ((e.1.2.1,()),(a.1,a.2.1,a.2.2.1,a.2.2.2.1,e.1.1,a.2.2.2.2.2),(),())) (some ((e.1.2.1,()),a,(),()))) (Ah (decide (b.1=6)) (Ah (decide (b.2.2.2.2.2.2.1=0)) (some ((2,()),a,(),())) (Ah (decide (b.2.2.2.2.2.2.1=18446744073709551615)) (some ((2,()),a,(),())) ((n (b.2.2.2.2.2.1,())).bind fun t=>Ah t.1.1 (some ((2,()),a,(),())) ((f (a.2.2.2.2.2.2.2.1.1,())).bind fun u=>(f (b.2.2.2.2.2.1,())).bind fun v=>(o (u.1.1,v.1.1,())).bind fun w=>(p (w.1.1,())).bind fun y=>Ah (!y.1.1) (some ((4,()),a,(),())) ((q (a.2.2.2.2.2.2.2.1,b.2.2.2.2.2.1,())).bind fun a0=>(r (a.2.2.2.2.2.1,b.2.2.2.2.2.2.1,b.2.2.2.2.2.1,())).bind fun h=>some ((h.1.1,()),(a.1,a.2.1,a.2.2.1,a.2.2.2.1,a.2.2.2.2.1,h.2.1,a.2.2.2.2.2.2.1,a0.2.1,a.2.2.2.2.2.2.2.2),(),())))))) ((s (a.2.2.2.2.2.2.2.1,b.2.2.2.2.2.2.2.1,())).bind fun i=>some ((i.1.1,()),(a.1,a.2.1,a.2.2.1,a.2.2.2.1,a.2.2.2.2.1,a.2.2.2.2.2.1,a.2.2.2.2.2.2.1,i.2.1,a.2.2.2.2.2.2.2.2),(),()))))))
def Fd:Wq:=fun x=>O0 Ac Uq Zm Ab9 Mp Bd Ai A7 Dx Ic Hx Jv x.1 x.2.1
abbrev Ix:Ce:=⟨[V58,(.ro false W92)],[(.ro false W79)]⟩
abbrev I1:=(Re×Bbk×Unit)→Option Byh
def Lx(L:Ae)(d:Ae6)(e:Adk)(f:Tp)(g:Wq)(b:Re)(a:Bbk):Option Byh:=(A2 (IntKind.wrap .u64 (b.1+1)) fun c=>Ah (!(decide (c=0))) ((d (a.1,())).bind fun n=>Ah (!n.1.1) (some (((0,17,(0,0,0,0,false,[0,0,0,0],[0,0,0,0],[0,0,0,0],[0,0,0,0],[0,0,0,0],()),[0,0,0,0],[0,0,0,0],0,[0,0,0,0],[0,0,0,0],[],()),()),(c,b.2),(),())) (Ah (decide (a.1=1)) ((e ((c,b.2),a.2.1,())).bind fun h=>some (((a.1,h.1.1.2),()),h.2.1,(),())) (Ah (decide (a.1=2)) ((f ((c,b.2),a.2.2.1,())).bind fun i=>some (((a.1,i.1.1.2),()),i.2.1,(),())) ((g ((c,b.2),a,())).bind fun j=>some (((a.1,j.1.1,(0,0,0,0,false,[0,0,0,0],[0,0,0,0],[0,0,0,0],[0,0,0,0],[0,0,0,0],()),[0,0,0,0],[0,0,0,0],0,[0,0,0,0],[0,0,0,0],[],()),()),j.2.1,(),()))))) ((d (a.1,())).bind fun o=>Ah (!o.1.1) (some (((0,17,(0,0,0,0,false,[0,0,0,0],[0,0,0,0],[0,0,0,0],[0,0,0,0],[0,0,0,0],()),[0,0,0,0],[0,0,0,0],0,[0,0,0,0],[0,0,0,0],[],()),()),b,(),())) (Ah (decide (a.1=1)) ((e (b,a.2.1,())).bind fun k=>some (((a.1,k.1.1.2),()),k.2.1,(),())) (Ah (decide (a.1=2)) ((f (b,a.2.2.1,())).bind fun l=>some (((a.1,l.1.1.2),()),l.2.1,(),())) ((g (b,a,())).bind fun m=>some (((a.1,m.1.1,(0,0,0,0,false,[0,0,0,0],[0,0,0,0],[0,0,0,0],[0,0,0,0],[0,0,0,0],()),[0,0,0,0],[0,0,0,0],0,[0,0,0,0],[0,0,0,0],[],()),()),m.2.1,(),()))))))
def Fp:I1:=fun x=>Lx Ac Jx G1 Es Fd x.1 x.2.1
abbrev Gd:Ce:=⟨[V58],[V20]⟩
abbrev Ox:=(Re×Unit)→Option Ck8
def Xa(d:Jf)(e:(Re×Db×Db×Int×Unit)→Option Ck8)(b:Re)(f:Db)(a:Db)(c:Int):Option Ck8:=(Ah (decide (c<(List.length b.2.2.2.2.2.2.1:Int))) ((d (b.2.2.2.2.2.2.2.1,(IntKind.wrap .u64 c),())).bind fun g=>Ah (A9 ((List.length a.2.2.2.2.2.2.2.2.1)+1) (Ty.bool)) (e (b,f,(a.1,a.2.1,a.2.2.1,a.2.2.2.1,a.2.2.2.2.1,a.2.2.2.2.2.1,a.2.2.2.2.2.2.1,a.2.2.2.2.2.2.2.1,(List.append a.2.2.2.2.2.2.2.2.1 [g.1.1]),a.2.2.2.2.2.2.2.2.2),(IntKind.wrap .i64 (c+1)),())) none) (some ((a,()),b,())))
def Oz(L:Ae)(b:Ss)(c:Pa)(d:Jf)(a:Re):Option Ck8:=((b (a.2.2.2.2.2.1,())).bind fun e=>Ah (A9 (0+(List.length a.2.2.2.2.2.2.1)) R9) ((c (a.2.2.2.2.2.2.2.1,())).bind fun f=>Ah (A9 (0+(List.length a.2.2.2.2.1.2.2.2.2.2.1)) D9) (L _ _ (fun z x=>Xa d z x.1 x.2.1 x.2.2.1 x.2.2.2.1) (a,(0,(0,0,0,[0,0,0,0],0,[0,0,0,0],0,[0,0,0,0],0,0,0,0,()),(0,0,0,[0,0,0,0],()),0,([0,0,0,0],0,0,0,(false,[0,0,0,0],()),[],()),[],[[0,0,0,0],[0,0,0,0],[0,0,0,0],[0,0,0,0]],[],[],[0,0,0,0],[],()),(a.1,a.2.1,a.2.2.1,a.2.2.2.1,a.2.2.2.2.1,e.1.1,a.2.2.2.2.2.1.2.1,a.2.2.2.2.2.2.1,[],a.2.2.2.2.2.2.2.1.1,f.1.1,()),0,())) none) none)
def Fe:Ox:=fun x=>Oz Ac Hf Gh Er x.1
set_option maxRecDepth 100000
abbrev T0:Ce:=⟨[Bv,Bv],[Bv]⟩
abbrev Ahi:=Y3→Option Y56
def Au9(L:Ae)(b:Int)(a:Int):Option Y56:=(Ah (decide ((IntKind.wrap .u64 a)≠0)) (some (((IntKind.wrap .i64 (Int.tmod (IntKind.wrap .u64 b) (IntKind.wrap .u64 a))),()),(),(),())) none)
def M6:Ahi:=fun x=>Au9 Ac x.1 x.2.1
abbrev Pj:Ce:=⟨[V3,V3],[V25]⟩
abbrev Afe:=Y39→Option Y58
def Af3(L:Ae)(a:(List Int))(b:(List Int)):Option Y58:=(some (((eqD (Ty.str) a b),()),(),(),()))
def Jz:Afe:=fun x=>Af3 Ac x.1 x.2.1
abbrev Abt:Ce:=⟨[Bv],[(.ro true W3)]⟩
abbrev Asf:=(Int×Unit)→Option Y6
def Alu(e:(Int×(List Int)×(List Int)×Int×Unit)→Option Y6)(b:Int)(f:(List Int))(c:(List Int))(a:Int):Option Y6:=(A2 (IntKind.wrap .u64 (IntKind.wrap .i64 (8*a))) fun d=>Ah (decide (a<8)) (Ah (decide (0≤d)) (Ah (B0 a 32) (e (b,f,(List.set c (Int.toNat a) (IntKind.wrap .u8 (Int.fdiv (IntKind.wrap .u64 b) (2 ^ (min (Int.toNat d) 64))))),(IntKind.wrap .i64 (a+1)),())) none) none) (some ((c,()),(),())))
def Ai3(L:Ae)(a:Int):Option Y6:=(L _ _ (fun z x=>Alu z x.1 x.2.1 x.2.2.1 x.2.2.2.1) (a,(List.replicate 32 0),(List.replicate 32 0),0,()))
def Uu:Asf:=fun x=>Ai3 Ac x.1
abbrev Zs:Ce:=⟨[Bv,J1,V25],[(.ro true W92)]⟩
abbrev An4:=(Int×Int×Bool×Unit)→Option Cqe
def Afs(L:Ae)(a:Int)(c:Int)(d:Bool):Option Cqe:=(A2 [(IntKind.wrap .u64 (4503599627370496+(IntKind.wrap .u64 (Int.tmod a 100000)))),0,0,0] fun b=>Ah (decide ((Int.tmod a 13)=5)) (some (((6,(0,0,0,[0,0,0,0],0,[0,0,0,0],[0,0,0,0],0,[],()),(0,0,[0,0,0,0],()),0,0,b,9,(0,0,0,[0,0,0,0],[],()),()),()),(),(),(),())) (Ah (decide ((Int.tmod a 31)=6)) (some (((6,(0,0,0,[0,0,0,0],0,[0,0,0,0],[0,0,0,0],0,[],()),(0,0,[0,0,0,0],()),0,0,b,0,(0,0,0,[0,0,0,0],[],()),()),()),(),(),(),())) (Ah (decide ((Int.tmod a 37)=7)) (some (((6,(0,0,0,[0,0,0,0],0,[0,0,0,0],[0,0,0,0],0,[],()),(0,0,[0,0,0,0],()),0,0,b,18446744073709551615,(0,0,0,[0,0,0,0],[],()),()),()),(),(),(),())) (Ah (decide ((Int.tmod a 11)=3)) (some (((6,(0,0,0,[0,0,0,0],0,[0,0,0,0],[0,0,0,0],0,[],()),(0,0,[0,0,0,0],()),0,0,[(IntKind.wrap .u64 (Int.tmod a 50)),0,0,0],c,(0,0,0,[0,0,0,0],[],()),()),()),(),(),(),())) (Ah (decide ((Int.tmod a 61)=8)) (Ah (!d) (some (((6,(0,0,0,[0,0,0,0],0,[0,0,0,0],[0,0,0,0],0,[],()),(0,0,[0,0,0,0],()),0,0,[0,0,0,4611686018427387904],c,(0,0,0,[0,0,0,0],[],()),()),()),(),(),(),())) (some (((6,(0,0,0,[0,0,0,0],0,[0,0,0,0],[0,0,0,0],0,[],()),(0,0,[0,0,0,0],()),0,0,b,c,(0,0,0,[0,0,0,0],[],()),()),()),(),(),(),()))) (some (((6,(0,0,0,[0,0,0,0],0,[0,0,0,0],[0,0,0,0],0,[],()),(0,0,[0,0,0,0],()),0,0,b,c,(0,0,0,[0,0,0,0],[],()),()),()),(),(),(),())))))))
def K3:An4:=fun x=>Afs Ac x.1 x.2.1 x.2.2.1
abbrev Abz:Ce:=⟨[Bv,V58],[V8]⟩
abbrev Ar2:=(Int×Re×Unit)→Option Cra
def Aio(L:Ae)(a:Int)(b:Re):Option Cra:=(A2 (IntKind.wrap .u64 (5+(IntKind.wrap .u64 (Int.tmod a 3)))) fun c=>A2 (IntKind.wrap .u64 (b.2.2.2.2.1.2.2.1+(Int.tmod (IntKind.wrap .u64 (IntKind.wrap .i64 (Int.tdiv a 3))) 1099511627778))) fun d=>A2 (IntKind.wrap .u64 (b.2.2.1.2.1-b.2.2.2.2.1.2.2.1)) fun f=>A2 (IntKind.wrap .u64 (f+2)) fun g=>A2 (IntKind.wrap .u64 (b.2.2.2.2.1.2.2.1+(Int.tmod (IntKind.wrap .u64 (IntKind.wrap .i64 (Int.tdiv a 3))) g))) fun e=>Ah (decide (1099511627776<f)) (Ah (decide ((Int.tmod a 19)=4)) (some (((c,d,[0,0,1,0],()),()),(),b,())) (Ah (decide ((Int.tmod a 23)=5)) (some (((c,(IntKind.wrap .u64 (Int.tmod a 100)),[(IntKind.wrap .u64 ((IntKind.wrap .u64 (Int.tmod (IntKind.wrap .i64 (Int.tdiv a 9)) 5000))*20000000)),0,0,0],()),()),(),b,())) (Ah (decide ((Int.tmod a 29)=6)) (some (((c,d,[0,(IntKind.wrap .u64 (Int.tmod a 1000)),0,0],()),()),(),b,())) (some (((c,d,[(IntKind.wrap .u64 ((IntKind.wrap .u64 (Int.tmod (IntKind.wrap .i64 (Int.tdiv a 9)) 5000))*20000000)),0,0,0],()),()),(),b,()))))) (Ah (decide (g≠0)) (Ah (decide ((Int.tmod a 19)=4)) (some (((c,e,[0,0,1,0],()),()),(),b,())) (Ah (decide ((Int.tmod a 23)=5)) (some (((c,(IntKind.wrap .u64 (Int.tmod a 100)),[(IntKind.wrap .u64 ((IntKind.wrap .u64 (Int.tmod (IntKind.wrap .i64 (Int.tdiv a 9)) 5000))*20000000)),0,0,0],()),()),(),b,())) (Ah (decide ((Int.tmod a 29)=6)) (some (((c,e,[0,(IntKind.wrap .u64 (Int.tmod a 1000)),0,0],()),()),(),b,())) (some (((c,e,[(IntKind.wrap .u64 ((IntKind.wrap .u64 (Int.tmod (IntKind.wrap .i64 (Int.tdiv a 9)) 5000))*20000000)),0,0,0],()),()),(),b,()))))) none))
def L4:Ar2:=fun x=>Aio Ac x.1 x.2.1
abbrev Aek:Ce:=⟨[Bv],[(.ro true W92)]⟩
abbrev Awj:=(Int×Unit)→Option Cpt
def Am2(L:Ae)(a:Int):Option Cpt:=(A2 (Int.tmod (IntKind.wrap .u64 (IntKind.wrap .i64 (Int.tdiv a 12))) 1000000000) fun b=>A2 (IntKind.wrap .i64 ((Int.tmod a 12)+1)) fun c=>Ah (B0 (Int.tmod a 12) 12) (Ah (decide ((Int.tmod a 17)=3)) (Ah (decide ((Int.tmod a 31)=4)) (some (((4,(0,0,0,[0,0,0,0],0,[0,0,0,0],[0,0,0,0],0,[],()),(0,0,[0,0,0,0],()),0,(Int.tmod a 40),[0,0,0,0],0,(0,0,0,[0,0,0,0],[],()),()),()),(),())) (some (((4,(0,0,0,[0,0,0,0],0,[0,0,0,0],[0,0,0,0],0,[],()),(0,0,[0,0,0,0],()),0,c,[0,0,0,0],0,(0,0,0,[0,0,0,0],[],()),()),()),(),()))) (Ah (decide ((Int.tmod a 31)=4)) (some (((4,(0,0,0,[0,0,0,0],0,[0,0,0,0],[0,0,0,0],0,[],()),(0,0,[0,0,0,0],()),0,(Int.tmod a 40),[(List.getD [(IntKind.wrap .u64 (1000000+(Int.tmod (IntKind.wrap .u64 (IntKind.wrap .i64 (Int.tdiv a 12))) 10000000))),(Int.tmod (IntKind.wrap .u64 (IntKind.wrap .i64 (Int.tdiv a 12))) 20),(IntKind.wrap .u64 (1+(Int.tmod (IntKind.wrap .u64 (IntKind.wrap .i64 (Int.tdiv a 12))) 200))),(IntKind.wrap .u64 (10000000+b)),(IntKind.wrap .u64 (1000000+(Int.tmod (IntKind.wrap .u64 (IntKind.wrap .i64 (Int.tdiv a 12))) 100000000))),(Int.tmod (IntKind.wrap .u64 (IntKind.wrap .i64 (Int.tdiv a 12))) 200000000),(Int.tmod (IntKind.wrap .u64 (IntKind.wrap .i64 (Int.tdiv a 12))) 10300),(Int.tmod (IntKind.wrap .u64 (IntKind.wrap .i64 (Int.tdiv a 12))) 1000),(IntKind.wrap .u64 (1000+b)),(IntKind.wrap .u64 (1+(Int.tmod (IntKind.wrap .u64 (IntKind.wrap .i64 (Int.tdiv a 12))) 100))),(Int.tmod (IntKind.wrap .u64 (IntKind.wrap .i64 (Int.tdiv a 12))) 250),(IntKind.wrap .u64 (200+(Int.tmod (IntKind.wrap .u64 (IntKind.wrap .i64 (Int.tdiv a 12))) 100000)))] (Int.toNat (Int.tmod a 12)) 0),0,0,0],0,(0,0,0,[0,0,0,0],[],()),()),()),(),())) (some (((4,(0,0,0,[0,0,0,0],0,[0,0,0,0],[0,0,0,0],0,[],()),(0,0,[0,0,0,0],()),0,c,[(List.getD [(IntKind.wrap .u64 (1000000+(Int.tmod (IntKind.wrap .u64 (IntKind.wrap .i64 (Int.tdiv a 12))) 10000000))),(Int.tmod (IntKind.wrap .u64 (IntKind.wrap .i64 (Int.tdiv a 12))) 20),(IntKind.wrap .u64 (1+(Int.tmod (IntKind.wrap .u64 (IntKind.wrap .i64 (Int.tdiv a 12))) 200))),(IntKind.wrap .u64 (10000000+b)),(IntKind.wrap .u64 (1000000+(Int.tmod (IntKind.wrap .u64 (IntKind.wrap .i64 (Int.tdiv a 12))) 100000000))),(Int.tmod (IntKind.wrap .u64 (IntKind.wrap .i64 (Int.tdiv a 12))) 200000000),(Int.tmod (IntKind.wrap .u64 (IntKind.wrap .i64 (Int.tdiv a 12))) 10300),(Int.tmod (IntKind.wrap .u64 (IntKind.wrap .i64 (Int.tdiv a 12))) 1000),(IntKind.wrap .u64 (1000+b)),(IntKind.wrap .u64 (1+(Int.tmod (IntKind.wrap .u64 (IntKind.wrap .i64 (Int.tdiv a 12))) 100))),(Int.tmod (IntKind.wrap .u64 (IntKind.wrap .i64 (Int.tdiv a 12))) 250),(IntKind.wrap .u64 (200+(Int.tmod (IntKind.wrap .u64 (IntKind.wrap .i64 (Int.tdiv a 12))) 100000)))] (Int.toNat (Int.tmod a 12)) 0),0,0,0],0,(0,0,0,[0,0,0,0],[],()),()),()),(),())))) none)
def Ns:Awj:=fun x=>Am2 Ac x.1
abbrev Afr:Ce:=⟨[Bv,V58],[(.ro true W67)]⟩
abbrev Awk:=(Int×Re×Unit)→Option Cpm
def Amo(L:Ae)(n:Asy)(j:As)(o:Cj)(p:Cc)(q:Aiu)(r:Zu)(s:B2)(t:Asf)(b:Int)(a:Re):Option Cpm:=(A2 (Int.tmod (IntKind.wrap .i64 (Int.tdiv b 3)) 12) fun g=>A2 (List.length a.2.2.2.2.2.2.1) fun i=>A2 ((i:Nat):Int) fun e=>A2 (Int.tmod b e) fun c=>A2 (IntKind.wrap .u64 c) fun f=>A2 (IntKind.wrap .i64 (e+3)) fun k=>A2 (IntKind.wrap .i64 (e-c)) fun l=>A2 (IntKind.wrap .i64 ((IntKind.wrap .i64 (c+1))+(Int.tmod (IntKind.wrap .i64 (Int.tdiv b 7)) l))) fun m=>A2 (IntKind.wrap .u64 m) fun h=>Ah (decide (e=0)) (some ((((IntKind.wrap .u64 (Int.tmod b 3)),(IntKind.wrap .u64 (Int.tmod b 2)),5,[1,0,0,0],[],()),()),(),a,())) (Ah (decide (e≠0)) (Ah (decide (l≠0)) ((n (a.2.2.2.2.2.2.1,c,m,())).bind fun d=>Ah (B0 c i) (Ah (B0 c i) (Ah (decide (g=0)) ((j ((List.getD a.2.2.2.2.2.2.1 (Int.toNat (Int.tmod b (List.length a.2.2.2.2.2.2.1:Int))) (0,0,[0,0,0,0],())).2.2.1,())).bind fun u=>(o (1,())).bind fun v=>(p (u.1.1,v.1.1,())).bind fun w=>(q ()).bind fun y=>(j (y.1.1,())).bind fun a0=>(r (w.1.1,a0.1.1,())).bind fun a1=>(s (a1.1.1,())).bind fun a2=>some (((f,h,(List.getD a.2.2.2.2.2.2.1 (Int.toNat (Int.tmod b (List.length a.2.2.2.2.2.2.1:Int))) (0,0,[0,0,0,0],())).2.1,a2.1.1,d.1.1,()),()),(),a,())) (Ah (decide (g=1)) (some (((f,h,(IntKind.wrap .u64 ((List.getD a.2.2.2.2.2.2.1 (Int.toNat (Int.tmod b (List.length a.2.2.2.2.2.2.1:Int))) (0,0,[0,0,0,0],())).2.1+1)),(List.getD a.2.2.2.2.2.2.1 (Int.toNat (Int.tmod b (List.length a.2.2.2.2.2.2.1:Int))) (0,0,[0,0,0,0],())).2.2.1,d.1.1,()),()),(),a,())) (Ah (decide (g=2)) ((t (b,())).bind fun a3=>Ah (A9 ((List.length d.1.1)+1) (Ty.arr 32 (Ty.int IntKind.u8))) (some (((f,h,(List.getD a.2.2.2.2.2.2.1 (Int.toNat (Int.tmod b (List.length a.2.2.2.2.2.2.1:Int))) (0,0,[0,0,0,0],())).2.1,(List.getD a.2.2.2.2.2.2.1 (Int.toNat (Int.tmod b (List.length a.2.2.2.2.2.2.1:Int))) (0,0,[0,0,0,0],())).2.2.1,(List.append d.1.1 [a3.1.1]),()),()),(),a,())) none) (Ah (decide (g=3)) (Ah (decide (k≠0)) (some (((f,(IntKind.wrap .u64 (Int.tmod b k)),(List.getD a.2.2.2.2.2.2.1 (Int.toNat (Int.tmod b (List.length a.2.2.2.2.2.2.1:Int))) (0,0,[0,0,0,0],())).2.1,(List.getD a.2.2.2.2.2.2.1 (Int.toNat (Int.tmod b (List.length a.2.2.2.2.2.2.1:Int))) (0,0,[0,0,0,0],())).2.2.1,d.1.1,()),()),(),a,())) none) (some (((f,h,(List.getD a.2.2.2.2.2.2.1 (Int.toNat (Int.tmod b (List.length a.2.2.2.2.2.2.1:Int))) (0,0,[0,0,0,0],())).2.1,(List.getD a.2.2.2.2.2.2.1 (Int.toNat (Int.tmod b (List.length a.2.2.2.2.2.2.1:Int))) (0,0,[0,0,0,0],())).2.2.1,d.1.1,()),()),(),a,())))))) none) none) none) none))
def On:Awk:=fun x=>Amo Ac Ux Ai A1 A7 Me G8 Ay Uu x.1 x.2.1
abbrev Jk:Ce:=⟨[V4],[V32]⟩
abbrev Uh:=Y4→Option Y6
def Ih(g:Y64→Option Y6)(h:Y93→Option Y6)(b:(List Int))(a:(List Int))(c:Int)(d:Int)(e:Int)(f:Int):Option Y6:=(Ah (decide (f<e)) (Ah (A9 ((List.length a)+1) (Ty.int IntKind.u8)) (h (b,(List.append a [(IntKind.wrap .u8 (IntKind.wrap .i64 (97+(Int.tmod (IntKind.wrap .i64 (Int.tdiv d 256)) 3))))]),c,d,e,(IntKind.wrap .i64 (f+1)),())) none) (g (b,a,(IntKind.wrap .i64 (c+1)),())))
def Be(f:Y64→Option Y6)(h:Y93→Option Y6)(d:(List Int))(a:(List Int))(e:Int)(g:Int)(c:Int)(b:Int):Option Y6:=(Ah (decide (b<g)) (Ah (decide ((IntKind.wrap .i64 (c+b))<(List.length a:Int))) (Ah (B0 (IntKind.wrap .i64 (c+b)) (List.length a)) (Ah (A9 ((List.length a)+1) (Ty.int IntKind.u8)) (h (d,(List.append a [(List.getD a (Int.toNat (IntKind.wrap .i64 (c+b))) 0)]),e,g,c,(IntKind.wrap .i64 (b+1)),())) none) none) (f (d,a,(IntKind.wrap .i64 (e+1)),()))) (f (d,a,(IntKind.wrap .i64 (e+1)),())))
def Cz(g:Y64→Option Y6)(h:Y93→Option Y6)(d:(List Int))(b:(List Int))(e:Int)(c:Int)(f:Int)(a:Int):Option Y6:=(Ah (decide (a<f)) (Ah (decide (0≤(IntKind.wrap .u64 (Int.tmod a 12)))) (Ah (A9 ((List.length b)+1) (Ty.int IntKind.u8)) (h (d,(List.append b [(IntKind.wrap .u8 (IntKind.wrap .i64 ((Int.fdiv c (2 ^ (min (Int.toNat (IntKind.wrap .u64 (Int.tmod a 12))) 64)))+(IntKind.wrap .i64 (a*c)))))]),e,c,f,(IntKind.wrap .i64 (a+1)),())) none) none) (g (d,b,(IntKind.wrap .i64 (e+1)),())))
def Vm(L:Ae)(h:Ahi)(d:Y64→Option Y6)(b:(List Int))(a:(List Int))(c:Int):Option Y6:=(Ah (decide (c<(List.length b:Int))) (Ah (B0 c (List.length b)) ((h ((List.getD b (Int.toNat c) 0),1048576,())).bind fun f=>A2 (Int.tmod f.1.1 8) fun g=>A2 (IntKind.wrap .i64 (1+(Int.tmod (IntKind.wrap .i64 (Int.tdiv f.1.1 8)) 24))) fun e=>Ah (decide (g=0)) (Ah (decide (g=0)) (L _ _ (fun z x=>Ih d z x.1 x.2.1 x.2.2.1 x.2.2.2.1 x.2.2.2.2.1 x.2.2.2.2.2.1) (b,a,c,f.1.1,e,0,())) (Ah (decide (g=2)) (Ah (decide (g=2)) (Ah (decide ((List.length a:Int)>0)) (Ah (decide ((List.length a:Int)≠0)) (L _ _ (fun z x=>Be d z x.1 x.2.1 x.2.2.1 x.2.2.2.1 x.2.2.2.2.1 x.2.2.2.2.2.1) (b,a,c,e,(Int.tmod (IntKind.wrap .i64 (Int.tdiv f.1.1 64)) (List.length a:Int)),0,())) none) (L _ _ (fun z x=>Be d z x.1 x.2.1 x.2.2.1 x.2.2.2.1 x.2.2.2.2.1 x.2.2.2.2.2.1) (b,a,c,e,0,0,()))) (L _ _ (fun z x=>Cz d z x.1 x.2.1 x.2.2.1 x.2.2.2.1 x.2.2.2.2.1 x.2.2.2.2.2.1) (b,a,c,f.1.1,e,0,()))) (Ah (decide (g=3)) (Ah (decide (g=3)) (Ah (decide ((List.length a:Int)>0)) (Ah (decide ((List.length a:Int)≠0)) (L _ _ (fun z x=>Be d z x.1 x.2.1 x.2.2.1 x.2.2.2.1 x.2.2.2.2.1 x.2.2.2.2.2.1) (b,a,c,e,(Int.tmod (IntKind.wrap .i64 (Int.tdiv f.1.1 64)) (List.length a:Int)),0,())) none) (L _ _ (fun z x=>Be d z x.1 x.2.1 x.2.2.1 x.2.2.2.1 x.2.2.2.2.1 x.2.2.2.2.2.1) (b,a,c,e,0,0,()))) (L _ _ (fun z x=>Cz d z x.1 x.2.1 x.2.2.1 x.2.2.2.1 x.2.2.2.2.1 x.2.2.2.2.2.1) (b,a,c,f.1.1,e,0,()))) (Ah (decide (g=4)) (Ah (decide ((List.length a:Int)>0)) (Ah (decide ((List.length a:Int)≠0)) (L _ _ (fun z x=>Be d z x.1 x.2.1 x.2.2.1 x.2.2.2.1 x.2.2.2.2.1 x.2.2.2.2.2.1) (b,a,c,e,(Int.tmod (IntKind.wrap .i64 (Int.tdiv f.1.1 64)) (List.length a:Int)),0,())) none) (L _ _ (fun z x=>Be d z x.1 x.2.1 x.2.2.1 x.2.2.2.1 x.2.2.2.2.1 x.2.2.2.2.2.1) (b,a,c,e,0,0,()))) (L _ _ (fun z x=>Cz d z x.1 x.2.1 x.2.2.1 x.2.2.2.1 x.2.2.2.2.1 x.2.2.2.2.2.1) (b,a,c,f.1.1,e,0,())))))) (Ah (decide (g=1)) (L _ _ (fun z x=>Ih d z x.1 x.2.1 x.2.2.1 x.2.2.2.1 x.2.2.2.2.1 x.2.2.2.2.2.1) (b,a,c,f.1.1,e,0,())) (Ah (decide (g=2)) (Ah (decide (g=2)) (Ah (decide ((List.length a:Int)>0)) (Ah (decide ((List.length a:Int)≠0)) (L _ _ (fun z x=>Be d z x.1 x.2.1 x.2.2.1 x.2.2.2.1 x.2.2.2.2.1 x.2.2.2.2.2.1) (b,a,c,e,(Int.tmod (IntKind.wrap .i64 (Int.tdiv f.1.1 64)) (List.length a:Int)),0,())) none) (L _ _ (fun z x=>Be d z x.1 x.2.1 x.2.2.1 x.2.2.2.1 x.2.2.2.2.1 x.2.2.2.2.2.1) (b,a,c,e,0,0,()))) (L _ _ (fun z x=>Cz d z x.1 x.2.1 x.2.2.1 x.2.2.2.1 x.2.2.2.2.1 x.2.2.2.2.2.1) (b,a,c,f.1.1,e,0,()))) (Ah (decide (g=3)) (Ah (decide (g=3)) (Ah (decide ((List.length a:Int)>0)) (Ah (decide ((List.length a:Int)≠0)) (L _ _ (fun z x=>Be d z x.1 x.2.1 x.2.2.1 x.2.2.2.1 x.2.2.2.2.1 x.2.2.2.2.2.1) (b,a,c,e,(Int.tmod (IntKind.wrap .i64 (Int.tdiv f.1.1 64)) (List.length a:Int)),0,())) none) (L _ _ (fun z x=>Be d z x.1 x.2.1 x.2.2.1 x.2.2.2.1 x.2.2.2.2.1 x.2.2.2.2.2.1) (b,a,c,e,0,0,()))) (L _ _ (fun z x=>Cz d z x.1 x.2.1 x.2.2.1 x.2.2.2.1 x.2.2.2.2.1 x.2.2.2.2.2.1) (b,a,c,f.1.1,e,0,()))) (Ah (decide (g=4)) (Ah (decide ((List.length a:Int)>0)) (Ah (decide ((List.length a:Int)≠0)) (L _ _ (fun z x=>Be d z x.1 x.2.1 x.2.2.1 x.2.2.2.1 x.2.2.2.2.1 x.2.2.2.2.2.1) (b,a,c,e,(Int.tmod (IntKind.wrap .i64 (Int.tdiv f.1.1 64)) (List.length a:Int)),0,())) none) (L _ _ (fun z x=>Be d z x.1 x.2.1 x.2.2.1 x.2.2.2.1 x.2.2.2.2.1 x.2.2.2.2.2.1) (b,a,c,e,0,0,()))) (L _ _ (fun z x=>Cz d z x.1 x.2.1 x.2.2.1 x.2.2.2.1 x.2.2.2.2.1 x.2.2.2.2.2.1) (b,a,c,f.1.1,e,0,()))))))) none) (some ((a,()),(),())))
def Ms(L:Ae)(a:Ahi)(b:(List Int)):Option Y6:=(L _ _ (fun z x=>Vm L a z x.1 x.2.1 x.2.2.1) (b,[],0,()))
def H1:Uh:=fun x=>Ms Ac M6 x.1
abbrev N5:Ce:=⟨[Bv,J1,V58],[(.ro true W66)]⟩
abbrev Adh:=(Int×Int×Re×Unit)→Option Cq5
def T7(L:Ae)(n:Ik)(o:As)(p:Cj)(q:Js)(r:B2)(s:Uh)(m:Aiu)(b:Int)(d:Int)(a:Re):Option Cq5:=(A2 (Int.tmod (IntKind.wrap .i64 (Int.tdiv b 5)) 5) fun l=>A2 (IntKind.wrap .u64 ((IntKind.wrap .u64 (Int.tmod (IntKind.wrap .i64 (Int.tdiv b 11)) 50))*3000)) fun e=>A2 (IntKind.wrap .u64 (40000+(IntKind.wrap .u64 ((IntKind.wrap .u64 (Int.tmod (IntKind.wrap .i64 (Int.tdiv b 6000)) 64))*5000)))) fun j=>A2 [(IntKind.wrap .u64 ((IntKind.wrap .u64 (Int.tmod b 7))*100000)),0,0,0] fun g=>A2 (List.getD [1,2,3,4,9,18446744073709551615] (Int.toNat (Int.tmod b 6)) 0) fun h=>A2 [(IntKind.wrap .u64 ((IntKind.wrap .u64 (Int.tmod (IntKind.wrap .i64 (Int.tdiv b 6)) 1000))*1000003)),0,0,0] fun i=>(n (a.2.2.2.2.2.1,d,())).bind fun c=>Ah (B0 (Int.tmod b 6) 6) ((o (a.2.2.1.2.2.2.1,())).bind fun t=>(p ((IntKind.wrap .u64 (IntKind.wrap .i64 (1+(Int.tmod b 3)))),())).bind fun u=>(q (t.1.1,u.1.1,())).bind fun v=>(r (v.1.1,())).bind fun k=>Ah ((decide (0≤l))&&(decide (l≤4))) ((s ((List.take ((Int.toNat l)-0) (List.drop 0 [b,(IntKind.wrap .i64 (Int.tdiv b 3)),(IntKind.wrap .i64 (Int.tdiv b 7)),(IntKind.wrap .i64 (Int.tdiv b 11))])),())).bind fun f=>Ah (decide ((Int.tmod b 29)=1)) (some (((d,(IntKind.wrap .u64 (c.1.1.2.2.1+1)),h,i,j,k.1.1,g,e,f.1.1,()),()),(),(),(a.1,a.2.1,a.2.2.1,a.2.2.2.1,a.2.2.2.2.1,c.2.1,a.2.2.2.2.2.2),())) (Ah (decide ((Int.tmod b 31)=2)) (some (((d,c.1.1.2.2.1,h,[0,0,1,0],j,k.1.1,g,e,f.1.1,()),()),(),(),(a.1,a.2.1,a.2.2.1,a.2.2.2.1,a.2.2.2.2.1,c.2.1,a.2.2.2.2.2.2),())) (Ah (decide ((Int.tmod b 37)=3)) (some (((d,c.1.1.2.2.1,h,i,35184372088832,k.1.1,g,e,f.1.1,()),()),(),(),(a.1,a.2.1,a.2.2.1,a.2.2.2.1,a.2.2.2.2.1,c.2.1,a.2.2.2.2.2.2),())) (Ah (decide ((Int.tmod b 41)=4)) (some (((d,c.1.1.2.2.1,h,i,j,[1,0,0,0],g,e,f.1.1,()),()),(),(),(a.1,a.2.1,a.2.2.1,a.2.2.2.1,a.2.2.2.2.1,c.2.1,a.2.2.2.2.2.2),())) (Ah (decide ((Int.tmod b 43)=5)) (some (((d,c.1.1.2.2.1,0,i,j,k.1.1,g,e,f.1.1,()),()),(),(),(a.1,a.2.1,a.2.2.1,a.2.2.2.1,a.2.2.2.2.1,c.2.1,a.2.2.2.2.2.2),())) (Ah (decide ((Int.tmod b 47)=6)) ((m ()).bind fun w=>(m ()).bind fun y=>some (((d,c.1.1.2.2.1,h,i,j,y.1.1,w.1.1,e,f.1.1,()),()),(),(),(a.1,a.2.1,a.2.2.1,a.2.2.2.1,a.2.2.2.2.1,c.2.1,a.2.2.2.2.2.2),())) (Ah (decide ((Int.tmod b 53)=7)) (some (((d,c.1.1.2.2.1,h,i,(IntKind.wrap .u64 (Int.tmod b 300)),k.1.1,g,e,f.1.1,()),()),(),(),(a.1,a.2.1,a.2.2.1,a.2.2.2.1,a.2.2.2.2.1,c.2.1,a.2.2.2.2.2.2),())) (some (((d,c.1.1.2.2.1,h,i,j,k.1.1,g,e,f.1.1,()),()),(),(),(a.1,a.2.1,a.2.2.1,a.2.2.2.1,a.2.2.2.2.1,c.2.1,a.2.2.2.2.2.2),()))))))))) none) none)
def G3:Adh:=fun x=>T7 Ac Cm Ai A1 Ci Ay H1 Me x.1 x.2.1 x.2.2.1
abbrev Vf:Ce:=⟨[Bv,V58,V25],[(.ro true W92)]⟩
abbrev U6:=(Int×Re×Bool×Unit)→Option Cph
def Ac6(L:Ae)(a7:Ahi)(j:An4)(g:Ar2)(h:Awj)(e:Awk)(f:Adh)(a8:Int)(b:Re)(k:Bool):Option Cph:=((a7 (a8,4611686018427387904,())).bind fun i=>A2 (Int.tmod i.1.1 16) fun c=>A2 (IntKind.wrap .i64 (Int.tdiv i.1.1 64)) fun a=>A2 (IntKind.wrap .u64 (IntKind.wrap .i64 (1+(Int.tmod (IntKind.wrap .i64 (Int.tdiv i.1.1 16)) 4)))) fun d=>Ah (decide (c=0)) (Ah (decide (c=0)) ((j (a,d,k,())).bind fun a9=>some ((a9.1.1,()),(),b,(),())) (Ah (decide (c=8)) (Ah (decide (c=8)) ((g (a,b,())).bind fun l=>some (((2,(0,0,0,[0,0,0,0],0,[0,0,0,0],[0,0,0,0],0,[],()),l.1.1,0,0,[0,0,0,0],0,(0,0,0,[0,0,0,0],[],()),()),()),(),l.2.2.1,(),())) (Ah (decide (c=10)) (Ah (decide ((Int.tmod a 5)=0)) (some (((3,(0,0,0,[0,0,0,0],0,[0,0,0,0],[0,0,0,0],0,[],()),(0,0,[0,0,0,0],()),(IntKind.wrap .u64 (Int.tmod a 3000)),0,[0,0,0,0],0,(0,0,0,[0,0,0,0],[],()),()),()),(),b,(),())) (some (((3,(0,0,0,[0,0,0,0],0,[0,0,0,0],[0,0,0,0],0,[],()),(0,0,[0,0,0,0],()),(IntKind.wrap .u64 (IntKind.wrap .i64 (1+(Int.tmod a 30)))),0,[0,0,0,0],0,(0,0,0,[0,0,0,0],[],()),()),()),(),b,(),()))) (Ah (decide (c=11)) ((h (a,())).bind fun b0=>some ((b0.1.1,()),(),b,(),())) (Ah (decide (c=12)) (Ah (decide ((Int.tmod a 13)=0)) (some (((5,(0,0,0,[0,0,0,0],0,[0,0,0,0],[0,0,0,0],0,[],()),(0,0,[0,0,0,0],()),0,0,[0,0,0,0],(IntKind.wrap .u64 (Int.tmod a 9)),(0,0,0,[0,0,0,0],[],()),()),()),(),b,(),())) (some (((5,(0,0,0,[0,0,0,0],0,[0,0,0,0],[0,0,0,0],0,[],()),(0,0,[0,0,0,0],()),0,0,[0,0,0,0],(IntKind.wrap .u64 (IntKind.wrap .i64 (5+(Int.tmod a 3)))),(0,0,0,[0,0,0,0],[],()),()),()),(),b,(),()))) (Ah (decide (c=13)) (Ah (decide (c=13)) ((e (a,b,())).bind fun m=>some (((7,(0,0,0,[0,0,0,0],0,[0,0,0,0],[0,0,0,0],0,[],()),(0,0,[0,0,0,0],()),0,0,[0,0,0,0],0,m.1.1,()),()),(),m.2.2.1,(),())) ((f (a,d,b,())).bind fun n=>some (((1,n.1.1,(0,0,[0,0,0,0],()),0,0,[0,0,0,0],0,(0,0,0,[0,0,0,0],[],()),()),()),(),n.2.2.2.1,(),()))) (Ah (decide (c=14)) ((e (a,b,())).bind fun o=>some (((7,(0,0,0,[0,0,0,0],0,[0,0,0,0],[0,0,0,0],0,[],()),(0,0,[0,0,0,0],()),0,0,[0,0,0,0],0,o.1.1,()),()),(),o.2.2.1,(),())) ((f (a,d,b,())).bind fun p=>some (((1,p.1.1,(0,0,[0,0,0,0],()),0,0,[0,0,0,0],0,(0,0,0,[0,0,0,0],[],()),()),()),(),p.2.2.2.1,(),())))))))) (Ah (decide (c=9)) ((g (a,b,())).bind fun q=>some (((2,(0,0,0,[0,0,0,0],0,[0,0,0,0],[0,0,0,0],0,[],()),q.1.1,0,0,[0,0,0,0],0,(0,0,0,[0,0,0,0],[],()),()),()),(),q.2.2.1,(),())) (Ah (decide (c=10)) (Ah (decide ((Int.tmod a 5)=0)) (some (((3,(0,0,0,[0,0,0,0],0,[0,0,0,0],[0,0,0,0],0,[],()),(0,0,[0,0,0,0],()),(IntKind.wrap .u64 (Int.tmod a 3000)),0,[0,0,0,0],0,(0,0,0,[0,0,0,0],[],()),()),()),(),b,(),())) (some (((3,(0,0,0,[0,0,0,0],0,[0,0,0,0],[0,0,0,0],0,[],()),(0,0,[0,0,0,0],()),(IntKind.wrap .u64 (IntKind.wrap .i64 (1+(Int.tmod a 30)))),0,[0,0,0,0],0,(0,0,0,[0,0,0,0],[],()),()),()),(),b,(),()))) (Ah (decide (c=11)) ((h (a,())).bind fun b1=>some ((b1.1.1,()),(),b,(),())) (Ah (decide (c=12)) (Ah (decide ((Int.tmod a 13)=0)) (some (((5,(0,0,0,[0,0,0,0],0,[0,0,0,0],[0,0,0,0],0,[],()),(0,0,[0,0,0,0],()),0,0,[0,0,0,0],(IntKind.wrap .u64 (Int.tmod a 9)),(0,0,0,[0,0,0,0],[],()),()),()),(),b,(),())) (some (((5,(0,0,0,[0,0,0,0],0,[0,0,0,0],[0,0,0,0],0,[],()),(0,0,[0,0,0,0],()),0,0,[0,0,0,0],(IntKind.wrap .u64 (IntKind.wrap .i64 (5+(Int.tmod a 3)))),(0,0,0,[0,0,0,0],[],()),()),()),(),b,(),()))) (Ah (decide (c=13)) (Ah (decide (c=13)) ((e (a,b,())).bind fun r=>some (((7,(0,0,0,[0,0,0,0],0,[0,0,0,0],[0,0,0,0],0,[],()),(0,0,[0,0,0,0],()),0,0,[0,0,0,0],0,r.1.1,()),()),(),r.2.2.1,(),())) ((f (a,d,b,())).bind fun s=>some (((1,s.1.1,(0,0,[0,0,0,0],()),0,0,[0,0,0,0],0,(0,0,0,[0,0,0,0],[],()),()),()),(),s.2.2.2.1,(),()))) (Ah (decide (c=14)) ((e (a,b,())).bind fun t=>some (((7,(0,0,0,[0,0,0,0],0,[0,0,0,0],[0,0,0,0],0,[],()),(0,0,[0,0,0,0],()),0,0,[0,0,0,0],0,t.1.1,()),()),(),t.2.2.1,(),())) ((f (a,d,b,())).bind fun u=>some (((1,u.1.1,(0,0,[0,0,0,0],()),0,0,[0,0,0,0],0,(0,0,0,[0,0,0,0],[],()),()),()),(),u.2.2.2.1,(),())))))))))) (Ah (decide (c=1)) ((j (a,d,k,())).bind fun b2=>some ((b2.1.1,()),(),b,(),())) (Ah (decide (c=8)) (Ah (decide (c=8)) ((g (a,b,())).bind fun v=>some (((2,(0,0,0,[0,0,0,0],0,[0,0,0,0],[0,0,0,0],0,[],()),v.1.1,0,0,[0,0,0,0],0,(0,0,0,[0,0,0,0],[],()),()),()),(),v.2.2.1,(),())) (Ah (decide (c=10)) (Ah (decide ((Int.tmod a 5)=0)) (some (((3,(0,0,0,[0,0,0,0],0,[0,0,0,0],[0,0,0,0],0,[],()),(0,0,[0,0,0,0],()),(IntKind.wrap .u64 (Int.tmod a 3000)),0,[0,0,0,0],0,(0,0,0,[0,0,0,0],[],()),()),()),(),b,(),())) (some (((3,(0,0,0,[0,0,0,0],0,[0,0,0,0],[0,0,0,0],0,[],()),(0,0,[0,0,0,0],()),(IntKind.wrap .u64 (IntKind.wrap .i64 (1+(Int.tmod a 30)))),0,[0,0,0,0],0,(0,0,0,[0,0,0,0],[],()),()),()),(),b,(),()))) (Ah (decide (c=11)) ((h (a,())).bind fun b3=>some ((b3.1.1,()),(),b,(),())) (Ah (decide (c=12)) (Ah (decide ((Int.tmod a 13)=0)) (some (((5,(0,0,0,[0,0,0,0],0,[0,0,0,0],[0,0,0,0],0,[],()),(0,0,[0,0,0,0],()),0,0,[0,0,0,0],(IntKind.wrap .u64 (Int.tmod a 9)),(0,0,0,[0,0,0,0],[],()),()),()),(),b,(),())) (some (((5,(0,0,0,[0,0,0,0],0,[0,0,0,0],[0,0,0,0],0,[],()),(0,0,[0,0,0,0],()),0,0,[0,0,0,0],(IntKind.wrap .u64 (IntKind.wrap .i64 (5+(Int.tmod a 3)))),(0,0,0,[0,0,0,0],[],()),()),()),(),b,(),()))) (Ah (decide (c=13)) (Ah (decide (c=13)) ((e (a,b,())).bind fun w=>some (((7,(0,0,0,[0,0,0,0],0,[0,0,0,0],[0,0,0,0],0,[],()),(0,0,[0,0,0,0],()),0,0,[0,0,0,0],0,w.1.1,()),()),(),w.2.2.1,(),())) ((f (a,d,b,())).bind fun y=>some (((1,y.1.1,(0,0,[0,0,0,0],()),0,0,[0,0,0,0],0,(0,0,0,[0,0,0,0],[],()),()),()),(),y.2.2.2.1,(),()))) (Ah (decide (c=14)) ((e (a,b,())).bind fun a0=>some (((7,(0,0,0,[0,0,0,0],0,[0,0,0,0],[0,0,0,0],0,[],()),(0,0,[0,0,0,0],()),0,0,[0,0,0,0],0,a0.1.1,()),()),(),a0.2.2.1,(),())) ((f (a,d,b,())).bind fun a1=>some (((1,a1.1.1,(0,0,[0,0,0,0],()),0,0,[0,0,0,0],0,(0,0,0,[0,0,0,0],[],()),()),()),(),a1.2.2.2.1,(),())))))))) (Ah (decide (c=9)) ((g (a,b,())).bind fun a2=>some (((2,(0,0,0,[0,0,0,0],0,[0,0,0,0],[0,0,0,0],0,[],()),a2.1.1,0,0,[0,0,0,0],0,(0,0,0,[0,0,0,0],[],()),()),()),(),a2.2.2.1,(),())) (Ah (decide (c=10)) (Ah (decide ((Int.tmod a 5)=0)) (some (((3,(0,0,0,[0,0,0,0],0,[0,0,0,0],[0,0,0,0],0,[],()),(0,0,[0,0,0,0],()),(IntKind.wrap .u64 (Int.tmod a 3000)),0,[0,0,0,0],0,(0,0,0,[0,0,0,0],[],()),()),()),(),b,(),())) (some (((3,(0,0,0,[0,0,0,0],0,[0,0,0,0],[0,0,0,0],0,[],()),(0,0,[0,0,0,0],()),(IntKind.wrap .u64 (IntKind.wrap .i64 (1+(Int.tmod a 30)))),0,[0,0,0,0],0,(0,0,0,[0,0,0,0],[],()),()),()),(),b,(),()))) (Ah (decide (c=11)) ((h (a,())).bind fun b4=>some ((b4.1.1,()),(),b,(),())) (Ah (decide (c=12)) (Ah (decide ((Int.tmod a 13)=0)) (some (((5,(0,0,0,[0,0,0,0],0,[0,0,0,0],[0,0,0,0],0,[],()),(0,0,[0,0,0,0],()),0,0,[0,0,0,0],(IntKind.wrap .u64 (Int.tmod a 9)),(0,0,0,[0,0,0,0],[],()),()),()),(),b,(),())) (some (((5,(0,0,0,[0,0,0,0],0,[0,0,0,0],[0,0,0,0],0,[],()),(0,0,[0,0,0,0],()),0,0,[0,0,0,0],(IntKind.wrap .u64 (IntKind.wrap .i64 (5+(Int.tmod a 3)))),(0,0,0,[0,0,0,0],[],()),()),()),(),b,(),()))) (Ah (decide (c=13)) (Ah (decide (c=13)) ((e (a,b,())).bind fun a3=>some (((7,(0,0,0,[0,0,0,0],0,[0,0,0,0],[0,0,0,0],0,[],()),(0,0,[0,0,0,0],()),0,0,[0,0,0,0],0,a3.1.1,()),()),(),a3.2.2.1,(),())) ((f (a,d,b,())).bind fun a4=>some (((1,a4.1.1,(0,0,[0,0,0,0],()),0,0,[0,0,0,0],0,(0,0,0,[0,0,0,0],[],()),()),()),(),a4.2.2.2.1,(),()))) (Ah (decide (c=14)) ((e (a,b,())).bind fun a5=>some (((7,(0,0,0,[0,0,0,0],0,[0,0,0,0],[0,0,0,0],0,[],()),(0,0,[0,0,0,0],()),0,0,[0,0,0,0],0,a5.1.1,()),()),(),a5.2.2.1,(),())) ((f (a,d,b,())).bind fun a6=>some (((1,a6.1.1,(0,0,[0,0,0,0],()),0,0,[0,0,0,0],0,(0,0,0,[0,0,0,0],[],()),()),()),(),a6.2.2.2.1,(),())))))))))))
def L3:U6:=fun x=>Ac6 Ac M6 K3 L4 Ns On G3 x.1 x.2.1 x.2.2.1
abbrev Qb:Ce:=⟨[],[(.own true W92)]⟩
abbrev Agp:=Unit→Option (Cgm×Unit)
def R0(c:((List Bbk)×Int×Unit)→Option (Cgm×Unit))(a:(List Bbk))(b:Int):Option (Cgm×Unit):=(Ah (decide (b<8)) (Ah (A9 ((List.length a)+1) R37) (c ((List.append a [(5,(0,0,0,[0,0,0,0],0,[0,0,0,0],[0,0,0,0],0,[],()),(0,0,[0,0,0,0],()),0,0,[0,0,0,0],b,(0,0,0,[0,0,0,0],[],()),())]),(IntKind.wrap .u64 (b+1)),())) none) (Ah (A9 ((List.length a)+1) R37) (some (((List.append a [(3,(0,0,0,[0,0,0,0],0,[0,0,0,0],[0,0,0,0],0,[],()),(0,0,[0,0,0,0],()),12,0,[0,0,0,0],0,(0,0,0,[0,0,0,0],[],()),())]),()),())) none))
def Ad6(L:Ae)(c:((List Bbk)×Int×Unit)→Option (Cgm×Unit))(a:(List Bbk))(b:Int):Option (Cgm×Unit):=(Ah (decide (b<5)) (Ah (A9 ((List.length a)+1) R37) (c ((List.append a [(6,(0,0,0,[0,0,0,0],0,[0,0,0,0],[0,0,0,0],0,[],()),(0,0,[0,0,0,0],()),0,0,[288230376151711744,0,0,0],b,(0,0,0,[0,0,0,0],[],()),())]),(IntKind.wrap .u64 (b+1)),())) none) (L _ _ (fun z x=>R0 z x.1 x.2.1) (a,5,())))
def Wu(L:Ae):Option (Cgm×Unit):=(L _ _ (fun z x=>Ad6 L z x.1 x.2.1) ([],1,()))
def Mj:Agp:=fun x=>Wu Ac
abbrev L9:Ce:=⟨[V4,V25],[V58,(.ro false (.slice W92)),(.ro false (.slice W79))]⟩
abbrev Ac2:=Y12→Option Cfr
def Wb(i:U6)(j:I1)(k:Cq0→Option Cfr)(a:(List Int))(f:Bool)(g:Re)(c:(List Bbk))(d:(List Bvg))(b:Int):Option Cfr:=(Ah (decide (b<(List.length a:Int))) (Ah (B0 b (List.length a)) ((i ((List.getD a (Int.toNat b) 0),g,f,())).bind fun e=>Ah (A9 ((List.length c)+1) R37) ((j (e.2.2.1,e.1.1,())).bind fun h=>Ah (A9 ((List.length d)+1) R44) (k (a,f,h.2.1,(List.append c [e.1.1]),(List.append d [h.1.1]),(IntKind.wrap .i64 (b+1)),())) none) none) none) (some ((g,c,d,()),(),(),())))
def Ag3(L:Ae)(d:I1)(j:U6)(k:Cq0→Option Cfr)(e:(List Int))(f:Bool)(g:Re)(a:(List Bbk))(c:(List Bvg))(b:Int):Option Cfr:=(A2 (List.length a) fun h=>Ah (decide (b<((h:Nat):Int))) (Ah (B0 b h) ((d (g,(List.getD a (Int.toNat b) (0,(0,0,0,[0,0,0,0],0,[0,0,0,0],[0,0,0,0],0,[],()),(0,0,[0,0,0,0],()),0,0,[0,0,0,0],0,(0,0,0,[0,0,0,0],[],()),())),())).bind fun i=>Ah (A9 ((List.length c)+1) R44) (k (e,f,i.2.1,a,(List.append c [i.1.1]),(IntKind.wrap .i64 (b+1)),())) none) none) (L _ _ (fun z x=>Wb j d z x.1 x.2.1 x.2.2.1 x.2.2.2.1 x.2.2.2.2.1 x.2.2.2.2.2.1) (e,f,g,a,c,0,())))
def Acq(L:Ae)(a:Ays)(b:Agp)(c:I1)(d:U6)(e:(List Int))(f:Bool):Option Cfr:=((a ()).bind fun g=>(b ()).bind fun h=>L _ _ (fun z x=>Ag3 L c d z x.1 x.2.1 x.2.2.1 x.2.2.2.1 x.2.2.2.2.1 x.2.2.2.2.2.1) (e,f,g.1.1,h.1.1,[],0,()))
def Jj:Ac2:=fun x=>Acq Ac Ack Mj Fp L3 x.1 x.2.1
set_option maxRecDepth 100000
abbrev Agh:Ce:=⟨[V20],[V38]⟩
abbrev Bet:=(Db×Unit)→Option Y6
def Add(f:As)(g:Cc)(d:Bzt→Option Y6)(b:Db)(c:(List Int))(a:Int):Option Y6:=(A2 (List.length b.2.2.2.2.2.2.2.1) fun e=>Ah (decide (a<((e:Nat):Int))) (Ah (B0 a (List.length b.2.2.2.2.2.2.2.2.1)) (Ah (!(List.getD b.2.2.2.2.2.2.2.2.1 (Int.toNat a) false)) (Ah (B0 a e) ((f ((List.getD b.2.2.2.2.2.2.2.1 (Int.toNat a) (0,0,[0,0,0,0],())).2.2.1,())).bind fun h=>(g (c,h.1.1,())).bind fun i=>d (b,i.1.1,(IntKind.wrap .i64 (a+1)),())) none) (d (b,c,(IntKind.wrap .i64 (a+1)),()))) none) (some ((c,()),(),())))
def Adj(L:Ae)(c:As)(d:Cc)(f:Bzt→Option Y6)(b:Db)(e:(List Int))(a:Int):Option Y6:=(Ah (decide (a<4)) (Ah (B0 a 4) ((c ((List.getD b.2.2.2.2.2.2.1 (Int.toNat a) [0,0,0,0]),())).bind fun g=>(d (e,g.1.1,())).bind fun h=>f (b,h.1.1,(IntKind.wrap .i64 (a+1)),())) none) (L _ _ (fun z x=>Add c d z x.1 x.2.1 x.2.2.1) (b,e,0,())))
def An5(L:Ae)(c:As)(d:Cc)(g:Bzt→Option Y6)(a:Db)(e:(List Int))(b:Int):Option Y6:=(A2 (List.length a.2.2.2.2.2.1) fun f=>Ah (decide (b<((f:Nat):Int))) (Ah (B0 b f) ((c ((List.getD a.2.2.2.2.2.1 (Int.toNat b) (0,[0,0,0,0],0,())).2.1,())).bind fun h=>(d (e,h.1.1,())).bind fun i=>g (a,i.1.1,(IntKind.wrap .i64 (b+1)),())) none) (L _ _ (fun z x=>Adj L c d z x.1 x.2.1 x.2.2.1) (a,e,0,())))
def Aun(L:Ae)(a:As)(b:Cc)(c:Db):Option Y6:=(L _ _ (fun z x=>An5 L a b z x.1 x.2.1 x.2.2.1) (c,[],0,()))
def Ys:Bet:=fun x=>Aun Ac Ai A7 x.1
abbrev P9:Ce:=⟨[V20,J1],[V38]⟩
abbrev Aef:=Ck6→Option T2
def Ad5(g:As)(h:Cc)(e:(Int×Db×(List Int)×Int×Unit)→Option T2)(c:Int)(b:Db)(d:(List Int))(a:Int):Option T2:=(A2 (List.length b.2.2.2.2.2.2.2.1) fun f=>Ah (decide (a<((f:Nat):Int))) (Ah (B0 a (List.length b.2.2.2.2.2.2.2.2.1)) (Ah (List.getD b.2.2.2.2.2.2.2.2.1 (Int.toNat a) false) (Ah (B0 a f) (Ah (decide ((List.getD b.2.2.2.2.2.2.2.1 (Int.toNat a) (0,0,[0,0,0,0],())).2.1=c)) (Ah (B0 a f) ((g ((List.getD b.2.2.2.2.2.2.2.1 (Int.toNat a) (0,0,[0,0,0,0],())).2.2.1,())).bind fun i=>(h (d,i.1.1,())).bind fun j=>e (c,b,j.1.1,(IntKind.wrap .i64 (a+1)),())) none) (e (c,b,d,(IntKind.wrap .i64 (a+1)),()))) none) (e (c,b,d,(IntKind.wrap .i64 (a+1)),()))) none) (some ((d,()),(),(),())))
def Af6(L:Ae)(a:As)(b:Cc)(c:Db)(d:Int):Option T2:=(L _ _ (fun z x=>Ad5 a b z x.1 x.2.1 x.2.2.1 x.2.2.2.1) (d,c,[],0,()))
def Jy:Aef:=fun x=>Af6 Ac Ai A7 x.1 x.2.1
abbrev Yp:Ce:=⟨[V43,J1],[(.ro true W4)]⟩
abbrev Ae1:=Y24→Option T2
def Akq(e:((List Y9)×Int×(List Int)×Int×Unit)→Option T2)(b:(List Y9))(d:Int)(f:(List Int))(a:Int):Option T2:=(A2 (List.length b) fun c=>Ah (decide (a<((c:Nat):Int))) (Ah (B0 a c) (Ah (decide ((List.getD b (Int.toNat a) (0,[0,0,0,0],())).1=d)) (Ah (B0 a c) (some (((List.getD b (Int.toNat a) (0,[0,0,0,0],())).2.1,()),(),(),())) none) (e (b,d,f,(IntKind.wrap .i64 (a+1)),()))) none) (some (([0,0,0,0],()),(),(),())))
def Ant(L:Ae)(a:(List Y9))(b:Int):Option T2:=(L _ _ (fun z x=>Akq z x.1 x.2.1 x.2.2.1 x.2.2.2.1) (a,b,[0,0,0,0],0,()))
def K2:Ae1:=fun x=>Ant Ac x.1 x.2.1
abbrev Qs:Ce:=⟨[V20],[V25]⟩
abbrev Ajm:=(Db×Unit)→Option Xs
def Aaz(e:Ae1)(f:C0)(c:Ck6→Option Xs)(a:Db)(b:Int):Option Xs:=(A2 (List.length a.2.2.2.2.2.2.2.1) fun d=>Ah (decide (b<((d:Nat):Int))) (Ah (B0 b (List.length a.2.2.2.2.2.2.2.2.1)) (Ah (List.getD a.2.2.2.2.2.2.2.2.1 (Int.toNat b) false) (Ah (B0 b d) ((e (a.2.2.2.2.2.2.2.2.2.2.1,(List.getD a.2.2.2.2.2.2.2.1 (Int.toNat b) (0,0,[0,0,0,0],())).2.1,())).bind fun g=>(f (g.1.1,())).bind fun h=>Ah h.1.1 (some ((false,()),(),())) (c (a,(IntKind.wrap .i64 (b+1)),()))) none) (c (a,(IntKind.wrap .i64 (b+1)),()))) none) (some ((true,()),(),())))
def Aa5(L:Ae)(d:Aef)(e:As)(f:Ho)(g:Ae1)(h:C0)(i:Ck6→Option Xs)(a:Db)(b:Int):Option Xs:=(A2 (List.length a.2.2.2.2.2.2.2.2.2.2.1) fun c=>Ah (decide (b<((c:Nat):Int))) (Ah (B0 b c) ((d (a,(List.getD a.2.2.2.2.2.2.2.2.2.2.1 (Int.toNat b) (0,[0,0,0,0],())).1,())).bind fun j=>Ah (B0 b c) ((e ((List.getD a.2.2.2.2.2.2.2.2.2.2.1 (Int.toNat b) (0,[0,0,0,0],())).2.1,())).bind fun k=>(f (j.1.1,k.1.1,())).bind fun l=>Ah (!(decide (l.1.1=0))) (some ((false,()),(),())) (i (a,(IntKind.wrap .i64 (b+1)),()))) none) none) (L _ _ (fun z x=>Aaz g h z x.1 x.2.1) (a,0,())))
def Ash(L:Ae)(e:I9)(b:C0)(f:Vt)(g:Agy)(h:Ag1)(i:Agz)(j:Bet)(c:As)(d:Ho)(k:Aef)(l:Ae1)(a:Db):Option Xs:=((e (a.2.1,())).bind fun m=>Ah (!m.1.1) (some ((false,()),(),())) ((b (a.2.2.1.2.2.2.1,())).bind fun n=>Ah n.1.1 (some ((false,()),(),())) ((f (a.2.2.2.2.1,())).bind fun o=>Ah (!o.1.1) (some ((false,()),(),())) (Ah (decide (a.2.2.2.2.1.2.2.1>a.2.2.1.2.1)) (some ((false,()),(),())) ((g (a.2.2.2.2.2.1,())).bind fun p=>Ah (!p.1.1) (some ((false,()),(),())) ((h (a.2.2.2.2.2.2.2.1,())).bind fun q=>Ah (!q.1.1) (some ((false,()),(),())) (Ah (!(decide ((List.length a.2.2.2.2.2.2.2.2.1:Int)=(List.length a.2.2.2.2.2.2.2.1:Int)))) (some ((false,()),(),())) ((i (a.2.2.2.2.2.2.2.2.2.2.1,())).bind fun r=>Ah (!r.1.1) (some ((false,()),(),())) ((j (a,())).bind fun s=>(c (a.2.2.2.2.2.2.2.2.2.1,())).bind fun t=>(d (s.1.1,t.1.1,())).bind fun u=>Ah (!(decide (u.1.1=0))) (some ((false,()),(),())) (L _ _ (fun z x=>Aa5 L k c d l b z x.1 x.2.1) (a,0,())))))))))))
def Ij:Ajm:=fun x=>Ash Ac Cr Bd E6 Iu I3 Iq Ys Ai Ca Jy K2 x.1
abbrev Ae0:Ce:=⟨[V3,V5],[V3]⟩
abbrev Bgf:=Y39→Option T2
def Anz(d:C8)(e:Y64→Option T2)(c:(List Int))(a:(List Int))(b:Int):Option T2:=(Ah (decide (b<(List.length a:Int))) (Ah (B0 b (List.length a)) ((d (c,(List.getD a (Int.toNat b) 0),())).bind fun f=>e (f.1.1,a,(IntKind.wrap .i64 (b+1)),())) none) (some ((c,()),(),(),())))
def Auy(L:Ae)(a:C8)(b:(List Int))(c:(List Int)):Option T2:=(L _ _ (fun z x=>Anz a z x.1 x.2.1 x.2.2.1) (b,c,0,()))
def X8:Bgf:=fun x=>Auy Ac Bu x.1 x.2.1
abbrev Af2:Ce:=⟨[V20],[V32]⟩
abbrev Bee:=(Db×Unit)→Option Y6
def Avf(L:Ae)(c:Bgf)(b:Cy)(d:C8)(e:Alq)(a:Db):Option Y6:=((c ([],[1886350964,a.1,a.2.1.1,a.2.1.2.1,a.2.1.2.2.1],())).bind fun f=>(b (f.1.1,a.2.1.2.2.2.1,())).bind fun g=>(d (g.1.1,a.2.1.2.2.2.2.1,())).bind fun h=>(b (h.1.1,a.2.1.2.2.2.2.2.1,())).bind fun i=>(d (i.1.1,a.2.1.2.2.2.2.2.2.1,())).bind fun j=>(b (j.1.1,a.2.1.2.2.2.2.2.2.2.1,())).bind fun k=>(c (k.1.1,[a.2.1.2.2.2.2.2.2.2.2.1,a.2.1.2.2.2.2.2.2.2.2.2.1,a.2.1.2.2.2.2.2.2.2.2.2.2.1,a.2.1.2.2.2.2.2.2.2.2.2.2.2.1,a.2.2.1.1,a.2.2.1.2.1,a.2.2.1.2.2.1],())).bind fun l=>(b (l.1.1,a.2.2.1.2.2.2.1,())).bind fun m=>(d (m.1.1,a.2.2.2.1,())).bind fun n=>(b (n.1.1,a.2.2.2.2.1.1,())).bind fun o=>(c (o.1.1,[a.2.2.2.2.1.2.1,a.2.2.2.2.1.2.2.1,a.2.2.2.2.1.2.2.2.1],())).bind fun p=>(e (p.1.1,a.2.2.2.2.1.2.2.2.2.1,())).bind fun q=>some ((q.1.1,()),(),()))
def Yx:Bee:=fun x=>Avf Ac X8 Bl Bu Kq x.1
abbrev Ol:Ce:=⟨[V20],[V32,Bv]⟩
abbrev Aeu:=(Db×Unit)→Option Y21
def Yr(e:C8)(f:Cy)(g:Bzt→Option Y21)(b:Db)(d:(List Int))(a:Int):Option Y21:=(A2 (List.length b.2.2.2.2.2.2.2.2.2.2.1) fun c=>Ah (decide (a<((c:Nat):Int))) (Ah (B0 a c) ((e (d,(List.getD b.2.2.2.2.2.2.2.2.2.2.1 (Int.toNat a) (0,[0,0,0,0],())).1,())).bind fun h=>Ah (B0 a c) ((f (h.1.1,(List.getD b.2.2.2.2.2.2.2.2.2.2.1 (Int.toNat a) (0,[0,0,0,0],())).2.1,())).bind fun i=>g (b,i.1.1,(IntKind.wrap .i64 (a+1)),())) none) none) (some ((d,0,()),(),())))
def Yh(L:Ae)(d:C8)(e:Cy)(g:Bzt→Option Y21)(b:Db)(f:(List Int))(a:Int):Option Y21:=(A2 (List.length b.2.2.2.2.2.2.2.1) fun c=>Ah (decide (a<((c:Nat):Int))) (Ah (B0 a (List.length b.2.2.2.2.2.2.2.2.1)) (Ah (List.getD b.2.2.2.2.2.2.2.2.1 (Int.toNat a) false) (Ah (B0 a c) ((d (f,(List.getD b.2.2.2.2.2.2.2.1 (Int.toNat a) (0,0,[0,0,0,0],())).2.1,())).bind fun j=>Ah (B0 a c) ((e (j.1.1,(List.getD b.2.2.2.2.2.2.2.1 (Int.toNat a) (0,0,[0,0,0,0],())).2.2.1,())).bind fun h=>Ah (A9 ((List.length h.1.1)+1) (Ty.int IntKind.u8)) (g (b,(List.append h.1.1 [1]),(IntKind.wrap .i64 (a+1)),())) none) none) none) (Ah (B0 a c) ((d (f,(List.getD b.2.2.2.2.2.2.2.1 (Int.toNat a) (0,0,[0,0,0,0],())).2.1,())).bind fun k=>Ah (B0 a c) ((e (k.1.1,(List.getD b.2.2.2.2.2.2.2.1 (Int.toNat a) (0,0,[0,0,0,0],())).2.2.1,())).bind fun i=>Ah (A9 ((List.length i.1.1)+1) (Ty.int IntKind.u8)) (g (b,(List.append i.1.1 [0]),(IntKind.wrap .i64 (a+1)),())) none) none) none)) none) ((e (f,b.2.2.2.2.2.2.2.2.2.1,())).bind fun l=>(d (l.1.1,(IntKind.wrap .u64 (List.length b.2.2.2.2.2.2.2.2.2.2.1:Int)),())).bind fun m=>L _ _ (fun z x=>Yr d e z x.1 x.2.1 x.2.2.1) (b,m.1.1,0,())))
def Yc(L:Ae)(c:Cy)(d:C8)(f:Bzt→Option Y21)(a:Db)(e:(List Int))(b:Int):Option Y21:=(Ah (decide (b<4)) (Ah (B0 b 4) ((c (e,(List.getD a.2.2.2.2.2.2.1 (Int.toNat b) [0,0,0,0]),())).bind fun g=>f (a,g.1.1,(IntKind.wrap .i64 (b+1)),())) none) ((d (e,(IntKind.wrap .u64 (List.length a.2.2.2.2.2.2.2.1:Int)),())).bind fun h=>L _ _ (fun z x=>Yh L d c z x.1 x.2.1 x.2.2.1) (a,h.1.1,0,())))
def Zb(L:Ae)(c:C8)(d:Cy)(g:Bzt→Option Y21)(a:Db)(e:(List Int))(b:Int):Option Y21:=(A2 (List.length a.2.2.2.2.2.1) fun f=>Ah (decide (b<((f:Nat):Int))) (Ah (B0 b f) ((c (e,(List.getD a.2.2.2.2.2.1 (Int.toNat b) (0,[0,0,0,0],0,())).1,())).bind fun h=>(d (h.1.1,(List.getD a.2.2.2.2.2.1 (Int.toNat b) (0,[0,0,0,0],0,())).2.1,())).bind fun i=>(c (i.1.1,(List.getD a.2.2.2.2.2.1 (Int.toNat b) (0,[0,0,0,0],0,())).2.2.1,())).bind fun j=>g (a,j.1.1,(IntKind.wrap .i64 (b+1)),())) none) (L _ _ (fun z x=>Yc L d c z x.1 x.2.1 x.2.2.1) (a,e,0,())))
def Zw(L:Ae)(d:C8)(c:Cy)(g:Bzt→Option Y21)(a:Db)(e:(List Int))(b:Int):Option Y21:=(A2 (List.length a.2.2.2.2.1.2.2.2.2.2.1) fun f=>Ah (decide (b<((f:Nat):Int))) (Ah (B0 b f) ((d (e,(List.getD a.2.2.2.2.1.2.2.2.2.2.1 (Int.toNat b) (0,[0,0,0,0],[0,0,0,0],[0,0,0,0],[0,0,0,0],0,())).1,())).bind fun h=>(c (h.1.1,(List.getD a.2.2.2.2.1.2.2.2.2.2.1 (Int.toNat b) (0,[0,0,0,0],[0,0,0,0],[0,0,0,0],[0,0,0,0],0,())).2.1,())).bind fun i=>(c (i.1.1,(List.getD a.2.2.2.2.1.2.2.2.2.2.1 (Int.toNat b) (0,[0,0,0,0],[0,0,0,0],[0,0,0,0],[0,0,0,0],0,())).2.2.1,())).bind fun j=>(c (j.1.1,(List.getD a.2.2.2.2.1.2.2.2.2.2.1 (Int.toNat b) (0,[0,0,0,0],[0,0,0,0],[0,0,0,0],[0,0,0,0],0,())).2.2.2.1,())).bind fun k=>(c (k.1.1,(List.getD a.2.2.2.2.1.2.2.2.2.2.1 (Int.toNat b) (0,[0,0,0,0],[0,0,0,0],[0,0,0,0],[0,0,0,0],0,())).2.2.2.2.1,())).bind fun l=>(d (l.1.1,(List.getD a.2.2.2.2.1.2.2.2.2.2.1 (Int.toNat b) (0,[0,0,0,0],[0,0,0,0],[0,0,0,0],[0,0,0,0],0,())).2.2.2.2.2.1,())).bind fun m=>g (a,m.1.1,(IntKind.wrap .i64 (b+1)),())) none) ((d (e,(IntKind.wrap .u64 (List.length a.2.2.2.2.2.1:Int)),())).bind fun n=>L _ _ (fun z x=>Zb L d c z x.1 x.2.1 x.2.2.1) (a,n.1.1,0,())))
def Ao3(L:Ae)(c:Ajm)(d:Bee)(b:C8)(e:Cy)(a:Db):Option Y21:=((c (a,())).bind fun f=>Ah (!f.1.1) (some (([],2,()),(),())) ((d (a,())).bind fun g=>(b (g.1.1,(IntKind.wrap .u64 (List.length a.2.2.2.2.1.2.2.2.2.2.1:Int)),())).bind fun h=>L _ _ (fun z x=>Zw L b e z x.1 x.2.1 x.2.2.1) (a,h.1.1,0,())))
def Ha:Aeu:=fun x=>Ao3 Ac Ij Yx Bu Bl x.1
abbrev Aer:Ce:=⟨[V20],[(.ro true W3),Bv]⟩
abbrev Avq:=(Db×Unit)→Option Y21
def Avn(L:Ae)(b:Aeu)(c:Aic)(d:Db):Option Y21:=((b (d,())).bind fun a=>Ah (!(decide (a.1.2.1=0))) (some (((List.replicate 32 0),a.1.2.1,()),(),())) ((c (a.1.1,())).bind fun e=>some ((e.1.1,0,()),(),())))
def Sb:Avq:=fun x=>Avn Ac Ha Je x.1
set_option maxRecDepth 100000
abbrev Em:Ce:=⟨[J1],[(.ro true W4)]⟩
abbrev It:=(Int×Unit)→Option Y6
def Px(L:Ae)(a:Int):Option Y6:=(some (([a,0,0,0],()),(),()))
def Da:It:=fun x=>Px Ac x.1
abbrev Sv:Ce:=⟨[(.ro true W4)],[Bv]⟩
abbrev As2:=Y4→Option Y14
def Ae4(c:Afb)(d:Y8→Option Y14)(b:(List Int))(a:Int):Option Y14:=(Ah (decide (a≥0)) (Ah (B0 a 4) (Ah (!(decide ((List.getD b (Int.toNat a) 0)=0))) (Ah (B0 a 4) ((c ((List.getD b (Int.toNat a) 0),())).bind fun e=>some (((IntKind.wrap .i64 ((IntKind.wrap .i64 (64*a))+e.1.1)),()),(),())) none) (d (b,(IntKind.wrap .i64 (a-1)),()))) none) (some ((0,()),(),())))
def Ahh(L:Ae)(a:Afb)(b:(List Int)):Option Y14:=(L _ _ (fun z x=>Ae4 a z x.1 x.2.1) (b,3,()))
def Oo:As2:=fun x=>Ahh Ac Ml x.1
abbrev Bb0:=Y39→Option Y31
def Aa4(g:Afh)(h:Y97→Option Y31)(b:(List Int))(c:(List Int))(i:(List Int))(d:(List Int))(e:Int)(a:Int):Option Y31:=(Ah (decide (a<4)) (Ah (B0 a 4) (Ah (B0 a 4) ((g ((List.getD b (Int.toNat a) 0),(List.getD c (Int.toNat a) 0),e,())).bind fun f=>Ah (B0 a 4) (h (b,c,i,(List.set d (Int.toNat a) f.1.1),f.1.2.1,(IntKind.wrap .i64 (a+1)),())) none) none) none) (Ah (!(decide (e=0))) (some (([0,0,0,0],4,()),(),(),())) (some ((d,0,()),(),(),()))))
def Asx(L:Ae)(a:Afh)(b:(List Int))(c:(List Int)):Option Y31:=(L _ _ (fun z x=>Aa4 a z x.1 x.2.1 x.2.2.1 x.2.2.2.1 x.2.2.2.2.1 x.2.2.2.2.2.1) (b,c,[0,0,0,0],[0,0,0,0],0,0,()))
def Vb:Bb0:=fun x=>Asx Ac Aa1 x.1 x.2.1
abbrev Abv:Ce:=⟨[(.ro true W4),(.ro true W4)],[(.ro true W4),Bv]⟩
abbrev M9:=Y39→Option Y31
def Alk(g:Hv)(h:Y97→Option Y31)(b:(List Int))(c:(List Int))(i:(List Int))(d:(List Int))(e:Int)(a:Int):Option Y31:=(Ah (decide (a<4)) (Ah (B0 a 4) (Ah (B0 a 4) ((g ((List.getD b (Int.toNat a) 0),(List.getD c (Int.toNat a) 0),e,())).bind fun f=>Ah (B0 a 4) (h (b,c,i,(List.set d (Int.toNat a) f.1.1),f.1.2.1,(IntKind.wrap .i64 (a+1)),())) none) none) none) (Ah (!(decide (e=0))) (some (([0,0,0,0],4,()),(),(),())) (some ((d,0,()),(),(),()))))
def Aiv(L:Ae)(a:Hv)(b:(List Int))(c:(List Int)):Option Y31:=(L _ _ (fun z x=>Alk a z x.1 x.2.1 x.2.2.1 x.2.2.2.1 x.2.2.2.2.1 x.2.2.2.2.2.1) (b,c,[0,0,0,0],[0,0,0,0],0,0,()))
def Fy:M9:=fun x=>Aiv Ac Ex x.1 x.2.1
abbrev Acj:Ce:=⟨[(.ro true W4),(.ro true W4)],[Bv]⟩
abbrev Ajl:=Y39→Option Y56
def Al5(d:Y64→Option Y56)(b:(List Int))(c:(List Int))(a:Int):Option Y56:=(Ah (decide (a≥0)) (Ah (B0 a 4) (Ah (B0 a 4) (Ah (decide ((List.getD b (Int.toNat a) 0)<(List.getD c (Int.toNat a) 0))) (some (((-1:Int),()),(),(),())) (Ah (B0 a 4) (Ah (B0 a 4) (Ah (decide ((List.getD b (Int.toNat a) 0)>(List.getD c (Int.toNat a) 0))) (some ((1,()),(),(),())) (d (b,c,(IntKind.wrap .i64 (a-1)),()))) none) none)) none) none) (some ((0,()),(),(),())))
def Aja(L:Ae)(a:(List Int))(b:(List Int)):Option Y56:=(L _ _ (fun z x=>Al5 z x.1 x.2.1 x.2.2.1) (a,b,3,()))
def U9:Ajl:=fun x=>Aja Ac x.1 x.2.1
set_option maxRecDepth 100000
abbrev Rm:Ce:=⟨[V10],[V25]⟩
abbrev Z4:=(Y17×Unit)→Option Xs
def Aaf(L:Ae)(a:Y17):Option Xs:=(Ah (eqD (Ty.arr 4 (Ty.int IntKind.u64)) a.2.1 [(0:Int),(0:Int),(0:Int),(0:Int)]) (some (((decide (a.2.2.1=0)),()),(),())) (some ((false,()),(),())))
def N8:Z4:=fun x=>Aaf Ac x.1
abbrev Ab1:Ce:=⟨[V45,V33],[(.optr (.pair V23 (.pair V33 V26))),Bv]⟩
abbrev Aro:=Y23→Option Y38
def Aaw(f:M9)(g:Co)(h:((List Y17)×Y1×(List Int)×Y1×Int×Unit)→Option Y38)(c:(List Y17))(d:Y1)(i:(List Int))(e:Y1)(a:Int):Option Y38:=(Ah (decide (a<4)) (Ah (B0 a 4) ((f (i,(List.getD e (Int.toNat a) [0,0,0,0]),())).bind fun b=>Ah (!(decide (b.1.2.1=0))) (some ((none,b.1.2.1,()),(),(),())) (h (c,d,b.1.1,e,(IntKind.wrap .i64 (a+1)),()))) none) ((g (c,())).bind fun j=>some (((some (j.1.1,d,())),0,()),(),(),())))
def Aay(L:Ae)(e:M9)(i:Co)(j:((List Y17)×Y1×(List Int)×(List Y17)×Int×Int×Unit)→Option Y38)(f:(List Y17))(b:Y1)(g:(List Int))(c:(List Y17))(h:Int)(a:Int):Option Y38:=(Ah (decide (a<h)) (Ah (B0 a (List.length c)) ((e (g,(List.getD c (Int.toNat a) (Ty.zero R7)).2.1,())).bind fun d=>Ah (!(decide (d.1.2.1=0))) (some ((none,d.1.2.1,()),(),(),())) (j (f,b,d.1.1,c,h,(IntKind.wrap .i64 (a+1)),()))) none) (L _ _ (fun z x=>Aaw e i z x.1 x.2.1 x.2.2.1 x.2.2.2.1 x.2.2.2.2.1) (f,b,g,b,0,())))
def Alp(L:Ae)(i:Z4)(j:M9)(k:Co)(f:((List Y17)×Y1×(List Y17)×Int×Int×Unit)→Option Y38)(b:(List Y17))(d:Y1)(c:(List Y17))(e:Int)(a:Int):Option Y38:=(A2 (IntKind.wrap .i64 (a-1)) fun g=>A2 (List.length b) fun h=>Ah (decide (a<e)) (Ah (B0 a (List.length c)) (Ah (decide ((List.getD c (Int.toNat a) (Ty.zero R7)).1=0)) (some ((none,2,()),(),(),())) ((i ((List.getD c (Int.toNat a) (0,[0,0,0,0],0,())),())).bind fun l=>Ah l.1.1 (some ((none,2,()),(),(),())) (Ah (decide (a>0)) (Ah (B0 g h) (Ah (decide ((List.getD c (Int.toNat a) (Ty.zero R7)).1≤(List.getD b (Int.toNat g) (Ty.zero R7)).1)) (some ((none,2,()),(),(),())) (f (b,d,c,e,(IntKind.wrap .i64 (a+1)),()))) none) (f (b,d,c,e,(IntKind.wrap .i64 (a+1)),()))))) none) (L _ _ (fun z x=>Aay L j k z x.1 x.2.1 x.2.2.1 x.2.2.2.1 x.2.2.2.2.1 x.2.2.2.2.2.1) (b,d,[0,0,0,0],b,((h:Nat):Int),0,())))
def Aji(L:Ae)(b:Z4)(c:M9)(d:Co)(a:(List Y17))(e:Y1):Option Y38:=(L _ _ (fun z x=>Alp L b c d z x.1 x.2.1 x.2.2.1 x.2.2.2.1 x.2.2.2.2.1) (a,e,a,(List.length a:Int),0,()))
def Us:Aro:=fun x=>Aji Ac N8 Fy Bx x.1 x.2.1
set_option maxRecDepth 100000
abbrev Kg:Ce:=⟨[(.rp W94),Bv],[(.orp W4)]⟩
abbrev Wj:=Cff→Option Y88
def Wh(L:Ae)(a:Pc)(b:Int):Option Y88:=(Ah (decide (b=4)) (some (((some a.2.2.2.1),()),(),(),())) (Ah (decide (b=6)) (some (((some a.2.2.2.2.2.1),()),(),(),())) (Ah (decide (b=8)) (some (((some a.2.2.2.2.2.2.2.1),()),(),(),())) (some ((none,()),(),(),())))))
def Rs:Wj:=fun x=>Wh Ac x.1 x.2.1
abbrev Lm:Ce:=⟨[(.rp W94),Bv],[(.orp (.int .u64))]⟩
abbrev Zo:=Cff→Option Y77
def Yi(L:Ae)(a:Pc)(b:Int):Option Y77:=(Ah (decide (b=1)) (some (((some a.1),()),(),(),())) (Ah (decide (b=2)) (some (((some a.2.1),()),(),(),())) (Ah (decide (b=3)) (some (((some a.2.2.1),()),(),(),())) (Ah (decide (b=5)) (some (((some a.2.2.2.2.1),()),(),(),())) (Ah (decide (b=7)) (some (((some a.2.2.2.2.2.2.1),()),(),(),())) (Ah (decide (b=9)) (some (((some a.2.2.2.2.2.2.2.2.1),()),(),(),())) (Ah (decide (b=10)) (some (((some a.2.2.2.2.2.2.2.2.2.1),()),(),(),())) (Ah (decide (b=11)) (some (((some a.2.2.2.2.2.2.2.2.2.2.1),()),(),(),())) (Ah (decide (b=12)) (some (((some a.2.2.2.2.2.2.2.2.2.2.2.1),()),(),(),())) (some ((none,()),(),(),())))))))))))
def Uf:Zo:=fun x=>Yi Ac x.1 x.2.1
abbrev Afl:Ce:=⟨[V12,Bv],[(.ro true W4),Bv]⟩
abbrev Amc:=Cff→Option Y31
def Avt(L:Ae)(c:Wj)(d:Zo)(e:It)(a:Pc)(b:Int):Option Y31:=((c (a,b,())).bind fun f=>Ce1 f.1.1 ((d (a,b,())).bind fun g=>Ce1 g.1.1 (some (([0,0,0,0],17,()),(),(),())) (fun h=>(e (h,())).bind fun i=>some ((i.1.1,0,()),(),(),()))) (fun j=>some ((j,0,()),(),(),())))
def Ae7:Amc:=fun x=>Avt Ac Rs Uf Da x.1 x.2.1
abbrev Ut:Ce:=⟨[V12,Bv],[J1,J1]⟩
abbrev Acu:=Cff→Option Y10
def Ak9(L:Ae)(b:Pc)(a:Int):Option Y10:=(Ah (decide (a=1)) (Ah (decide (a=1)) (some ((1,1099511627776,()),(),(),())) (Ah (decide (a=2)) (Ah (decide (a=2)) (some ((0,1048576,()),(),(),())) (Ah (decide (a=3)) (Ah (decide (a=3)) (some ((1,1048576,()),(),(),())) (Ah (decide (a=4)) (some ((1,18446744073709551615,()),(),(),())) (Ah (decide (a=7)) (some ((0,10000,()),(),(),())) (Ah (decide (a=12)) (some ((b.2.2.2.2.2.2.2.2.2.2.1,16777216,()),(),(),())) (some ((0,18446744073709551615,()),(),(),())))))) (Ah (decide (a=10)) (some ((1,1048576,()),(),(),())) (Ah (decide (a=4)) (some ((1,18446744073709551615,()),(),(),())) (Ah (decide (a=7)) (some ((0,10000,()),(),(),())) (Ah (decide (a=12)) (some ((b.2.2.2.2.2.2.2.2.2.2.1,16777216,()),(),(),())) (some ((0,18446744073709551615,()),(),(),())))))))) (Ah (decide (a=11)) (some ((0,1048576,()),(),(),())) (Ah (decide (a=3)) (Ah (decide (a=3)) (some ((1,1048576,()),(),(),())) (Ah (decide (a=4)) (some ((1,18446744073709551615,()),(),(),())) (Ah (decide (a=7)) (some ((0,10000,()),(),(),())) (Ah (decide (a=12)) (some ((b.2.2.2.2.2.2.2.2.2.2.1,16777216,()),(),(),())) (some ((0,18446744073709551615,()),(),(),())))))) (Ah (decide (a=10)) (some ((1,1048576,()),(),(),())) (Ah (decide (a=4)) (some ((1,18446744073709551615,()),(),(),())) (Ah (decide (a=7)) (some ((0,10000,()),(),(),())) (Ah (decide (a=12)) (some ((b.2.2.2.2.2.2.2.2.2.2.1,16777216,()),(),(),())) (some ((0,18446744073709551615,()),(),(),())))))))))) (Ah (decide (a=5)) (Ah (decide (a=5)) (some ((1,1099511627776,()),(),(),())) (Ah (decide (a=2)) (Ah (decide (a=2)) (some ((0,1048576,()),(),(),())) (Ah (decide (a=3)) (Ah (decide (a=3)) (some ((1,1048576,()),(),(),())) (Ah (decide (a=4)) (some ((1,18446744073709551615,()),(),(),())) (Ah (decide (a=7)) (some ((0,10000,()),(),(),())) (Ah (decide (a=12)) (some ((b.2.2.2.2.2.2.2.2.2.2.1,16777216,()),(),(),())) (some ((0,18446744073709551615,()),(),(),())))))) (Ah (decide (a=10)) (some ((1,1048576,()),(),(),())) (Ah (decide (a=4)) (some ((1,18446744073709551615,()),(),(),())) (Ah (decide (a=7)) (some ((0,10000,()),(),(),())) (Ah (decide (a=12)) (some ((b.2.2.2.2.2.2.2.2.2.2.1,16777216,()),(),(),())) (some ((0,18446744073709551615,()),(),(),())))))))) (Ah (decide (a=11)) (some ((0,1048576,()),(),(),())) (Ah (decide (a=3)) (Ah (decide (a=3)) (some ((1,1048576,()),(),(),())) (Ah (decide (a=4)) (some ((1,18446744073709551615,()),(),(),())) (Ah (decide (a=7)) (some ((0,10000,()),(),(),())) (Ah (decide (a=12)) (some ((b.2.2.2.2.2.2.2.2.2.2.1,16777216,()),(),(),())) (some ((0,18446744073709551615,()),(),(),())))))) (Ah (decide (a=10)) (some ((1,1048576,()),(),(),())) (Ah (decide (a=4)) (some ((1,18446744073709551615,()),(),(),())) (Ah (decide (a=7)) (some ((0,10000,()),(),(),())) (Ah (decide (a=12)) (some ((b.2.2.2.2.2.2.2.2.2.2.1,16777216,()),(),(),())) (some ((0,18446744073709551615,()),(),(),())))))))))) (Ah (decide (a=9)) (some ((1,1099511627776,()),(),(),())) (Ah (decide (a=2)) (Ah (decide (a=2)) (some ((0,1048576,()),(),(),())) (Ah (decide (a=3)) (Ah (decide (a=3)) (some ((1,1048576,()),(),(),())) (Ah (decide (a=4)) (some ((1,18446744073709551615,()),(),(),())) (Ah (decide (a=7)) (some ((0,10000,()),(),(),())) (Ah (decide (a=12)) (some ((b.2.2.2.2.2.2.2.2.2.2.1,16777216,()),(),(),())) (some ((0,18446744073709551615,()),(),(),())))))) (Ah (decide (a=10)) (some ((1,1048576,()),(),(),())) (Ah (decide (a=4)) (some ((1,18446744073709551615,()),(),(),())) (Ah (decide (a=7)) (some ((0,10000,()),(),(),())) (Ah (decide (a=12)) (some ((b.2.2.2.2.2.2.2.2.2.2.1,16777216,()),(),(),())) (some ((0,18446744073709551615,()),(),(),())))))))) (Ah (decide (a=11)) (some ((0,1048576,()),(),(),())) (Ah (decide (a=3)) (Ah (decide (a=3)) (some ((1,1048576,()),(),(),())) (Ah (decide (a=4)) (some ((1,18446744073709551615,()),(),(),())) (Ah (decide (a=7)) (some ((0,10000,()),(),(),())) (Ah (decide (a=12)) (some ((b.2.2.2.2.2.2.2.2.2.2.1,16777216,()),(),(),())) (some ((0,18446744073709551615,()),(),(),())))))) (Ah (decide (a=10)) (some ((1,1048576,()),(),(),())) (Ah (decide (a=4)) (some ((1,18446744073709551615,()),(),(),())) (Ah (decide (a=7)) (some ((0,10000,()),(),(),())) (Ah (decide (a=12)) (some ((b.2.2.2.2.2.2.2.2.2.2.1,16777216,()),(),(),())) (some ((0,18446744073709551615,()),(),(),()))))))))))))
def W0:Acu:=fun x=>Ak9 Ac x.1 x.2.1
abbrev J9:Ce:=⟨[V12],[Bv]⟩
abbrev Vy:=(Pc×Unit)→Option Y14
def Xi(g:Amc)(h:Acu)(c:It)(d:Ajl)(i:Cff→Option Y14)(b:Pc)(a:Int):Option Y14:=(Ah (decide (a≤12)) ((g (b,a,())).bind fun e=>(h (b,a,())).bind fun f=>(c (f.1.1,())).bind fun j=>(d (e.1.1,j.1.1,())).bind fun k=>Ah (decide (k.1.1<0)) (some ((a,()),(),())) ((c (f.1.2.1,())).bind fun l=>(d (e.1.1,l.1.1,())).bind fun m=>Ah (decide (m.1.1>0)) (some ((a,()),(),())) (i (b,(IntKind.wrap .i64 (a+1)),())))) (some ((0,()),(),())))
def Ou(L:Ae)(a:Amc)(b:Acu)(c:It)(d:Ajl)(e:Pc):Option Y14:=(L _ _ (fun z x=>Xi a b c d z x.1 x.2.1) (e,1,()))
def Iw:Vy:=fun x=>Ou Ac Ae7 W0 Da U9 x.1
abbrev Zp:Ce:=⟨[V12],[V25]⟩
abbrev Anm:=(Pc×Unit)→Option Xs
def Aej(L:Ae)(a:Vy)(b:Pc):Option Xs:=((a (b,())).bind fun c=>some (((decide (c.1.1=0)),()),(),()))
def S8:Anm:=fun x=>Aej Ac Iw x.1
set_option maxRecDepth 100000
abbrev Afy:Ce:=⟨[(.ro true W4),(.ro true W4)],[(.ro true W5)]⟩
abbrev Amv:=Y39→Option T2
def Aod(g:Hv)(h:Y97→Option T2)(b:(List Int))(c:(List Int))(i:(List Int))(d:(List Int))(e:Int)(a:Int):Option T2:=(Ah (decide (a<4)) (Ah (B0 a 4) (Ah (B0 a 4) ((g ((List.getD b (Int.toNat a) 0),(List.getD c (Int.toNat a) 0),e,())).bind fun f=>Ah (B0 a 5) (h (b,c,i,(List.set d (Int.toNat a) f.1.1),f.1.2.1,(IntKind.wrap .i64 (a+1)),())) none) none) none) (some (((List.set d 4 e),()),(),(),())))
def Amt(L:Ae)(a:Hv)(b:(List Int))(c:(List Int)):Option T2:=(L _ _ (fun z x=>Aod a z x.1 x.2.1 x.2.2.1 x.2.2.2.1 x.2.2.2.2.1 x.2.2.2.2.2.1) (b,c,[0,0,0,0,0],[0,0,0,0,0],0,0,()))
def X5:Amv:=fun x=>Amt Ac Ex x.1 x.2.1
abbrev Vs:Ce:=⟨[(.ro true W4)],[V25]⟩
abbrev Pf:=Y4→Option Xs
def Ac4(L:Ae)(a:(List Int)):Option Xs:=(some (((eqD (Ty.arr 4 (Ty.int IntKind.u64)) a [(0:Int),(0:Int),(0:Int),(0:Int)]),()),(),()))
def Jb:Pf:=fun x=>Ac4 Ac x.1
abbrev Zt:Ce:=⟨[V46],[V25]⟩
abbrev Ru:=Y99→Option Xs
def Aki(c:Amv)(f:Pf)(g:Cqk→Option Xs)(d:(List Y98))(b:(List Y98))(e:Int)(a:Int):Option Xs:=(A2 (IntKind.wrap .i64 (a-1)) fun h=>A2 (List.length d) fun i=>Ah (decide (a<e)) (Ah (B0 a (List.length b)) (Ah (decide ((List.getD b (Int.toNat a) (Ty.zero D9)).1=0)) (some ((false,()),(),())) (Ah (decide (a>0)) (Ah (B0 h i) (Ah (decide ((List.getD b (Int.toNat a) (Ty.zero D9)).1≤(List.getD d (Int.toNat h) (Ty.zero D9)).1)) (some ((false,()),(),())) ((c ((List.getD b (Int.toNat a) (Ty.zero D9)).2.1,(List.getD b (Int.toNat a) (Ty.zero D9)).2.2.2.2.1,())).bind fun j=>(c ((List.getD b (Int.toNat a) (Ty.zero D9)).2.2.1,(List.getD b (Int.toNat a) (Ty.zero D9)).2.2.2.1,())).bind fun k=>Ah (!(eqD (Ty.arr 5 (Ty.int IntKind.u64)) j.1.1 k.1.1)) (some ((false,()),(),())) ((f ((List.getD b (Int.toNat a) (Ty.zero D9)).2.1,())).bind fun l=>Ah (!(eqD (Ty.bool) (decide ((List.getD b (Int.toNat a) (Ty.zero D9)).2.2.2.2.2.1=(0:Int))) l.1.1)) (some ((false,()),(),())) (g (d,b,e,(IntKind.wrap .i64 (a+1)),()))))) none) ((c ((List.getD b (Int.toNat a) (Ty.zero D9)).2.1,(List.getD b (Int.toNat a) (Ty.zero D9)).2.2.2.2.1,())).bind fun m=>(c ((List.getD b (Int.toNat a) (Ty.zero D9)).2.2.1,(List.getD b (Int.toNat a) (Ty.zero D9)).2.2.2.1,())).bind fun n=>Ah (!(eqD (Ty.arr 5 (Ty.int IntKind.u64)) m.1.1 n.1.1)) (some ((false,()),(),())) ((f ((List.getD b (Int.toNat a) (Ty.zero D9)).2.1,())).bind fun o=>Ah (!(eqD (Ty.bool) (decide ((List.getD b (Int.toNat a) (Ty.zero D9)).2.2.2.2.2.1=(0:Int))) o.1.1)) (some ((false,()),(),())) (g (d,b,e,(IntKind.wrap .i64 (a+1)),())))))) none) (some (((decide (((i:Nat):Int)≤64)),()),(),())))
def Afo(L:Ae)(b:Amv)(c:Pf)(a:(List Y98)):Option Xs:=(L _ _ (fun z x=>Aki b c z x.1 x.2.1 x.2.2.1 x.2.2.2.1) (a,a,(List.length a:Int),0,()))
def Kt:Ru:=fun x=>Afo Ac X5 Jb x.1
abbrev Aks:=(Y98×Int×Unit)→Option Y54
def Aw0(L:Ae)(b:Y98)(a:Int):Option Y54:=(some (((decide (b.1=a)),()),(),a,()))
def Aq0:Aks:=fun x=>Aw0 Ac x.1 x.2.1
abbrev Kb:=((List Y98)×(Int×Unit)×Unit)→Option Y56
def H6(f:Aks)(g:((List Y98)×(Int×Unit)×Int×Int×Unit)→Option Y56)(b:(List Y98))(c:(Int×Unit))(d:Int)(a:Int):Option Y56:=(Ah (decide (a<d)) (Ah (B0 a (List.length b)) ((f ((List.getD b (Int.toNat a) (0,[0,0,0,0],[0,0,0,0],[0,0,0,0],[0,0,0,0],0,())),c.1,())).bind fun e=>Ah e.1.1 (some ((a,()),(),(),())) (g (b,(e.2.2.1,c.2),d,(IntKind.wrap .i64 (a+1)),()))) none) (some (((-1:Int),()),(),(),())))
def Ki(L:Ae)(b:Aks)(a:(List Y98))(c:(Int×Unit)):Option Y56:=(L _ _ (fun z x=>H6 b z x.1 x.2.1 x.2.2.1 x.2.2.2.1) (a,c,(List.length a:Int),0,()))
def Fx:Kb:=fun x=>Ki Ac Aq0 x.1 x.2.1
abbrev Asc:=Ccb→Option Y56
def Bbp(L:Ae)(a:Kb)(b:(List Y98))(c:Int):Option Y56:=((a (b,(c,()),())).bind fun d=>some ((d.1.1,()),(),(),()))
def Ac0:Asc:=fun x=>Bbp Ac Fx x.1 x.2.1
abbrev Bk0:=Cqb→Option Cl1
def Awr(L:Ae)(p:Asc)(q:Ru)(d:M9)(h:Pf)(g:Hn)(b:(List Y98))(r:Int)(i:(List Int))(j:(List Int))(k:Int):Option Cl1:=((p (b,r,())).bind fun a=>(q (b,())).bind fun s=>Ah (!s.1.1) (some (([],2,()),(),(),(),(),(),())) (Ah (decide (k=0)) (some (([],2,()),(),(),(),(),(),())) (Ah (decide (a.1.1<0)) (some (([],8,()),(),(),(),(),(),())) (Ah (B0 a.1.1 (List.length b)) ((d (i,j,())).bind fun l=>(d ((List.getD b (Int.toNat a.1.1) (Ty.zero D9)).2.1,l.1.1,())).bind fun c=>(d ((List.getD b (Int.toNat a.1.1) (Ty.zero D9)).2.2.1,i,())).bind fun e=>(d ((List.getD b (Int.toNat a.1.1) (Ty.zero D9)).2.2.2.1,j,())).bind fun f=>Ah (!(decide (l.1.2.1=0))) (some (([],4,()),(),(),(),(),(),())) (Ah (!(decide (c.1.2.1=0))) (some (([],4,()),(),(),(),(),(),())) (Ah (!(decide (e.1.2.1=0))) (some (([],4,()),(),(),(),(),(),())) (Ah (!(decide (f.1.2.1=0))) (some (([],4,()),(),(),(),(),(),())) ((h ((List.getD b (Int.toNat a.1.1) (Ty.zero D9)).2.1,())).bind fun t=>Ah t.1.1 ((h (c.1.1,())).bind fun u=>Ah (!u.1.1) ((g (b,())).bind fun m=>Ah (B0 a.1.1 (List.length m.1.1)) (some (((List.set m.1.1 (Int.toNat a.1.1) ((List.getD b (Int.toNat a.1.1) (Ty.zero D9)).1,c.1.1,e.1.1,f.1.1,(List.getD b (Int.toNat a.1.1) (Ty.zero D9)).2.2.2.2.1,k,(List.getD b (Int.toNat a.1.1) (Ty.zero D9)).2.2.2.2.2.2)),0,()),(),(),(),(),(),())) none) ((g (b,())).bind fun n=>Ah (B0 a.1.1 (List.length n.1.1)) (some (((List.set n.1.1 (Int.toNat a.1.1) ((List.getD b (Int.toNat a.1.1) (Ty.zero D9)).1,c.1.1,e.1.1,f.1.1,(List.getD b (Int.toNat a.1.1) (Ty.zero D9)).2.2.2.2)),0,()),(),(),(),(),(),())) none)) ((g (b,())).bind fun o=>Ah (B0 a.1.1 (List.length o.1.1)) (some (((List.set o.1.1 (Int.toNat a.1.1) ((List.getD b (Int.toNat a.1.1) (Ty.zero D9)).1,c.1.1,e.1.1,f.1.1,(List.getD b (Int.toNat a.1.1) (Ty.zero D9)).2.2.2.2)),0,()),(),(),(),(),(),())) none)))))) none))))
def Aqw:Bk0:=fun x=>Awr Ac Ac0 Kt Fy Jb Ei x.1 x.2.1 x.2.2.1 x.2.2.2.1 x.2.2.2.2.1
abbrev Bk1:=Crb→Option Clz
def Awp(L:Ae)(i:Asc)(j:Ru)(k:Bb0)(l:M9)(m:Pf)(e:Hn)(b:(List Y98))(n:Int)(f:(List Int)):Option Clz:=((i (b,n,())).bind fun a=>(j (b,())).bind fun o=>Ah (!o.1.1) (some (([],2,()),(),(),(),())) (Ah (decide (a.1.1<0)) (some (([],8,()),(),(),(),())) (Ah (B0 a.1.1 (List.length b)) ((k ((List.getD b (Int.toNat a.1.1) (Ty.zero D9)).2.1,f,())).bind fun c=>Ah (!(decide (c.1.2.1=0))) (some (([],10,()),(),(),(),())) ((l ((List.getD b (Int.toNat a.1.1) (Ty.zero D9)).2.2.2.2.1,f,())).bind fun d=>Ah (!(decide (d.1.2.1=0))) (some (([],d.1.2.1,()),(),(),(),())) ((m (c.1.1,())).bind fun p=>Ah p.1.1 ((e (b,())).bind fun g=>Ah (B0 a.1.1 (List.length g.1.1)) (some (((List.set g.1.1 (Int.toNat a.1.1) ((List.getD b (Int.toNat a.1.1) (Ty.zero D9)).1,c.1.1,(List.getD b (Int.toNat a.1.1) (Ty.zero D9)).2.2.1,(List.getD b (Int.toNat a.1.1) (Ty.zero D9)).2.2.2.1,d.1.1,0,(List.getD b (Int.toNat a.1.1) (Ty.zero D9)).2.2.2.2.2.2)),0,()),(),(),(),())) none) ((e (b,())).bind fun h=>Ah (B0 a.1.1 (List.length h.1.1)) (some (((List.set h.1.1 (Int.toNat a.1.1) ((List.getD b (Int.toNat a.1.1) (Ty.zero D9)).1,c.1.1,(List.getD b (Int.toNat a.1.1) (Ty.zero D9)).2.2.1,(List.getD b (Int.toNat a.1.1) (Ty.zero D9)).2.2.2.1,d.1.1,(List.getD b (Int.toNat a.1.1) (Ty.zero D9)).2.2.2.2.2)),0,()),(),(),(),())) none)))) none)))
def Aq8:Bk1:=fun x=>Awp Ac Ac0 Kt Vb Fy Jb Ei x.1 x.2.1 x.2.2.1
set_option maxRecDepth 100000
abbrev Zv:Ce:=⟨[V19],[V25]⟩
abbrev Aoq:=(Auk×Unit)→Option Xs
def Ajw(e:Ru)(f:Su)(g:(Auk×(List Y98)×Int×Int×Unit)→Option Xs)(a:Auk)(c:(List Y98))(d:Int)(b:Int):Option Xs:=(Ah (decide (b<d)) (Ah (B0 b (List.length c)) (Ah (decide ((List.getD c (Int.toNat b) (0,[0,0,0,0],[0,0,0,0],[0,0,0,0],[0,0,0,0],0,())).2.2.2.2.2.1>a.2.2.2.1)) (some ((false,()),(),())) (g (a,c,d,(IntKind.wrap .i64 (b+1)),()))) none) ((e (a.2.2.2.2.2.1,())).bind fun h=>Ah h.1.1 ((f (a.2.2.2.2.1,())).bind fun i=>some ((i.1.1,()),(),())) (some ((false,()),(),()))))
def Af1(L:Ae)(b:Ru)(c:Su)(a:Auk):Option Xs:=(L _ _ (fun z x=>Ajw b c z x.1 x.2.1 x.2.2.1 x.2.2.2.1) (a,a.2.2.2.2.2.1,(List.length a.2.2.2.2.2.1:Int),0,()))
def S4:Aoq:=fun x=>Af1 Ac Kt F8 x.1
set_option maxRecDepth 100000
abbrev Q5:Ce:=⟨[(.ro true W4)],[V32]⟩
abbrev Asd:=Y4→Option Y6
def Aa7(e:Y64→Option Y6)(c:(List Int))(b:(List Int))(a:Int):Option Y6:=(A2 (IntKind.wrap .i64 (8*(Int.tmod a 8))) fun d=>Ah (decide (a≥0)) (Ah (B0 (IntKind.wrap .i64 (Int.tdiv a 8)) 4) (Ah (decide (0≤d)) (Ah (A9 ((List.length b)+1) (Ty.int IntKind.u8)) (e (c,(List.append b [(IntKind.wrap .u8 (Int.fdiv (List.getD c (Int.toNat (IntKind.wrap .i64 (Int.tdiv a 8))) 0) (2 ^ (min (Int.toNat d) 64))))]),(IntKind.wrap .i64 (a-1)),())) none) none) none) (some ((b,()),(),())))
def Ar4(L:Ae)(c:As2)(a:(List Int)):Option Y6:=((c (a,())).bind fun d=>A2 (IntKind.wrap .i64 (Int.tdiv (IntKind.wrap .i64 (d.1.1+7)) 8)) fun b=>L _ _ (fun z x=>Aa7 z x.1 x.2.1 x.2.2.1) (a,[(IntKind.wrap .u8 b)],(IntKind.wrap .i64 (b-1)),()))
def L7:Asd:=fun x=>Ar4 Ac Oo x.1
abbrev Gz:Ce:=⟨[V3,(.ro true W4)],[V32]⟩
abbrev Qm:=Y39→Option T2
def Zr(L:Ae)(a:Asd)(b:Hl)(c:(List Int))(d:(List Int)):Option T2:=((a (d,())).bind fun e=>(b ([c,e.1.1],())).bind fun f=>some ((f.1.1,()),(),(),()))
def Fw:Qm:=fun x=>Zr Ac L7 B6 x.1 x.2.1
abbrev Mg:Ce:=⟨[V3,J1],[V32]⟩
abbrev Aa8:=Y8→Option T2
def Aat(L:Ae)(a:It)(b:Qm)(c:(List Int))(d:Int):Option T2:=((a (d,())).bind fun e=>(b (c,e.1.1,())).bind fun f=>some ((f.1.1,()),(),(),()))
def J8:Aa8:=fun x=>Aat Ac Da Fw x.1 x.2.1
abbrev Mb:Ce:=⟨[V3,Bv,Bv],[(.ro true W4),Bv,Bv]⟩
abbrev Acl:=Y16→Option Y49
def Ag5(j:(Int×(List Int)×(List Int)×Int×(List Int)×Int×Int×Unit)→Option Y49)(f:Int)(k:(List Int))(c:(List Int))(d:Int)(e:(List Int))(g:Int)(a:Int):Option Y49:=(A2 (IntKind.wrap .i64 ((IntKind.wrap .i64 (d-1))-a)) fun h=>A2 (IntKind.wrap .i64 (Int.tdiv h 8)) fun b=>A2 (IntKind.wrap .i64 (8*(Int.tmod h 8))) fun i=>Ah (decide (a<g)) (Ah (B0 b 4) (Ah (B0 a (List.length c)) (Ah (decide (0≤i)) (Ah (B0 b 4) (j (f,k,c,d,(List.set e (Int.toNat b) (IntKind.wrap .u64 (((BitVec.toNat ((BitVec.ofInt 64 (List.getD e (Int.toNat b) 0)) ||| (BitVec.ofInt 64 (IntKind.wrap .u64 ((IntKind.wrap .u64 (List.getD c (Int.toNat a) 0))*(2 ^ (min (Int.toNat i) 64))))))):Nat):Int))),g,(IntKind.wrap .i64 (a+1)),())) none) none) none) none) (some ((e,(IntKind.wrap .i64 ((IntKind.wrap .i64 (f+1))+d)),0,()),(),(),(),())))
def Ak2(L:Ae)(c:(List Int))(a:Int)(i:Int):Option Y49:=(A2 (List.take ((List.length c)-(Int.toNat a)) (List.drop (Int.toNat a) c)) fun e=>A2 (List.length e) fun f=>A2 ((f:Nat):Int) fun g=>A2 (IntKind.wrap .i64 (List.getD e 0 0)) fun b=>A2 (List.take (f-1) (List.drop 1 e)) fun d=>A2 (List.length d) fun h=>Ah (decide (a<0)) (some (([0,0,0,0],0,2,()),(),(),(),())) (Ah (decide (a>(List.length c:Int))) (some (([0,0,0,0],0,2,()),(),(),(),())) (Ah ((decide (0≤a))&&(decide (a≤(List.length c:Int)))) (Ah (decide (g=0)) (some (([0,0,0,0],0,3,()),(),(),(),())) (Ah (B0 0 f) (Ah (decide (1≤g)) (Ah (decide (b>i)) (some (([0,0,0,0],0,3,()),(),(),(),())) (Ah (decide (b>((h:Nat):Int))) (some (([0,0,0,0],0,3,()),(),(),(),())) (Ah (decide (b>0)) (Ah (B0 0 h) (Ah (decide ((List.getD d 0 0)=0)) (some (([0,0,0,0],0,3,()),(),(),(),())) (L _ _ (fun z x=>Ag5 z x.1 x.2.1 x.2.2.1 x.2.2.2.1 x.2.2.2.2.1 x.2.2.2.2.2.1 x.2.2.2.2.2.2.1) (a,[0,0,0,0],d,b,[0,0,0,0],b,0,()))) none) (L _ _ (fun z x=>Ag5 z x.1 x.2.1 x.2.2.1 x.2.2.2.1 x.2.2.2.2.1 x.2.2.2.2.2.1 x.2.2.2.2.2.2.1) (a,[0,0,0,0],d,b,[0,0,0,0],b,0,()))))) none) none)) none)))
def P4:Acl:=fun x=>Ak2 Ac x.1 x.2.1 x.2.2.1
abbrev Pr:Ce:=⟨[V3,Bv],[J1,Bv,Bv]⟩
abbrev Af7:=Y8→Option (Y7×Unit×Unit×Unit)
def Af9(L:Ae)(b:Acl)(c:(List Int))(d:Int):Option (Y7×Unit×Unit×Unit):=((b (c,d,8,())).bind fun a=>some (((List.getD a.1.1 0 0),a.1.2.1,a.1.2.2.1,()),(),(),()))
def Abe:Af7:=fun x=>Af9 Ac P4 x.1 x.2.1
abbrev Il:Ce:=⟨[V3,Bv],[(.ro true W4),Bv,Bv]⟩
abbrev T5:=Y8→Option (Y16×Unit×Unit×Unit)
def Ac8(L:Ae)(b:Acl)(c:(List Int))(d:Int):Option (Y16×Unit×Unit×Unit):=((b (c,d,32,())).bind fun a=>some ((a.1.1,a.1.2.1,a.1.2.2.1,()),(),(),()))
def Le:T5:=fun x=>Ac8 Ac P4 x.1 x.2.1
abbrev P2:Ce:=⟨[V3,Bv],[V7,Bv,Bv]⟩
abbrev Ae9:=Y8→Option Y81
def Agn(L:Ae)(d:T5)(e:Su)(b:(List Int))(a:Int):Option Y81:=(Ah (decide (a<0)) (some (((false,[0,0,0,0],()),0,2,()),(),(),())) (Ah (decide (a>(List.length b:Int))) (some (((false,[0,0,0,0],()),0,2,()),(),(),())) (Ah (decide (a=(List.length b:Int))) (some (((false,[0,0,0,0],()),0,3,()),(),(),())) (Ah (B0 a (List.length b)) (Ah (decide ((List.getD b (Int.toNat a) 0)>1)) (some (((false,[0,0,0,0],()),0,3,()),(),(),())) ((d (b,(IntKind.wrap .i64 (a+1)),())).bind fun c=>Ah (B0 a (List.length b)) (Ah (!(decide (c.1.2.2.1=0))) (some (((false,[0,0,0,0],()),0,3,()),(),(),())) ((e (((decide ((List.getD b (Int.toNat a) 0)=1)),c.1.1,()),())).bind fun f=>Ah (!f.1.1) (some (((false,[0,0,0,0],()),0,3,()),(),(),())) (some ((((decide ((List.getD b (Int.toNat a) 0)=1)),c.1.1,()),c.1.2.1,0,()),(),(),())))) none)) none))))
def Abc:Ae9:=fun x=>Agn Ac Le F8 x.1 x.2.1
abbrev Mn:Ce:=⟨[V3,V7],[V32]⟩
abbrev Alo:=Y29→Option T2
def Abb(L:Ae)(e:Su)(f:Ab3)(c:Asd)(d:Hl)(b:(List Int))(a:Y13):Option T2:=((e (a,())).bind fun g=>Ah (!g.1.1) ((f (b,())).bind fun h=>some ((h.1.1,()),(),(),())) (Ah a.1 ((c (a.2.1,())).bind fun i=>(d ([b,[1],i.1.1],())).bind fun j=>some ((j.1.1,()),(),(),())) ((c (a.2.1,())).bind fun k=>(d ([b,[0],k.1.1],())).bind fun l=>some ((l.1.1,()),(),(),()))))
def Kc:Alo:=fun x=>Abb Ac F8 Gy L7 B6 x.1 x.2.1
set_option maxRecDepth 100000
abbrev Tc:Ce:=⟨[V3],[V52]⟩
abbrev Aib:=Y4→Option ((Y40×Unit)×Unit×Unit)
def Aif(L:Ae)(a:(List Int)):Option ((Y40×Unit)×Unit×Unit):=(some (((a,0,false,()),()),(),()))
def Adb:Aib:=fun x=>Aif Ac x.1
abbrev Cp:Ce:=⟨[V52,Bv,Bv],[V25]⟩
abbrev Gk:=(Y40×Int×Int×Unit)→Option Y73
def Mz(L:Ae)(a:Y40)(b:Int)(c:Int):Option Y73:=(Ah a.2.2.1 (some ((false,()),(a.1,a.2.1,true,a.2.2.2),(),(),())) (Ah (!(decide (c=0))) (some ((false,()),(a.1,a.2.1,true,a.2.2.2),(),(),())) (some ((true,()),(a.1,b,a.2.2),(),(),()))))
def De:Gk:=fun x=>Mz Ac x.1 x.2.1 x.2.2.1
abbrev Cu:Ce:=⟨[V52],[J1]⟩
abbrev Gx:=(Y40×Unit)→Option Y46
def Ny(L:Ae)(d:Af7)(e:Gk)(a:Y40):Option Y46:=((d (a.1,a.2.1,())).bind fun b=>(e (a,b.1.2.1,b.1.2.2.1,())).bind fun c=>Ah (!c.1.1) (some ((0,()),c.2.1,())) (some ((b.1.1,()),c.2.1,())))
def Dj:Gx:=fun x=>Ny Ac Abe De x.1
abbrev Dt:Ce:=⟨[V52],[(.ro true W4)]⟩
abbrev Gj:=(Y40×Unit)→Option (Y4×Y40×Unit)
def M7(L:Ae)(d:T5)(e:Gk)(a:Y40):Option (Y4×Y40×Unit):=((d (a.1,a.2.1,())).bind fun b=>(e (a,b.1.2.1,b.1.2.2.1,())).bind fun c=>Ah (!c.1.1) (some (([0,0,0,0],()),c.2.1,())) (some ((b.1.1,()),c.2.1,())))
def Fi:Gj:=fun x=>M7 Ac Le De x.1
abbrev H5:Ce:=⟨[V52],[V25]⟩
abbrev K5:=(Y40×Unit)→Option Y47
def Q4(L:Ae)(a:Y40):Option Y47:=(Ah (!a.2.2.1) (some (((decide (a.2.1=(List.length a.1:Int))),()),a,())) (some ((false,()),a,())))
def N0:K5:=fun x=>Q4 Ac x.1
abbrev Q6:Ce:=⟨[V52],[(.ro true (.int .u8))]⟩
abbrev Ar6:=(Y40×Unit)→Option Y46
def Acg(L:Ae)(a:Y40):Option Y46:=(A2 (IntKind.wrap .i64 (a.2.1+1)) fun b=>A2 (IntKind.wrap .i64 (b-1)) fun c=>Ah a.2.2.1 (some ((0,()),(a.1,a.2.1,true,a.2.2.2),())) (Ah (decide (a.2.1≥(List.length a.1:Int))) (some ((0,()),(a.1,a.2.1,true,a.2.2.2),())) (Ah (B0 c (List.length a.1)) (some (((List.getD a.1 (Int.toNat c) 0),()),(a.1,b,a.2.2),())) none)))
def Ao1:Ar6:=fun x=>Acg Ac x.1
abbrev Gw:Ce:=⟨[V52],[V7]⟩
abbrev Oa:=(Y40×Unit)→Option ((Y13×Unit)×Y40×Unit)
def Oe(L:Ae)(d:Ae9)(e:Gk)(a:Y40):Option ((Y13×Unit)×Y40×Unit):=((d (a.1,a.2.1,())).bind fun b=>(e (a,b.1.2.1,b.1.2.2.1,())).bind fun c=>Ah (!c.1.1) (some (((false,[0,0,0,0],()),()),c.2.1,())) (some ((b.1.1,()),c.2.1,())))
def Mc:Oa:=fun x=>Oe Ac Abc De x.1
abbrev In:Ce:=⟨[V52],[V25]⟩
abbrev Lv:=(Y40×Unit)→Option Y47
def Rv(L:Ae)(a:Y40):Option Y47:=(some ((a.2.2.1,()),a,()))
def Pe:Lv:=fun x=>Rv Ac x.1
set_option maxRecDepth 100000
abbrev Ka:Ce:=⟨[V52],[(.ro true W96)]⟩
abbrev Wa:=(Y40×Unit)→Option ((Db×Unit)×Y40×Unit)
def Wn(L:Ae)(a:Gx)(b:Gj)(a1:Oa)(a2:Y40):Option ((Db×Unit)×Y40×Unit):=((a (a2,())).bind fun c=>(a (c.2.1,())).bind fun d=>(a (d.2.1,())).bind fun e=>(a (e.2.1,())).bind fun f=>(b (f.2.1,())).bind fun g=>(a (g.2.1,())).bind fun h=>(b (h.2.1,())).bind fun i=>(a (i.2.1,())).bind fun j=>(b (j.2.1,())).bind fun k=>(a (k.2.1,())).bind fun l=>(a (l.2.1,())).bind fun m=>(a (m.2.1,())).bind fun n=>(a (n.2.1,())).bind fun o=>(a (o.2.1,())).bind fun p=>(a (p.2.1,())).bind fun q=>(a (q.2.1,())).bind fun r=>(b (r.2.1,())).bind fun s=>(a (s.2.1,())).bind fun t=>(b (t.2.1,())).bind fun u=>(a (u.2.1,())).bind fun v=>(a (v.2.1,())).bind fun w=>(a (w.2.1,())).bind fun y=>(a1 (y.2.1,())).bind fun a0=>some (((c.1.1,(d.1.1,e.1.1,f.1.1,g.1.1,h.1.1,i.1.1,j.1.1,k.1.1,l.1.1,m.1.1,n.1.1,o.1.1,()),(p.1.1,q.1.1,r.1.1,s.1.1,()),t.1.1,(u.1.1,v.1.1,w.1.1,y.1.1,a0.1.1,[],()),[],[[0,0,0,0],[0,0,0,0],[0,0,0,0],[0,0,0,0]],[],[],[0,0,0,0],[],()),()),a0.2.1,()))
def Sy:Wa:=fun x=>Wn Ac Dj Fi Mc x.1
abbrev Mh:Ce:=⟨[V52,(.ign)],[]⟩
abbrev Rg:=(Y40×Unit×Unit)→Option Y44
def Apq(c:Lv)(f:(Y40×Int×Int×Unit)→Option Y44)(a:Y40)(d:Int)(e:Int):Option Y44:=(Ah (decide (e<d)) ((c (a,())).bind fun b=>Ah (!b.1.1) none (some ((),b.2.1,(),()))) (some ((),a,(),())))
def Aa6(L:Ae)(b:Gx)(c:Lv)(d:Y40)(e:Unit):Option Y44:=((b (d,())).bind fun a=>L _ _ (fun z x=>Apq c z x.1 x.2.1 x.2.2.1) (a.2.1,a.1.1,0,()))
def Wd:Rg:=fun x=>Aa6 Ac Dj Pe x.1 x.2.1
abbrev Hz:Ce:=⟨[V20],[V25]⟩
abbrev Qz:=(Db×Unit)→Option Xs
def Rq(e:(Db×(List Y18)×Int×Int×Unit)→Option Xs)(c:Db)(b:(List Y18))(d:Int)(a:Int):Option Xs:=(Ah (decide (a<d)) (Ah (B0 a (List.length b)) (Ah (!(decide ((List.getD b (Int.toNat a) (0,0,[0,0,0,0],())).1=(IntKind.wrap .u64 a)))) (some ((false,()),(),())) (Ah (decide ((List.getD b (Int.toNat a) (0,0,[0,0,0,0],())).2.1=0)) (some ((false,()),(),())) (Ah (eqD (Ty.arr 4 (Ty.int IntKind.u64)) (List.getD b (Int.toNat a) ((0:Int),(0:Int),[(0:Int),(0:Int),(0:Int),(0:Int)],())).2.2.1 [(0:Int),(0:Int),(0:Int),(0:Int)]) (some ((false,()),(),())) (e (c,b,d,(IntKind.wrap .i64 (a+1)),()))))) none) (some (((decide ((List.length c.2.2.2.2.2.2.2.2.1:Int)=(List.length c.2.2.2.2.2.2.2.1:Int))),()),(),())))
def La(L:Ae)(a:Db):Option Xs:=(L _ _ (fun z x=>Rq z x.1 x.2.1 x.2.2.1 x.2.2.2.1) (a,a.2.2.2.2.2.2.2.1,(List.length a.2.2.2.2.2.2.2.1:Int),0,()))
def G0:Qz:=fun x=>La Ac x.1
abbrev H3:Ce:=⟨[V20],[V25]⟩
abbrev Qq:=(Db×Unit)→Option Xs
def Kx(g:G9)(h:Tg)(f:Cp3→Option Xs)(b:Db)(d:(List Int))(c:(List Y18))(e:Int)(a:Int):Option Xs:=(Ah (decide (a<e)) (Ah (B0 a (List.length c)) (Ah (B0 a (List.length b.2.2.2.2.2.2.2.2.1)) (Ah (!(List.getD b.2.2.2.2.2.2.2.2.1 (Int.toNat a) false)) ((g (d,(List.getD c (Int.toNat a) (0,0,[0,0,0,0],())).2.2.1,())).bind fun i=>f (b,i.1.1,c,e,(IntKind.wrap .i64 (a+1)),())) (f (b,d,c,e,(IntKind.wrap .i64 (a+1)),()))) none) none) ((h ([b.2.2.2.2.2.2.2.2.2.1],())).bind fun j=>some (((eqD (Ty.arr 5 (Ty.int IntKind.u64)) d j.1.1),()),(),())))
def Rl(L:Ae)(d:G9)(g:Tg)(h:Crl→Option Xs)(a:Db)(e:(List Int))(c:(List Y17))(f:Int)(b:Int):Option Xs:=(Ah (decide (b<f)) (Ah (B0 b (List.length c)) ((d (e,(List.getD c (Int.toNat b) (0,[0,0,0,0],0,())).2.1,())).bind fun i=>h (a,i.1.1,c,f,(IntKind.wrap .i64 (b+1)),())) none) (L _ _ (fun z x=>Kx d g z x.1 x.2.1 x.2.2.1 x.2.2.2.1 x.2.2.2.2.1) (a,e,a.2.2.2.2.2.2.2.1,(List.length a.2.2.2.2.2.2.2.1:Int),0,())))
def Lb(L:Ae)(b:Tg)(c:G9)(a:Db):Option Xs:=((b ((List.take ((4:Nat)-(0:Nat)) (List.drop 0 a.2.2.2.2.2.2.1)),())).bind fun d=>L _ _ (fun z x=>Rl L c b z x.1 x.2.1 x.2.2.1 x.2.2.2.1 x.2.2.2.2.1) (a,d.1.1,a.2.2.2.2.2.1,(List.length a.2.2.2.2.2.1:Int),0,()))
def Gu:Qq:=fun x=>Lb Ac Lc Et x.1
abbrev Ja:Ce:=⟨[V20],[V25]⟩
abbrev Um:=(Db×Unit)→Option Xs
def Ma(f:Tg)(g:(Db×(List Y2)×(List Y9)×Int×Int×Unit)→Option Xs)(d:Db)(c:(List Y2))(b:(List Y9))(e:Int)(a:Int):Option Xs:=(A2 (List.length c) fun h=>A2 (IntKind.wrap .i64 (a-1)) fun i=>A2 (List.length d.2.2.2.2.2.2.2.2.2.2.1) fun j=>Ah (decide (a<e)) (Ah (B0 a (List.length b)) (Ah (decide ((List.getD b (Int.toNat a) (0,[0,0,0,0],())).1=0)) (some ((false,()),(),())) (Ah (eqD (Ty.arr 4 (Ty.int IntKind.u64)) (List.getD b (Int.toNat a) ((0:Int),[(0:Int),(0:Int),(0:Int),(0:Int)],())).2.1 [(0:Int),(0:Int),(0:Int),(0:Int)]) (some ((false,()),(),())) (Ah (decide (a>0)) (Ah (B0 i j) (Ah (decide ((List.getD b (Int.toNat a) (0,[0,0,0,0],())).1≤(List.getD d.2.2.2.2.2.2.2.2.2.2.1 (Int.toNat i) (0,[0,0,0,0],())).1)) (some ((false,()),(),())) ((f ([(List.getD b (Int.toNat a) (0,[0,0,0,0],())).2.1],())).bind fun k=>Ah (!(eqD (Ty.arr 5 (Ty.int IntKind.u64)) (Rn [(0:Int),(0:Int),(0:Int),(0:Int),(0:Int)] c (List.getD b (Int.toNat a) ((0:Int),[(0:Int),(0:Int),(0:Int),(0:Int)],())).1) k.1.1)) (some ((false,()),(),())) (g (d,c,b,e,(IntKind.wrap .i64 (a+1)),())))) none) ((f ([(List.getD b (Int.toNat a) (0,[0,0,0,0],())).2.1],())).bind fun l=>Ah (!(eqD (Ty.arr 5 (Ty.int IntKind.u64)) (Rn [(0:Int),(0:Int),(0:Int),(0:Int),(0:Int)] c (List.getD b (Int.toNat a) ((0:Int),[(0:Int),(0:Int),(0:Int),(0:Int)],())).1) l.1.1)) (some ((false,()),(),())) (g (d,c,b,e,(IntKind.wrap .i64 (a+1)),())))))) none) (Ah (decide (h≤9223372036854775807)) (some (((decide (((h:Nat):Int)=((j:Nat):Int))),()),(),())) none))
def Vh(L:Ae)(g:G9)(h:Tg)(f:(Db×(List Y2)×(List Y18)×Int×Int×Unit)→Option Xs)(b:Db)(d:(List Y2))(c:(List Y18))(e:Int)(a:Int):Option Xs:=(Ah (decide (a<e)) (Ah (B0 a (List.length c)) (Ah (B0 a (List.length b.2.2.2.2.2.2.2.2.1)) (Ah (List.getD b.2.2.2.2.2.2.2.2.1 (Int.toNat a) false) ((g ((Rn [0,0,0,0,0] d (List.getD c (Int.toNat a) (0,0,[0,0,0,0],())).2.1),(List.getD c (Int.toNat a) (0,0,[0,0,0,0],())).2.2.1,())).bind fun i=>f (b,(K4 d (List.getD c (Int.toNat a) (0,0,[0,0,0,0],())).2.1 i.1.1),c,e,(IntKind.wrap .i64 (a+1)),())) (f (b,d,c,e,(IntKind.wrap .i64 (a+1)),()))) none) none) (L _ _ (fun z x=>Ma h z x.1 x.2.1 x.2.2.1 x.2.2.2.1 x.2.2.2.2.1) (b,d,b.2.2.2.2.2.2.2.2.2.2.1,(List.length b.2.2.2.2.2.2.2.2.2.2.1:Int),0,())))
def My(L:Ae)(b:G9)(c:Tg)(a:Db):Option Xs:=(L _ _ (fun z x=>Vh L b c z x.1 x.2.1 x.2.2.1 x.2.2.2.1 x.2.2.2.2.1) (a,[],a.2.2.2.2.2.2.2.1,(List.length a.2.2.2.2.2.2.2.1:Int),0,()))
def Ie:Um:=fun x=>My Ac Et Lc x.1
abbrev Fc:Ce:=⟨[V20],[V25]⟩
abbrev Ip:=(Db×Unit)→Option Xs
def Zz(L:Ae)(f:Anm)(g:Aoq)(h:Aro)(c:Qz)(d:Qq)(e:Um)(a:Db):Option Xs:=((f (a.2.1,())).bind fun i=>Ah (!i.1.1) (some ((false,()),(),())) (Ah (eqD (Ty.arr 4 (Ty.int IntKind.u64)) a.2.2.1.2.2.2.1 [(0:Int),(0:Int),(0:Int),(0:Int)]) (some ((false,()),(),())) ((g (a.2.2.2.2.1,())).bind fun j=>Ah (!j.1.1) (some ((false,()),(),())) (Ah (decide (a.2.2.2.2.1.2.2.1>a.2.2.1.2.1)) (some ((false,()),(),())) ((h (a.2.2.2.2.2.1,a.2.2.2.2.2.2.1,())).bind fun b=>Ce1 b.1.1 (Ah (decide (b.1.2.1=0)) ((c (a,())).bind fun k=>Ah k.1.1 ((d (a,())).bind fun l=>Ah l.1.1 ((e (a,())).bind fun m=>some ((m.1.1,()),(),())) (some ((false,()),(),()))) (some ((false,()),(),()))) (some ((false,()),(),()))) (fun q=>Ah (decide (b.1.2.1=0)) ((c (a,())).bind fun n=>Ah n.1.1 ((d (a,())).bind fun o=>Ah o.1.1 ((e (a,())).bind fun p=>some ((p.1.1,()),(),())) (some ((false,()),(),()))) (some ((false,()),(),()))) (some ((false,()),(),()))))))))
def C4:Ip:=fun x=>Zz Ac S8 S4 Us G0 Gu Ie x.1
abbrev Qg:Ce:=⟨[V3],[V20,Bv]⟩
abbrev Aed:=Y4→Option Cmg
def Atx(d:Gj)(e:Rg)(i:K5)(j:Ip)(k:(Db×Y40×Int×Db×Int×Unit)→Option Cmg)(l:Db)(f:Y40)(g:Int)(a:Db)(b:Int):Option Cmg:=(Ah (decide (b<4)) ((d (f,())).bind fun h=>Ah (B0 b 4) (k (l,h.2.1,g,(a.1,a.2.1,a.2.2.1,a.2.2.2.1,a.2.2.2.2.1,a.2.2.2.2.2.1,(List.set a.2.2.2.2.2.2.1 (Int.toNat b) h.1.1),a.2.2.2.2.2.2.2),(IntKind.wrap .i64 (b+1)),())) none) ((e (f,(),())).bind fun m=>(d (m.2.1,())).bind fun c=>(e (c.2.1,(),())).bind fun n=>Ah (!(decide (g=1886350964))) (some (((0,(0,0,0,[0,0,0,0],0,[0,0,0,0],0,[0,0,0,0],0,0,0,0,()),(0,0,0,[0,0,0,0],()),0,([0,0,0,0],0,0,0,(false,[0,0,0,0],()),[],()),[],[[0,0,0,0],[0,0,0,0],[0,0,0,0],[0,0,0,0]],[],[],[0,0,0,0],[],()),3,()),(),())) ((i (n.2.1,())).bind fun o=>Ah (!o.1.1) (some (((0,(0,0,0,[0,0,0,0],0,[0,0,0,0],0,[0,0,0,0],0,0,0,0,()),(0,0,0,[0,0,0,0],()),0,([0,0,0,0],0,0,0,(false,[0,0,0,0],()),[],()),[],[[0,0,0,0],[0,0,0,0],[0,0,0,0],[0,0,0,0]],[],[],[0,0,0,0],[],()),3,()),(),())) ((j ((a.1,a.2.1,a.2.2.1,a.2.2.2.1,a.2.2.2.2.1,a.2.2.2.2.2.1,a.2.2.2.2.2.2.1,a.2.2.2.2.2.2.2.1,a.2.2.2.2.2.2.2.2.1,c.1.1,a.2.2.2.2.2.2.2.2.2.2),())).bind fun p=>Ah (!p.1.1) (some (((0,(0,0,0,[0,0,0,0],0,[0,0,0,0],0,[0,0,0,0],0,0,0,0,()),(0,0,0,[0,0,0,0],()),0,([0,0,0,0],0,0,0,(false,[0,0,0,0],()),[],()),[],[[0,0,0,0],[0,0,0,0],[0,0,0,0],[0,0,0,0]],[],[],[0,0,0,0],[],()),3,()),(),())) (some (((a.1,a.2.1,a.2.2.1,a.2.2.2.1,a.2.2.2.2.1,a.2.2.2.2.2.1,a.2.2.2.2.2.2.1,a.2.2.2.2.2.2.2.1,a.2.2.2.2.2.2.2.2.1,c.1.1,a.2.2.2.2.2.2.2.2.2.2),0,()),(),()))))))
def Aev(L:Ae)(d:Aib)(e:Gx)(f:Wa)(a:Rg)(g:Gj)(h:K5)(i:Ip)(j:(List Int)):Option Cmg:=((d (j,())).bind fun k=>(e (k.1.1,())).bind fun b=>(f (b.2.1,())).bind fun c=>(a (c.2.1,(),())).bind fun l=>(a (l.2.1,(),())).bind fun m=>L _ _ (fun z x=>Atx g a h i z x.1 x.2.1 x.2.2.1 x.2.2.2.1 x.2.2.2.2.1) ((0,(0,0,0,[0,0,0,0],0,[0,0,0,0],0,[0,0,0,0],0,0,0,0,()),(0,0,0,[0,0,0,0],()),0,([0,0,0,0],0,0,0,(false,[0,0,0,0],()),[],()),[],[[0,0,0,0],[0,0,0,0],[0,0,0,0],[0,0,0,0]],[],[],[0,0,0,0],[],()),m.2.1,b.1.1,c.1.1,0,()))
def Abd:Aed:=fun x=>Aev Ac Adb Dj Sy Wd Fi N0 C4 x.1
abbrev Eo:Ce:=⟨[V37,V5],[V37]⟩
abbrev Ev:=Y39→Option T2
def S3(f:Aa8)(g:Y78→Option T2)(b:(List Int))(c:(List Int))(d:Int)(a:Int):Option T2:=(Ah (decide (a<d)) (Ah (B0 a (List.length c)) ((f ([],(List.getD c (Int.toNat a) 0),())).bind fun e=>Ah (A9 ((List.length b)+(List.length e.1.1)) (Ty.int IntKind.u8)) (g ((List.append b e.1.1),c,d,(IntKind.wrap .i64 (a+1)),())) none) none) (some ((b,()),(),(),())))
def Qu(L:Ae)(b:Aa8)(c:(List Int))(a:(List Int)):Option T2:=(L _ _ (fun z x=>S3 b z x.1 x.2.1 x.2.2.1 x.2.2.2.1) (c,a,(List.length a:Int),0,()))
def Bw:Ev:=fun x=>Qu Ac J8 x.1 x.2.1
abbrev Ec:Ce:=⟨[V37,V41],[V37]⟩
abbrev Ed:=((List Int)×Y1×Unit)→Option T2
def Q9(f:Qm)(g:Y59→Option T2)(b:(List Int))(c:Y1)(d:Int)(a:Int):Option T2:=(Ah (decide (a<d)) (Ah (B0 a (List.length c)) ((f ([],(List.getD c (Int.toNat a) [0,0,0,0]),())).bind fun e=>Ah (A9 ((List.length b)+(List.length e.1.1)) (Ty.int IntKind.u8)) (g ((List.append b e.1.1),c,d,(IntKind.wrap .i64 (a+1)),())) none) none) (some ((b,()),(),(),())))
def O5(L:Ae)(b:Qm)(c:(List Int))(a:Y1):Option T2:=(L _ _ (fun z x=>Q9 b z x.1 x.2.1 x.2.2.1 x.2.2.2.1) (c,a,(List.length a:Int),0,()))
def Bs:Ed:=fun x=>O5 Ac Fw x.1 x.2.1
abbrev Iy:Ce:=⟨[V37,V20],[V37]⟩
abbrev Ad4:=((List Int)×Db×Unit)→Option T2
def Sw(L:Ae)(b:Ev)(c:Ed)(f:Alo)(g:(List Int))(a:Db):Option T2:=((b (g,[1886350964,a.1,a.2.1.1,a.2.1.2.1,a.2.1.2.2.1],())).bind fun h=>(c (h.1.1,[a.2.1.2.2.2.1],())).bind fun i=>(b (i.1.1,[a.2.1.2.2.2.2.1],())).bind fun j=>(c (j.1.1,[a.2.1.2.2.2.2.2.1],())).bind fun k=>(b (k.1.1,[a.2.1.2.2.2.2.2.2.1],())).bind fun l=>(c (l.1.1,[a.2.1.2.2.2.2.2.2.2.1],())).bind fun m=>(b (m.1.1,[a.2.1.2.2.2.2.2.2.2.2.1,a.2.1.2.2.2.2.2.2.2.2.2.1,a.2.1.2.2.2.2.2.2.2.2.2.2.1,a.2.1.2.2.2.2.2.2.2.2.2.2.2.1],())).bind fun n=>(b (n.1.1,[a.2.2.1.1,a.2.2.1.2.1,a.2.2.1.2.2.1],())).bind fun o=>(c (o.1.1,[a.2.2.1.2.2.2.1],())).bind fun p=>(b (p.1.1,[a.2.2.2.1],())).bind fun q=>(c (q.1.1,[a.2.2.2.2.1.1],())).bind fun r=>(b (r.1.1,[a.2.2.2.2.1.2.1,a.2.2.2.2.1.2.2.1,a.2.2.2.2.1.2.2.2.1],())).bind fun d=>(f ([],a.2.2.2.2.1.2.2.2.2.1,())).bind fun e=>Ah (A9 ((List.length d.1.1)+(List.length e.1.1)) (Ty.int IntKind.u8)) (some (((List.append d.1.1 e.1.1),()),(),(),())) none)
def He:Ad4:=fun x=>Sw Ac Bw Bs Kc x.1 x.2.1
abbrev Jn:Ce:=⟨[V20],[(.full (.int .u8)),Bv]⟩
abbrev Xd:=(Db×Unit)→Option Y21
def Sa(g:Ev)(h:Ed)(i:Gp)(j:((List Int)×(List Y9)×Int×Int×Unit)→Option Y21)(d:(List Int))(b:(List Y9))(e:Int)(a:Int):Option Y21:=(Ah (decide (a<e)) (Ah (B0 a (List.length b)) ((g (d,[(List.getD b (Int.toNat a) (0,[0,0,0,0],())).1],())).bind fun k=>(h (k.1.1,[(List.getD b (Int.toNat a) (0,[0,0,0,0],())).2.1],())).bind fun l=>j (l.1.1,b,e,(IntKind.wrap .i64 (a+1)),())) none) ((i (d,())).bind fun f=>A2 (List.length f.1.1) fun c=>Ah ((decide (0<c))&&(decide (c=c))) (some ((f.1.1,0,()),(),())) none))
def Ro(L:Ae)(d:Ev)(e:Ed)(l:Gp)(h:Cp3→Option Y21)(b:Db)(f:(List Int))(c:(List Y18))(g:Int)(a:Int):Option Y21:=(A2 (List.length b.2.2.2.2.2.2.2.2.2.2.1:Int) fun i=>Ah (decide (a<g)) (Ah (B0 a (List.length c)) (Ah (B0 a (List.length b.2.2.2.2.2.2.2.2.1)) (Ah (List.getD b.2.2.2.2.2.2.2.2.1 (Int.toNat a) false) ((d (f,[(List.getD c (Int.toNat a) (0,0,[0,0,0,0],())).2.1],())).bind fun m=>(e (m.1.1,[(List.getD c (Int.toNat a) (0,0,[0,0,0,0],())).2.2.1],())).bind fun j=>Ah (A9 ((List.length j.1.1)+1) (Ty.int IntKind.u8)) (h (b,(List.append j.1.1 [1]),c,g,(IntKind.wrap .i64 (a+1)),())) none) ((d (f,[(List.getD c (Int.toNat a) (0,0,[0,0,0,0],())).2.1],())).bind fun n=>(e (n.1.1,[(List.getD c (Int.toNat a) (0,0,[0,0,0,0],())).2.2.1],())).bind fun k=>Ah (A9 ((List.length k.1.1)+1) (Ty.int IntKind.u8)) (h (b,(List.append k.1.1 [0]),c,g,(IntKind.wrap .i64 (a+1)),())) none)) none) none) ((e (f,[b.2.2.2.2.2.2.2.2.2.1],())).bind fun o=>(d (o.1.1,[(IntKind.wrap .u64 i)],())).bind fun p=>L _ _ (fun z x=>Sa d e l z x.1 x.2.1 x.2.2.1 x.2.2.2.1) (p.1.1,b.2.2.2.2.2.2.2.2.2.2.1,i,0,())))
def Rr(L:Ae)(d:Ev)(e:Ed)(i:Gp)(j:Crl→Option Y21)(b:Db)(f:(List Int))(c:(List Y17))(g:Int)(a:Int):Option Y21:=(A2 (List.length b.2.2.2.2.2.2.2.1:Int) fun h=>Ah (decide (a<g)) (Ah (B0 a (List.length c)) ((d (f,[(List.getD c (Int.toNat a) (0,[0,0,0,0],0,())).1],())).bind fun k=>(e (k.1.1,[(List.getD c (Int.toNat a) (0,[0,0,0,0],0,())).2.1],())).bind fun l=>(d (l.1.1,[(List.getD c (Int.toNat a) (0,[0,0,0,0],0,())).2.2.1],())).bind fun m=>j (b,m.1.1,c,g,(IntKind.wrap .i64 (a+1)),())) none) ((e (f,(List.take ((4:Nat)-(0:Nat)) (List.drop 0 b.2.2.2.2.2.2.1)),())).bind fun n=>(d (n.1.1,[(IntKind.wrap .u64 h)],())).bind fun o=>L _ _ (fun z x=>Ro L d e i z x.1 x.2.1 x.2.2.1 x.2.2.2.1 x.2.2.2.2.1) (b,o.1.1,b.2.2.2.2.2.2.2.1,h,0,())))
def Sg(L:Ae)(c:Ev)(e:Ed)(i:Gp)(j:(Db×(List Int)×(List Y98)×Int×Int×Unit)→Option Y21)(d:Db)(f:(List Int))(b:(List Y98))(g:Int)(a:Int):Option Y21:=(A2 (List.length d.2.2.2.2.2.1:Int) fun h=>Ah (decide (a<g)) (Ah (B0 a (List.length b)) ((c (f,[(List.getD b (Int.toNat a) (0,[0,0,0,0],[0,0,0,0],[0,0,0,0],[0,0,0,0],0,())).1],())).bind fun k=>(e (k.1.1,[(List.getD b (Int.toNat a) (0,[0,0,0,0],[0,0,0,0],[0,0,0,0],[0,0,0,0],0,())).2.1,(List.getD b (Int.toNat a) (0,[0,0,0,0],[0,0,0,0],[0,0,0,0],[0,0,0,0],0,())).2.2.1,(List.getD b (Int.toNat a) (0,[0,0,0,0],[0,0,0,0],[0,0,0,0],[0,0,0,0],0,())).2.2.2.1,(List.getD b (Int.toNat a) (0,[0,0,0,0],[0,0,0,0],[0,0,0,0],[0,0,0,0],0,())).2.2.2.2.1],())).bind fun l=>(c (l.1.1,[(List.getD b (Int.toNat a) (0,[0,0,0,0],[0,0,0,0],[0,0,0,0],[0,0,0,0],0,())).2.2.2.2.2.1],())).bind fun m=>j (d,m.1.1,b,g,(IntKind.wrap .i64 (a+1)),())) none) ((c (f,[(IntKind.wrap .u64 h)],())).bind fun n=>L _ _ (fun z x=>Rr L c e i z x.1 x.2.1 x.2.2.1 x.2.2.2.1 x.2.2.2.2.1) (d,n.1.1,d.2.2.2.2.2.1,h,0,())))
def Afv(L:Ae)(d:Ip)(e:Ad4)(b:Ev)(f:Ed)(g:Gp)(a:Db):Option Y21:=(A2 (List.length a.2.2.2.2.1.2.2.2.2.2.1:Int) fun c=>(d (a,())).bind fun h=>Ah (!h.1.1) (some (([],2,()),(),())) ((e ([],a,())).bind fun i=>(b (i.1.1,[(IntKind.wrap .u64 c)],())).bind fun j=>L _ _ (fun z x=>Sg L b f g z x.1 x.2.1 x.2.2.1 x.2.2.2.1 x.2.2.2.2.1) (a,j.1.1,a.2.2.2.2.1.2.2.2.2.2.1,c,0,())))
def Ey:Xd:=fun x=>Afv Ac C4 He Bw Bs C2 x.1
abbrev Uz:Ce:=⟨[V20],[(.ro true W3),Bv]⟩
abbrev Ak6:=(Db×Unit)→Option Y21
def Akx(L:Ae)(b:Xd)(c:Bdo)(d:Db):Option Y21:=((b (d,())).bind fun a=>Ah (!(decide (a.1.2.1=0))) (some (((List.replicate 32 0),a.1.2.1,()),(),())) ((c ((List.take ((List.length a.1.1)-0) (List.drop 0 a.1.1)),())).bind fun e=>some ((e.1.1,0,()),(),())))
def L1:Ak6:=fun x=>Akx Ac Ey Z1 x.1
abbrev Aa3:Ce:=⟨[(.ptr V24),V60],[]⟩
abbrev Bbl:=(Unit×Db×Unit)→Option (Unit×Unit×Db×Unit)
def Alv(L:Ae)(a:Unit)(b:Db):Option (Unit×Unit×Db×Unit):=none
def Axl:Bbl:=fun x=>Alv Ac x.1 x.2.1
abbrev Abf:Ce:=⟨[V60,(.ptr V24)],[]⟩
abbrev Bbb:=(Db×Unit×Unit)→Option Clp
def Als(L:Ae)(a:Db)(b:Unit):Option Clp:=none
def Axk:Bbb:=fun x=>Als Ac x.1 x.2.1
abbrev Aau:Ce:=⟨[V60,(.ptr V24),(.ptr V25)],[]⟩
abbrev Bbf:=(Db×Unit×Bool×Unit)→Option Cp1
def All(L:Ae)(a:Db)(b:Unit)(c:Bool):Option Cp1:=none
def Axn:Bbf:=fun x=>All Ac x.1 x.2.1 x.2.2.1
abbrev Aax:Ce:=⟨[V60,(.ptr V24)],[]⟩
abbrev Ba9:=(Db×Unit×Unit)→Option Clp
def Al0(L:Ae)(a:Db)(b:Unit):Option Clp:=none
def Axg:Ba9:=fun x=>Al0 Ac x.1 x.2.1
set_option maxRecDepth 100000
abbrev Abj:Ce:=⟨[],[V25]⟩
abbrev Ajd:=Unit→Option ((Bool×Unit)×Unit)
def Arv(L:Ae)(b:Aed)(c:Ac2)(a:Ip)(d:Ox):Option ((Bool×Unit)×Unit):=((b ([],())).bind fun e=>(c ([],true,())).bind fun f=>Ah (decide (e.1.2.1=3)) ((a ((0,(0,0,0,[0,0,0,0],0,[0,0,0,0],0,[0,0,0,0],0,0,0,0,()),(0,0,0,[0,0,0,0],()),0,([0,0,0,0],0,0,0,(false,[0,0,0,0],()),[],()),[],[[0,0,0,0],[0,0,0,0],[0,0,0,0],[0,0,0,0]],[],[],[0,0,0,0],[],()),())).bind fun g=>Ah (!g.1.1) ((d (f.1.1,())).bind fun h=>(a (h.1.1,())).bind fun i=>some ((i.1.1,()),())) (some ((false,()),()))) (some ((false,()),())))
def Pi:Ajd:=fun x=>Arv Ac Abd Jj C4 Fe
abbrev Sq:Ce:=⟨[V20],[V25]⟩
abbrev Atm:=(Db×Unit)→Option Xs
def Ahk(L:Ae)(a:Db):Option Xs:=(Ah (decide ((List.length a.2.2.2.2.2.1:Int)>30)) (some ((true,()),(),())) (Ah (decide ((List.length a.2.2.2.2.2.2.2.1:Int)>30)) (some ((true,()),(),())) (Ah (decide ((List.length a.2.2.2.2.2.2.2.2.1:Int)>40)) (some ((true,()),(),())) (Ah (decide ((List.length a.2.2.2.2.2.2.2.2.2.2.1:Int)>30)) (some ((true,()),(),())) (some (((decide ((List.length a.2.2.2.2.1.2.2.2.2.2.1:Int)>20)),()),(),()))))))
def Od:Atm:=fun x=>Ahk Ac x.1
abbrev X9:Ce:=⟨[V20,Bv,(.ro true W4)],[V20]⟩
abbrev Azq:=(Db×Int×(List Int)×Unit)→Option Bga
def Az(a:Db)(b:Db):Option Bga:=(some ((a,()),(),(),(),()))
def Qh(a:Db)(f:(List Int))(d:Db)(b:Int)(c:Int):Option Bga:=(A2 (List.length a.2.2.2.2.1.2.2.2.2.2.1) fun e=>Ah (decide (b>0)) (Ah (A9 (0+e) D9) (Ah (decide (b≠0)) (Ah (B0 (Int.tmod c b) e) (Fz (fun x=>Az x.1 x.2.1) ((a.1,a.2.1,a.2.2.1,a.2.2.2.1,(a.2.2.2.2.1.1,a.2.2.2.2.1.2.1,a.2.2.2.2.1.2.2.1,a.2.2.2.2.1.2.2.2.1,a.2.2.2.2.1.2.2.2.2.1,(List.set a.2.2.2.2.1.2.2.2.2.2.1 (Int.toNat (Int.tmod c b)) ((List.getD (List.append (List.replicate 0 (0,[0,0,0,0],[0,0,0,0],[0,0,0,0],[0,0,0,0],0,())) a.2.2.2.2.1.2.2.2.2.2.1) (Int.toNat (Int.tmod c b)) (0,[0,0,0,0],[0,0,0,0],[0,0,0,0],[0,0,0,0],0,())).1,(List.getD (List.append (List.replicate 0 (0,[0,0,0,0],[0,0,0,0],[0,0,0,0],[0,0,0,0],0,())) a.2.2.2.2.1.2.2.2.2.2.1) (Int.toNat (Int.tmod c b)) (0,[0,0,0,0],[0,0,0,0],[0,0,0,0],[0,0,0,0],0,())).2.1,(List.getD (List.append (List.replicate 0 (0,[0,0,0,0],[0,0,0,0],[0,0,0,0],[0,0,0,0],0,())) a.2.2.2.2.1.2.2.2.2.2.1) (Int.toNat (Int.tmod c b)) (0,[0,0,0,0],[0,0,0,0],[0,0,0,0],[0,0,0,0],0,())).2.2.1,(List.getD (List.append (List.replicate 0 (0,[0,0,0,0],[0,0,0,0],[0,0,0,0],[0,0,0,0],0,())) a.2.2.2.2.1.2.2.2.2.2.1) (Int.toNat (Int.tmod c b)) (0,[0,0,0,0],[0,0,0,0],[0,0,0,0],[0,0,0,0],0,())).2.2.2.1,(List.getD (List.append (List.replicate 0 (0,[0,0,0,0],[0,0,0,0],[0,0,0,0],[0,0,0,0],0,())) a.2.2.2.2.1.2.2.2.2.2.1) (Int.toNat (Int.tmod c b)) (0,[0,0,0,0],[0,0,0,0],[0,0,0,0],[0,0,0,0],0,())).2.2.2.2.1,(Int.tmod (List.getD f 0 0) 4),(List.getD (List.append (List.replicate 0 (0,[0,0,0,0],[0,0,0,0],[0,0,0,0],[0,0,0,0],0,())) a.2.2.2.2.1.2.2.2.2.2.1) (Int.toNat (Int.tmod c b)) (0,[0,0,0,0],[0,0,0,0],[0,0,0,0],[0,0,0,0],0,())).2.2.2.2.2.2)),a.2.2.2.2.1.2.2.2.2.2.2),a.2.2.2.2.2),d,())) none) none) none) (Fz (fun x=>Az x.1 x.2.1) (a,d,())))
def P0(a:Db)(f:(List Int))(d:Db)(b:Int)(c:Int):Option Bga:=(A2 (List.length a.2.2.2.2.2.1) fun e=>Ah (decide (b>0)) (Ah (A9 (0+e) R7) (Ah (decide (b≠0)) (Ah (B0 (Int.tmod c b) e) (Fz (fun x=>Az x.1 x.2.1) ((a.1,a.2.1,a.2.2.1,a.2.2.2.1,a.2.2.2.2.1,(List.set a.2.2.2.2.2.1 (Int.toNat (Int.tmod c b)) ((List.getD (List.append (List.replicate 0 (0,[0,0,0,0],0,())) a.2.2.2.2.2.1) (Int.toNat (Int.tmod c b)) (0,[0,0,0,0],0,())).1,f,(List.getD (List.append (List.replicate 0 (0,[0,0,0,0],0,())) a.2.2.2.2.2.1) (Int.toNat (Int.tmod c b)) (0,[0,0,0,0],0,())).2.2)),a.2.2.2.2.2.2),d,())) none) none) none) (Fz (fun x=>Az x.1 x.2.1) (a,d,())))
def P6(a:Db)(f:(List Int))(d:Db)(b:Int)(c:Int):Option Bga:=(A2 (List.length a.2.2.2.2.2.2.2.1) fun e=>Ah (decide (b>0)) (Ah (A9 (0+e) R9) (Ah (decide (b≠0)) (Ah (B0 (Int.tmod c b) e) (Fz (fun x=>Az x.1 x.2.1) ((a.1,a.2.1,a.2.2.1,a.2.2.2.1,a.2.2.2.2.1,a.2.2.2.2.2.1,a.2.2.2.2.2.2.1,(List.set a.2.2.2.2.2.2.2.1 (Int.toNat (Int.tmod c b)) ((List.getD (List.append (List.replicate 0 (0,0,[0,0,0,0],())) a.2.2.2.2.2.2.2.1) (Int.toNat (Int.tmod c b)) (0,0,[0,0,0,0],())).1,(List.getD (List.append (List.replicate 0 (0,0,[0,0,0,0],())) a.2.2.2.2.2.2.2.1) (Int.toNat (Int.tmod c b)) (0,0,[0,0,0,0],())).2.1,[(Int.tmod (List.getD f 0 0) 3),0,0,0],(List.getD (List.append (List.replicate 0 (0,0,[0,0,0,0],())) a.2.2.2.2.2.2.2.1) (Int.toNat (Int.tmod c b)) (0,0,[0,0,0,0],())).2.2.2)),a.2.2.2.2.2.2.2.2),d,())) none) none) none) (Fz (fun x=>Az x.1 x.2.1) (a,d,())))
def Ake(a:Db)(e:Db)(b:Int)(c:Int):Option Bga:=(A2 (List.length a.2.2.2.2.2.2.2.2.1) fun d=>Ah (A9 (0+d) (Ty.bool)) (Ah (decide (b≠0)) (Ah (decide (b≠0)) (Ah (B0 (Int.tmod c b) d) (Ah (B0 (Int.tmod c b) d) (Fz (fun x=>Az x.1 x.2.1) ((a.1,a.2.1,a.2.2.1,a.2.2.2.1,a.2.2.2.2.1,a.2.2.2.2.2.1,a.2.2.2.2.2.2.1,a.2.2.2.2.2.2.2.1,(List.set a.2.2.2.2.2.2.2.2.1 (Int.toNat (Int.tmod c b)) (!(List.getD a.2.2.2.2.2.2.2.2.1 (Int.toNat (Int.tmod c b)) false))),a.2.2.2.2.2.2.2.2.2),e,())) none) none) none) none) none)
def Po(a:Db)(b:Db)(c:Int)(d:Int):Option Bga:=(Ah (decide (c>0)) (Ah (decide ((List.length a.2.2.2.2.2.2.2.2.1:Int)=c)) (Fz (fun x=>Ake x.1 x.2.1 x.2.2.1 x.2.2.2.1) (a,b,c,d,())) (Fz (fun x=>Az x.1 x.2.1) (a,b,()))) (Fz (fun x=>Az x.1 x.2.1) (a,b,())))
def Ow(a:Db)(f:(List Int))(d:Db)(b:Int)(c:Int):Option Bga:=(A2 (List.length a.2.2.2.2.2.2.2.2.2.2.1) fun e=>Ah (decide (b>0)) (Ah (A9 (0+e) R8) (Ah (decide (b≠0)) (Ah (B0 (Int.tmod c b) e) (Fz (fun x=>Az x.1 x.2.1) ((a.1,a.2.1,a.2.2.1,a.2.2.2.1,a.2.2.2.2.1,a.2.2.2.2.2.1,a.2.2.2.2.2.2.1,a.2.2.2.2.2.2.2.1,a.2.2.2.2.2.2.2.2.1,a.2.2.2.2.2.2.2.2.2.1,(List.set a.2.2.2.2.2.2.2.2.2.2.1 (Int.toNat (Int.tmod c b)) ((List.getD (List.append (List.replicate 0 (0,[0,0,0,0],())) a.2.2.2.2.2.2.2.2.2.2.1) (Int.toNat (Int.tmod c b)) (0,[0,0,0,0],())).1,[(Int.tmod (List.getD f 0 0) 3),0,0,0],(List.getD (List.append (List.replicate 0 (0,[0,0,0,0],())) a.2.2.2.2.2.2.2.2.2.2.1) (Int.toNat (Int.tmod c b)) (0,[0,0,0,0],())).2.2)),a.2.2.2.2.2.2.2.2.2.2.2),d,())) none) none) none) (Fz (fun x=>Az x.1 x.2.1) (a,d,())))
def O4(a:Db)(c:(List Int))(b:Db)(g:Int)(d:Int):Option Bga:=(A2 (List.getD c 1 0) fun e=>A2 (List.length a.2.2.2.2.2.2.2.2.2.2.1) fun f=>Ah (decide (d=22)) (Ah (decide (g>0)) (Ah (decide (1≤((f:Nat):Int))) (Fz (fun x=>Az x.1 x.2.1) ((a.1,a.2.1,a.2.2.1,a.2.2.2.1,a.2.2.2.2.1,a.2.2.2.2.2.1,a.2.2.2.2.2.2.1,a.2.2.2.2.2.2.2.1,a.2.2.2.2.2.2.2.2.1,a.2.2.2.2.2.2.2.2.2.1,(List.take (f-1) (List.drop 1 a.2.2.2.2.2.2.2.2.2.2.1)),a.2.2.2.2.2.2.2.2.2.2.2),b,())) none) (Fz (fun x=>Az x.1 x.2.1) (a,b,()))) (Ah (decide (d=23)) (Fz (fun x=>Az x.1 x.2.1) (((List.getD c 0 0),a.2.1,(a.2.2.1.1,a.2.2.1.2.1,(List.getD c 2 0),a.2.2.1.2.2.2),e,a.2.2.2.2),b,())) (Ah (decide (d=24)) (Fz (fun x=>Az x.1 x.2.1) ((a.1,a.2.1,a.2.2.1,a.2.2.2.1,(c,e,a.2.2.2.2.1.2.2),a.2.2.2.2.2),b,())) (Fz (fun x=>Az x.1 x.2.1) (a,b,())))))
def Qf(b:Db)(c:(List Int))(d:Db)(e:Int)(f:Int)(a:Int):Option Bga:=(Ah (decide (a=20)) (Ah (decide (a=20)) (Fz (fun x=>Ow x.1 x.2.1 x.2.2.1 x.2.2.2.1 x.2.2.2.2.1) (b,c,d,e,f,())) (Fz (fun x=>O4 x.1 x.2.1 x.2.2.1 x.2.2.2.1 x.2.2.2.2.1) (b,c,d,e,a,()))) (Ah (decide (a=21)) (Fz (fun x=>Ow x.1 x.2.1 x.2.2.1 x.2.2.2.1 x.2.2.2.2.1) (b,c,d,e,f,())) (Fz (fun x=>O4 x.1 x.2.1 x.2.2.1 x.2.2.2.1 x.2.2.2.2.1) (b,c,d,e,a,()))))
def Pw(b:Db)(e:(List Int))(c:Db)(f:Int)(g:Int)(d:Int)(a:Int):Option Bga:=(Ah (decide (a=18)) (Ah (decide (a=18)) (Fz (fun x=>Po x.1 x.2.1 x.2.2.1 x.2.2.2.1) (b,c,f,d,())) (Fz (fun x=>Qf x.1 x.2.1 x.2.2.1 x.2.2.2.1 x.2.2.2.2.1 x.2.2.2.2.2.1) (b,e,c,g,d,a,()))) (Ah (decide (a=19)) (Fz (fun x=>Po x.1 x.2.1 x.2.2.1 x.2.2.2.1) (b,c,f,d,())) (Fz (fun x=>Qf x.1 x.2.1 x.2.2.1 x.2.2.2.1 x.2.2.2.2.1 x.2.2.2.2.2.1) (b,e,c,g,d,a,()))))
def Pu(b:Db)(c:(List Int))(d:Db)(e:Int)(g:Int)(f:Int)(a:Int):Option Bga:=(Ah (decide (a=16)) (Ah (decide (a=16)) (Fz (fun x=>P6 x.1 x.2.1 x.2.2.1 x.2.2.2.1 x.2.2.2.2.1) (b,c,d,e,f,())) (Fz (fun x=>Pw x.1 x.2.1 x.2.2.1 x.2.2.2.1 x.2.2.2.2.1 x.2.2.2.2.2.1 x.2.2.2.2.2.2.1) (b,c,d,e,g,f,a,()))) (Ah (decide (a=17)) (Fz (fun x=>P6 x.1 x.2.1 x.2.2.1 x.2.2.2.1 x.2.2.2.2.1) (b,c,d,e,f,())) (Fz (fun x=>Pw x.1 x.2.1 x.2.2.1 x.2.2.2.1 x.2.2.2.2.1 x.2.2.2.2.2.1 x.2.2.2.2.2.2.1) (b,c,d,e,g,f,a,()))))
def Py(b:Db)(c:(List Int))(d:Db)(f:Int)(g:Int)(h:Int)(e:Int)(a:Int):Option Bga:=(Ah (decide (a=14)) (Ah (decide (a=14)) (Fz (fun x=>P0 x.1 x.2.1 x.2.2.1 x.2.2.2.1 x.2.2.2.2.1) (b,c,d,f,e,())) (Fz (fun x=>Pu x.1 x.2.1 x.2.2.1 x.2.2.2.1 x.2.2.2.2.1 x.2.2.2.2.2.1 x.2.2.2.2.2.2.1) (b,c,d,g,h,e,a,()))) (Ah (decide (a=15)) (Fz (fun x=>P0 x.1 x.2.1 x.2.2.1 x.2.2.2.1 x.2.2.2.2.1) (b,c,d,f,e,())) (Fz (fun x=>Pu x.1 x.2.1 x.2.2.1 x.2.2.2.1 x.2.2.2.2.1 x.2.2.2.2.2.1 x.2.2.2.2.2.2.1) (b,c,d,g,h,e,a,()))))
def Aov(L:Ae)(h:Ahi)(a:Db)(i:Int)(c:(List Int)):Option Bga:=(A2 (List.getD c 0 0) fun d=>A2 (Int.tmod (List.getD c 1 0) 2) fun j=>A2 [(Int.tmod d 2),0,0,0] fun k=>A2 (List.length a.2.2.2.2.2.1) fun f=>A2 ((f:Nat):Int) fun l=>A2 (List.length a.2.2.2.2.2.2.2.1:Int) fun m=>A2 (List.length a.2.2.2.2.2.2.2.2.1) fun n=>A2 (List.length a.2.2.2.2.2.2.2.2.2.2.1) fun g=>A2 ((g:Nat):Int) fun o=>A2 (List.length a.2.2.2.2.1.2.2.2.2.2.1:Int) fun p=>(h (i,1048576,())).bind fun r=>A2 (IntKind.wrap .i64 (Int.tdiv r.1.1 32)) fun e=>A2 (Int.tmod e 4) fun q=>(h (i,32,())).bind fun b=>Ah (decide (b.1.1=0)) (Fz (fun x=>Az x.1 x.2.1) ((a.1,(d,a.2.1.2),a.2.2),(0,(0,0,0,[0,0,0,0],0,[0,0,0,0],0,[0,0,0,0],0,0,0,0,()),(0,0,0,[0,0,0,0],()),0,([0,0,0,0],0,0,0,(false,[0,0,0,0],()),[],()),[],[[0,0,0,0],[0,0,0,0],[0,0,0,0],[0,0,0,0]],[],[],[0,0,0,0],[],()),())) (Ah (decide (b.1.1=1)) (Fz (fun x=>Az x.1 x.2.1) ((a.1,(a.2.1.1,a.2.1.2.1,a.2.1.2.2.1,a.2.1.2.2.2.1,a.2.1.2.2.2.2.1,a.2.1.2.2.2.2.2.1,a.2.1.2.2.2.2.2.2.1,a.2.1.2.2.2.2.2.2.2.1,a.2.1.2.2.2.2.2.2.2.2.1,a.2.1.2.2.2.2.2.2.2.2.2.1,a.2.1.2.2.2.2.2.2.2.2.2.2.1,(Int.tmod d 300),a.2.1.2.2.2.2.2.2.2.2.2.2.2.2),a.2.2),(0,(0,0,0,[0,0,0,0],0,[0,0,0,0],0,[0,0,0,0],0,0,0,0,()),(0,0,0,[0,0,0,0],()),0,([0,0,0,0],0,0,0,(false,[0,0,0,0],()),[],()),[],[[0,0,0,0],[0,0,0,0],[0,0,0,0],[0,0,0,0]],[],[],[0,0,0,0],[],()),())) (Ah (decide (b.1.1=2)) (Fz (fun x=>Az x.1 x.2.1) ((a.1,a.2.1,(a.2.2.1.1,a.2.2.1.2.1,a.2.2.1.2.2.1,k,a.2.2.1.2.2.2.2),a.2.2.2),(0,(0,0,0,[0,0,0,0],0,[0,0,0,0],0,[0,0,0,0],0,0,0,0,()),(0,0,0,[0,0,0,0],()),0,([0,0,0,0],0,0,0,(false,[0,0,0,0],()),[],()),[],[[0,0,0,0],[0,0,0,0],[0,0,0,0],[0,0,0,0]],[],[],[0,0,0,0],[],()),())) (Ah (decide (b.1.1=3)) (Fz (fun x=>Az x.1 x.2.1) ((a.1,a.2.1,(a.2.2.1.1,(Int.tmod d 20),a.2.2.1.2.2),a.2.2.2),(0,(0,0,0,[0,0,0,0],0,[0,0,0,0],0,[0,0,0,0],0,0,0,0,()),(0,0,0,[0,0,0,0],()),0,([0,0,0,0],0,0,0,(false,[0,0,0,0],()),[],()),[],[[0,0,0,0],[0,0,0,0],[0,0,0,0],[0,0,0,0]],[],[],[0,0,0,0],[],()),())) (Ah (decide (b.1.1=4)) (Fz (fun x=>Az x.1 x.2.1) ((a.1,a.2.1,a.2.2.1,a.2.2.2.1,(a.2.2.2.2.1.1,a.2.2.2.2.1.2.1,(Int.tmod d 40),a.2.2.2.2.1.2.2.2),a.2.2.2.2.2),(0,(0,0,0,[0,0,0,0],0,[0,0,0,0],0,[0,0,0,0],0,0,0,0,()),(0,0,0,[0,0,0,0],()),0,([0,0,0,0],0,0,0,(false,[0,0,0,0],()),[],()),[],[[0,0,0,0],[0,0,0,0],[0,0,0,0],[0,0,0,0]],[],[],[0,0,0,0],[],()),())) (Ah (decide (b.1.1=5)) (Fz (fun x=>Az x.1 x.2.1) ((a.1,a.2.1,a.2.2.1,a.2.2.2.1,(a.2.2.2.2.1.1,a.2.2.2.2.1.2.1,a.2.2.2.2.1.2.2.1,a.2.2.2.2.1.2.2.2.1,(true,k,()),a.2.2.2.2.1.2.2.2.2.2),a.2.2.2.2.2),(0,(0,0,0,[0,0,0,0],0,[0,0,0,0],0,[0,0,0,0],0,0,0,0,()),(0,0,0,[0,0,0,0],()),0,([0,0,0,0],0,0,0,(false,[0,0,0,0],()),[],()),[],[[0,0,0,0],[0,0,0,0],[0,0,0,0],[0,0,0,0]],[],[],[0,0,0,0],[],()),())) (Ah (decide (b.1.1=6)) (Fz (fun x=>Az x.1 x.2.1) ((a.1,a.2.1,a.2.2.1,a.2.2.2.1,a.2.2.2.2.1,a.2.2.2.2.2.1,a.2.2.2.2.2.2.1,a.2.2.2.2.2.2.2.1,a.2.2.2.2.2.2.2.2.1,c,a.2.2.2.2.2.2.2.2.2.2),(0,(0,0,0,[0,0,0,0],0,[0,0,0,0],0,[0,0,0,0],0,0,0,0,()),(0,0,0,[0,0,0,0],()),0,([0,0,0,0],0,0,0,(false,[0,0,0,0],()),[],()),[],[[0,0,0,0],[0,0,0,0],[0,0,0,0],[0,0,0,0]],[],[],[0,0,0,0],[],()),())) (Ah (decide (b.1.1=7)) (Ah (B0 q 4) (Fz (fun x=>Az x.1 x.2.1) ((a.1,a.2.1,a.2.2.1,a.2.2.2.1,a.2.2.2.2.1,a.2.2.2.2.2.1,(List.set a.2.2.2.2.2.2.1 (Int.toNat q) c),a.2.2.2.2.2.2.2),(0,(0,0,0,[0,0,0,0],0,[0,0,0,0],0,[0,0,0,0],0,0,0,0,()),(0,0,0,[0,0,0,0],()),0,([0,0,0,0],0,0,0,(false,[0,0,0,0],()),[],()),[],[[0,0,0,0],[0,0,0,0],[0,0,0,0],[0,0,0,0]],[],[],[0,0,0,0],[],()),())) none) (Ah (decide (b.1.1=8)) (Ah (A9 (0+n) (Ty.bool)) (Ah (A9 (n+1) (Ty.bool)) (Fz (fun x=>Az x.1 x.2.1) ((a.1,a.2.1,a.2.2.1,a.2.2.2.1,a.2.2.2.2.1,a.2.2.2.2.2.1,a.2.2.2.2.2.2.1,a.2.2.2.2.2.2.2.1,(List.append a.2.2.2.2.2.2.2.2.1 [true]),a.2.2.2.2.2.2.2.2.2),(0,(0,0,0,[0,0,0,0],0,[0,0,0,0],0,[0,0,0,0],0,0,0,0,()),(0,0,0,[0,0,0,0],()),0,([0,0,0,0],0,0,0,(false,[0,0,0,0],()),[],()),[],[[0,0,0,0],[0,0,0,0],[0,0,0,0],[0,0,0,0]],[],[],[0,0,0,0],[],()),())) none) none) (Ah (decide (b.1.1=9)) (Ah (A9 (0+g) R8) (Ah (A9 (g+1) R8) (Fz (fun x=>Az x.1 x.2.1) ((a.1,a.2.1,a.2.2.1,a.2.2.2.1,a.2.2.2.2.1,a.2.2.2.2.2.1,a.2.2.2.2.2.2.1,a.2.2.2.2.2.2.2.1,a.2.2.2.2.2.2.2.2.1,a.2.2.2.2.2.2.2.2.2.1,(List.append a.2.2.2.2.2.2.2.2.2.2.1 [(d,[j,0,0,0],())]),a.2.2.2.2.2.2.2.2.2.2.2),(0,(0,0,0,[0,0,0,0],0,[0,0,0,0],0,[0,0,0,0],0,0,0,0,()),(0,0,0,[0,0,0,0],()),0,([0,0,0,0],0,0,0,(false,[0,0,0,0],()),[],()),[],[[0,0,0,0],[0,0,0,0],[0,0,0,0],[0,0,0,0]],[],[],[0,0,0,0],[],()),())) none) none) (Ah (decide (b.1.1=10)) (Ah (A9 (0+f) R7) (Ah (A9 (f+1) R7) (Fz (fun x=>Az x.1 x.2.1) ((a.1,a.2.1,a.2.2.1,a.2.2.2.1,a.2.2.2.2.1,(List.append a.2.2.2.2.2.1 [(d,[0,0,0,0],j,())]),a.2.2.2.2.2.2),(0,(0,0,0,[0,0,0,0],0,[0,0,0,0],0,[0,0,0,0],0,0,0,0,()),(0,0,0,[0,0,0,0],()),0,([0,0,0,0],0,0,0,(false,[0,0,0,0],()),[],()),[],[[0,0,0,0],[0,0,0,0],[0,0,0,0],[0,0,0,0]],[],[],[0,0,0,0],[],()),())) none) none) (Ah (decide (b.1.1=11)) (Fz (fun x=>Az x.1 x.2.1) ((a.1,a.2.1,a.2.2.1,a.2.2.2.1,(a.2.2.2.2.1.1,a.2.2.2.2.1.2.1,a.2.2.2.2.1.2.2.1,(Int.tmod d 3),a.2.2.2.2.1.2.2.2.2),a.2.2.2.2.2),(0,(0,0,0,[0,0,0,0],0,[0,0,0,0],0,[0,0,0,0],0,0,0,0,()),(0,0,0,[0,0,0,0],()),0,([0,0,0,0],0,0,0,(false,[0,0,0,0],()),[],()),[],[[0,0,0,0],[0,0,0,0],[0,0,0,0],[0,0,0,0]],[],[],[0,0,0,0],[],()),())) (Ah (decide (b.1.1=12)) (Ah (decide (b.1.1=12)) (Fz (fun x=>Qh x.1 x.2.1 x.2.2.1 x.2.2.2.1 x.2.2.2.2.1) (a,c,(0,(0,0,0,[0,0,0,0],0,[0,0,0,0],0,[0,0,0,0],0,0,0,0,()),(0,0,0,[0,0,0,0],()),0,([0,0,0,0],0,0,0,(false,[0,0,0,0],()),[],()),[],[[0,0,0,0],[0,0,0,0],[0,0,0,0],[0,0,0,0]],[],[],[0,0,0,0],[],()),p,e,())) (Fz (fun x=>Py x.1 x.2.1 x.2.2.1 x.2.2.2.1 x.2.2.2.2.1 x.2.2.2.2.2.1 x.2.2.2.2.2.2.1 x.2.2.2.2.2.2.2.1) (a,c,(0,(0,0,0,[0,0,0,0],0,[0,0,0,0],0,[0,0,0,0],0,0,0,0,()),(0,0,0,[0,0,0,0],()),0,([0,0,0,0],0,0,0,(false,[0,0,0,0],()),[],()),[],[[0,0,0,0],[0,0,0,0],[0,0,0,0],[0,0,0,0]],[],[],[0,0,0,0],[],()),l,m,o,e,b.1.1,()))) (Ah (decide (b.1.1=13)) (Fz (fun x=>Qh x.1 x.2.1 x.2.2.1 x.2.2.2.1 x.2.2.2.2.1) (a,c,(0,(0,0,0,[0,0,0,0],0,[0,0,0,0],0,[0,0,0,0],0,0,0,0,()),(0,0,0,[0,0,0,0],()),0,([0,0,0,0],0,0,0,(false,[0,0,0,0],()),[],()),[],[[0,0,0,0],[0,0,0,0],[0,0,0,0],[0,0,0,0]],[],[],[0,0,0,0],[],()),p,e,())) (Fz (fun x=>Py x.1 x.2.1 x.2.2.1 x.2.2.2.1 x.2.2.2.2.1 x.2.2.2.2.2.1 x.2.2.2.2.2.2.1 x.2.2.2.2.2.2.2.1) (a,c,(0,(0,0,0,[0,0,0,0],0,[0,0,0,0],0,[0,0,0,0],0,0,0,0,()),(0,0,0,[0,0,0,0],()),0,([0,0,0,0],0,0,0,(false,[0,0,0,0],()),[],()),[],[[0,0,0,0],[0,0,0,0],[0,0,0,0],[0,0,0,0]],[],[],[0,0,0,0],[],()),l,m,o,e,b.1.1,()))))))))))))))))
def Sf:Azq:=fun x=>Aov Ac M6 x.1 x.2.1 x.2.2.1
abbrev Hj:Ce:=⟨[V20,V4,Bv,(.ro true W4)],[V25]⟩
abbrev Apg:=(Db×(List Int)×Int×(List Int)×Unit)→Option Y87
def J4(g:Xd)(h:Aeu)(i:Ak6)(j:Avq)(k:Ip)(l:Ajm)(m:Afe)(n:Ajd)(o:((List Db)×Int×Unit)→Option Y87)(b:(List Db))(a:Int):Option Y87:=(Ah (decide (a<3)) (Ah (B0 a 3) ((g ((List.getD b (Int.toNat a) (0,(0,0,0,[0,0,0,0],0,[0,0,0,0],0,[0,0,0,0],0,0,0,0,()),(0,0,0,[0,0,0,0],()),0,([0,0,0,0],0,0,0,(false,[0,0,0,0],()),[],()),[],[[0,0,0,0],[0,0,0,0],[0,0,0,0],[0,0,0,0]],[],[],[0,0,0,0],[],())),())).bind fun c=>(h ((List.getD b (Int.toNat a) (0,(0,0,0,[0,0,0,0],0,[0,0,0,0],0,[0,0,0,0],0,0,0,0,()),(0,0,0,[0,0,0,0],()),0,([0,0,0,0],0,0,0,(false,[0,0,0,0],()),[],()),[],[[0,0,0,0],[0,0,0,0],[0,0,0,0],[0,0,0,0]],[],[],[0,0,0,0],[],())),())).bind fun d=>(i ((List.getD b (Int.toNat a) (0,(0,0,0,[0,0,0,0],0,[0,0,0,0],0,[0,0,0,0],0,0,0,0,()),(0,0,0,[0,0,0,0],()),0,([0,0,0,0],0,0,0,(false,[0,0,0,0],()),[],()),[],[[0,0,0,0],[0,0,0,0],[0,0,0,0],[0,0,0,0]],[],[],[0,0,0,0],[],())),())).bind fun e=>(j ((List.getD b (Int.toNat a) (0,(0,0,0,[0,0,0,0],0,[0,0,0,0],0,[0,0,0,0],0,0,0,0,()),(0,0,0,[0,0,0,0],()),0,([0,0,0,0],0,0,0,(false,[0,0,0,0],()),[],()),[],[[0,0,0,0],[0,0,0,0],[0,0,0,0],[0,0,0,0]],[],[],[0,0,0,0],[],())),())).bind fun f=>(k ((List.getD b (Int.toNat a) (0,(0,0,0,[0,0,0,0],0,[0,0,0,0],0,[0,0,0,0],0,0,0,0,()),(0,0,0,[0,0,0,0],()),0,([0,0,0,0],0,0,0,(false,[0,0,0,0],()),[],()),[],[[0,0,0,0],[0,0,0,0],[0,0,0,0],[0,0,0,0]],[],[],[0,0,0,0],[],())),())).bind fun p=>(l ((List.getD b (Int.toNat a) (0,(0,0,0,[0,0,0,0],0,[0,0,0,0],0,[0,0,0,0],0,0,0,0,()),(0,0,0,[0,0,0,0],()),0,([0,0,0,0],0,0,0,(false,[0,0,0,0],()),[],()),[],[[0,0,0,0],[0,0,0,0],[0,0,0,0],[0,0,0,0]],[],[],[0,0,0,0],[],())),())).bind fun q=>Ah (!(eqD (Ty.bool) p.1.1 q.1.1)) (some ((false,()),(),(),(),(),())) ((m ((List.take ((List.length c.1.1)-0) (List.drop 0 c.1.1)),d.1.1,())).bind fun r=>Ah (!r.1.1) (some ((false,()),(),(),(),(),())) (Ah (!(decide (c.1.2.1=d.1.2.1))) (some ((false,()),(),(),(),(),())) (Ah (!(eqD (Ty.arr 32 (Ty.int IntKind.u8)) e.1.1 f.1.1)) (some ((false,()),(),(),(),(),())) (Ah (!(decide (e.1.2.1=f.1.2.1))) (some ((false,()),(),(),(),(),())) (o (b,(IntKind.wrap .i64 (a+1)),()))))))) none) ((n ()).bind fun s=>some ((s.1.1,()),(),(),(),(),())))
def O8(L:Ae)(a:Ajd)(f:Atm)(g:Ac2)(b:Ox)(h:Azq)(i:Xd)(j:Aeu)(k:Ak6)(l:Avq)(m:Ip)(n:Ajm)(o:Afe)(c:Db)(d:(List Int))(p:Int)(q:(List Int)):Option Y87:=(Ah (decide ((List.length d:Int)>20)) ((a ()).bind fun r=>some ((r.1.1,()),(),(),(),(),())) ((f (c,())).bind fun s=>Ah s.1.1 ((a ()).bind fun t=>some ((t.1.1,()),(),(),(),(),())) ((g (d,false,())).bind fun u=>(b (u.1.1,())).bind fun e=>(b (e.2.1,())).bind fun v=>(h (v.1.1,p,q,())).bind fun w=>L _ _ (fun z x=>J4 i j k l m n o a z x.1 x.2.1) ([c,e.1.1,w.1.1],0,()))))
def Gg:Apg:=fun x=>O8 Ac Pi Od Jj Fe Sf Ey Ha L1 Sb C4 Ij Jz x.1 x.2.1 x.2.2.1 x.2.2.2.1
theorem Bxa{α:Type}(c:Bool)(t e:Option α):Ah c t e=if c=true then t else e:=by cases c<;>rfl
theorem Ad{α:Type}(p:Prop)[Decidable p](t e:Option α):Ah (decide p) t e=if p then t else e:=by
 rw[Bxa];by_cases h:p<;>simp[h]
theorem Aq{α:Type}(c:Bool)(t e:Option α):Ah (!c) t e=Ah c e t:=by cases c<;>rfl
theorem Aga{α:Type}(a b:Bool)(t e:Option α):Ah (a&&b) t e=Ah a (Ah b t e) e:=by cases a<;>rfl
theorem Ao{α:Type}(i:Int)(n:Nat)(t e:Option α):Ah (B0 i n) t e=if 0≤i∧i<n then t else e:=by
 unfold B0;rw[Aga,Ad,Ad];by_cases h1:0≤i<;>by_cases h2:i<n<;>simp[h1,h2]
theorem Aa{α β:Type}(a:α)(f:α→Option β):Option.bind (some a) f=f a:=rfl
theorem Ad9{n:Nat}{t:Ty}:A9 n t=decide (0<t.size∧n*(24*t.size)≤140737488355328):=by
 unfold A9
 by_cases h:0<t.size
 ·simp[h]
 ·simp[h]
theorem Ah6{α:Type}(n:Nat)(t:Ty)(a b:Option α):Ah (A9 n t) a b=if 0<t.size∧n*(24*t.size)≤140737488355328 then a else b:=by
 rw[Ad9,Ad]
theorem Cfl{α β:Type}(a:α)(n:Option β)(f:α→Option β):Ce1 (some a) n f=f a:=rfl
theorem Bts{α β:Type}(n:Option β)(f:α→Option β):Ce1 none n f=n:=rfl
theorem Ej{ω δ:Type}(f:δ→Option ω)(x:δ):Fz f x=f x:=rfl
theorem Ak{ω δ:Type}{round:(δ→Option ω)→δ→Option ω}(I:δ→Prop)(m:δ→Nat)(g:δ→Option ω)
  (h:∀ x (again:δ→Option ω),I x→(∀ y,I y→m y<m x→again y=g y)→round again x=g x) {x:δ} (hx:I x) (hm:m x<Br7):Ac ω δ round x=g x:=by
 have key:∀ n x,I x→m x<n→Bfd round n x=g x:=by
  intro n
  induction n with
  | zero=>intro x _ hm;omega
  | succ n ih =>
   intro x hx hm
   rw[Bcq]
   exact h x _ hx fun y hy hlt=>ih y hy (by omega)
 rw[Aqk]
 exact key Br7 x hx hm
theorem Av:Br7=18446744073709551616:=rfl
theorem Ar{n:Int}(h1 : -9223372036854775808≤n)(h2:n≤9223372036854775807):IntKind.i64.wrap n=n:=by rw[IntKind.wrap_i64];omega
theorem H4{n:Int}(h1:0≤n)(h2:n≤18446744073709551615):IntKind.u64.wrap n=n:=by rw[IntKind.wrap_u64];omega
theorem Bpp{n:Int}(h1:0≤n)(h2:n≤4294967295):IntKind.u32.wrap n=n:=by rw[IntKind.wrap_u32];omega
theorem Cnw{n:Int}(h1:0≤n)(h2:n≤255):IntKind.u8.wrap n=n:=by rw[IntKind.wrap_u8];omega
theorem Anq{a b:Int}(h:0≤a):Int.tdiv a b=a / b:=Int.tdiv_eq_ediv_of_nonneg h
theorem Jg{a b:Int}(h:0≤a):Int.tmod a b=a % b:=Int.tmod_eq_emod_of_nonneg h
theorem Gt{n:Int}:inK .u64 n↔0≤n∧n≤18446744073709551615:=by simp[inK,IntKind.min,IntKind.max,IntKind.signed,IntKind.bits]
theorem Ceg{n:Int}:inK .i64 n↔-9223372036854775808≤n∧n≤9223372036854775807:=by simp[inK,IntKind.min,IntKind.max,IntKind.signed,IntKind.bits]
theorem Bv5(t:Ty)(x y:t.den)[Decidable (x=y)]:eqD t x y=decide (x=y):=by
 rw[Bool.eq_iff_iff,Aco];simp
theorem Bt{α:Type}{l:List α}{i:Nat}{d:α}(h:i<l.length):List.getD l i d∈l:=by
 rw[List.getD_eq_getElem?_getD,List.getElem?_eq_getElem h];simp
theorem Ch4{p:Int→Prop}{l:List Int}(h:∀ x∈l,p x)(h0:p 0)(i:Nat):p (List.getD l i 0):=by
 rcases Nat.lt_or_ge i l.length with hi|hi
 ·exact h _ (Bt hi)
 ·rw[List.getD_eq_getElem?_getD,List.getElem?_eq_none hi];exact h0
theorem B8{α:Type}(l m:List α):List.append l m=l++m:=rfl
def B4(n:Int):Prop:=0≤n∧n≤18446744073709551615
def I64(n:Int):Prop:=-9223372036854775808≤n∧n≤9223372036854775807
def Al(n:Nat):Prop:=n<115792089237316195423570985008687907853269984665640564039457584007913129639936
theorem Aon{α:Type}{l m:List α}{d:α}(hl:l.length=m.length)(h:∀ k,k<l.length→l.getD k d=m.getD k d):l=m:=by
 apply List.ext_getElem hl
 intro k h1 h2
 have:=h k h1
 rw[List.getD_eq_getElem?_getD,List.getElem?_eq_getElem h1,List.getD_eq_getElem?_getD,List.getElem?_eq_getElem h2] at this
 exact this
theorem Bq1{α β:Type}{f:α→β}{l:List α}{d:α}{i:Nat}(h:i<l.length):(l.take (i+1)).map f=(l.take i).map f++[f (l.getD i d)]:=by
 rw[List.take_succ_eq_append_getElem h,List.map_append,List.getD_eq_getElem?_getD,List.getElem?_eq_getElem h];rfl
theorem Ok{α:Type}{l:List α}{d:α}{i:Nat}(h:i<l.length):l.take (i+1)=l.take i++[l.getD i d]:=by
 rw[List.take_succ_eq_append_getElem h,List.getD_eq_getElem?_getD,List.getElem?_eq_getElem h];rfl
def Ks(n:Nat):Nat:=if n=0 then 0 else Nat.log2 n+1
theorem Bx5:Ks 0=0:=rfl
theorem Bt1(n:Nat):n<2 ^ Ks n:=by
 unfold Ks
 by_cases h:n=0
 ·subst h;simp
 ·rw[if_neg h];exact Nat.lt_log2_self
theorem Atj{n b:Nat}:Ks n≤b↔n<2 ^ b:=by
 unfold Ks
 by_cases h:n=0
 ·subst h;simp[Nat.two_pow_pos]
 ·rw[if_neg h,Nat.succ_le_iff,Nat.log2_lt h]
theorem Cgh{n b:Nat}(h1:n<2 ^ b)(h2:∀ c,c<b→2 ^ c≤n):Ks n=b:=by
 rcases Nat.lt_trichotomy (Ks n) b with h|h|h
 ·have:=h2 _ h
  have:=Bt1 n
  omega
 ·exact h
 ·have:=Atj.2 h1
  omega
theorem Bo8{n k:Nat}(h:2 ^ k≤n):Ks n=k+Ks (n / 2 ^ k):=by
 have hpos:0<2 ^ k:=Nat.two_pow_pos k
 have h1:n / 2 ^ k≠0:=by
  have:1≤n / 2 ^ k:=(Nat.le_div_iff_mul_le hpos).2 (by omega)
  omega
 refine Cgh ?_ fun c hc=>?_
 ·have:=Bt1 (n / 2 ^ k)
  rw[Nat.div_lt_iff_lt_mul hpos,← Nat.pow_add] at this
  rwa [Nat.add_comm] at this
 ·rcases Nat.lt_or_ge c k with hck|hck
  ·exact Nat.le_trans (Nat.pow_le_pow_right (by omega) (by omega)) h
  ·have h2:¬ (n / 2 ^ k)<2 ^ (c-k):=fun hh=>by
    have:=Atj.2 hh
    omega
   have h3:2 ^ (c-k)≤n / 2 ^ k:=by omega
   rw[Nat.le_div_iff_mul_le hpos,← Nat.pow_add] at h3
   rwa [Nat.sub_add_cancel hck] at h3
def Aw(n:Nat):List Int:=[((n % 18446744073709551616:Nat):Int),((n / 18446744073709551616 % 18446744073709551616:Nat):Int),((n / 340282366920938463463374607431768211456 % 18446744073709551616:Nat):Int),((n / 6277101735386680763835789423207666416102355444464034512896:Nat):Int)]
def Dw(l:List Int):Nat:=(l.getD 0 0).toNat+(l.getD 1 0).toNat*18446744073709551616+(l.getD 2 0).toNat*340282366920938463463374607431768211456+(l.getD 3 0).toNat*6277101735386680763835789423207666416102355444464034512896
theorem Bk{n:Nat}:Dw (Aw n)=n:=by
 simp only[Dw,Aw,List.getD_cons_zero,List.getD_cons_succ,Int.toNat_natCast]
 omega
theorem Bfa{n m:Nat}:Aw n=Aw m↔n=m:=⟨fun h=>by rw[← Bk (n:=n),h,Bk],fun h=>by rw[h]⟩
theorem Cq4{α:Type}{l:List α}(h:l.length=4):∃ a b c d,l=[a,b,c,d]:=by
 match l,h with
 | [a,b,c,d],_=>exact⟨a,b,c,d,rfl⟩
theorem Rh{l:List Int}(h:(Ty.arr 4 (.int .u64)).wf l):∃ n,n<115792089237316195423570985008687907853269984665640564039457584007913129639936∧l=Aw n:=by
 obtain⟨h1,h2⟩:=h
 obtain⟨a,b,c,d,rfl⟩:=Cq4 (α:=Int) h1
 have ha:=Gt.1 (h2 a (by simp))
 have hb:=Gt.1 (h2 b (by simp))
 have hc:=Gt.1 (h2 c (by simp))
 have hd:=Gt.1 (h2 d (by simp))
 refine⟨a.toNat+b.toNat*18446744073709551616+c.toNat*340282366920938463463374607431768211456+d.toNat*6277101735386680763835789423207666416102355444464034512896,by omega,?_⟩
 simp only[Aw,List.cons.injEq,and_true]
 refine⟨?_,?_,?_,?_⟩<;>omega
theorem Aad{x:Int}(h1:0≤x)(h2:x≤18446744073709551615):([x,0,0,0]:List Int)=Aw x.toNat:=by
 simp only[Aw,List.cons.injEq,and_true]
 refine⟨?_,?_,?_,?_⟩<;>omega
theorem Anh:Aw 0=[0,0,0,0]:=rfl
theorem Byj{n i:Nat}(hn:n<115792089237316195423570985008687907853269984665640564039457584007913129639936)(hi:i<4):(Aw n).getD i 0=((n / 18446744073709551616 ^ i % 18446744073709551616:Nat):Int):=by
 match i,hi with
 | 0,_=>simp[Aw]
 | 1,_=>simp[Aw]
 | 2,_=>simp[Aw]
 | 3,_ =>
  simp only[Aw,List.getD_cons_zero,List.getD_cons_succ]
  have:n / 6277101735386680763835789423207666416102355444464034512896 % 18446744073709551616=n / 6277101735386680763835789423207666416102355444464034512896:=Nat.mod_eq_of_lt (by omega)
  rw[show (18446744073709551616:Nat) ^ 3=6277101735386680763835789423207666416102355444464034512896 from rfl,this]
def beB:Nat→Nat→List Int
 | 0,_=>[]
 | k+1,n=>((n / 256 ^ k % 256:Nat):Int)::beB k n
theorem Beo:∀ {k n:Nat},(beB k n).length=k
 | 0,_=>rfl
 | k+1,n=>by simp[beB,Beo]
theorem Bzy:∀ {k n:Nat},∀ x∈beB k n,0≤x∧x≤255
 | 0,_,x,h=>by simp[beB] at h
 | k+1,n,x,h=>by
  rcases List.mem_cons.1 h with rfl|h
  ·have:=Nat.mod_lt (n / 256 ^ k) (show 0<256 by omega)
   omega
  ·exact Bzy x h
def Al4(n:Nat):Nat:=(Ks n+7) / 8
theorem Bn7(k:Nat):256 ^ k=2 ^ (8*k):=by rw[show (256:Nat)=2 ^ 8 from rfl,← Nat.pow_mul]
theorem Bgm{n k:Nat}:Al4 n≤k↔n<256 ^ k:=by
 rw[Bn7,← Atj];unfold Al4;omega
theorem Adu{n:Nat}(h:n<115792089237316195423570985008687907853269984665640564039457584007913129639936):Al4 n≤32:=Bgm.2 h
theorem Bgl{n:Nat}(h:n<18446744073709551616):Al4 n≤8:=Bgm.2 h
theorem Cbj:Al4 0=0:=rfl
abbrev A5:=Int×(List Int×Int×Unit)
abbrev Gs:A5:=((0:Int),[(0:Int),0,0,0],(0:Int),())
abbrev Cgx(a:Int):A5:=(a,[(0:Int),0,0,0],(0:Int),())
inductive Ajp:A5→Prop
 | mk {a:Int} {b:Nat} {n:Int} (ha:B4 a) (hb:Al b) (hn:B4 n):Ajp (a,Aw b,n,())
def Xu(l:List A5):Prop:=∀ x∈l,Ajp x
def isE(x:A5):Prop:=x=Cgx x.1
instance(x:A5):Decidable (isE x):=inferInstanceAs (Decidable (x=Cgx x.1))
theorem Cm8{a:Int}(h:B4 a):Ajp (Cgx a):=by
 have:=Ajp.mk (a:=a) (b:=0) (n:=0) h (by unfold Al;omega) (by unfold B4;omega)
 exact this
theorem Crc:Ajp Gs:=Cm8 (by unfold B4;omega)
theorem Xu.at{l:List A5}(h:Xu l)(i:Nat):Ajp (l.getD i Gs):=by
 rcases Nat.lt_or_ge i l.length with hi|hi
 ·exact h _ (Bt hi)
 ·rw[List.getD_eq_getElem?_getD,List.getElem?_eq_none hi];exact Crc
def I4:List A5→Int→A5
 | [],a=>Cgx a
 | x::l,a=>if x.1=a then x else I4 l a
def J0:List A5→A5→List A5
 | [],y=>if isE y then [] else [y]
 | x::l,y=>if x.1<y.1 then x::J0 l y else if x.1=y.1 then (if isE y then l else y::l) else (if isE y then x::l else y::x::l)
def Srt(l:List A5):Prop:=l.Pairwise fun x y=>x.1<y.1
def NE(l:List A5):Prop:=∀ x∈l,¬ isE x
def En(l:List A5):Nat:=(l.map fun x=>Dw x.2.1).sum
theorem Pz:En []=0:=rfl
theorem Ng(x:A5)(l:List A5):En (x::l)=Dw x.2.1+En l:=by simp[En]
theorem Aj1(l m:List A5):En (l++m)=En l+En m:=by simp[En]
theorem Ll:∀ {l:List A5} {a:Int},(∀ x∈l,x.1≠a)→I4 l a=Cgx a
 | [],_,_=>rfl
 | x::l,a,h=>by
  unfold I4
  rw[if_neg (h x (by simp)),Ll fun y hy=>h y (by simp[hy])]
theorem Azw:∀ (l:List A5) (a:Int),(I4 l a).1=a
 | [],_=>rfl
 | x::l,a=>by
  unfold I4
  by_cases h:x.1=a
  ·rw[if_pos h];exact h
  ·rw[if_neg h];exact Azw l a
theorem Bqf:∀ (l:List A5) (a:Int),I4 l a∈l∨((∀ x∈l,x.1≠a)∧I4 l a=Cgx a)
 | [],_=>.inr ⟨fun x h=>by simp at h,rfl⟩
 | x::l,a=>by
  unfold I4
  by_cases h:x.1=a
  ·rw[if_pos h];exact .inl (by simp)
  ·rw[if_neg h]
   rcases Bqf l a with h1 | ⟨h1,h2⟩
   ·exact .inl (by simp[h1])
   ·exact .inr ⟨fun y hy=>by
     rcases List.mem_cons.1 hy with rfl|hy
     ·exact h
     ·exact h1 y hy,h2⟩
theorem Crn{l:List A5}{a:Int}(h:Xu l)(ha:B4 a):Ajp (I4 l a):=by
 rcases Bqf l a with h1 | ⟨_,h2⟩
 ·exact h _ h1
 ·rw[h2];exact Cm8 ha
theorem Ao6:∀ {l:List A5} {x y:A5},x∈J0 l y→x∈l∨(x=y∧¬ isE y)
 | [],x,y,h=>by
  unfold J0 at h
  by_cases he:isE y
  ·rw[if_pos he] at h;simp at h
  ·rw[if_neg he] at h;exact .inr ⟨by simpa using h,he⟩
 | z::l,x,y,h=>by
  unfold J0 at h
  by_cases h1:z.1<y.1
  ·rw[if_pos h1] at h
   rcases List.mem_cons.1 h with rfl|h
   ·exact .inl (by simp)
   ·rcases Ao6 h with h|h
    ·exact .inl (by simp[h])
    ·exact .inr h
  ·rw[if_neg h1] at h
   by_cases h2:z.1=y.1
   ·rw[if_pos h2] at h
    by_cases he:isE y
    ·rw[if_pos he] at h;exact .inl (by simp[h])
    ·rw[if_neg he] at h
     rcases List.mem_cons.1 h with rfl|h
     ·exact .inr ⟨rfl,he⟩
     ·exact .inl (by simp[h])
   ·rw[if_neg h2] at h
    by_cases he:isE y
    ·rw[if_pos he] at h;exact .inl h
    ·rw[if_neg he] at h
     rcases List.mem_cons.1 h with rfl|h
     ·exact .inr ⟨rfl,he⟩
     ·exact .inl h
theorem Atw:∀ {l:List A5} {y:A5},Srt l→Srt (J0 l y)
 | [],y,_=>by
  unfold J0
  by_cases he:isE y
  ·rw[if_pos he];exact List.Pairwise.nil
  ·rw[if_neg he];exact List.pairwise_singleton _ _
 | z::l,y,h=>by
  have h':=List.pairwise_cons.1 h
  unfold J0
  by_cases h1:z.1<y.1
  ·rw[if_pos h1]
   refine List.pairwise_cons.2 ⟨fun x hx=>?_,Atw h'.2⟩
   rcases Ao6 hx with hx | ⟨rfl,_⟩
   ·exact h'.1 x hx
   ·exact h1
  ·rw[if_neg h1]
   by_cases h2:z.1=y.1
   ·rw[if_pos h2]
    by_cases he:isE y
    ·rw[if_pos he];exact h'.2
    ·rw[if_neg he]
     exact List.pairwise_cons.2 ⟨fun x hx=>by rw[← h2];exact h'.1 x hx,h'.2⟩
   ·rw[if_neg h2]
    by_cases he:isE y
    ·rw[if_pos he];exact h
    ·rw[if_neg he]
     refine List.pairwise_cons.2 ⟨fun x hx=>?_,h⟩
     rcases List.mem_cons.1 hx with rfl|hx
     ·omega
     ·have:=h'.1 x hx;omega
theorem Bvx{l:List A5}{y:A5}(h:NE l):NE (J0 l y):=fun x hx=>by
 rcases Ao6 hx with hx | ⟨rfl,he⟩
 ·exact h x hx
 ·exact he
theorem Byv{l:List A5}{y:A5}(h:Xu l)(hy:Ajp y):Xu (J0 l y):=fun x hx=>by
 rcases Ao6 hx with hx | ⟨rfl,he⟩
 ·exact h x hx
 ·exact hy
theorem Azy:∀ (l:List A5) (y:A5),(J0 l y).length≤l.length+1
 | [],y=>by
  unfold J0
  by_cases he:isE y
  ·rw[if_pos he];simp
  ·rw[if_neg he];simp
 | z::l,y=>by
  have:=Azy l y
  unfold J0
  split
  ·simp;omega
  ·split
   ·split<;>(simp;try omega)
   ·split<;>simp
theorem Bhy:∀ {l:List A5} {y:A5} {a:Int},Srt l→I4 (J0 l y) a=if a=y.1 then y else I4 l a
 | [],y,a,_=>by
  unfold J0
  by_cases he:isE y
  ·rw[if_pos he]
   by_cases ha:a=y.1
   ·rw[if_pos ha,ha];exact he.symm
   ·rw[if_neg ha]
  ·rw[if_neg he]
   simp only[I4]
   by_cases ha:a=y.1
   ·rw[if_pos ha,if_pos ha.symm]
   ·rw[if_neg ha,if_neg fun h=>ha h.symm]
 | z::l,y,a,h=>by
  have h':=List.pairwise_cons.1 h
  unfold J0
  by_cases h1:z.1<y.1
  ·rw[if_pos h1]
   have ih:=Bhy (y:=y) (a:=a) h'.2
   simp only[I4]
   rw[ih]
   by_cases hz:z.1=a
   ·rw[if_pos hz,if_neg (by omega),if_pos hz]
   ·rw[if_neg hz,if_neg hz]
  ·rw[if_neg h1]
   by_cases h2:z.1=y.1
   ·rw[if_pos h2]
    by_cases he:isE y
    ·rw[if_pos he]
     by_cases ha:a=y.1
     ·rw[if_pos ha,Ll fun x hx=>by have:=h'.1 x hx;omega,ha]
      exact he.symm
     ·rw[if_neg ha]
      simp only[I4]
      rw[if_neg (by omega)]
    ·rw[if_neg he]
     simp only[I4]
     by_cases ha:a=y.1
     ·rw[if_pos ha,if_pos ha.symm]
     ·rw[if_neg ha,if_neg (fun h=>ha h.symm),if_neg (by omega)]
   ·rw[if_neg h2]
    by_cases he:isE y
    ·rw[if_pos he]
     by_cases ha:a=y.1
     ·rw[if_pos ha,Ll (fun x hx=>?_),ha]
      ·exact he.symm
      ·rcases List.mem_cons.1 hx with rfl|hx
       ·omega
       ·have:=h'.1 x hx;omega
     ·rw[if_neg ha]
    ·rw[if_neg he]
     simp only[I4]
     by_cases ha:a=y.1
     ·rw[if_pos ha,if_pos ha.symm]
     ·rw[if_neg ha,if_neg fun h=>ha h.symm]
theorem Bii:Dw [(0:Int),0,0,0]=0:=by decide
theorem Bvu{y:A5}(h:isE y):Dw y.2.1=0:=by
 unfold isE at h;rw[h];exact Bii
theorem Azl:∀ {l:List A5} {y:A5},Srt l→En (J0 l y)+Dw (I4 l y.1).2.1=En l+Dw y.2.1
 | [],y,_=>by
  unfold J0 I4
  by_cases he:isE y
  ·rw[if_pos he,Bvu he,Bii]
  ·rw[if_neg he,Bii,Ng,Pz];omega
 | z::l,y,h=>by
  have h':=List.pairwise_cons.1 h
  unfold J0
  by_cases h1:z.1<y.1
  ·rw[if_pos h1]
   have ih:=Azl (y:=y) h'.2
   simp only[I4]
   rw[if_neg (by omega),Ng,Ng];omega
  ·rw[if_neg h1]
   by_cases h2:z.1=y.1
   ·rw[if_pos h2]
    simp only[I4]
    rw[if_pos h2]
    by_cases he:isE y
    ·rw[if_pos he,Bvu he,Ng];omega
    ·rw[if_neg he,Ng,Ng];omega
   ·rw[if_neg h2,Ll (fun x hx=>?_),Bii]
    ·by_cases he:isE y
     ·rw[if_pos he,Bvu he]
     ·rw[if_neg he,Ng y];omega
    ·rcases List.mem_cons.1 hx with rfl|hx
     ·exact h2
     ·have:=h'.1 x hx;omega
theorem Aho{x:A5}{l:List A5}:I4 (x::l) x.1=x:=by unfold I4;rw[if_pos rfl]
theorem Cqv:∀ {l m:List A5},Srt l→Srt m→NE l→NE m→(∀ a,I4 l a=I4 m a)→l=m
 | [],[],_,_,_,_,_=>rfl
 | [],y::m,_,_,_,hn,h=>by
  have:=h y.1
  rw[Aho] at this
  exact absurd this.symm (hn y (by simp))
 | x::l,[],_,_,hn,_,h=>by
  have:=h x.1
  rw[Aho] at this
  exact absurd this (hn x (by simp))
 | x::l,y::m,hs,ht,hn,hm,h=>by
  have hs':=List.pairwise_cons.1 hs
  have ht':=List.pairwise_cons.1 ht
  rcases Int.lt_trichotomy x.1 y.1 with h1|h1|h1
  ·have:=h x.1
   rw[Aho,Ll (l:=y::m) (fun z hz=>by
    rcases List.mem_cons.1 hz with rfl|hz
    ·omega
    ·have:=ht'.1 z hz;omega)] at this
   exact absurd this (hn x (by simp))
  ·have e:x=y:=by
    have:=h x.1
    rw[Aho,h1,Aho] at this
    exact this
   subst e
   congr 1
   refine Cqv hs'.2 ht'.2 (fun z hz=>hn z (by simp[hz])) (fun z hz=>hm z (by simp[hz])) fun a=>?_
   by_cases ha:x.1=a
   ·rw[Ll fun z hz=>by have:=hs'.1 z hz;omega,Ll fun z hz=>by have:=ht'.1 z hz;omega]
   ·have:=h a
    simp only[I4] at this
    rw[if_neg ha,if_neg ha] at this
    exact this
  ·have:=h y.1
   rw[Aho,Ll (l:=x::l) (fun z hz=>by
    rcases List.mem_cons.1 hz with rfl|hz
    ·omega
    ·have:=hs'.1 z hz;omega)] at this
   exact absurd this.symm (hm y (by simp))
def Adc:List A5→Int→Nat
 | [],_=>0
 | p::l,a=>if p.1<a then Adc l a+1 else 0
theorem Ceu(p:A5)(l:List A5)(a:Int):Adc (p::l) a=if p.1<a then Adc l a+1 else 0:=rfl
theorem Cec(a:Int):∀ l:List A5,Adc l a≤l.length
 | []=>by simp[Adc]
 | p::l=>by
  have:=Cec a l
  unfold Adc
  split
  ·simp;omega
  ·simp
theorem Cdl:∀ {l:List A5} {a:Int} {i:Nat},i<Adc l a→(l.getD i Gs).1<a
 | [],a,i,h=>by simp[Adc] at h
 | p::l,a,i,h=>by
  unfold Adc at h
  by_cases hp:p.1<a
  ·rw[if_pos hp] at h
   cases i with
   | zero=>exact hp
   | succ i=>exact Cdl (l:=l) (by omega)
  ·rw[if_neg hp] at h;omega
theorem Chu{l:List A5}(h:Srt l){i j:Nat}(hij:i<j)(hj:j<l.length):(l.getD i Gs).1<(l.getD j Gs).1:=by
 have:=List.pairwise_iff_getElem.1 h i j (by omega) hj hij
 rw[List.getD_eq_getElem?_getD,List.getElem?_eq_getElem (by omega),List.getD_eq_getElem?_getD,List.getElem?_eq_getElem hj]
 exact this
theorem Cdi:∀ {l:List A5} {a:Int},Adc l a<l.length→a≤(l.getD (Adc l a) Gs).1
 | [],a,h=>by simp[Adc] at h
 | p::l,a,h=>by
  unfold Adc at h ⊢
  by_cases hp:p.1<a
  ·rw[if_pos hp] at h ⊢
   exact Cdi (l:=l) (by simpa using h)
  ·rw[if_neg hp] at h ⊢
   show a≤p.1
   omega
theorem Ck7{l:List A5}(hs:Srt l){a:Int}{i:Nat}(h:Adc l a≤i)(hi:i<l.length):a≤(l.getD i Gs).1:=by
 have h1:=Cdi (l:=l) (a:=a) (by omega)
 rcases Nat.lt_or_ge (Adc l a) i with h2|h2
 ·have:=Chu hs h2 hi;omega
 ·rw[show i=Adc l a by omega];exact h1
abbrev Bxg(l:List A5)(a:Int):Prop:=Adc l a<l.length∧(l.getD (Adc l a) Gs).1=a
theorem Caw:∀ (l:List A5) (y:A5),J0 l y=if Bxg l y.1 then (if isE y then l.take (Adc l y.1)++l.drop (Adc l y.1+1) else l.set (Adc l y.1) y) else
  (if isE y then l else l.take (Adc l y.1)++(y::l.drop (Adc l y.1)))
 | [],y=>by
  unfold J0 Bxg Adc
  simp
 | p::l,y=>by
  unfold Bxg
  rw[Ceu]
  unfold J0
  by_cases hp:p.1<y.1
  ·rw[if_pos hp,if_pos hp,Caw l y]
   unfold Bxg
   simp only[List.length_cons,Nat.add_lt_add_iff_right,List.getD_cons_succ,List.take_succ_cons,List.drop_succ_cons,List.set_cons_succ]
   split
   ·split<;>rfl
   ·split<;>rfl
  ·rw[if_neg hp,if_neg hp]
   simp only[List.length_cons,List.getD_cons_zero,Nat.zero_lt_succ,true_and,List.take_zero,List.drop_zero,List.nil_append,List.set_cons_zero,Nat.zero_add,List.drop_succ_cons]
def Bwv(m:List A5):Prop:=m.Pairwise fun x y=>x.1≠y.1
def Amg:List A5→A5→List A5
 | [],y=>[y]
 | x::m,y=>if x.1=y.1 then y::m else x::Amg m y
def Cf(m:List A5):List A5:=m.foldl J0 []
theorem Bn9:∀ {m:List A5} {x y:A5},x∈Amg m y→x∈m∨x=y
 | [],x,y,h=>.inr (by simpa [Amg] using h)
 | z::m,x,y,h=>by
  unfold Amg at h
  by_cases hz:z.1=y.1
  ·rw[if_pos hz] at h
   rcases List.mem_cons.1 h with rfl|h
   ·exact .inr rfl
   ·exact .inl (by simp[h])
  ·rw[if_neg hz] at h
   rcases List.mem_cons.1 h with rfl|h
   ·exact .inl (by simp)
   ·rcases Bn9 h with h|h
    ·exact .inl (by simp[h])
    ·exact .inr h
theorem Bh3:∀ {m:List A5} {y:A5},Bwv m→Bwv (Amg m y)
 | [],y,_=>List.pairwise_singleton _ _
 | z::m,y,h=>by
  have h':=List.pairwise_cons.1 h
  unfold Amg
  by_cases hz:z.1=y.1
  ·rw[if_pos hz]
   exact List.pairwise_cons.2 ⟨fun x hx=>by rw[← hz];exact h'.1 x hx,h'.2⟩
  ·rw[if_neg hz]
   refine List.pairwise_cons.2 ⟨fun x hx=>?_,Bh3 h'.2⟩
   rcases Bn9 hx with hx|rfl
   ·exact h'.1 x hx
   ·exact hz
theorem Cik{m:List A5}{y:A5}(h:Xu m)(hy:Ajp y):Xu (Amg m y):=fun x hx=>by
 rcases Bn9 hx with hx|rfl
 ·exact h x hx
 ·exact hy
theorem Bed:∀ (m:List A5) (y:A5),(Amg m y).length≤m.length+1
 | [],y=>by simp[Amg]
 | z::m,y=>by
  have:=Bed m y
  unfold Amg
  split
  ·simp
  ·simp;omega
theorem Btv:∀ (m:List A5) (y:A5) (a:Int),I4 (Amg m y) a=if a=y.1 then y else I4 m a
 | [],y,a=>by
  simp only[Amg,I4]
  by_cases ha:a=y.1
  ·rw[if_pos ha,if_pos ha.symm]
  ·rw[if_neg ha,if_neg fun h=>ha h.symm]
 | z::m,y,a=>by
  unfold Amg
  by_cases hz:z.1=y.1
  ·rw[if_pos hz]
   simp only[I4]
   by_cases ha:a=y.1
   ·rw[if_pos ha,if_pos ha.symm]
   ·rw[if_neg ha,if_neg (fun h=>ha h.symm),if_neg (by omega)]
  ·rw[if_neg hz]
   simp only[I4]
   rw[Btv m y a]
   by_cases ha:z.1=a
   ·rw[if_pos ha,if_neg (by omega),if_pos ha]
   ·rw[if_neg ha,if_neg ha]
theorem Byo:∀ (m:List A5) {o:List A5},Srt o→Srt (m.foldl J0 o)
 | [],_,h=>h
 | x::m,_,h=>Byo m (Atw h)
theorem Ceq:∀ (m:List A5) {o:List A5},NE o→NE (m.foldl J0 o)
 | [],_,h=>h
 | x::m,_,h=>Ceq m (Bvx h)
theorem Bx0:∀ {m o:List A5},Xu m→Xu o→Xu (m.foldl J0 o)
 | [],_,_,h=>h
 | x::m,o,hm,h=>Bx0 (m:=m) (o:=J0 o x) (fun y hy=>hm y (by simp[hy])) (Byv h (hm x (by simp)))
theorem Bam(m:List A5):Srt (Cf m):=Byo m List.Pairwise.nil
theorem Cab(m:List A5):NE (Cf m):=Ceq m fun x h=>by simp at h
theorem Baq{m:List A5}(h:Xu m):Xu (Cf m):=Bx0 h fun x h=>by simp at h
theorem Bzj:∀ {m o:List A5} {x:A5},x∈m.foldl J0 o→x∈m∨x∈o
 | [],_,_,h=>.inr h
 | y::m,o,x,h=>by
  rcases Bzj (m:=m) h with h|h
  ·exact .inl (by simp[h])
  ·rcases Ao6 h with h | ⟨rfl,_⟩
   ·exact .inr h
   ·exact .inl (by simp)
theorem Cfw{m:List A5}{x:A5}(h:x∈Cf m):x∈m:=by
 rcases Bzj h with h|h
 ·exact h
 ·simp at h
theorem Bt4:∀ {m o:List A5} (a:Int),Bwv m→Srt o→((∀ x∈m,x.1≠a)∧I4 (m.foldl J0 o) a=I4 o a)∨((∃ x∈m,x.1=a)∧I4 (m.foldl J0 o) a=I4 m a)
 | [],o,a,_,_=>.inl ⟨fun x h=>by simp at h,rfl⟩
 | y::m,o,a,hd,ho=>by
  have hd':=List.pairwise_cons.1 hd
  show ((∀ x∈y::m,x.1≠a)∧I4 (m.foldl J0 (J0 o y)) a=I4 o a)∨((∃ x∈y::m,x.1=a)∧I4 (m.foldl J0 (J0 o y)) a=I4 (y::m) a)
  rcases Bt4 (m:=m) (o:=J0 o y) a hd'.2 (Atw ho) with⟨h1,h2⟩ | ⟨⟨z,hz,h1⟩,h2⟩
  ·rw[h2,Bhy ho]
   by_cases ha:a=y.1
   ·rw[if_pos ha]
    exact .inr ⟨⟨y,by simp,ha.symm⟩,by rw[ha,Aho]⟩
   ·rw[if_neg ha]
    refine .inl ⟨fun x hx=>?_,rfl⟩
    rcases List.mem_cons.1 hx with rfl|hx
    ·exact fun h=>ha h.symm
    ·exact h1 x hx
  ·refine .inr ⟨⟨z,by simp[hz],h1⟩,?_⟩
   rw[h2]
   simp only[I4]
   rw[if_neg]
   have:=hd'.1 z hz
   rw[h1] at this
   exact this
theorem Bdr{m:List A5}(h:Bwv m)(a:Int):I4 (Cf m) a=I4 m a:=by
 rcases Bt4 (o:=[]) a h List.Pairwise.nil with⟨h1,h2⟩ | ⟨_,h2⟩
 ·exact h2.trans (by rw[Ll h1];rfl)
 ·exact h2
theorem Bd3{m:List A5}{y:A5}(h:Bwv m):Cf (Amg m y)=J0 (Cf m) y :=
 Cqv (Bam _) (Atw (Bam m)) (Cab _) (Bvx (Cab m)) fun a=>by
  rw[Bdr (Bh3 h),Btv,Bhy (Bam m),Bdr h]
theorem Bym:∀ {m o:List A5},Bwv m→Srt o→(∀ x∈m,∀ y∈o,y.1≠x.1)→En (m.foldl J0 o)=En o+En m
 | [],o,_,_,_=>by simp[Pz]
 | x::m,o,hd,ho,h=>by
  have hd':=List.pairwise_cons.1 hd
  show En (m.foldl J0 (J0 o x))=En o+En (x::m)
  rw[Bym hd'.2 (Atw ho) fun y hy z hz=>?_,Ng]
  ·have:=Azl (y:=x) ho
   rw[Ll (h x (by simp)),Bii] at this
   omega
  ·rcases Ao6 hz with hz | ⟨rfl,_⟩
   ·exact h y (by simp[hy]) z hz
   ·exact hd'.1 y hy
theorem Cgw{m:List A5}(h:Bwv m):En (Cf m)=En m:=by
 have:=Bym (o:=[]) h List.Pairwise.nil (fun x _ y hy=>by simp at hy)
 rw[Pz,Nat.zero_add] at this
 exact this
theorem Bmt:∀ (m o:List A5),(m.foldl J0 o).length≤o.length+m.length
 | [],o=>by simp
 | x::m,o=>by
  have h1:=Bmt m (J0 o x)
  have h2:=Azy o x
  simp only[List.foldl_cons,List.length_cons]
  omega
end Go.Pon
