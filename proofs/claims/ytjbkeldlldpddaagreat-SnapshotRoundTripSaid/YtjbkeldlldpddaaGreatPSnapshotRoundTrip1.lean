/-
  Part of a proof: general lemmas, merged by a program of this work.
-/
import Derived.Test.YtjbkeldlldpddaaGreatF3
set_option autoImplicit false
set_option linter.unusedVariables false
set_option linter.unusedSimpArgs false
noncomputable section
namespace Go.Pon
theorem aa3:type_of% @Int.toNat_natCast:=@Int.toNat_natCast
theorem ad6:type_of% @List.pairwise_cons:=@List.pairwise_cons
theorem ae6:type_of% @Nat.pow_succ:=@Nat.pow_succ
theorem af9:type_of% @Nat.mul_comm:=@Nat.mul_comm
theorem ag4:type_of% @List.length_singleton:=@List.length_singleton
theorem ag6:type_of% @List.getD_cons_zero:=@List.getD_cons_zero
theorem ah1:type_of% @List.getD_cons_succ:=@List.getD_cons_succ
theorem ah3:type_of% @Int.tdiv_eq_ediv_of_nonneg:=@Int.tdiv_eq_ediv_of_nonneg
theorem ah6:type_of% @Nat.pow_le_pow_right:=@Nat.pow_le_pow_right
theorem ai3:type_of% @Nat.mod_lt:=@Nat.mod_lt
theorem ai4:type_of% @List.getElem?_eq_none:=@List.getElem?_eq_none
theorem ai5:type_of% @BitVec.ofInt_natCast:=@BitVec.ofInt_natCast
theorem aj1:type_of% @BitVec.toNat_ofNat:=@BitVec.toNat_ofNat
theorem al4:type_of% @List.ext_getElem:=@List.ext_getElem
theorem al5:type_of% @Nat.pow_add:=@Nat.pow_add
theorem am0:type_of% @List.take_succ_eq_append_getElem:=@List.take_succ_eq_append_getElem
theorem am8:type_of% @Go.IntKind.wrap_u64:=@Go.IntKind.wrap_u64
theorem am9:type_of% @List.set_cons_zero:=@List.set_cons_zero
theorem ao5:type_of% @Nat.div_lt_iff_lt_mul:=@Nat.div_lt_iff_lt_mul
theorem ap2:type_of% @Go.IntKind.wrap_u8:=@Go.IntKind.wrap_u8
theorem ap3:type_of% @Nat.two_pow_pos:=@Nat.two_pow_pos
theorem aq6:type_of% @List.pairwise_singleton:=@List.pairwise_singleton
theorem as4:type_of% @List.getElem_set:=@List.getElem_set
end Go.Pon
set_option autoImplicit false
namespace Go.Pon
open Go
abbrev Y1:Type:=(List (List Int))
abbrev Y2:Type:=(Int×(List Int))
abbrev Y3:Type:=(Int×Int×Unit)
abbrev Y4:Type:=((List Int)×Unit)
abbrev Y5:Type:=(Int×Int×(Unit))
abbrev Y6:Type:=(Y4×Unit×Unit)
abbrev Y7:Type:=(Int×Int×Int×Unit)
abbrev Y8:Type:=((List Int)×Int×Unit)
abbrev Y9:Type:=(Int×(List Int)×Unit)
abbrev Y10:Type:=(Y3×Unit×Unit×Unit)
abbrev Y11:Type:=(Y4×Unit×Unit×Unit)
abbrev Y12:Type:=((List Int)×Bool×Unit)
abbrev Y13:Type:=(Bool×(List Int)×Unit)
abbrev Y14:Type:=((Int×Unit)×Unit×Unit)
abbrev Y15:Type:=((Bool×Unit)×Unit×Unit)
abbrev Y16:Type:=((List Int)×Int×Int×Unit)
abbrev Y17:Type:=(Int×(List Int)×Int×Unit)
abbrev Y18:Type:=(Int×Int×(List Int)×Unit)
abbrev Y19:Type:=((List Y9)×Unit)
abbrev Y20:Type:=(Y13×Int×Unit)
abbrev Y21:Type:=(Y8×Unit×Unit)
abbrev Y22:Type:=((List Y17)×Unit)
abbrev Y23:Type:=((List Y17)×Y1×Unit)
abbrev Y24:Type:=((List Y9)×Int×Unit)
abbrev Y25:Type:=(Y4×Y23×Unit)
abbrev Y26:Type:=(Y23×Int×Unit)
abbrev Y27:Type:=(Y19×Unit×Unit)
abbrev Y28:Type:=(Y22×Unit×Unit)
abbrev Y29:Type:=(Y8×Unit×Unit×Unit)
abbrev Y30:Type:=(Y24×Unit×Unit×Unit)
abbrev Y31:Type:=((Option Y23)×Int×Unit)
abbrev Y32:Type:=((Y13×Unit)×Unit×Unit)
abbrev Y33:Type:=(Y23×(List Int)×Int×Unit)
abbrev Y34:Type:=(Y23×(List Y17)×Int×Unit)
abbrev Y35:Type:=(Y23×Int×(List Int)×Unit)
abbrev Y36:Type:=(Y31×Unit×Unit×Unit)
abbrev Y37:Type:=((List Int)×(List Int)×Unit)
abbrev Y38:Type:=((List Int)×Int×Bool×Unit)
abbrev Y39:Type:=(Y3×Unit×Unit×Unit×Unit)
abbrev Y40:Type:=(Y4×Unit×Unit×Unit×Unit)
abbrev Y41:Type:=(Y8×Unit×Unit×Unit×Unit)
abbrev Y42:Type:=(Y37×Unit×Unit×Unit)
abbrev Y43:Type:=((Int×Unit)×Y38×Unit)
abbrev Y44:Type:=((Bool×Unit)×Y38×Unit)
abbrev Y45:Type:=(Unit×Y23×Unit×Unit×Unit)
abbrev Y46:Type:=(Y16×Unit×Unit×Unit×Unit)
abbrev Y47:Type:=((Int×Unit)×Y23×Unit×Unit)
abbrev Y48:Type:=((Y1×Unit)×Unit×Unit×Unit)
abbrev Y49:Type:=((Y17×Unit)×Y23×Unit×Unit)
abbrev Y50:Type:=(Y5×Unit×Unit×Unit×(Unit))
abbrev Y51:Type:=((Bool×Unit)×Unit×Int×Unit)
abbrev Y52:Type:=((Int×Bool×Unit)×Unit×Unit)
abbrev Y53:Type:=((Int×Unit)×Unit×Unit×Unit)
abbrev Y54:Type:=((Y13×Unit)×Unit×Unit×Unit)
abbrev Y55:Type:=((Bool×Unit)×Unit×Unit×Unit)
abbrev Y56:Type:=((List Int)×Y1×Int×Int×Unit)
abbrev Y57:Type:=(Int×Int×(List Int)×Y1×Unit)
abbrev Y58:Type:=(Int×(List Int)×(List Y9)×Unit)
abbrev Y59:Type:=(Int×Int×Int×(List Int)×Unit)
abbrev Y60:Type:=(Y23×Int×Int×(List Int)×Unit)
abbrev Y61:Type:=((List Int)×(List Int)×Int×Unit)
abbrev Y62:Type:=(Y3×Unit×Unit×Unit×Unit×Unit)
abbrev Y63:Type:=(Y7×Unit×Unit×Unit×Unit×Unit)
abbrev Y64:Type:=(Y59×Int×Unit)
abbrev Y65:Type:=(Y12×Unit×Unit×Unit×Unit×Unit)
abbrev Y66:Type:=(Y20×Unit×Unit×Unit×Unit×Unit)
abbrev Y67:Type:=(Y64×Unit×Unit×Unit×Unit×Unit)
abbrev Y68:Type:=((Int×Unit)×Y23×Unit×Unit×Unit)
abbrev Y69:Type:=((Bool×Unit)×Y23×Unit×Unit×Unit)
abbrev Y70:Type:=((Bool×Unit)×Y38×Unit×Unit×Unit)
abbrev Y71:Type:=((Int×Unit)×Unit×Unit×Unit×Unit)
abbrev Y72:Type:=(Int×Int×Int×(List Int)×Y1×Unit)
abbrev Y73:Type:=((Bool×Unit)×Unit×Unit×Unit×Unit)
abbrev Y74:Type:=(((Option Int)×Unit)×Unit×Unit×Unit)
abbrev Y75:Type:=((List Int)×(List Int)×Int×Int×Unit)
abbrev Y76:Type:=((List Int)×Int×(List Int)×Int×Unit)
abbrev Y77:Type:=((List Int)×(List Int)×(List Int)×Unit)
abbrev Y78:Type:=(Y8×Unit×Unit×Unit×Unit×Unit×Unit)
abbrev Y79:Type:=((Y13×Int×Int×Unit)×Unit×Unit×Unit)
abbrev Y80:Type:=((Int×Unit)×Y23×Unit×Unit×Unit×Unit)
abbrev Y81:Type:=((Y1×Bool×Unit)×Unit×Unit×Unit×Unit)
abbrev Y82:Type:=((Int×Unit)×Unit×Unit×Unit×Unit×Unit)
abbrev Y83:Type:=((List Int)×Int×Int×(List Int)×Y1×Unit)
abbrev Y84:Type:=((List Int)×Y1×(List Int)×(List Y9)×Unit)
abbrev Y85:Type:=((Bool×Unit)×Unit×Unit×Unit×Unit×Unit)
abbrev Y86:Type:=((List Int)×Int×Int×Int×Y13×Unit×Unit)
abbrev Y87:Type:=(((Option (List Int))×Unit)×Unit×Unit×Unit)
abbrev Y88:Type:=((List Int)×(List Int)×(List Int)×Int×Unit)
abbrev Y89:Type:=(Y4×Y84×Unit×Unit)
abbrev Y90:Type:=(Y84×(List Y9)×Int×Unit)
abbrev Y91:Type:=((Int×Unit)×Y84×Unit×Unit)
abbrev Y92:Type:=((List Int)×(List Int)×Int×Int×Int×Int×Unit)
abbrev Y93:Type:=((Bool×Unit)×Unit×Unit×Unit×Unit×Unit×Unit)
abbrev Y94:Type:=((List Int)×(List Int)×(List Int)×Int×Int×Unit)
abbrev Y95:Type:=((List Int)×(List Int)×(List Int)×(List Int)×Int×Unit)
abbrev Y96:Type:=((List Int)×(List Int)×(List Int)×(List Int)×Int×Int×Unit)
abbrev Y97:Type:=(Int×(List Int)×(List Int)×(List Int)×(List Int)×Int×Unit)
abbrev Y98:Type:=((List Y97)×Unit)
abbrev Y99:Type:=((List Y97)×Int×Unit)
abbrev Bsi:Type:=(Y98×Unit×Unit)
abbrev Bxr:Type:=(Y99×Unit×Unit×Unit)
abbrev Cki:Type:=(Y99×Unit×Unit×Unit×Unit)
abbrev Cl9:Type:=((List Y97)×(List Y97)×Int×Unit)
abbrev Cog:Type:=((List Y97)×Int×(List Int)×Unit)
abbrev Cpc:Type:=((List Y97)×(List Y97)×Int×Int×Unit)
abbrev Cky:Type:=(Y99×Unit×Unit×Unit×Unit×Unit×Unit)
abbrev Apm:Type:=((List Int)×Int×Int×Int×Y13×(List Y97)×Unit)
abbrev Cpv:Type:=((List Y97)×Int×(List Int)×(List Int)×Int×Unit)
abbrev Ci5:Type:=(Apm×Int×Unit)
abbrev Ci3:Type:=(Ci5×Unit×Unit×Unit)
abbrev Cop:Type:=((Apm×Y58×Int×Unit)×Unit×Unit×Unit×Unit×Unit×Unit)
abbrev Cl2:Type:=((List Int)×(List Int)×(List Int)×(List Int)×(List Int)×Int×Unit)
abbrev Bcr:Type:=(Int×Int×Int×(List Int)×Int×(List Int)×(List Int)×Int×(List Int)×Unit)
abbrev Bbr:Type:=(Int×Bcr×Y18×Int×Int×(List Int)×Int×Y72×Unit)
abbrev Cc5:Type:=((List Bbr)×Unit)
abbrev Coc:Type:=((Bbr×Unit)×Unit×Unit)
abbrev Cpq:Type:=((Bbr×Unit)×Unit×Unit×Unit×Unit)
abbrev Pk:Type:=(Int×Int×Int×(List Int)×Int×(List Int)×Int×(List Int)×Int×Int×Int×Int×Unit)
abbrev Cpr:Type:=(Int×Int×Int×Int×Bool×(List Int)×(List Int)×(List Int)×(List Int)×(List Int)×Unit)
abbrev Ccb:Type:=(Pk×Int×Unit)
abbrev Cjq:Type:=(Ccb×Unit×Unit×Unit×Unit)
abbrev Co5:Type:=(Bcr×(List Int)×(List Int)×Pk×Unit)
abbrev Cn8:Type:=((Cpr×Int×Unit)×Unit×Unit×Unit×Unit×Unit)
abbrev Sd:Type:=(Int×Pk×Y59×Int×Apm×Y23×(List Y18)×Y84×Unit)
abbrev Cp1:Type:=((Int×Unit)×Sd×Unit×Unit)
abbrev Co9:Type:=((Y18×Unit)×Unit×Sd×Unit)
abbrev Cpy:Type:=((Y72×Unit)×Unit×Sd×Unit)
abbrev Co6:Type:=((Y18×Unit)×Sd×Unit×Unit×Unit)
abbrev Com:Type:=((Bcr×Unit)×Unit×Unit×Sd×Unit)
abbrev Co4:Type:=((Bbr×Unit)×Unit×Sd×Unit×Unit)
abbrev Cn6:Type:=(Int×Pk×Y59×Int×Y86×Unit×Y1×Unit×Unit×(List Int)×Unit×Unit)
abbrev Btz:Type:=(Int×Int×Cpr×(List Int)×(List Int)×Int×(List Int)×(List Int)×(List Y18)×Unit)
abbrev Bx6:Type:=((Btz×Unit)×Sd×Unit×Unit)
abbrev Crn:Type:=(Sd×(List Bbr)×(List Btz)×Unit)
abbrev Ccu:Type:=(Crn×Unit×Unit×Unit)
abbrev Cpg:Type:=((List Int)×Bool×Sd×(List Bbr)×(List Btz)×Int×Unit)
abbrev Eu:Type:=(Int×Pk×Y59×Int×Apm×(List Y17)×Y1×(List Y18)×(List Bool)×(List Int)×(List Y9)×Unit)
abbrev Cdw:Type:=(Y38×Eu×Unit)
abbrev Axv:Type:=(Unit×Y38×Eu×Unit)
abbrev Ci6:Type:=((Eu×Unit)×Sd×Unit)
abbrev Cmv:Type:=(Y38×Eu×Int×Int×Unit)
abbrev Cd2:Type:=(Unit×Y38×Eu×Bool×Unit)
abbrev Cod:Type:=((Eu×Int×Unit)×Unit×Unit)
abbrev Beg:Type:=((Eu×Unit)×Unit×Unit×Unit×Unit)
abbrev Cnx:Type:=(Eu×(List Int)×(List Y17)×Int×Int×Unit)
abbrev Cp0:Type:=(Eu×(List Int)×(List Y18)×Int×Int×Unit)
abbrev W1:Ty:=(.slice .bool)
abbrev W2:Ty:=(.slice (.int .u8))
abbrev W3:Ty:=(.arr 32 (.int .u8))
abbrev W4:Ty:=(.arr 4 (.int .u64))
abbrev W5:Ty:=(.arr 5 (.int .u64))
abbrev W6:Ty:=(.arr 8 (.int .u32))
abbrev W7:Ty:=(.slice (.int .i64))
abbrev W8:Ty:=(.slice (.int .u64))
abbrev W9:Ty:=(.pair W2 .unit)
abbrev W10:Ty:=(.pair W4 .unit)
abbrev W11:Ty:=(.pair W7 .unit)
abbrev W12:Ty:=(.arr 64 (.int .u32))
abbrev W13:Ty:=(.pair W4 W10)
abbrev W14:Ty:=(.pair .bool W10)
abbrev W15:Ty:=(.pair .bool W11)
abbrev W16:Ty:=(.pair W4 W13)
abbrev W17:Ty:=(.pair W4 W16)
abbrev W18:Ty:=(.pair W4 W17)
abbrev W19:Ty:=(.pair .bool W18)
abbrev W20:Ty:=(.pair (.int .u64) W9)
abbrev W21:Ty:=(.pair (.int .u64) W10)
abbrev W22:Ty:=(.pair W4 W20)
abbrev W23:Ty:=(.pair W4 W22)
abbrev W24:Ty:=(.pair (.int .u64) W19)
abbrev W25:Ty:=(.pair (.int .u64) W21)
abbrev W26:Ty:=(.pair (.int .u64) W23)
abbrev W27:Ty:=(.pair (.arr 4 W4) .unit)
abbrev W28:Ty:=(.pair (.int .u64) .unit)
abbrev W29:Ty:=(.pair (.slice W3) .unit)
abbrev W30:Ty:=(.pair (.slice W21) .unit)
abbrev W31:Ty:=(.pair W4 W26)
abbrev W32:Ty:=(.pair W4 W28)
abbrev W33:Ty:=(.pair W4 W29)
abbrev W34:Ty:=(.pair W4 W30)
abbrev W35:Ty:=(.pair W8 W30)
abbrev W36:Ty:=(.pair W1 W34)
abbrev W37:Ty:=(.pair W4 W32)
abbrev W38:Ty:=(.pair W4 W37)
abbrev W39:Ty:=(.pair W4 W38)
abbrev W40:Ty:=(.pair (.int .u64) W24)
abbrev W41:Ty:=(.pair (.int .u64) W25)
abbrev W42:Ty:=(.pair (.int .u64) W28)
abbrev W43:Ty:=(.pair (.int .u64) W31)
abbrev W44:Ty:=(.pair (.int .u64) W32)
abbrev W45:Ty:=(.pair (.int .u64) W33)
abbrev W46:Ty:=(.pair (.int .u64) W39)
abbrev W47:Ty:=(.pair (.slice W3) W35)
abbrev W48:Ty:=(.pair (.slice W25) W36)
abbrev W49:Ty:=(.pair (.slice W25) .unit)
abbrev W50:Ty:=(.pair W4 W47)
abbrev W51:Ty:=(.pair W4 W49)
abbrev W52:Ty:=(.pair W4 W51)
abbrev W53:Ty:=(.pair (.arr 4 W4) W48)
abbrev W54:Ty:=(.pair (.int .u64) W40)
abbrev W55:Ty:=(.pair (.int .u64) W42)
abbrev W56:Ty:=(.pair (.int .u64) W43)
abbrev W57:Ty:=(.pair (.int .u64) W45)
abbrev W58:Ty:=(.pair (.int .u64) W52)
abbrev W59:Ty:=(.pair (.slice W44) W27)
abbrev W60:Ty:=(.pair (.slice W46) .unit)
abbrev W61:Ty:=(.pair W4 W58)
abbrev W62:Ty:=(.pair W14 W60)
abbrev W63:Ty:=(.pair W4 W61)
abbrev W64:Ty:=(.pair (.int .u64) W54)
abbrev W65:Ty:=(.pair (.int .u64) W55)
abbrev W66:Ty:=(.pair (.int .u64) W56)
abbrev W67:Ty:=(.pair (.int .u64) W57)
abbrev W68:Ty:=(.pair (.int .u64) W62)
abbrev W69:Ty:=(.pair (.slice W44) W53)
abbrev W70:Ty:=(.pair W4 W65)
abbrev W71:Ty:=(.pair W64 W63)
abbrev W72:Ty:=(.pair W67 .unit)
abbrev W73:Ty:=(.pair (.int .i64) W71)
abbrev W74:Ty:=(.pair (.int .u64) W68)
abbrev W75:Ty:=(.pair (.int .u64) W70)
abbrev W76:Ty:=(.pair (.int .u64) W72)
abbrev W77:Ty:=(.pair W4 W75)
abbrev W78:Ty:=(.pair W4 W76)
abbrev W79:Ty:=(.pair (.int .i64) W73)
abbrev W80:Ty:=(.pair (.int .i64) W78)
abbrev W81:Ty:=(.pair (.int .u64) W74)
abbrev W82:Ty:=(.pair (.int .u64) W77)
abbrev W83:Ty:=(.pair W4 W81)
abbrev W84:Ty:=(.pair W4 W82)
abbrev W85:Ty:=(.pair W83 W69)
abbrev W86:Ty:=(.pair (.int .u64) W80)
abbrev W87:Ty:=(.pair (.int .u64) W84)
abbrev W88:Ty:=(.pair (.int .u64) W85)
abbrev W89:Ty:=(.pair W25 W86)
abbrev W90:Ty:=(.pair W41 W88)
abbrev W91:Ty:=(.pair W66 W89)
abbrev W92:Ty:=(.pair (.int .i64) W91)
abbrev W93:Ty:=(.pair (.int .u64) W87)
abbrev W94:Ty:=(.pair (.int .u64) W93)
abbrev W95:Ty:=(.pair W94 W90)
abbrev W96:Ty:=(.pair (.int .u64) W95)
abbrev W97:Ty:=(.pair (.int .i64) (.pair .bool .unit))
abbrev V1:Dz:=(.own true W3)
abbrev V2:Dz:=(.ro false W1)
abbrev V3:Dz:=(.ro false W2)
abbrev V4:Dz:=(.ro false W7)
abbrev V5:Dz:=(.ro true W12)
abbrev V6:Dz:=(.ro true W14)
abbrev V7:Dz:=(.ro true W25)
abbrev V8:Dz:=(.ro true W41)
abbrev V9:Dz:=(.ro true W44)
abbrev V10:Dz:=(.ro true W83)
abbrev V11:Dz:=(.ro true W94)
abbrev V12:Dz:=(.own false W3)
abbrev V13:Dz:=(.own true W21)
abbrev V14:Dz:=(.own true W44)
abbrev V15:Dz:=(.own true W46)
abbrev V16:Dz:=(.ro false W15)
abbrev V17:Dz:=(.ro false W66)
abbrev V18:Dz:=(.ro false W83)
abbrev V19:Dz:=(.ro false W96)
abbrev V20:Dz:=(.own false W21)
abbrev V21:Dz:=(.own false W25)
abbrev V22:Dz:=(.own false W44)
abbrev V23:Dz:=(.own false W46)
abbrev V24:Dz:=(.ro true .bool)
abbrev V25:Dz:=(.ro true .unit)
abbrev V26:Dz:=(.own false .bool)
abbrev V27:Dz:=(.ptr (.ro true W3))
abbrev V28:Dz:=(.ptr (.ro true W4))
abbrev V29:Dz:=(.ptr (.ro true W5))
abbrev V30:Dz:=(.ptr (.ro true W6))
abbrev V31:Dz:=(.ro true (.int .u8))
abbrev V32:Dz:=(.own true (.int .u8))
abbrev V33:Dz:=(.ro true (.arr 4 W4))
abbrev Bv:Dz:=(.ro true (.int .i64))
abbrev V35:Dz:=(.ro true (.int .u32))
abbrev Ir:Dz:=(.ro true (.int .u64))
abbrev V37:Dz:=(.own false (.int .u8))
abbrev V38:Dz:=(.own true (.int .i64))
abbrev V39:Dz:=(.ro false (.slice W2))
abbrev V40:Dz:=(.ro false (.slice W3))
abbrev V41:Dz:=(.ro false (.slice W4))
abbrev V42:Dz:=(.own false (.int .u64))
abbrev V43:Dz:=(.ro false (.slice W21))
abbrev V44:Dz:=(.ro false (.slice W25))
abbrev V45:Dz:=(.ro false (.slice W44))
abbrev V46:Dz:=(.ro false (.slice W46))
abbrev V47:Dz:=(.ptr (.pair V22 (.pair V33 V25)))
abbrev V48:Dz:=(.pair (.ro true W4) (.pair V20 V25))
abbrev V49:Dz:=(.pair (.ro true W4) (.pair V21 V25))
abbrev V50:Dz:=(.pair (.ro true W4) (.pair V43 V25))
abbrev V51:Dz:=(.pair Ir (.pair (.ro true W4) V49))
abbrev V52:Dz:=(.ptr (.pair V3 (.pair Bv (.pair V24 V25))))
abbrev V53:Dz:=(.pair (.ro true W4) (.pair (.ro true W4) V51))
abbrev V54:Dz:=(.pair Bv (.pair (.ro true W64) V53))
abbrev V55:Dz:=(.pair (.ro true W4) (.pair V12 (.pair V42 (.pair V20 V25))))
abbrev V56:Dz:=(.pair (.ptr V55) V25)
abbrev V57:Dz:=(.pair (.ro true W4) (.pair Ir (.pair Ir (.pair Ir (.pair V6 (.pair V23 V25))))))
abbrev V58:Dz:=(.pair (.ro true W4) (.pair Ir (.pair Ir (.pair Ir (.pair V6 (.pair V46 V25))))))
abbrev V59:Dz:=(.ptr (.pair Ir (.pair V11 (.pair V8 (.pair Ir (.pair V18 (.pair V47 (.pair V21 V56))))))))
abbrev V60:Dz:=(.ptr (.pair Ir (.pair V11 (.pair V8 (.pair Ir (.pair V58 (.pair V45 (.pair V33 (.pair V44 (.pair V2 V50))))))))))
abbrev V61:Dz:=(.ptr (.pair Ir (.pair V11 (.pair V8 (.pair Ir (.pair V18 (.pair V22 (.pair V33 (.pair V21 (.pair V26 V48))))))))))
abbrev V62:Dz:=(.ptr (.pair Ir (.pair V11 (.pair V8 (.pair Ir (.pair V57 (.pair V22 (.pair V33 (.pair V21 (.pair V26 V48))))))))))
abbrev R1:Ty:=((Ty.int IntKind.u64).pair Ty.unit)
abbrev R2:Ty:=((Ty.int IntKind.u8).slice.pair Ty.unit)
abbrev R3:Ty:=((Ty.int IntKind.u64).pair R2)
abbrev R4:Ty:=((Ty.arr 4 (Ty.int IntKind.u64)).pair R1)
abbrev R5:Ty:=((Ty.arr 4 (Ty.int IntKind.u64)).pair R3)
abbrev R6:Ty:=((Ty.arr 4 (Ty.int IntKind.u64)).pair Ty.unit)
abbrev R7:Ty:=((Ty.int IntKind.u64).pair R4)
abbrev R8:Ty:=((Ty.int IntKind.u64).pair R6)
abbrev R9:Ty:=((Ty.int IntKind.u64).pair R8)
abbrev R10:Ty:=((Ty.arr 4 (Ty.int IntKind.u64)).pair R4)
abbrev R11:Ty:=((Ty.arr 4 (Ty.int IntKind.u64)).pair R5)
abbrev R12:Ty:=((Ty.arr 4 (Ty.int IntKind.u64)).pair R6)
abbrev R13:Ty:=((Ty.int IntKind.u64).pair R11)
abbrev R14:Ty:=((Ty.arr 4 (Ty.int IntKind.u64)).pair R10)
abbrev R15:Ty:=((Ty.arr 4 (Ty.int IntKind.u64)).pair R12)
abbrev R16:Ty:=((Ty.arr 4 (Ty.int IntKind.u64)).pair R13)
abbrev R17:Ty:=((Ty.int IntKind.u64).pair R16)
abbrev R18:Ty:=((Ty.int IntKind.u64).pair R17)
abbrev R19:Ty:=((Ty.int IntKind.u64).pair R18)
abbrev R20:Ty:=((Ty.arr 4 (Ty.int IntKind.u64)).pair R14)
abbrev R21:Ty:=((Ty.arr 4 (Ty.int IntKind.u64)).pair R15)
abbrev Dt:Ty:=((Ty.int IntKind.u64).pair R20)
abbrev R23:Ty:=((Ty.arr 4 (Ty.int IntKind.u64)).pair R21)
abbrev R24:Ty:=((Ty.int IntKind.u64).pair (Ty.bool.pair R23))
abbrev R25:Ty:=((Ty.arr 32 (Ty.int IntKind.u8)).slice.pair Ty.unit)
abbrev R26:Ty:=((Ty.int IntKind.u64).pair R24)
abbrev R27:Ty:=((Ty.int IntKind.u64).pair R26)
abbrev R28:Ty:=((Ty.int IntKind.u64).pair R27)
abbrev R29:Ty:=((Ty.arr 4 (Ty.int IntKind.u64)).pair R25)
abbrev R30:Ty:=((Ty.int IntKind.u64).pair R29)
abbrev R31:Ty:=((Ty.int IntKind.u64).pair R30)
abbrev R32:Ty:=((Ty.int IntKind.u64).pair R31)
abbrev R33:Ty:=((Ty.int IntKind.u64).pair (R32.pair Ty.unit))
abbrev R34:Ty:=((Ty.arr 4 (Ty.int IntKind.u64)).pair R33)
abbrev R35:Ty:=((Ty.int IntKind.i64).pair R34)
abbrev R36:Ty:=((Ty.int IntKind.u64).pair R35)
abbrev R37:Ty:=((Ty.int IntKind.i64).pair (R19.pair (R9.pair R36)))
abbrev R38:Ty:=((Ty.arr 4 (Ty.int IntKind.u64)).pair (R9.slice.pair Ty.unit))
abbrev R39:Ty:=((Ty.arr 4 (Ty.int IntKind.u64)).pair R38)
abbrev R40:Ty:=((Ty.int IntKind.u64).pair R39)
abbrev R41:Ty:=((Ty.arr 4 (Ty.int IntKind.u64)).pair R40)
abbrev R42:Ty:=((Ty.arr 4 (Ty.int IntKind.u64)).pair R41)
abbrev R43:Ty:=((Ty.int IntKind.i64).pair (R28.pair R42))
abbrev R44:Ty:=((Ty.int IntKind.i64).pair R43)
set_option maxRecDepth 100000
abbrev Hx:B4:=⟨[Ir,Ir,Ir],[Ir,Ir]⟩
abbrev Ht:=(Int×Int×Int×(Unit))→Option Y50
def Afx(L:Af)(a:Int)(b:Int)(c:Int):Option Y50:=Cjg (a,b,c,(()))
def Ew:Ht:=fun x=>Afx Ac x.1 x.2.1 x.2.2.1
abbrev Yc:B4:=⟨[Ir],[Bv]⟩
abbrev Aff:=(Int×Unit)→Option Y14
def Agk(L:Af)(a:Int):Option Y14:=(Ag (decide (a≥4294967296)) (Ag (decide ((Int.fdiv a 4294967296)≥65536)) (Ag (decide ((Int.fdiv (Int.fdiv a 4294967296) 65536)≥256)) (Ag (Cj (IntKind.wrap .u8 (Int.fdiv (Int.fdiv (Int.fdiv a 4294967296) 65536) 256)) 256) (some (((IntKind.wrap .i64 (56+(IntKind.wrap .i64 (List.getD [0,1,2,2,3,3,3,3,4,4,4,4,4,4,4,4,5,5,5,5,5,5,5,5,5,5,5,5,5,5,5,5,6,6,6,6,6,6,6,6,6,6,6,6,6,6,6,6,6,6,6,6,6,6,6,6,6,6,6,6,6,6,6,6,7,7,7,7,7,7,7,7,7,7,7,7,7,7,7,7,7,7,7,7,7,7,7,7,7,7,7,7,7,7,7,7,7,7,7,7,7,7,7,7,7,7,7,7,7,7,7,7,7,7,7,7,7,7,7,7,7,7,7,7,7,7,7,7,8,8,8,8,8,8,8,8,8,8,8,8,8,8,8,8,8,8,8,8,8,8,8,8,8,8,8,8,8,8,8,8,8,8,8,8,8,8,8,8,8,8,8,8,8,8,8,8,8,8,8,8,8,8,8,8,8,8,8,8,8,8,8,8,8,8,8,8,8,8,8,8,8,8,8,8,8,8,8,8,8,8,8,8,8,8,8,8,8,8,8,8,8,8,8,8,8,8,8,8,8,8,8,8,8,8,8,8,8,8,8,8,8,8,8,8,8,8,8,8,8,8,8,8,8,8,8,8] (Int.toNat (IntKind.wrap .u8 (Int.fdiv (Int.fdiv (Int.fdiv a 4294967296) 65536) 256))) 0)))),()),(),())) none) (Ag (Cj (IntKind.wrap .u8 (Int.fdiv (Int.fdiv a 4294967296) 65536)) 256) (some (((IntKind.wrap .i64 (48+(IntKind.wrap .i64 (List.getD [0,1,2,2,3,3,3,3,4,4,4,4,4,4,4,4,5,5,5,5,5,5,5,5,5,5,5,5,5,5,5,5,6,6,6,6,6,6,6,6,6,6,6,6,6,6,6,6,6,6,6,6,6,6,6,6,6,6,6,6,6,6,6,6,7,7,7,7,7,7,7,7,7,7,7,7,7,7,7,7,7,7,7,7,7,7,7,7,7,7,7,7,7,7,7,7,7,7,7,7,7,7,7,7,7,7,7,7,7,7,7,7,7,7,7,7,7,7,7,7,7,7,7,7,7,7,7,7,8,8,8,8,8,8,8,8,8,8,8,8,8,8,8,8,8,8,8,8,8,8,8,8,8,8,8,8,8,8,8,8,8,8,8,8,8,8,8,8,8,8,8,8,8,8,8,8,8,8,8,8,8,8,8,8,8,8,8,8,8,8,8,8,8,8,8,8,8,8,8,8,8,8,8,8,8,8,8,8,8,8,8,8,8,8,8,8,8,8,8,8,8,8,8,8,8,8,8,8,8,8,8,8,8,8,8,8,8,8,8,8,8,8,8,8,8,8,8,8,8,8,8,8,8,8,8,8] (Int.toNat (IntKind.wrap .u8 (Int.fdiv (Int.fdiv a 4294967296) 65536))) 0)))),()),(),())) none)) (Ag (decide ((Int.fdiv a 4294967296)≥256)) (Ag (Cj (IntKind.wrap .u8 (Int.fdiv (Int.fdiv a 4294967296) 256)) 256) (some (((IntKind.wrap .i64 (40+(IntKind.wrap .i64 (List.getD [0,1,2,2,3,3,3,3,4,4,4,4,4,4,4,4,5,5,5,5,5,5,5,5,5,5,5,5,5,5,5,5,6,6,6,6,6,6,6,6,6,6,6,6,6,6,6,6,6,6,6,6,6,6,6,6,6,6,6,6,6,6,6,6,7,7,7,7,7,7,7,7,7,7,7,7,7,7,7,7,7,7,7,7,7,7,7,7,7,7,7,7,7,7,7,7,7,7,7,7,7,7,7,7,7,7,7,7,7,7,7,7,7,7,7,7,7,7,7,7,7,7,7,7,7,7,7,7,8,8,8,8,8,8,8,8,8,8,8,8,8,8,8,8,8,8,8,8,8,8,8,8,8,8,8,8,8,8,8,8,8,8,8,8,8,8,8,8,8,8,8,8,8,8,8,8,8,8,8,8,8,8,8,8,8,8,8,8,8,8,8,8,8,8,8,8,8,8,8,8,8,8,8,8,8,8,8,8,8,8,8,8,8,8,8,8,8,8,8,8,8,8,8,8,8,8,8,8,8,8,8,8,8,8,8,8,8,8,8,8,8,8,8,8,8,8,8,8,8,8,8,8,8,8,8,8] (Int.toNat (IntKind.wrap .u8 (Int.fdiv (Int.fdiv a 4294967296) 256))) 0)))),()),(),())) none) (Ag (Cj (IntKind.wrap .u8 (Int.fdiv a 4294967296)) 256) (some (((IntKind.wrap .i64 (32+(IntKind.wrap .i64 (List.getD [0,1,2,2,3,3,3,3,4,4,4,4,4,4,4,4,5,5,5,5,5,5,5,5,5,5,5,5,5,5,5,5,6,6,6,6,6,6,6,6,6,6,6,6,6,6,6,6,6,6,6,6,6,6,6,6,6,6,6,6,6,6,6,6,7,7,7,7,7,7,7,7,7,7,7,7,7,7,7,7,7,7,7,7,7,7,7,7,7,7,7,7,7,7,7,7,7,7,7,7,7,7,7,7,7,7,7,7,7,7,7,7,7,7,7,7,7,7,7,7,7,7,7,7,7,7,7,7,8,8,8,8,8,8,8,8,8,8,8,8,8,8,8,8,8,8,8,8,8,8,8,8,8,8,8,8,8,8,8,8,8,8,8,8,8,8,8,8,8,8,8,8,8,8,8,8,8,8,8,8,8,8,8,8,8,8,8,8,8,8,8,8,8,8,8,8,8,8,8,8,8,8,8,8,8,8,8,8,8,8,8,8,8,8,8,8,8,8,8,8,8,8,8,8,8,8,8,8,8,8,8,8,8,8,8,8,8,8,8,8,8,8,8,8,8,8,8,8,8,8,8,8,8,8,8,8] (Int.toNat (IntKind.wrap .u8 (Int.fdiv a 4294967296))) 0)))),()),(),())) none))) (Ag (decide (a≥65536)) (Ag (decide ((Int.fdiv a 65536)≥256)) (Ag (Cj (IntKind.wrap .u8 (Int.fdiv (Int.fdiv a 65536) 256)) 256) (some (((IntKind.wrap .i64 (24+(IntKind.wrap .i64 (List.getD [0,1,2,2,3,3,3,3,4,4,4,4,4,4,4,4,5,5,5,5,5,5,5,5,5,5,5,5,5,5,5,5,6,6,6,6,6,6,6,6,6,6,6,6,6,6,6,6,6,6,6,6,6,6,6,6,6,6,6,6,6,6,6,6,7,7,7,7,7,7,7,7,7,7,7,7,7,7,7,7,7,7,7,7,7,7,7,7,7,7,7,7,7,7,7,7,7,7,7,7,7,7,7,7,7,7,7,7,7,7,7,7,7,7,7,7,7,7,7,7,7,7,7,7,7,7,7,7,8,8,8,8,8,8,8,8,8,8,8,8,8,8,8,8,8,8,8,8,8,8,8,8,8,8,8,8,8,8,8,8,8,8,8,8,8,8,8,8,8,8,8,8,8,8,8,8,8,8,8,8,8,8,8,8,8,8,8,8,8,8,8,8,8,8,8,8,8,8,8,8,8,8,8,8,8,8,8,8,8,8,8,8,8,8,8,8,8,8,8,8,8,8,8,8,8,8,8,8,8,8,8,8,8,8,8,8,8,8,8,8,8,8,8,8,8,8,8,8,8,8,8,8,8,8,8,8] (Int.toNat (IntKind.wrap .u8 (Int.fdiv (Int.fdiv a 65536) 256))) 0)))),()),(),())) none) (Ag (Cj (IntKind.wrap .u8 (Int.fdiv a 65536)) 256) (some (((IntKind.wrap .i64 (16+(IntKind.wrap .i64 (List.getD [0,1,2,2,3,3,3,3,4,4,4,4,4,4,4,4,5,5,5,5,5,5,5,5,5,5,5,5,5,5,5,5,6,6,6,6,6,6,6,6,6,6,6,6,6,6,6,6,6,6,6,6,6,6,6,6,6,6,6,6,6,6,6,6,7,7,7,7,7,7,7,7,7,7,7,7,7,7,7,7,7,7,7,7,7,7,7,7,7,7,7,7,7,7,7,7,7,7,7,7,7,7,7,7,7,7,7,7,7,7,7,7,7,7,7,7,7,7,7,7,7,7,7,7,7,7,7,7,8,8,8,8,8,8,8,8,8,8,8,8,8,8,8,8,8,8,8,8,8,8,8,8,8,8,8,8,8,8,8,8,8,8,8,8,8,8,8,8,8,8,8,8,8,8,8,8,8,8,8,8,8,8,8,8,8,8,8,8,8,8,8,8,8,8,8,8,8,8,8,8,8,8,8,8,8,8,8,8,8,8,8,8,8,8,8,8,8,8,8,8,8,8,8,8,8,8,8,8,8,8,8,8,8,8,8,8,8,8,8,8,8,8,8,8,8,8,8,8,8,8,8,8,8,8,8,8] (Int.toNat (IntKind.wrap .u8 (Int.fdiv a 65536))) 0)))),()),(),())) none)) (Ag (decide (a≥256)) (Ag (Cj (IntKind.wrap .u8 (Int.fdiv a 256)) 256) (some (((IntKind.wrap .i64 (8+(IntKind.wrap .i64 (List.getD [0,1,2,2,3,3,3,3,4,4,4,4,4,4,4,4,5,5,5,5,5,5,5,5,5,5,5,5,5,5,5,5,6,6,6,6,6,6,6,6,6,6,6,6,6,6,6,6,6,6,6,6,6,6,6,6,6,6,6,6,6,6,6,6,7,7,7,7,7,7,7,7,7,7,7,7,7,7,7,7,7,7,7,7,7,7,7,7,7,7,7,7,7,7,7,7,7,7,7,7,7,7,7,7,7,7,7,7,7,7,7,7,7,7,7,7,7,7,7,7,7,7,7,7,7,7,7,7,8,8,8,8,8,8,8,8,8,8,8,8,8,8,8,8,8,8,8,8,8,8,8,8,8,8,8,8,8,8,8,8,8,8,8,8,8,8,8,8,8,8,8,8,8,8,8,8,8,8,8,8,8,8,8,8,8,8,8,8,8,8,8,8,8,8,8,8,8,8,8,8,8,8,8,8,8,8,8,8,8,8,8,8,8,8,8,8,8,8,8,8,8,8,8,8,8,8,8,8,8,8,8,8,8,8,8,8,8,8,8,8,8,8,8,8,8,8,8,8,8,8,8,8,8,8,8,8] (Int.toNat (IntKind.wrap .u8 (Int.fdiv a 256))) 0)))),()),(),())) none) (Ag (Cj (IntKind.wrap .u8 a) 256) (some (((IntKind.wrap .i64 (0+(IntKind.wrap .i64 (List.getD [0,1,2,2,3,3,3,3,4,4,4,4,4,4,4,4,5,5,5,5,5,5,5,5,5,5,5,5,5,5,5,5,6,6,6,6,6,6,6,6,6,6,6,6,6,6,6,6,6,6,6,6,6,6,6,6,6,6,6,6,6,6,6,6,7,7,7,7,7,7,7,7,7,7,7,7,7,7,7,7,7,7,7,7,7,7,7,7,7,7,7,7,7,7,7,7,7,7,7,7,7,7,7,7,7,7,7,7,7,7,7,7,7,7,7,7,7,7,7,7,7,7,7,7,7,7,7,7,8,8,8,8,8,8,8,8,8,8,8,8,8,8,8,8,8,8,8,8,8,8,8,8,8,8,8,8,8,8,8,8,8,8,8,8,8,8,8,8,8,8,8,8,8,8,8,8,8,8,8,8,8,8,8,8,8,8,8,8,8,8,8,8,8,8,8,8,8,8,8,8,8,8,8,8,8,8,8,8,8,8,8,8,8,8,8,8,8,8,8,8,8,8,8,8,8,8,8,8,8,8,8,8,8,8,8,8,8,8,8,8,8,8,8,8,8,8,8,8,8,8,8,8,8,8,8,8] (Int.toNat (IntKind.wrap .u8 a)) 0)))),()),(),())) none))))
def Mr:Aff:=fun x=>Agk Ac x.1
abbrev Fz:B4:=⟨[V35,Bv],[V35]⟩
abbrev F8:=Y3→Option Y53
def Rq(L:Af)(b:Int)(d:Int):Option Y53:=(A4 (IntKind.wrap .u64 (((BitVec.toNat ((BitVec.ofInt 64 (IntKind.wrap .u64 d)) &&& (BitVec.ofInt 64 31))):Nat):Int)) fun a=>A4 (IntKind.wrap .u64 (32-a)) fun c=>Ag (decide (0≤a)) (Ag (decide (0≤c)) (some (((IntKind.wrap .u32 (((BitVec.toNat ((BitVec.ofInt 32 (IntKind.wrap .u32 (b*(2 ^ (min (Int.toNat a) 32))))) ||| (BitVec.ofInt 32 (Int.fdiv b (2 ^ (min (Int.toNat c) 32)))))):Nat):Int)),()),(),(),())) none) none)
def Bb:F8:=fun x=>Rq Ac x.1 x.2.1
abbrev Afc:=(Int×Int×Int×(Unit))→Option Y50
def Ar0(L:Af)(a:Int)(b:Int)(c:Int):Option Y50:=Coo (a,b,c,(()))
def Abw:Afc:=fun x=>Ar0 Ac x.1 x.2.1 x.2.2.1
set_option maxRecDepth 100000
abbrev Iy:B4:=⟨[(.ro true W5),(.ro true W4)],[(.ro true W5)]⟩
abbrev Hd:=Y37→Option Y11
def Ae7(f:Ht)(g:Y94→Option Y11)(b:(List Int))(c:(List Int))(h:(List Int))(d:Int)(a:Int):Option Y11:=(Ag (decide (a<4)) (Ag (Cj a 5) (Ag (Cj a 4) ((f ((List.getD b (Int.toNat a) 0),(List.getD c (Int.toNat a) 0),d,())).bind fun e=>Ag (Cj a 5) (g ((List.set b (Int.toNat a) e.1.1),c,h,e.1.2.1,(IntKind.wrap .i64 (a+1)),())) none) none) none) (some (((List.set b 4 (IntKind.wrap .u64 ((List.getD b 4 0)+d))),()),(),(),())))
def Aa3(L:Af)(a:Ht)(b:(List Int))(c:(List Int)):Option Y11:=(L _ _ (fun z x=>Ae7 a z x.1 x.2.1 x.2.2.1 x.2.2.2.1 x.2.2.2.2.1) (b,c,[0,0,0,0,0],0,0,()))
def Es:Hd:=fun x=>Aa3 Ac Ew x.1 x.2.1
abbrev Aes:B4:=⟨[V41],[(.ro true W5)]⟩
abbrev Un:=(Y1×Unit)→Option Y6
def Aq5(e:Hd)(f:((List Int)×(List Int)×Y1×Int×Int×Unit)→Option Y6)(g:(List Int))(c:(List Int))(b:Y1)(d:Int)(a:Int):Option Y6:=(Ag (decide (a<d)) (Ag (Cj a (List.length b)) ((e (c,(List.getD b (Int.toNat a) [0,0,0,0]),())).bind fun h=>f (g,h.1.1,b,d,(IntKind.wrap .i64 (a+1)),())) none) (some ((c,()),(),())))
def Arb(L:Af)(b:Hd)(a:Y1):Option Y6:=(L _ _ (fun z x=>Aq5 b z x.1 x.2.1 x.2.2.1 x.2.2.2.1 x.2.2.2.2.1) ([0,0,0,0,0],[0,0,0,0,0],a,(List.length a:Int),0,()))
def Li:Un:=fun x=>Arb Ac Es x.1
set_option maxRecDepth 100000
abbrev L4:B4:=⟨[.nilm (.int .u8),.ro true (.int .i64)],[.own true (.int .u8)]⟩
abbrev S7:=(Unit×Int×Unit)→Option Y11
def Ti(L:Af)(b:Unit)(a:Int):Option Y11:=(Ag (decide (a<0)) none (Ag (decide ((IntKind.wrap .i64 (a-0))>0)) (Ag (((decide (0≤(IntKind.wrap .i64 (a-0))))&&(A8 (Int.toNat (IntKind.wrap .i64 (a-0))) (Ty.int IntKind.u8)))&&true) (Ag (decide (0≤(((List.length (List.replicate (Int.toNat (IntKind.wrap .i64 (a-0))) 0)):Nat):Int))) (some (((List.take 0 (List.replicate (Int.toNat (IntKind.wrap .i64 (a-0))) 0)),()),(),(),())) none) none) (some (([],()),(),(),()))))
def Hi:S7:=fun x=>Ti Ac x.1 x.2.1
abbrev Dj:B4:=⟨[V39],[V32]⟩
abbrev Hh:=(Y1×Unit)→Option Y6
def J2(e:Y56→Option Y6)(c:(List Int))(b:Y1)(d:Int)(a:Int):Option Y6:=(Ag (decide (a<d)) (Ag (Cj a (List.length b)) (Ag (A8 ((List.length c)+(List.length (List.getD b (Int.toNat a) []))) (Ty.int IntKind.u8)) (e ((List.append c (List.getD b (Int.toNat a) [])),b,d,(IntKind.wrap .i64 (a+1)),())) none) none) (some ((c,()),(),())))
def R0(L:Af)(g:S7)(h:(Y1×Int×Y1×Int×Int×Unit)→Option Y6)(b:Y1)(d:Int)(c:Y1)(e:Int)(a:Int):Option Y6:=(A4 (IntKind.wrap .i64 (d+(((List.length (List.getD c (Int.toNat a) [])):Nat):Int))) fun f=>Ag (decide (a<e)) (Ag (Cj a (List.length c)) (Ag (decide (f<0)) none (h (b,f,c,e,(IntKind.wrap .i64 (a+1)),()))) none) ((g ((),d,())).bind fun i=>L _ _ (fun z x=>J2 z x.1 x.2.1 x.2.2.1 x.2.2.2.1) (i.1.1,b,(List.length b:Int),0,())))
def Pn(L:Af)(b:S7)(a:Y1):Option Y6:=(L _ _ (fun z x=>R0 L b z x.1 x.2.1 x.2.2.1 x.2.2.2.1 x.2.2.2.2.1) (a,0,a,(List.length a:Int),0,()))
def B9:Hh:=fun x=>Pn Ac Hi x.1
abbrev Ed:B4:=⟨[V45],[V14]⟩
abbrev Cp:=Y22→Option Y28
def Ei(L:Af)(a:(List Y17)):Option Y28:=(A4 (List.length a) fun b=>Ag (decide (b=0)) (Biq (some (([],()),(),())) (Ag (A8 (0+b) R7) (some ((a,()),(),())) none)) (Ag (A8 (0+b) R7) (some ((a,()),(),())) none))
def Bw:Cp:=fun x=>Ei Ac x.1
abbrev Hk:=Y98→Option Bsi
def Ms(L:Af)(a:(List Y97)):Option Bsi:=(A4 (List.length a) fun b=>Ag (decide (b=0)) (Biq (some (([],()),(),())) (Ag (A8 (0+b) Dt) (some ((a,()),(),())) none)) (Ag (A8 (0+b) Dt) (some ((a,()),(),())) none))
def Ej:Hk:=fun x=>Ms Ac x.1
abbrev Ky:B4:=⟨[V3],[V32]⟩
abbrev Ace:=Y4→Option Y6
def Rt(L:Af)(a:(List Int)):Option Y6:=(Ag (decide ((List.length a)=0)) (Biq (some (([],()),(),())) (Ag (A8 (0+(List.length a)) (Ty.int IntKind.u8)) (some ((a,()),(),())) none)) (Ag (A8 (0+(List.length a)) (Ty.int IntKind.u8)) (some ((a,()),(),())) none))
def Gy:Ace:=fun x=>Rt Ac x.1
abbrev Md:B4:=⟨[V37],[(.full (.int .u8))]⟩
abbrev Gu:=Y4→Option Y6
def Tl(L:Af)(a:(List Int)):Option Y6:=(Ag (decide ((List.length a:Int)=(List.length a:Int))) (Ag ((decide (0≤(List.length a:Int)))&&(decide ((List.length a:Int)≤(List.length a:Int)))) (Ag ((decide (0<(Int.toNat (List.length a:Int))))&&(decide ((Int.toNat (List.length a:Int))=(List.length a)))) (some ((a,()),(),())) none) none) none)
def C2:Gu:=fun x=>Tl Ac x.1
set_option maxRecDepth 100000
abbrev Pf:B4:=⟨[],[V5]⟩
abbrev O1:=Unit→Option (Y4×Unit)
def Wz(L:Af):Option (Y4×Unit):=(some (((List.set (List.set (List.set (List.set (List.set (List.set (List.set (List.set (List.set (List.set (List.set (List.set (List.set (List.set (List.set (List.set (List.set (List.set (List.set (List.set (List.set (List.set (List.set (List.set (List.set (List.set (List.set (List.set (List.set (List.set (List.set (List.set (List.set (List.set (List.set (List.set (List.set (List.set (List.set (List.set (List.set (List.set (List.set (List.set (List.set (List.set (List.set (List.set (List.set (List.set (List.set (List.set (List.set (List.set (List.set (List.set (List.set (List.set (List.set (List.set (List.set (List.set (List.set (List.set (List.replicate 64 0) 0 1116352408) 1 1899447441) 2 3049323471) 3 3921009573) 4 961987163) 5 1508970993) 6 2453635748) 7 2870763221) 8 3624381080) 9 310598401) 10 607225278) 11 1426881987) 12 1925078388) 13 2162078206) 14 2614888103) 15 3248222580) 16 3835390401) 17 4022224774) 18 264347078) 19 604807628) 20 770255983) 21 1249150122) 22 1555081692) 23 1996064986) 24 2554220882) 25 2821834349) 26 2952996808) 27 3210313671) 28 3336571891) 29 3584528711) 30 113926993) 31 338241895) 32 666307205) 33 773529912) 34 1294757372) 35 1396182291) 36 1695183700) 37 1986661051) 38 2177026350) 39 2456956037) 40 2730485921) 41 2820302411) 42 3259730800) 43 3345764771) 44 3516065817) 45 3600352804) 46 4094571909) 47 275423344) 48 430227734) 49 506948616) 50 659060556) 51 883997877) 52 958139571) 53 1322822218) 54 1537002063) 55 1747873779) 56 1955562222) 57 2024104815) 58 2227730452) 59 2361852424) 60 2428436474) 61 2756734187) 62 3204031479) 63 3329325298),()),()))
def Gv:O1:=fun x=>Wz Ac
abbrev Ada:B4:=⟨[V3],[V5]⟩
abbrev Vz:=Y4→Option Y6
def Xo(c:F8)(j:Y61→Option Y6)(k:(List Int))(b:(List Int))(a:Int):Option Y6:=(A4 (IntKind.wrap .i64 (a-15)) fun f=>A4 (IntKind.wrap .i64 (a-2)) fun g=>A4 (IntKind.wrap .i64 (a-16)) fun h=>A4 (IntKind.wrap .i64 (a-7)) fun i=>A4 (List.getD b (Int.toNat f) 0) fun d=>A4 (List.getD b (Int.toNat g) 0) fun e=>Ag (decide (a<64)) (Ag (Cj f 64) (Ag (Cj g 64) ((c (d,(-7:Int),())).bind fun l=>(c (d,(-18:Int),())).bind fun m=>(c (e,(-17:Int),())).bind fun n=>(c (e,(-19:Int),())).bind fun o=>Ag (Cj h 64) (Ag (Cj i 64) (Ag (Cj a 64) (j (k,(List.set b (Int.toNat a) (IntKind.wrap .u32 ((IntKind.wrap .u32 ((IntKind.wrap .u32 ((List.getD b (Int.toNat h) 0)+(IntKind.wrap .u32 (((BitVec.toNat ((BitVec.ofInt 32 (IntKind.wrap .u32 (((BitVec.toNat ((BitVec.ofInt 32 l.1.1) ^^^ (BitVec.ofInt 32 m.1.1))):Nat):Int))) ^^^ (BitVec.ofInt 32 (Int.fdiv d 8)))):Nat):Int))))+(List.getD b (Int.toNat i) 0)))+(IntKind.wrap .u32 (((BitVec.toNat ((BitVec.ofInt 32 (IntKind.wrap .u32 (((BitVec.toNat ((BitVec.ofInt 32 n.1.1) ^^^ (BitVec.ofInt 32 o.1.1))):Nat):Int))) ^^^ (BitVec.ofInt 32 (Int.fdiv e 1024)))):Nat):Int))))),(IntKind.wrap .i64 (a+1)),())) none) none) none) none) none) (some ((b,()),(),())))
def Ahm(L:Af)(i:F8)(j:Y88→Option Y6)(a:(List Int))(d:(List Int))(e:(List Int))(b:Int):Option Y6:=(A4 (IntKind.wrap .i64 (4*b)) fun c=>A4 (IntKind.wrap .i64 (c+1)) fun f=>A4 (IntKind.wrap .i64 (c+2)) fun g=>A4 (IntKind.wrap .i64 (c+3)) fun h=>Ag (decide (b<16)) (Ag (Cj c (List.length a)) (Ag (Cj f (List.length a)) (Ag (Cj g (List.length a)) (Ag (Cj h (List.length a)) (Ag (Cj b 64) (j (a,d,(List.set e (Int.toNat b) (IntKind.wrap .u32 (((BitVec.toNat ((BitVec.ofInt 32 (IntKind.wrap .u32 (((BitVec.toNat ((BitVec.ofInt 32 (IntKind.wrap .u32 (((BitVec.toNat ((BitVec.ofInt 32 (IntKind.wrap .u32 ((IntKind.wrap .u32 (List.getD a (Int.toNat c) 0))*16777216))) ||| (BitVec.ofInt 32 (IntKind.wrap .u32 ((IntKind.wrap .u32 (List.getD a (Int.toNat f) 0))*65536))))):Nat):Int))) ||| (BitVec.ofInt 32 (IntKind.wrap .u32 ((IntKind.wrap .u32 (List.getD a (Int.toNat g) 0))*256))))):Nat):Int))) ||| (BitVec.ofInt 32 (IntKind.wrap .u32 (List.getD a (Int.toNat h) 0))))):Nat):Int))),(IntKind.wrap .i64 (b+1)),())) none) none) none) none) none) (L _ _ (fun z x=>Xo i z x.1 x.2.1 x.2.2.1) (d,e,16,())))
def Alv(L:Af)(a:F8)(b:(List Int)):Option Y6:=(L _ _ (fun z x=>Ahm L a z x.1 x.2.1 x.2.2.1 x.2.2.2.1) (b,(List.replicate 64 0),(List.replicate 64 0),0,()))
def Ji:Vz:=fun x=>Alv Ac Bb x.1
abbrev Adl:B4:=⟨[(.ro true W6),V5,V5],[(.ro true W6)]⟩
abbrev Wg:=Y77→Option Y40
def Xf(d:Y88→Option Y40)(c:(List Int))(e:(List Int))(b:(List Int))(a:Int):Option Y40:=(Ag (decide (a<8)) (Ag (Cj a 8) (Ag (Cj a 8) (Ag (Cj a 8) (d (c,e,(List.set b (Int.toNat a) (IntKind.wrap .u32 ((List.getD b (Int.toNat a) 0)+(List.getD c (Int.toNat a) 0)))),(IntKind.wrap .i64 (a+1)),())) none) none) none) (some ((b,()),(),(),(),())))
def Aho(L:Af)(b:F8)(o:Cl2→Option Y40)(h:(List Int))(i:(List Int))(j:(List Int))(k:(List Int))(a:(List Int))(c:Int):Option Y40:=(A4 (List.getD a 4 0) fun d=>A4 (List.getD a 0 0) fun e=>A4 (List.getD a 7 0) fun p=>A4 (List.getD a 5 0) fun l=>A4 (List.getD a 6 0) fun m=>A4 (List.getD a 1 0) fun f=>A4 (List.getD a 2 0) fun g=>A4 (IntKind.wrap .u32 (((BitVec.toNat ((BitVec.ofInt 32 (IntKind.wrap .u32 (((BitVec.toNat ((BitVec.ofInt 32 d) &&& (BitVec.ofInt 32 l))):Nat):Int))) ^^^ (BitVec.ofInt 32 (IntKind.wrap .u32 (((BitVec.toNat ((BitVec.ofInt 32 (IntKind.wrap .u32 (((BitVec.toNat ((BitVec.ofInt 32 4294967295) ^^^ (BitVec.ofInt 32 d))):Nat):Int))) &&& (BitVec.ofInt 32 m))):Nat):Int))))):Nat):Int)) fun q=>Ag (decide (c<64)) ((b (d,(-6:Int),())).bind fun r=>(b (d,(-11:Int),())).bind fun s=>(b (d,(-25:Int),())).bind fun t=>A4 (IntKind.wrap .u32 ((IntKind.wrap .u32 ((IntKind.wrap .u32 ((IntKind.wrap .u32 (p+(IntKind.wrap .u32 (((BitVec.toNat ((BitVec.ofInt 32 (IntKind.wrap .u32 (((BitVec.toNat ((BitVec.ofInt 32 r.1.1) ^^^ (BitVec.ofInt 32 s.1.1))):Nat):Int))) ^^^ (BitVec.ofInt 32 t.1.1))):Nat):Int))))+q))+(List.getD j (Int.toNat c) 0)))+(List.getD i (Int.toNat c) 0))) fun n=>(b (e,(-2:Int),())).bind fun u=>(b (e,(-13:Int),())).bind fun v=>(b (e,(-22:Int),())).bind fun w=>Ag (Cj c 64) (Ag (Cj c 64) (o (h,i,j,k,[(IntKind.wrap .u32 ((IntKind.wrap .u32 (n+(IntKind.wrap .u32 (((BitVec.toNat ((BitVec.ofInt 32 (IntKind.wrap .u32 (((BitVec.toNat ((BitVec.ofInt 32 u.1.1) ^^^ (BitVec.ofInt 32 v.1.1))):Nat):Int))) ^^^ (BitVec.ofInt 32 w.1.1))):Nat):Int))))+(IntKind.wrap .u32 (((BitVec.toNat ((BitVec.ofInt 32 (IntKind.wrap .u32 (((BitVec.toNat ((BitVec.ofInt 32 (IntKind.wrap .u32 (((BitVec.toNat ((BitVec.ofInt 32 e) &&& (BitVec.ofInt 32 f))):Nat):Int))) ^^^ (BitVec.ofInt 32 (IntKind.wrap .u32 (((BitVec.toNat ((BitVec.ofInt 32 e) &&& (BitVec.ofInt 32 g))):Nat):Int))))):Nat):Int))) ^^^ (BitVec.ofInt 32 (IntKind.wrap .u32 (((BitVec.toNat ((BitVec.ofInt 32 f) &&& (BitVec.ofInt 32 g))):Nat):Int))))):Nat):Int)))),e,f,g,(IntKind.wrap .u32 ((List.getD a 3 0)+n)),d,l,m],(IntKind.wrap .i64 (c+1)),())) none) none) (L _ _ (fun z x=>Xf z x.1 x.2.1 x.2.2.1 x.2.2.2.1) (h,k,a,0,())))
def Amg(L:Af)(b:F8)(a:(List Int))(c:(List Int))(d:(List Int)):Option Y40:=(L _ _ (fun z x=>Aho L b z x.1 x.2.1 x.2.2.1 x.2.2.2.1 x.2.2.2.2.1 x.2.2.2.2.2.1) (a,c,d,[0,0,0,0,0,0,0,0],a,0,()))
def Jr:Wg:=fun x=>Amg Ac Bb x.1 x.2.1 x.2.2.1
abbrev Ai4:B4:=⟨[V3],[(.ro true W3)]⟩
abbrev Aov:=Y4→Option Y6
def Aim(e:Y88→Option Y6)(f:(List Int))(b:(List Int))(c:(List Int))(a:Int):Option Y6:=(A4 (IntKind.wrap .i64 (24-(IntKind.wrap .i64 (8*(Int.tmod a 4))))) fun d=>Ag (decide (a<32)) (Ag (Cj (IntKind.wrap .i64 (Int.tdiv a 4)) 8) (Ag (decide (0≤d)) (Ag (Cj a 32) (e (f,b,(List.set c (Int.toNat a) (IntKind.wrap .u8 (Int.fdiv (List.getD b (Int.toNat (IntKind.wrap .i64 (Int.tdiv a 4))) 0) (2 ^ (min (Int.toNat d) 32))))),(IntKind.wrap .i64 (a+1)),())) none) none) none) (some ((c,()),(),())))
def Aiu(L:Af)(g:Vz)(h:Wg)(i:Y95→Option Y6)(d:(List Int))(b:(List Int))(e:(List Int))(f:(List Int))(a:Int):Option Y6:=(A4 (IntKind.wrap .i64 (a+64)) fun c=>Ag (decide (a<(List.length b:Int))) (Ag (((decide (0≤a))&&(decide (a≤c)))&&(decide (c≤(List.length b:Int)))) ((g ((List.take ((Int.toNat c)-(Int.toNat a)) (List.drop (Int.toNat a) b)),())).bind fun j=>(h (e,j.1.1,f,())).bind fun k=>i (d,b,k.1.1,f,c,())) none) (L _ _ (fun z x=>Aim z x.1 x.2.1 x.2.2.1 x.2.2.2.1) (d,e,(List.replicate 32 0),0,())))
def Ah9(L:Af)(f:O1)(g:Vz)(h:Wg)(i:Y76→Option Y6)(c:(List Int))(d:Int)(a:(List Int))(b:Int):Option Y6:=(A4 (IntKind.wrap .i64 (8*b)) fun e=>Ag (decide (b≥0)) (Ag (decide (0≤e)) (Ag (A8 ((List.length a)+1) (Ty.int IntKind.u8)) (i (c,d,(List.append a [(IntKind.wrap .u8 (Int.fdiv d (2 ^ (min (Int.toNat e) 64))))]),(IntKind.wrap .i64 (b-1)),())) none) none) ((f ()).bind fun j=>L _ _ (fun z x=>Aiu L g h z x.1 x.2.1 x.2.2.1 x.2.2.2.1 x.2.2.2.2.1) (c,a,[1779033703,3144134277,1013904242,2773480762,1359893119,2600822924,528734635,1541459225],j.1.1,0,())))
def Aui(L:Af)(d:O1)(e:Vz)(f:Wg)(g:((List Int)×Int×(List Int)×Unit)→Option Y6)(b:(List Int))(c:Int)(a:(List Int)):Option Y6:=(Ag (!(decide ((Int.tmod (List.length a:Int) 64)=56))) (Ag (A8 ((List.length a)+1) (Ty.int IntKind.u8)) (g (b,c,(List.append a [0]),())) none) (L _ _ (fun z x=>Ah9 L d e f z x.1 x.2.1 x.2.2.1 x.2.2.2.1) (b,c,a,7,())))
def Bc4(L:Af)(b:Hh)(c:O1)(d:Vz)(e:Wg)(a:(List Int)):Option Y6:=((b ([a,[128]],())).bind fun f=>L _ _ (fun z x=>Aui L c d e z x.1 x.2.1 x.2.2.1) ((List.replicate 32 0),(IntKind.wrap .u64 ((IntKind.wrap .u64 (List.length a:Int))*8)),f.1.1,()))
def Ld:Aov:=fun x=>Bc4 Ac B9 Gv Ji Jr x.1
abbrev Biu:=Y37→Option Y11
def Biw(L:Af)(a:Hh)(b:Aov)(c:(List Int))(d:(List Int)):Option Y11:=((a ([[1],(List.take ((32:Nat)-(0:Nat)) (List.drop 0 c)),(List.take ((32:Nat)-(0:Nat)) (List.drop 0 d))],())).bind fun e=>(b (e.1.1,())).bind fun f=>some ((f.1.1,()),(),(),()))
def Asy:Biu:=fun x=>Biw Ac B9 Ld x.1 x.2.1
set_option maxRecDepth 100000
abbrev Lj:B4:=⟨[V6],[V24]⟩
abbrev Ta:=(Y13×Unit)→Option Y15
def Age(L:Af)(a:Y13):Option Y15:=(Ag (!a.1) (some ((true,()),(),())) (some (((!(Yu (Ty.arr 4 (Ty.int IntKind.u64)) a.2.1 [(0:Int),(0:Int),(0:Int),(0:Int)])),()),(),())))
def F0:Ta:=fun x=>Age Ac x.1
set_option maxRecDepth 100000
abbrev J0:B4:=⟨[(.bor (.int .i64))],[V4]⟩
abbrev Hr:=Y4→Option Y6
def Aq7(d:Y8→Option Y6)(b:(List Int))(a:Int):Option Y6:=(A4 (IntKind.wrap .i64 (a-1)) fun c=>Ag (decide (a>0)) (Ag (Cj c (List.length b)) (Ag (decide ((List.getD b (Int.toNat c) 0)=0)) (d (b,c,())) (Ag ((decide (0≤a))&&(decide (a≤(List.length b:Int)))) (some (((List.take ((Int.toNat a)-0) (List.drop 0 b)),()),(),())) none)) none) (Ag ((decide (0≤a))&&(decide (a≤(List.length b:Int)))) (some (((List.take ((Int.toNat a)-0) (List.drop 0 b)),()),(),())) none))
def Aqx(L:Af)(a:(List Int)):Option Y6:=(L _ _ (fun z x=>Aq7 z x.1 x.2.1) (a,(List.length a:Int),()))
def En:Hr:=fun x=>Aqx Ac x.1
abbrev Aj:B4:=⟨[(.ro true W4)],[(.ro true W7)]⟩
abbrev Az:=Y4→Option Y6
def Acp(e:Hr)(f:Y61→Option Y6)(c:(List Int))(b:(List Int))(a:Int):Option Y6:=(A4 (IntKind.wrap .u64 (IntKind.wrap .i64 (16*(Int.tmod a 4)))) fun d=>Ag (decide (a<16)) (Ag (Cj (IntKind.wrap .i64 (Int.tdiv a 4)) 4) (Ag (decide (0≤d)) (Ag (Cj a (List.length b)) (f (c,(List.set b (Int.toNat a) (IntKind.wrap .i64 (IntKind.wrap .u64 (((BitVec.toNat ((BitVec.ofInt 64 (Int.fdiv (List.getD c (Int.toNat (IntKind.wrap .i64 (Int.tdiv a 4))) 0) (2 ^ (min (Int.toNat d) 64)))) &&& (BitVec.ofInt 64 65535))):Nat):Int)))),(IntKind.wrap .i64 (a+1)),())) none) none) none) ((e (b,())).bind fun g=>some (((List.take ((List.length g.1.1)-0) (List.drop 0 b)),()),(),())))
def U8(L:Af)(a:Hr)(b:(List Int)):Option Y6:=(L _ _ (fun z x=>Acp a z x.1 x.2.1 x.2.2.1) (b,[0,0,0,0,0,0,0,0,0,0,0,0,0,0,0,0],0,()))
def Ah:Az:=fun x=>U8 Ac En x.1
abbrev Bf:B4:=⟨[Ir],[(.ro true W7)]⟩
abbrev Cm:=(Int×Unit)→Option Y6
def Yk(L:Af)(a:Az)(b:Int):Option Y6:=((a ([b,0,0,0],())).bind fun c=>some ((c.1.1,()),(),()))
def A0:Cm:=fun x=>Yk Ac Ah x.1
abbrev Bq:B4:=⟨[V4,V4],[V38]⟩
abbrev Dd:=Y37→Option Y11
def Aub(e:Y94→Option Y11)(d:(List Int))(b:(List Int))(c:(List Int))(f:Int)(a:Int):Option Y11:=(A4 (IntKind.wrap .i64 (f+(List.getD d (Int.toNat a) 0))) fun g=>A4 (IntKind.wrap .i64 (f+(List.getD b (Int.toNat a) 0))) fun h=>A4 (IntKind.wrap .i64 (g+(List.getD b (Int.toNat a) 0))) fun i=>Ag (decide (a<(List.length d:Int))) (Ag (decide (a<(List.length d:Int))) (Ag (Cj a (List.length d)) (Ag (decide (a<(List.length b:Int))) (Ag (Cj a (List.length b)) (Ag (A8 ((List.length c)+1) (Ty.int IntKind.i64)) (e (d,b,(List.append c [(IntKind.wrap .i64 (((BitVec.toNat ((BitVec.ofInt 64 i) &&& (BitVec.ofInt 64 65535))):Nat):Int))]),(Int.fdiv i 65536),(IntKind.wrap .i64 (a+1)),())) none) none) (Ag (A8 ((List.length c)+1) (Ty.int IntKind.i64)) (e (d,b,(List.append c [(IntKind.wrap .i64 (((BitVec.toNat ((BitVec.ofInt 64 g) &&& (BitVec.ofInt 64 65535))):Nat):Int))]),(Int.fdiv g 65536),(IntKind.wrap .i64 (a+1)),())) none)) none) (Ag (decide (a<(List.length b:Int))) (Ag (Cj a (List.length b)) (Ag (A8 ((List.length c)+1) (Ty.int IntKind.i64)) (e (d,b,(List.append c [(IntKind.wrap .i64 (((BitVec.toNat ((BitVec.ofInt 64 h) &&& (BitVec.ofInt 64 65535))):Nat):Int))]),(Int.fdiv h 65536),(IntKind.wrap .i64 (a+1)),())) none) none) (Ag (A8 ((List.length c)+1) (Ty.int IntKind.i64)) (e (d,b,(List.append c [(IntKind.wrap .i64 (((BitVec.toNat ((BitVec.ofInt 64 f) &&& (BitVec.ofInt 64 65535))):Nat):Int))]),(Int.fdiv f 65536),(IntKind.wrap .i64 (a+1)),())) none))) (Ag (decide (a<(List.length b:Int))) (Ag (decide (a<(List.length d:Int))) (Ag (Cj a (List.length d)) (Ag (decide (a<(List.length b:Int))) (Ag (Cj a (List.length b)) (Ag (A8 ((List.length c)+1) (Ty.int IntKind.i64)) (e (d,b,(List.append c [(IntKind.wrap .i64 (((BitVec.toNat ((BitVec.ofInt 64 i) &&& (BitVec.ofInt 64 65535))):Nat):Int))]),(Int.fdiv i 65536),(IntKind.wrap .i64 (a+1)),())) none) none) (Ag (A8 ((List.length c)+1) (Ty.int IntKind.i64)) (e (d,b,(List.append c [(IntKind.wrap .i64 (((BitVec.toNat ((BitVec.ofInt 64 g) &&& (BitVec.ofInt 64 65535))):Nat):Int))]),(Int.fdiv g 65536),(IntKind.wrap .i64 (a+1)),())) none)) none) (Ag (decide (a<(List.length b:Int))) (Ag (Cj a (List.length b)) (Ag (A8 ((List.length c)+1) (Ty.int IntKind.i64)) (e (d,b,(List.append c [(IntKind.wrap .i64 (((BitVec.toNat ((BitVec.ofInt 64 h) &&& (BitVec.ofInt 64 65535))):Nat):Int))]),(Int.fdiv h 65536),(IntKind.wrap .i64 (a+1)),())) none) none) (Ag (A8 ((List.length c)+1) (Ty.int IntKind.i64)) (e (d,b,(List.append c [(IntKind.wrap .i64 (((BitVec.toNat ((BitVec.ofInt 64 f) &&& (BitVec.ofInt 64 65535))):Nat):Int))]),(Int.fdiv f 65536),(IntKind.wrap .i64 (a+1)),())) none))) (Ag (decide (f>0)) (Ag (decide (a<(List.length d:Int))) (Ag (Cj a (List.length d)) (Ag (decide (a<(List.length b:Int))) (Ag (Cj a (List.length b)) (Ag (A8 ((List.length c)+1) (Ty.int IntKind.i64)) (e (d,b,(List.append c [(IntKind.wrap .i64 (((BitVec.toNat ((BitVec.ofInt 64 i) &&& (BitVec.ofInt 64 65535))):Nat):Int))]),(Int.fdiv i 65536),(IntKind.wrap .i64 (a+1)),())) none) none) (Ag (A8 ((List.length c)+1) (Ty.int IntKind.i64)) (e (d,b,(List.append c [(IntKind.wrap .i64 (((BitVec.toNat ((BitVec.ofInt 64 g) &&& (BitVec.ofInt 64 65535))):Nat):Int))]),(Int.fdiv g 65536),(IntKind.wrap .i64 (a+1)),())) none)) none) (Ag (decide (a<(List.length b:Int))) (Ag (Cj a (List.length b)) (Ag (A8 ((List.length c)+1) (Ty.int IntKind.i64)) (e (d,b,(List.append c [(IntKind.wrap .i64 (((BitVec.toNat ((BitVec.ofInt 64 h) &&& (BitVec.ofInt 64 65535))):Nat):Int))]),(Int.fdiv h 65536),(IntKind.wrap .i64 (a+1)),())) none) none) (Ag (A8 ((List.length c)+1) (Ty.int IntKind.i64)) (e (d,b,(List.append c [(IntKind.wrap .i64 (((BitVec.toNat ((BitVec.ofInt 64 f) &&& (BitVec.ofInt 64 65535))):Nat):Int))]),(Int.fdiv f 65536),(IntKind.wrap .i64 (a+1)),())) none))) (some ((c,()),(),(),())))))
def Aw0(L:Af)(a:(List Int))(b:(List Int)):Option Y11:=(L _ _ (fun z x=>Aub z x.1 x.2.1 x.2.2.1 x.2.2.2.1 x.2.2.2.2.1) (a,b,[],0,0,()))
def Bh:Dd:=fun x=>Aw0 Ac x.1 x.2.1
abbrev Wq:B4:=⟨[],[(.ro true W4)]⟩
abbrev Ai9:=Unit→Option (Y4×Unit)
def Aju(L:Af):Option (Y4×Unit):=(some (([18446744073709551615,18446744073709551615,18446744073709551615,18446744073709551615],()),()))
def Mg:Ai9:=fun x=>Aju Ac
abbrev Ez:B4:=⟨[V4,V4],[Bv]⟩
abbrev Jf:=Y37→Option Y53
def At0(d:Y61→Option Y53)(b:(List Int))(c:(List Int))(a:Int):Option Y53:=(Ag (decide (a≥0)) (Ag (Cj a (List.length b)) (Ag (Cj a (List.length c)) (Ag (decide ((List.getD b (Int.toNat a) 0)<(List.getD c (Int.toNat a) 0))) (some (((-1:Int),()),(),(),())) (Ag (Cj a (List.length b)) (Ag (Cj a (List.length c)) (Ag (decide ((List.getD b (Int.toNat a) 0)>(List.getD c (Int.toNat a) 0))) (some ((1,()),(),(),())) (d (b,c,(IntKind.wrap .i64 (a-1)),()))) none) none)) none) none) (some ((0,()),(),(),())))
def Av2(L:Af)(a:(List Int))(b:(List Int)):Option Y53:=(Ag (!(decide ((List.length a:Int)=(List.length b:Int)))) (Ag (decide ((List.length a:Int)<(List.length b:Int))) (some (((-1:Int),()),(),(),())) (some ((1,()),(),(),()))) (L _ _ (fun z x=>At0 z x.1 x.2.1 x.2.2.1) (a,b,(IntKind.wrap .i64 ((List.length a:Int)-1)),())))
def Cv:Jf:=fun x=>Av2 Ac x.1 x.2.1
abbrev Mm:B4:=⟨[V4,V4],[V4]⟩
abbrev Aae:=Y37→Option Y11
def Aws(L:Af)(c:Jf)(a:(List Int))(b:(List Int)):Option Y11:=((c (a,b,())).bind fun d=>Ag (decide (d.1.1>0)) (some ((b,()),(),(),())) (some ((a,()),(),(),())))
def Hc:Aae:=fun x=>Aws Ac Cv x.1 x.2.1
abbrev A9:B4:=⟨[V4],[(.ro true W4)]⟩
abbrev B6:=Y4→Option Y6
def Afv(e:Y88→Option Y6)(b:(List Int))(f:(List Int))(c:(List Int))(a:Int):Option Y6:=(A4 (IntKind.wrap .u64 (IntKind.wrap .i64 (16*(Int.tmod a 4)))) fun d=>Ag (decide (a<(List.length b:Int))) (Ag (decide (a<16)) (Ag (Cj (IntKind.wrap .i64 (Int.tdiv a 4)) 4) (Ag (Cj a (List.length b)) (Ag (decide (0≤d)) (Ag (Cj (IntKind.wrap .i64 (Int.tdiv a 4)) 4) (e (b,f,(List.set c (Int.toNat (IntKind.wrap .i64 (Int.tdiv a 4))) (IntKind.wrap .u64 ((List.getD c (Int.toNat (IntKind.wrap .i64 (Int.tdiv a 4))) 0)+(IntKind.wrap .u64 ((IntKind.wrap .u64 (List.getD b (Int.toNat a) 0))*(2 ^ (min (Int.toNat d) 64))))))),(IntKind.wrap .i64 (a+1)),())) none) none) none) none) (some ((c,()),(),()))) (some ((c,()),(),())))
def Aaw(L:Af)(a:(List Int)):Option Y6:=(L _ _ (fun z x=>Afv z x.1 x.2.1 x.2.2.1 x.2.2.2.1) (a,[0,0,0,0],[0,0,0,0],0,()))
def Ax:B6:=fun x=>Aaw Ac x.1
abbrev Dp:B4:=⟨[V4,V4],[(.ro true W7)]⟩
abbrev Jo:=Y37→Option Y11
def Aih(i:Y88→Option Y11)(j:((List Int)×(List Int)×(List Int)×Int×Int×Int×Unit)→Option Y11)(e:(List Int))(c:(List Int))(d:(List Int))(a:Int)(f:Int)(b:Int):Option Y11:=(A4 (IntKind.wrap .i64 (a+(List.length c:Int))) fun g=>A4 (IntKind.wrap .i64 ((IntKind.wrap .i64 (f+(List.getD d (Int.toNat (IntKind.wrap .i64 (a+b))) 0)))+(IntKind.wrap .i64 ((List.getD e (Int.toNat a) 0)*(List.getD c (Int.toNat b) 0))))) fun h=>Ag (decide (b<(List.length c:Int))) (Ag (Cj (IntKind.wrap .i64 (a+b)) (List.length d)) (Ag (Cj a (List.length e)) (Ag (Cj b (List.length c)) (Ag (Cj (IntKind.wrap .i64 (a+b)) (List.length d)) (j (e,c,(List.set d (Int.toNat (IntKind.wrap .i64 (a+b))) (IntKind.wrap .i64 (((BitVec.toNat ((BitVec.ofInt 64 h) &&& (BitVec.ofInt 64 65535))):Nat):Int))),a,(Int.fdiv h 65536),(IntKind.wrap .i64 (b+1)),())) none) none) none) none) (Ag (Cj g (List.length d)) (i (e,c,(List.set d (Int.toNat g) f),(IntKind.wrap .i64 (a+1)),())) none))
def Au7(L:Af)(d:Hr)(e:Y88→Option Y11)(b:(List Int))(f:(List Int))(a:(List Int))(c:Int):Option Y11:=(Ag (decide (c<(List.length b:Int))) (L _ _ (fun z x=>Aih e z x.1 x.2.1 x.2.2.1 x.2.2.2.1 x.2.2.2.2.1 x.2.2.2.2.2.1) (b,f,a,c,0,0,())) ((d (a,())).bind fun g=>some (((List.take ((List.length g.1.1)-0) (List.drop 0 a)),()),(),(),())))
def Awd(L:Af)(d:Hr)(b:(List Int))(c:(List Int)):Option Y11:=(A4 (IntKind.wrap .i64 ((List.length b:Int)+(List.length c:Int))) fun a=>Ag ((((decide (0≤a))&&(decide (a≤a)))&&(A8 (Int.toNat a) (Ty.int IntKind.i64)))&&true) (L _ _ (fun z x=>Au7 L d z x.1 x.2.1 x.2.2.1 x.2.2.2.1) (b,c,(List.replicate (Int.toNat a) 0),0,())) none)
def Cg:Jo:=fun x=>Awd Ac En x.1 x.2.1
abbrev Nq:B4:=⟨[(.ro true W4)],[Ir,V24]⟩
abbrev Wo:=Y4→Option Y52
def Ai8(L:Af)(a:(List Int)):Option Y52:=(Ag (!(decide ((List.getD a 1 0)=0))) (some ((0,false,()),(),())) (Ag (!(decide ((List.getD a 2 0)=0))) (some ((0,false,()),(),())) (Ag (!(decide ((List.getD a 3 0)=0))) (some ((0,false,()),(),())) (some (((List.getD a 0 0),true,()),(),())))))
def G8:Wo:=fun x=>Ai8 Ac x.1
abbrev Hp:B4:=⟨[V4,V4],[(.ro true W7)]⟩
abbrev Kl:=Y37→Option Y11
def Au4(h:Hr)(e:Y94→Option Y11)(c:(List Int))(d:(List Int))(b:(List Int))(i:Int)(a:Int):Option Y11:=(A4 (IntKind.wrap .i64 ((List.getD c (Int.toNat a) 0)-i)) fun f=>A4 (IntKind.wrap .i64 (f-(List.getD d (Int.toNat a) 0))) fun g=>Ag (decide (a<(List.length c:Int))) (Ag (Cj a (List.length c)) (Ag (decide (a<(List.length d:Int))) (Ag (Cj a (List.length d)) (Ag (decide (g<0)) (Ag (Cj a (List.length b)) (e (c,d,(List.set b (Int.toNat a) (IntKind.wrap .i64 (g+65536))),1,(IntKind.wrap .i64 (a+1)),())) none) (Ag (Cj a (List.length b)) (e (c,d,(List.set b (Int.toNat a) g),0,(IntKind.wrap .i64 (a+1)),())) none)) none) (Ag (decide (f<0)) (Ag (Cj a (List.length b)) (e (c,d,(List.set b (Int.toNat a) (IntKind.wrap .i64 (f+65536))),1,(IntKind.wrap .i64 (a+1)),())) none) (Ag (Cj a (List.length b)) (e (c,d,(List.set b (Int.toNat a) f),0,(IntKind.wrap .i64 (a+1)),())) none))) none) ((h (b,())).bind fun j=>some (((List.take ((List.length j.1.1)-0) (List.drop 0 b)),()),(),(),())))
def Aw1(L:Af)(b:Hr)(a:(List Int))(c:(List Int)):Option Y11:=(Ag ((((decide (0≤(List.length a:Int)))&&(decide ((List.length a:Int)≤(List.length a:Int))))&&(A8 (Int.toNat (List.length a:Int)) (Ty.int IntKind.i64)))&&true) (L _ _ (fun z x=>Au4 b z x.1 x.2.1 x.2.2.1 x.2.2.2.1 x.2.2.2.2.1) (a,c,(List.replicate (Int.toNat (List.length a:Int)) 0),0,0,())) none)
def Do:Kl:=fun x=>Aw1 Ac En x.1 x.2.1
abbrev Am7:B4:=⟨[V4,Bv],[(.ro true W7),(.ro true W7)]⟩
abbrev Avl:=Y8→Option Y42
def Aqf(f:Hr)(h:((List Int)×Int×(List Int)×Int×Int×Unit)→Option Y42)(d:(List Int))(b:Int)(c:(List Int))(e:Int)(a:Int):Option Y42:=(A4 (IntKind.wrap .i64 ((IntKind.wrap .i64 (65536*e))+(List.getD d (Int.toNat a) 0))) fun g=>Ag (decide (a≥0)) (Ag (Cj a (List.length d)) (Ag (decide (b≠0)) (Ag (decide (b≠0)) (Ag (Cj a (List.length c)) (h (d,b,(List.set c (Int.toNat a) (IntKind.wrap .i64 (Int.tdiv g b))),(Int.tmod g b),(IntKind.wrap .i64 (a-1)),())) none) none) none) none) ((f (c,())).bind fun i=>(f ([e],())).bind fun j=>some (((List.take ((List.length i.1.1)-0) (List.drop 0 c)),(List.take ((List.length j.1.1)-0) (List.drop 0 [e])),()),(),(),())))
def An1(L:Af)(b:Hr)(a:(List Int))(c:Int):Option Y42:=(Ag ((((decide (0≤(List.length a:Int)))&&(decide ((List.length a:Int)≤(List.length a:Int))))&&(A8 (Int.toNat (List.length a:Int)) (Ty.int IntKind.i64)))&&true) (L _ _ (fun z x=>Aqf b z x.1 x.2.1 x.2.2.1 x.2.2.2.1 x.2.2.2.2.1) (a,c,(List.replicate (Int.toNat (List.length a:Int)) 0),0,(IntKind.wrap .i64 ((List.length a:Int)-1)),())) none)
def Zi:Avl:=fun x=>An1 Ac En x.1 x.2.1
abbrev Gf:B4:=⟨[V4,V4],[(.ro true W7),(.ro true W7)]⟩
abbrev Oh:=Y37→Option Y42
def Ah0(j:Y96→Option Y42)(i:((List Int)×(List Int)×(List Int)×(List Int)×Int×Int×(List Int)×Int×Unit)→Option Y42)(g:(List Int))(h:(List Int))(c:(List Int))(d:(List Int))(b:Int)(e:Int)(f:(List Int))(a:Int):Option Y42:=(Ag (decide (a<(List.length d:Int))) (Ag (Cj a (List.length d)) (Ag (decide (a<(List.length f:Int))) (Ag (Cj a (List.length f)) (Ag (Cj a (List.length (List.set d (Int.toNat a) 0))) (i (g,h,c,(List.set (List.set d (Int.toNat a) 0) (Int.toNat a) (List.getD f (Int.toNat a) 0)),b,e,f,(IntKind.wrap .i64 (a+1)),())) none) none) (i (g,h,c,(List.set d (Int.toNat a) 0),b,e,f,(IntKind.wrap .i64 (a+1)),()))) none) (Ag (Cj b (List.length c)) (Ag (decide (0≤(IntKind.wrap .u64 e))) (Ag (Cj b (List.length c)) (j (g,h,(List.set c (Int.toNat b) (IntKind.wrap .i64 ((List.getD c (Int.toNat b) 0)+(IntKind.wrap .i64 (1*(2 ^ (min (Int.toNat (IntKind.wrap .u64 e)) 64))))))),d,b,(IntKind.wrap .i64 (e-1)),())) none) none) none))
def Ail(L:Af)(h:Hr)(k:Jf)(l:Kl)(i:Y96→Option Y42)(m:((List Int)×(List Int)×(List Int)×(List Int)×Int×Int×Int×Int×Unit)→Option Y42)(d:(List Int))(c:(List Int))(e:(List Int))(a:(List Int))(f:Int)(g:Int)(n:Int)(b:Int):Option Y42:=(A4 (IntKind.wrap .i64 (n+(IntKind.wrap .i64 (2*(List.getD a (Int.toNat b) 0))))) fun j=>Ag (decide (b<(List.length a:Int))) (Ag (Cj b (List.length a)) (Ag (Cj b (List.length a)) (m (d,c,e,(List.set a (Int.toNat b) (IntKind.wrap .i64 (((BitVec.toNat ((BitVec.ofInt 64 j) &&& (BitVec.ofInt 64 65535))):Nat):Int))),f,g,(Int.fdiv j 65536),(IntKind.wrap .i64 (b+1)),())) none) none) ((h (a,())).bind fun o=>(k ((List.take ((List.length o.1.1)-0) (List.drop 0 a)),c,())).bind fun p=>Ag (decide (p.1.1≥0)) ((h (a,())).bind fun q=>(l ((List.take ((List.length q.1.1)-0) (List.drop 0 a)),c,())).bind fun r=>L _ _ (fun z x=>Ah0 i z x.1 x.2.1 x.2.2.1 x.2.2.2.1 x.2.2.2.2.1 x.2.2.2.2.2.1 x.2.2.2.2.2.2.1 x.2.2.2.2.2.2.2.1) (d,c,e,a,f,g,r.1.1,0,())) (i (d,c,e,a,f,(IntKind.wrap .i64 (g-1)),()))))
def Ais(L:Af)(g:Hr)(h:Jf)(i:Kl)(j:Y95→Option Y42)(k:Y96→Option Y42)(a:(List Int))(d:(List Int))(e:(List Int))(f:(List Int))(b:Int)(c:Int):Option Y42:=(Ag (decide (c≥0)) (Ag (Cj b (List.length a)) (Ag (decide (0≤(IntKind.wrap .u64 c))) (L _ _ (fun z x=>Ail L g h i k z x.1 x.2.1 x.2.2.1 x.2.2.2.1 x.2.2.2.2.1 x.2.2.2.2.2.1 x.2.2.2.2.2.2.1 x.2.2.2.2.2.2.2.1) (a,d,e,f,b,c,(IntKind.wrap .i64 (((BitVec.toNat ((BitVec.ofInt 64 (Int.fdiv (List.getD a (Int.toNat b) 0) (2 ^ (min (Int.toNat (IntKind.wrap .u64 c)) 64)))) &&& (BitVec.ofInt 64 1))):Nat):Int)),0,())) none) none) (j (a,d,e,f,(IntKind.wrap .i64 (b-1)),())))
def Aue(L:Af)(a:Hr)(e:Jf)(f:Kl)(g:Y95→Option Y42)(h:(List Int))(i:(List Int))(b:(List Int))(c:(List Int))(d:Int):Option Y42:=(Ag (decide (d≥0)) (L _ _ (fun z x=>Ais L a e f g z x.1 x.2.1 x.2.2.1 x.2.2.2.1 x.2.2.2.2.1 x.2.2.2.2.2.1) (h,i,b,c,d,15,())) ((a (b,())).bind fun j=>(a (c,())).bind fun k=>some (((List.take ((List.length j.1.1)-0) (List.drop 0 b)),(List.take ((List.length k.1.1)-0) (List.drop 0 c)),()),(),(),())))
def Awr(L:Af)(e:Avl)(f:Hr)(g:Jf)(h:Kl)(a:(List Int))(b:(List Int)):Option Y42:=(A4 (IntKind.wrap .i64 ((List.length b:Int)+1)) fun c=>Ag (decide ((List.length b:Int)=1)) (Ag (Cj 0 (List.length b)) ((e (a,(List.getD b 0 0),())).bind fun d=>some ((d.1.1,d.1.2.1,()),(),(),())) none) (Ag ((((decide (0≤(List.length a:Int)))&&(decide ((List.length a:Int)≤(List.length a:Int))))&&(A8 (Int.toNat (List.length a:Int)) (Ty.int IntKind.i64)))&&true) (Ag ((((decide (0≤c))&&(decide (c≤c)))&&(A8 (Int.toNat c) (Ty.int IntKind.i64)))&&true) (L _ _ (fun z x=>Aue L f g h z x.1 x.2.1 x.2.2.1 x.2.2.2.1 x.2.2.2.2.1) (a,b,(List.replicate (Int.toNat (List.length a:Int)) 0),(List.replicate (Int.toNat c) 0),(IntKind.wrap .i64 ((List.length a:Int)-1)),())) none) none))
def Dq:Oh:=fun x=>Awr Ac Zi En Cv Do x.1 x.2.1
abbrev Ga:B4:=⟨[V4],[V24]⟩
abbrev Qu:=Y4→Option Y15
def Ars(L:Af)(a:(List Int)):Option Y15:=(some (((decide ((List.length a:Int)≤16)),()),(),()))
def Ds:Qu:=fun x=>Ars Ac x.1
abbrev C3:B4:=⟨[V4],[(.ro true W4),Bv]⟩
abbrev Fs:=Y4→Option Y21
def Af5(L:Af)(b:Qu)(c:B6)(a:(List Int)):Option Y21:=((b (a,())).bind fun d=>Ag (!d.1.1) (some (([0,0,0,0],4,()),(),())) ((c (a,())).bind fun e=>some ((e.1.1,0,()),(),())))
def B5:Fs:=fun x=>Af5 Ac Ds Ax x.1
abbrev Cn:B4:=⟨[(.ro true W4)],[V24]⟩
abbrev Fx:=Y4→Option Y15
def Ajj(L:Af)(a:(List Int)):Option Y15:=(some (((Yu (Ty.arr 4 (Ty.int IntKind.u64)) a [(0:Int),(0:Int),(0:Int),(0:Int)]),()),(),()))
def Bs:Fx:=fun x=>Ajj Ac x.1
abbrev G7:B4:=⟨[(.ro true W4),(.ro true W4)],[(.ro true W4),Bv]⟩
abbrev Ru:=Y37→Option Y29
def Akn(L:Af)(a:Az)(d:Jf)(e:Kl)(f:B6)(g:(List Int))(h:(List Int)):Option Y29:=((a (g,())).bind fun b=>(a (h,())).bind fun c=>(d (b.1.1,c.1.1,())).bind fun i=>Ag (decide (i.1.1<0)) (some (([0,0,0,0],4,()),(),(),())) ((e (b.1.1,c.1.1,())).bind fun j=>(f (j.1.1,())).bind fun k=>some ((k.1.1,0,()),(),(),())))
def Ec:Ru:=fun x=>Akn Ac Ah Cv Do Ax x.1 x.2.1
abbrev Aj3:B4:=⟨[(.ro true W4)],[Bv]⟩
abbrev Atg:=Y4→Option Y14
def Amz(d:Y16→Option Y14)(b:(List Int))(e:Int)(a:Int):Option Y14:=(A4 (IntKind.wrap .i64 (a+1)) fun c=>Ag (decide (a<256)) (Ag (Cj (IntKind.wrap .i64 (Int.tdiv a 64)) 4) (Ag (decide (0≤(IntKind.wrap .u64 (Int.tmod a 64)))) (Ag (decide ((IntKind.wrap .u64 (((BitVec.toNat ((BitVec.ofInt 64 (Int.fdiv (List.getD b (Int.toNat (IntKind.wrap .i64 (Int.tdiv a 64))) 0) (2 ^ (min (Int.toNat (IntKind.wrap .u64 (Int.tmod a 64))) 64)))) &&& (BitVec.ofInt 64 1))):Nat):Int))=1)) (d (b,c,c,())) (d (b,e,c,()))) none) none) (some ((e,()),(),())))
def Ako(L:Af)(a:(List Int)):Option Y14:=(L _ _ (fun z x=>Amz z x.1 x.2.1 x.2.2.1) (a,0,0,()))
def Wf:Atg:=fun x=>Ako Ac x.1
abbrev Ajh:B4:=⟨[(.ro true W4),(.ro true W4)],[(.ro true W4),Bv]⟩
abbrev Aso:=Y37→Option Y29
def Ajd(L:Af)(a:Az)(c:Jo)(d:Fs)(e:(List Int))(f:(List Int)):Option Y29:=((a (e,())).bind fun g=>(a (f,())).bind fun h=>(c (g.1.1,h.1.1,())).bind fun i=>(d (i.1.1,())).bind fun b=>some ((b.1.1,b.1.2.1,()),(),(),()))
def We:Aso:=fun x=>Ajd Ac Ah Cg B5 x.1 x.2.1
abbrev Np:B4:=⟨[(.ro true W4),(.ro true W4)],[(.ro true W4),Bv]⟩
abbrev Acl:=Y37→Option Y29
def Ajk(L:Af)(a:Az)(c:Dd)(d:Fs)(e:(List Int))(f:(List Int)):Option Y29:=((a (e,())).bind fun g=>(a (f,())).bind fun h=>(c (g.1.1,h.1.1,())).bind fun i=>(d (i.1.1,())).bind fun b=>some ((b.1.1,b.1.2.1,()),(),(),()))
def Ip:Acl:=fun x=>Ajk Ac Ah Bh B5 x.1 x.2.1
set_option maxRecDepth 100000
abbrev L1:B4:=⟨[V47,Ir],[Bv]⟩
abbrev Yj:=Y26→Option Y47
def Aeh(e:(Y23×Int×Int×Unit)→Option Y47)(a:Y23)(c:Int)(b:Int):Option Y47:=(A4 (List.length a.1) fun d=>Ag (decide (b<((d:Nat):Int))) (Ag (Cj b d) (Ag (decide ((List.getD a.1 (Int.toNat b) (Ty.zero R7)).1=c)) (some ((b,()),a,(),())) (e (a,c,(IntKind.wrap .i64 (b+1)),()))) none) (some (((-1:Int),()),a,(),())))
def X8(L:Af)(a:Y23)(b:Int):Option Y47:=(L _ _ (fun z x=>Aeh z x.1 x.2.1 x.2.2.1) (a,b,0,()))
def Hj:Yj:=fun x=>X8 Ac x.1 x.2.1
abbrev Di:B4:=⟨[V47,Ir],[V9]⟩
abbrev Is:=Y26→Option Y49
def Vq(L:Af)(c:Yj)(d:Y23)(b:Int):Option Y49:=((c (d,b,())).bind fun a=>Ag (decide (a.1.1≥0)) (Ag (Cj a.1.1 (List.length a.2.1.1)) (some (((List.getD a.2.1.1 (Int.toNat a.1.1) (0,[0,0,0,0],0,())),()),a.2.1,(),())) none) (some (((b,[0,0,0,0],0,()),()),a.2.1,(),())))
def Cq:Is:=fun x=>Vq Ac Hj x.1 x.2.1
abbrev Ar6:B4:=⟨[],[V47]⟩
abbrev Azs:=Unit→Option ((Y23×Unit)×Unit)
def Ay3(L:Af):Option ((Y23×Unit)×Unit):=(some ((([],[[0,0,0,0],[0,0,0,0],[0,0,0,0],[0,0,0,0]],()),()),()))
def Ai6:Azs:=fun x=>Ay3 Ac
abbrev G2:B4:=⟨[V47,V9],[]⟩
abbrev N9:=(Y23×Y17×Unit)→Option (Unit×Y23×Unit×Unit)
def Ve(L:Af)(d:Yj)(e:Y23)(b:Y17):Option (Unit×Y23×Unit×Unit):=((d (e,b.1,())).bind fun a=>A4 (List.length a.2.1.1) fun c=>Ag (decide (a.1.1≥0)) (Ag (Cj a.1.1 c) (some ((),((List.set a.2.1.1 (Int.toNat a.1.1) b),a.2.1.2),(),())) none) (Ag (A8 (c+1) R7) (some ((),((List.append a.2.1.1 [b]),a.2.1.2),(),())) none))
def Eg:N9:=fun x=>Ve Ac Hj x.1 x.2.1
abbrev Ff:B4:=⟨[V47,Ir,(.ro true W4)],[V24]⟩
abbrev Lq:=Y35→Option Y69
def Ln(L:Af)(c:Is)(d:Ru)(e:N9)(f:Y23)(g:Int)(h:(List Int)):Option Y69:=((c (f,g,())).bind fun a=>(d (a.1.1.2.1,h,())).bind fun b=>Ag (!(decide (b.1.2.1=0))) (some ((false,()),a.2.1,(),(),())) ((e (a.2.1,(a.1.1.1,b.1.1,a.1.1.2.2),())).bind fun i=>some ((true,()),i.2.1,(),(),())))
def Ct:Lq:=fun x=>Ln Ac Cq Ec Eg x.1 x.2.1 x.2.2.1
abbrev Mc:B4:=⟨[V47,Ir,Bv,(.ro true W4)],[Bv]⟩
abbrev Tj:=Y60→Option Y80
def L6(L:Af)(h:Lq)(e:Az)(i:Dd)(j:B6)(b:Y23)(f:Int)(d:Int)(g:(List Int)):Option Y80:=(A4 (IntKind.wrap .i64 (d-1)) fun c=>Ag (decide (f=0)) (some ((2,()),b,(),(),(),())) (Ag (decide (d<1)) (some ((2,()),b,(),(),(),())) (Ag (decide (d>4)) (some ((2,()),b,(),(),(),())) ((h (b,f,g,())).bind fun a=>Ag (!a.1.1) (some ((10,()),a.2.1,(),(),(),())) (Ag (Cj c 4) ((e ((List.getD a.2.1.2.1 (Int.toNat c) [0,0,0,0]),())).bind fun k=>(e (g,())).bind fun l=>(i (k.1.1,l.1.1,())).bind fun m=>(j (m.1.1,())).bind fun n=>Ag (Cj c 4) (some ((0,()),(a.2.1.1,(List.set a.2.1.2.1 (Int.toNat c) n.1.1),a.2.1.2.2),(),(),(),())) none) none)))))
def Fk:Tj:=fun x=>L6 Ac Ct Ah Bh Ax x.1 x.2.1 x.2.2.1 x.2.2.2.1
abbrev Hs:B4:=⟨[V47,Ir],[Bv]⟩
abbrev Lo:=Y26→Option Y47
def Hv(L:Af)(e:Is)(f:N9)(b:Y23)(c:Int):Option Y47:=(Ag (decide (c=0)) (some ((2,()),b,(),())) ((e (b,c,())).bind fun a=>A4 (IntKind.wrap .u64 (a.1.1.2.2.1+1)) fun d=>Ag (decide (d=0)) (some ((4,()),a.2.1,(),())) ((f (a.2.1,(a.1.1.1,a.1.1.2.1,d,a.1.1.2.2.2),())).bind fun g=>some ((0,()),g.2.1,(),()))))
def Dm:Lo:=fun x=>Hv Ac Cq Eg x.1 x.2.1
abbrev Hy:B4:=⟨[V47,Ir,(.ro true W4)],[]⟩
abbrev Oo:=Y35→Option Y45
def O0(L:Af)(c:Is)(b:Az)(d:Dd)(e:B6)(f:N9)(g:Y23)(h:Int)(i:(List Int)):Option Y45:=((c (g,h,())).bind fun a=>(b (a.1.1.2.1,())).bind fun j=>(b (i,())).bind fun k=>(d (j.1.1,k.1.1,())).bind fun l=>(e (l.1.1,())).bind fun m=>(f (a.2.1,(a.1.1.1,m.1.1,a.1.1.2.2),())).bind fun n=>some ((),n.2.1,(),(),()))
def Ey:Oo:=fun x=>O0 Ac Cq Ah Bh Ax Eg x.1 x.2.1 x.2.2.1
abbrev L5:B4:=⟨[V47,Ir,Ir,(.ro true W4)],[Bv]⟩
abbrev Tp:=Y60→Option Y80
def Mf(L:Af)(f:Lq)(g:Oo)(a:Y23)(c:Int)(d:Int)(e:(List Int)):Option Y80:=(Ag (decide (c=0)) (some ((2,()),a,(),(),(),())) (Ag (decide (d=0)) (some ((2,()),a,(),(),(),())) ((f (a,c,e,())).bind fun b=>Ag (!b.1.1) (some ((10,()),b.2.1,(),(),(),())) ((g (b.2.1,d,e,())).bind fun h=>some ((0,()),h.2.1,(),(),(),())))))
def Fj:Tp:=fun x=>Mf Ac Ct Ey x.1 x.2.1 x.2.2.1 x.2.2.2.1
abbrev Lx:B4:=⟨[V47,Ir,(.ro true W4)],[Bv]⟩
abbrev Te:=Y35→Option Y68
def Ly(L:Af)(d:Lq)(b:Y23)(c:Int)(e:(List Int)):Option Y68:=(Ag (decide (c=0)) (some ((2,()),b,(),(),())) ((d (b,c,e,())).bind fun a=>Ag (!a.1.1) (some ((10,()),a.2.1,(),(),())) (some ((0,()),a.2.1,(),(),()))))
def Fh:Te:=fun x=>Ly Ac Ct x.1 x.2.1 x.2.2.1
abbrev Ql:B4:=⟨[V47,Bv],[(.ro true W4)]⟩
abbrev Zg:=Y26→Option (Y4×Y23×Unit×Unit)
def Qc(L:Af)(a:Y23)(b:Int):Option (Y4×Y23×Unit×Unit):=(A4 (IntKind.wrap .i64 (b-1)) fun c=>Ag (decide (b<1)) (some (([0,0,0,0],()),a,(),())) (Ag (decide (b>4)) (some (([0,0,0,0],()),a,(),())) (Ag (Cj c 4) (some (((List.getD a.2.1 (Int.toNat c) [0,0,0,0]),()),a,(),())) none)))
def Ja:Zg:=fun x=>Qc Ac x.1 x.2.1
abbrev In:B4:=⟨[V47,Bv,(.ro true W4)],[Bv]⟩
abbrev Iq:=Y35→Option Y68
def Im(L:Af)(e:Ru)(a:Y23)(c:Int)(f:(List Int)):Option Y68:=(A4 (IntKind.wrap .i64 (c-1)) fun b=>Ag (decide (c<1)) (some ((2,()),a,(),(),())) (Ag (decide (c>4)) (some ((2,()),a,(),(),())) (Ag (Cj b 4) ((e ((List.getD a.2.1 (Int.toNat b) [0,0,0,0]),f,())).bind fun d=>Ag (!(decide (d.1.2.1=0))) (some ((10,()),a,(),(),())) (Ag (Cj b 4) (some ((0,()),(a.1,(List.set a.2.1 (Int.toNat b) d.1.1),a.2.2),(),(),())) none)) none)))
def Dx:Iq:=fun x=>Im Ac Ec x.1 x.2.1 x.2.2.1
abbrev O7:B4:=⟨[V47],[V38]⟩
abbrev Ww:=(Y23×Unit)→Option Y25
def Ya(d:Az)(e:Dd)(f:Y33→Option Y25)(b:Y23)(c:(List Int))(a:Int):Option Y25:=(Ag (decide (a<4)) (Ag (Cj a 4) ((d ((List.getD b.2.1 (Int.toNat a) [0,0,0,0]),())).bind fun g=>(e (c,g.1.1,())).bind fun h=>f (b,h.1.1,(IntKind.wrap .i64 (a+1)),())) none) (some ((c,()),b,())))
def Yg(L:Af)(c:Az)(d:Dd)(g:Y33→Option Y25)(a:Y23)(e:(List Int))(b:Int):Option Y25:=(A4 (List.length a.1) fun f=>Ag (decide (b<((f:Nat):Int))) (Ag (Cj b f) ((c ((List.getD a.1 (Int.toNat b) (Ty.zero R7)).2.1,())).bind fun h=>(d (e,h.1.1,())).bind fun i=>g (a,i.1.1,(IntKind.wrap .i64 (b+1)),())) none) (L _ _ (fun z x=>Ya c d z x.1 x.2.1 x.2.2.1) (a,e,0,())))
def Pe(L:Af)(a:Az)(b:Dd)(c:Y23):Option Y25:=(L _ _ (fun z x=>Yg L a b z x.1 x.2.1 x.2.2.1) (c,[],0,()))
def Gr:Ww:=fun x=>Pe Ac Ah Bh x.1
abbrev S4:B4:=⟨[V47,Ir,(.ro true W4)],[Bv]⟩
abbrev Abt:=Y35→Option Y68
def Sg(L:Af)(e:Ww)(f:Az)(g:Dd)(h:Qu)(i:Oo)(b:Y23)(c:Int)(d:(List Int)):Option Y68:=(Ag (decide (c=0)) (some ((2,()),b,(),(),())) ((e (b,())).bind fun a=>(f (d,())).bind fun j=>(g (a.1.1,j.1.1,())).bind fun k=>(h (k.1.1,())).bind fun l=>Ag (!l.1.1) (some ((4,()),a.2.1,(),(),())) ((i (a.2.1,c,d,())).bind fun m=>some ((0,()),m.2.1,(),(),()))))
def H9:Abt:=fun x=>Sg Ac Gr Ah Bh Ds Ey x.1 x.2.1 x.2.2.1
abbrev L9:B4:=⟨[(.rp W59)],[V14]⟩
abbrev Th:=(Y23×Unit)→Option Y28
def Hu(l:Y34→Option Y28)(m:(Y23×(List Y17)×Int×Y17×Int×Unit)→Option Y28)(f:Y23)(c:(List Y17))(g:Int)(h:Y17)(a:Int):Option Y28:=(A4 (IntKind.wrap .i64 (a-1)) fun i=>A4 (List.length c) fun b=>A4 (List.take ((Int.toNat a)-0) (List.drop 0 c)) fun d=>A4 (List.take (b-(Int.toNat a)) (List.drop (Int.toNat a) c)) fun j=>A4 (List.append [h] j) fun k=>A4 (List.length k) fun e=>Ag (decide (a>0)) (Ag (Cj i b) (Ag (decide ((List.getD c (Int.toNat i) (0,[0,0,0,0],0,())).1>h.1)) (m (f,c,g,h,i,())) (Ag (decide (a=a)) (Ag ((decide (0≤a))&&(decide (a≤((b:Nat):Int)))) (Ag ((decide (0≤a))&&(decide (a≤((b:Nat):Int)))) (Ag (A8 (1+(List.length j)) R7) (Ag ((decide (0<e))&&(A8 ((List.length d)+e) R7)) (l (f,(List.append d k),(IntKind.wrap .i64 (g+1)),())) none) none) none) none) none)) none) (Ag (decide (a=a)) (Ag ((decide (0≤a))&&(decide (a≤((b:Nat):Int)))) (Ag ((decide (0≤a))&&(decide (a≤((b:Nat):Int)))) (Ag (A8 (1+(List.length j)) R7) (Ag ((decide (0<e))&&(A8 ((List.length d)+e) R7)) (l (f,(List.append d k),(IntKind.wrap .i64 (g+1)),())) none) none) none) none) none))
def Us(L:Af)(f:Fx)(d:Y34→Option Y28)(b:Y23)(c:(List Y17))(a:Int):Option Y28:=(A4 (List.length b.1) fun e=>Ag (decide (a<((e:Nat):Int))) (Ag (Cj a e) ((f ((List.getD b.1 (Int.toNat a) (0,[0,0,0,0],0,())).2.1,())).bind fun g=>Ag g.1.1 (Ag (decide ((List.getD b.1 (Int.toNat a) (0,[0,0,0,0],0,())).2.2.1=0)) (d (b,c,(IntKind.wrap .i64 (a+1)),())) (L _ _ (fun z x=>Hu d z x.1 x.2.1 x.2.2.1 x.2.2.2.1 x.2.2.2.2.1) (b,c,a,(List.getD b.1 (Int.toNat a) (0,[0,0,0,0],0,())),(List.length c:Int),()))) (L _ _ (fun z x=>Hu d z x.1 x.2.1 x.2.2.1 x.2.2.2.1 x.2.2.2.2.1) (b,c,a,(List.getD b.1 (Int.toNat a) (0,[0,0,0,0],0,())),(List.length c:Int),()))) none) (some ((c,()),(),())))
def Lw(L:Af)(a:Fx)(b:Y23):Option Y28:=(L _ _ (fun z x=>Us L a z x.1 x.2.1 x.2.2.1) (b,[],0,()))
def He:Th:=fun x=>Lw Ac Bs x.1
set_option maxRecDepth 100000
abbrev Ajl:B4:=⟨[(.ro true W4)],[V32]⟩
abbrev Ate:=Y4→Option Y6
def Amq(d:Y61→Option Y6)(c:(List Int))(a:(List Int))(b:Int):Option Y6:=(A4 (IntKind.wrap .u64 (IntKind.wrap .i64 (8*(Int.tmod b 8)))) fun f=>A4 (IntKind.wrap .u8 (Int.fdiv (List.getD c (Int.toNat (IntKind.wrap .i64 (Int.tdiv b 8))) 0) (2 ^ (min (Int.toNat f) 64)))) fun e=>Ag (decide (b≥0)) (Ag (Cj (IntKind.wrap .i64 (Int.tdiv b 8)) 4) (Ag (decide (0≤f)) (Ag (decide ((List.length a:Int)>0)) (Ag (A8 ((List.length a)+1) (Ty.int IntKind.u8)) (d (c,(List.append a [e]),(IntKind.wrap .i64 (b-1)),())) none) (Ag (decide (e>0)) (Ag (A8 ((List.length a)+1) (Ty.int IntKind.u8)) (d (c,(List.append a [e]),(IntKind.wrap .i64 (b-1)),())) none) (d (c,a,(IntKind.wrap .i64 (b-1)),())))) none) none) (some ((a,()),(),())))
def Ajz(L:Af)(a:(List Int)):Option Y6:=(L _ _ (fun z x=>Amq z x.1 x.2.1 x.2.2.1) (a,[],31,()))
def Wd:Ate:=fun x=>Ajz Ac x.1
abbrev Iw:B4:=⟨[V3,(.ro true W4)],[V32]⟩
abbrev Qj:=Y37→Option Y11
def Qz(L:Af)(e:Ate)(a:(List Int))(f:(List Int)):Option Y11:=((e (f,())).bind fun b=>A4 (List.length b.1.1) fun c=>A4 (List.append a [(IntKind.wrap .u8 ((c:Nat):Int))]) fun d=>Ag (A8 (0+(List.length a)) (Ty.int IntKind.u8)) (Ag (A8 ((List.length a)+1) (Ty.int IntKind.u8)) (Ag (A8 ((List.length d)+c) (Ty.int IntKind.u8)) (some (((List.append d b.1.1),()),(),(),())) none) none) none)
def Fm:Qj:=fun x=>Qz Ac Wd x.1 x.2.1
abbrev Sl:B4:=⟨[V3,Ir],[V32]⟩
abbrev Abu:=Y8→Option Y11
def Sm(L:Af)(a:Qj)(b:(List Int))(c:Int):Option Y11:=((a (b,[c,0,0,0],())).bind fun d=>some ((d.1.1,()),(),(),()))
def Ki:Abu:=fun x=>Sm Ac Fm x.1 x.2.1
set_option maxRecDepth 100000
abbrev Aof:B4:=⟨[],[V5]⟩
abbrev Awp:=Unit→Option (Y4×Unit)
def An0(L:Af):Option (Y4×Unit):=(some (((List.set (List.set (List.set (List.set (List.set (List.set (List.set (List.set (List.set (List.set (List.set (List.set (List.set (List.set (List.set (List.set (List.set (List.set (List.set (List.set (List.set (List.set (List.set (List.set (List.set (List.set (List.set (List.set (List.set (List.set (List.set (List.set (List.set (List.set (List.set (List.set (List.set (List.set (List.set (List.set (List.set (List.set (List.set (List.set (List.set (List.set (List.set (List.set (List.set (List.set (List.set (List.set (List.set (List.set (List.set (List.set (List.set (List.set (List.set (List.set (List.set (List.set (List.set (List.set (List.replicate 64 0) 0 1116352408) 1 1899447441) 2 3049323471) 3 3921009573) 4 961987163) 5 1508970993) 6 2453635748) 7 2870763221) 8 3624381080) 9 310598401) 10 607225278) 11 1426881987) 12 1925078388) 13 2162078206) 14 2614888103) 15 3248222580) 16 3835390401) 17 4022224774) 18 264347078) 19 604807628) 20 770255983) 21 1249150122) 22 1555081692) 23 1996064986) 24 2554220882) 25 2821834349) 26 2952996808) 27 3210313671) 28 3336571891) 29 3584528711) 30 113926993) 31 338241895) 32 666307205) 33 773529912) 34 1294757372) 35 1396182291) 36 1695183700) 37 1986661051) 38 2177026350) 39 2456956037) 40 2730485921) 41 2820302411) 42 3259730800) 43 3345764771) 44 3516065817) 45 3600352804) 46 4094571909) 47 275423344) 48 430227734) 49 506948616) 50 659060556) 51 883997877) 52 958139571) 53 1322822218) 54 1537002063) 55 1747873779) 56 1955562222) 57 2024104815) 58 2227730452) 59 2361852424) 60 2428436474) 61 2756734187) 62 3204031479) 63 3329325298),()),()))
def Za:Awp:=fun x=>An0 Ac
abbrev Am9:B4:=⟨[V35,Ir],[V35]⟩
abbrev Afl:=Y3→Option Y53
def Anr(L:Af)(b:Int)(a:Int):Option Y53:=(A4 (IntKind.wrap .u64 (32-a)) fun c=>Ag (decide (0≤a)) (Ag (decide (0≤c)) (some (((IntKind.wrap .u32 (((BitVec.toNat ((BitVec.ofInt 32 (Int.fdiv b (2 ^ (min (Int.toNat a) 32)))) ||| (BitVec.ofInt 32 (IntKind.wrap .u32 (b*(2 ^ (min (Int.toNat c) 32))))))):Nat):Int)),()),(),(),())) none) none)
def Dl:Afl:=fun x=>Anr Ac x.1 x.2.1
abbrev Ans:B4:=⟨[(.ro true W6),V3],[(.ro true W6)]⟩
abbrev Aat:=Y37→Option Y11
def Ad8(d:Y88→Option Y11)(c:(List Int))(e:(List Int))(b:(List Int))(a:Int):Option Y11:=(Ag (decide (a<8)) (Ag (Cj a 8) (Ag (Cj a 8) (Ag (Cj a 8) (d (c,e,(List.set b (Int.toNat a) (IntKind.wrap .u32 ((List.getD b (Int.toNat a) 0)+(List.getD c (Int.toNat a) 0)))),(IntKind.wrap .i64 (a+1)),())) none) none) none) (some ((b,()),(),(),())))
def Adv(L:Af)(b:Afl)(o:Cl2→Option Y11)(h:(List Int))(i:(List Int))(j:(List Int))(k:(List Int))(a:(List Int))(c:Int):Option Y11:=(A4 (List.getD a 4 0) fun d=>A4 (List.getD a 0 0) fun e=>A4 (List.getD a 7 0) fun p=>A4 (List.getD a 5 0) fun l=>A4 (List.getD a 6 0) fun m=>A4 (List.getD a 1 0) fun f=>A4 (List.getD a 2 0) fun g=>A4 (IntKind.wrap .u32 (((BitVec.toNat ((BitVec.ofInt 32 (IntKind.wrap .u32 (((BitVec.toNat ((BitVec.ofInt 32 d) &&& (BitVec.ofInt 32 l))):Nat):Int))) ^^^ (BitVec.ofInt 32 (IntKind.wrap .u32 (((BitVec.toNat ((BitVec.ofInt 32 (IntKind.wrap .u32 (((BitVec.toNat ((BitVec.ofInt 32 4294967295) ^^^ (BitVec.ofInt 32 d))):Nat):Int))) &&& (BitVec.ofInt 32 m))):Nat):Int))))):Nat):Int)) fun q=>Ag (decide (c<64)) ((b (d,6,())).bind fun r=>(b (d,11,())).bind fun s=>(b (d,25,())).bind fun t=>A4 (IntKind.wrap .u32 ((IntKind.wrap .u32 ((IntKind.wrap .u32 ((IntKind.wrap .u32 (p+(IntKind.wrap .u32 (((BitVec.toNat ((BitVec.ofInt 32 (IntKind.wrap .u32 (((BitVec.toNat ((BitVec.ofInt 32 r.1.1) ^^^ (BitVec.ofInt 32 s.1.1))):Nat):Int))) ^^^ (BitVec.ofInt 32 t.1.1))):Nat):Int))))+q))+(List.getD j (Int.toNat c) 0)))+(List.getD k (Int.toNat c) 0))) fun n=>Ag (Cj c 64) (Ag (Cj c 64) ((b (e,2,())).bind fun u=>(b (e,13,())).bind fun v=>(b (e,22,())).bind fun w=>o (h,i,j,k,[(IntKind.wrap .u32 (n+(IntKind.wrap .u32 ((IntKind.wrap .u32 (((BitVec.toNat ((BitVec.ofInt 32 (IntKind.wrap .u32 (((BitVec.toNat ((BitVec.ofInt 32 u.1.1) ^^^ (BitVec.ofInt 32 v.1.1))):Nat):Int))) ^^^ (BitVec.ofInt 32 w.1.1))):Nat):Int))+(IntKind.wrap .u32 (((BitVec.toNat ((BitVec.ofInt 32 (IntKind.wrap .u32 (((BitVec.toNat ((BitVec.ofInt 32 (IntKind.wrap .u32 (((BitVec.toNat ((BitVec.ofInt 32 e) &&& (BitVec.ofInt 32 f))):Nat):Int))) ^^^ (BitVec.ofInt 32 (IntKind.wrap .u32 (((BitVec.toNat ((BitVec.ofInt 32 e) &&& (BitVec.ofInt 32 g))):Nat):Int))))):Nat):Int))) ^^^ (BitVec.ofInt 32 (IntKind.wrap .u32 (((BitVec.toNat ((BitVec.ofInt 32 f) &&& (BitVec.ofInt 32 g))):Nat):Int))))):Nat):Int)))))),e,f,g,(IntKind.wrap .u32 ((List.getD a 3 0)+n)),d,l,m],(IntKind.wrap .i64 (c+1)),())) none) none) (L _ _ (fun z x=>Ad8 z x.1 x.2.1 x.2.2.1 x.2.2.2.1) (h,i,a,0,())))
def Apy(L:Af)(d:Afl)(k:Cl2→Option Y11)(b:(List Int))(f:(List Int))(g:(List Int))(h:(List Int))(c:(List Int))(a:Int):Option Y11:=(A4 (IntKind.wrap .i64 (4*a)) fun e=>A4 (IntKind.wrap .i64 (a-15)) fun l=>A4 (IntKind.wrap .i64 (a-2)) fun m=>A4 (IntKind.wrap .i64 (a-16)) fun n=>A4 (IntKind.wrap .i64 (a-7)) fun o=>A4 (List.getD c (Int.toNat l) 0) fun i=>A4 (List.getD c (Int.toNat m) 0) fun j=>A4 (IntKind.wrap .i64 (e+1)) fun p=>A4 (IntKind.wrap .i64 (e+2)) fun q=>A4 (IntKind.wrap .i64 (e+3)) fun r=>Ag (decide (a<64)) (Ag (decide (a<16)) (Ag (Cj e (List.length b)) (Ag (Cj p (List.length b)) (Ag (Cj q (List.length b)) (Ag (Cj r (List.length b)) (Ag (Cj a 64) (k (b,f,g,h,(List.set c (Int.toNat a) (IntKind.wrap .u32 ((IntKind.wrap .u32 ((IntKind.wrap .u32 ((IntKind.wrap .u32 ((IntKind.wrap .u32 (List.getD b (Int.toNat e) 0))*16777216))+(IntKind.wrap .u32 ((IntKind.wrap .u32 (List.getD b (Int.toNat p) 0))*65536))))+(IntKind.wrap .u32 ((IntKind.wrap .u32 (List.getD b (Int.toNat q) 0))*256))))+(IntKind.wrap .u32 (List.getD b (Int.toNat r) 0))))),(IntKind.wrap .i64 (a+1)),())) none) none) none) none) none) (Ag (Cj l 64) (Ag (Cj m 64) (Ag (Cj n 64) ((d (i,7,())).bind fun s=>(d (i,18,())).bind fun t=>Ag (Cj o 64) ((d (j,17,())).bind fun u=>(d (j,19,())).bind fun v=>Ag (Cj a 64) (k (b,f,g,h,(List.set c (Int.toNat a) (IntKind.wrap .u32 ((IntKind.wrap .u32 ((IntKind.wrap .u32 ((List.getD c (Int.toNat n) 0)+(IntKind.wrap .u32 (((BitVec.toNat ((BitVec.ofInt 32 (IntKind.wrap .u32 (((BitVec.toNat ((BitVec.ofInt 32 s.1.1) ^^^ (BitVec.ofInt 32 t.1.1))):Nat):Int))) ^^^ (BitVec.ofInt 32 (Int.fdiv i 8)))):Nat):Int))))+(List.getD c (Int.toNat o) 0)))+(IntKind.wrap .u32 (((BitVec.toNat ((BitVec.ofInt 32 (IntKind.wrap .u32 (((BitVec.toNat ((BitVec.ofInt 32 u.1.1) ^^^ (BitVec.ofInt 32 v.1.1))):Nat):Int))) ^^^ (BitVec.ofInt 32 (Int.fdiv j 1024)))):Nat):Int))))),(IntKind.wrap .i64 (a+1)),())) none) none) none) none) none)) (L _ _ (fun z x=>Adv L d z x.1 x.2.1 x.2.2.1 x.2.2.2.1 x.2.2.2.2.1 x.2.2.2.2.2.1) (f,g,h,c,f,0,())))
def Anw(L:Af)(a:Awp)(b:Afl)(c:(List Int))(d:(List Int)):Option Y11:=((a ()).bind fun e=>L _ _ (fun z x=>Apy L b z x.1 x.2.1 x.2.2.1 x.2.2.2.1 x.2.2.2.2.1 x.2.2.2.2.2.1) (d,c,[0,0,0,0,0,0,0,0],e.1.1,(List.replicate 64 0),0,()))
def Od:Aat:=fun x=>Anw Ac Za Dl x.1 x.2.1
abbrev Zz:B4:=⟨[V3],[(.ro true W3)]⟩
abbrev Aph:=Y4→Option Y6
def Aig(e:Y88→Option Y6)(f:(List Int))(b:(List Int))(c:(List Int))(a:Int):Option Y6:=(A4 (IntKind.wrap .u64 (IntKind.wrap .i64 (24-(IntKind.wrap .i64 (8*(Int.tmod a 4)))))) fun d=>Ag (decide (a<32)) (Ag (Cj (IntKind.wrap .i64 (Int.tdiv a 4)) 8) (Ag (decide (0≤d)) (Ag (Cj a 32) (e (f,b,(List.set c (Int.toNat a) (IntKind.wrap .u8 (Int.fdiv (List.getD b (Int.toNat (IntKind.wrap .i64 (Int.tdiv a 4))) 0) (2 ^ (min (Int.toNat d) 32))))),(IntKind.wrap .i64 (a+1)),())) none) none) none) (some ((c,()),(),())))
def Aia(L:Af)(f:Aat)(g:Y88→Option Y6)(d:(List Int))(b:(List Int))(e:(List Int))(a:Int):Option Y6:=(A4 (IntKind.wrap .i64 (a+64)) fun c=>Ag (decide (a<(List.length b:Int))) (Ag (((decide (0≤a))&&(decide (a≤c)))&&(decide (c≤(List.length b:Int)))) ((f (e,(List.take ((Int.toNat c)-(Int.toNat a)) (List.drop (Int.toNat a) b)),())).bind fun h=>g (d,b,h.1.1,c,())) none) (L _ _ (fun z x=>Aig z x.1 x.2.1 x.2.2.1 x.2.2.2.1) (d,e,(List.replicate 32 0),0,())))
def Aiq(L:Af)(f:Aat)(g:Y75→Option Y6)(c:(List Int))(a:(List Int))(d:Int)(b:Int):Option Y6:=(A4 (IntKind.wrap .u64 (IntKind.wrap .i64 (8*b))) fun e=>Ag (decide (b≥0)) (Ag (decide (0≤e)) (Ag (A8 ((List.length a)+1) (Ty.int IntKind.u8)) (g (c,(List.append a [(IntKind.wrap .u8 (Int.fdiv d (2 ^ (min (Int.toNat e) 64))))]),d,(IntKind.wrap .i64 (b-1)),())) none) none) (L _ _ (fun z x=>Aia L f z x.1 x.2.1 x.2.2.1 x.2.2.2.1) (c,a,[1779033703,3144134277,1013904242,2773480762,1359893119,2600822924,528734635,1541459225],0,())))
def Aul(L:Af)(d:Aat)(e:Y77→Option Y6)(b:(List Int))(c:(List Int))(a:(List Int)):Option Y6:=(Ag (!(decide ((Int.tmod (List.length a:Int) 64)=56))) (Ag (A8 ((List.length a)+1) (Ty.int IntKind.u8)) (e (b,c,(List.append a [0]),())) none) (L _ _ (fun z x=>Aiq L d z x.1 x.2.1 x.2.2.1 x.2.2.2.1) (c,a,(IntKind.wrap .u64 ((IntKind.wrap .u64 (List.length b:Int))*8)),7,())))
def Awz(L:Af)(b:Aat)(a:(List Int)):Option Y6:=(Ag (A8 (0+(List.length a)) (Ty.int IntKind.u8)) (Ag (A8 ((List.length a)+1) (Ty.int IntKind.u8)) (L _ _ (fun z x=>Aul L b z x.1 x.2.1 x.2.2.1) (a,(List.replicate 32 0),(List.append a [128]),())) none) none)
def M5:Aph:=fun x=>Awz Ac Od x.1
abbrev Ar3:B4:=⟨[V3],[(.ro true W3)]⟩
abbrev Azm:=Y4→Option Y6
def Aqw(L:Af)(b:Aph)(a:(List Int)):Option Y6:=(Ag (A8 (1+(List.length a)) (Ty.int IntKind.u8)) ((b ((List.append [0] a),())).bind fun c=>some ((c.1.1,()),(),())) none)
def Acn:Azm:=fun x=>Aqw Ac M5 x.1
abbrev Aew:B4:=⟨[(.ro true W3),(.ro true W3)],[(.ro true W3)]⟩
abbrev Ayp:=Y37→Option Y11
def Az8(L:Af)(d:Aph)(e:(List Int))(f:(List Int)):Option Y11:=(A4 (List.take ((32:Nat)-(0:Nat)) (List.drop 0 e)) fun a=>A4 (List.take ((32:Nat)-(0:Nat)) (List.drop 0 f)) fun b=>A4 (List.append [1] a) fun c=>Ag (A8 (1+(List.length a)) (Ty.int IntKind.u8)) (Ag (A8 ((List.length c)+(List.length b)) (Ty.int IntKind.u8)) ((d ((List.append c b),())).bind fun g=>some ((g.1.1,()),(),(),())) none) none)
def Ry:Ayp:=fun x=>Az8 Ac M5 x.1 x.2.1
set_option maxRecDepth 100000
abbrev Hq:B4:=⟨[Bv],[Bv]⟩
abbrev X6:=(Int×Unit)→Option Y14
def Ae2(c:Y3→Option Y14)(b:Int)(a:Int):Option Y14:=(Ag (decide (a<(IntKind.wrap .i64 (b-a)))) (c (b,(IntKind.wrap .i64 (2*a)),())) (some ((a,()),(),())))
def Agf(L:Af)(a:Int):Option Y14:=(L _ _ (fun z x=>Ae2 z x.1 x.2.1) (a,1,()))
def Ex:X6:=fun x=>Agf Ac x.1
abbrev Lb:B4:=⟨[V40],[(.ro true W3)]⟩
abbrev Wp:=(Y1×Unit)→Option Y6
def As0(L:Af)(e:Aph)(f:X6)(d:Wp)(g:Ayp)(b:Y1):Option Y6:=(A4 (List.length b:Int) fun c=>Ag (decide (c=0)) ((e ([],())).bind fun h=>some ((h.1.1,()),(),())) (Ag (decide (c=1)) (Ag (Cj 0 (List.length b)) (some (((List.getD b 0 (List.replicate 32 0)),()),(),())) none) ((f (c,())).bind fun a=>Ag ((decide (0≤a.1.1))&&(decide (a.1.1≤c))) ((d ((List.take ((Int.toNat a.1.1)-0) (List.drop 0 b)),())).bind fun i=>Ag ((decide (0≤a.1.1))&&(decide (a.1.1≤c))) ((d ((List.take ((List.length b)-(Int.toNat a.1.1)) (List.drop (Int.toNat a.1.1) b)),())).bind fun j=>(g (i.1.1,j.1.1,())).bind fun k=>some ((k.1.1,()),(),())) none) none)))
def Nt:Nat→Wp|0=>fun _=>none|n+1=>fun x=>As0 Ac M5 Ex (Nt n) Ry x.1
def Ml:Wp:=Nt Bkh
abbrev U6:B4:=⟨[V40,Bv],[V1]⟩
abbrev Afu:=(Y1×Int×Unit)→Option Y48
def Avh(L:Af)(k:X6)(e:Afu)(f:Wp)(c:Y1)(d:Int):Option Y48:=(A4 (List.length c:Int) fun b=>A4 (List.drop 0 c) fun l=>Ag (decide (b<2)) (some (([],()),(),(),())) ((k (b,())).bind fun a=>A4 (List.take ((Int.toNat a.1.1)-0) l) fun g=>A4 (List.take ((List.length c)-(Int.toNat a.1.1)) (List.drop (Int.toNat a.1.1) c)) fun h=>Ag (decide (d<a.1.1)) (Ag ((decide (0≤a.1.1))&&(decide (a.1.1≤b))) ((e (g,d,())).bind fun i=>Ag ((decide (0≤a.1.1))&&(decide (a.1.1≤b))) ((f (h,())).bind fun m=>Ag (A8 ((List.length i.1.1)+1) (Ty.arr 32 (Ty.int IntKind.u8))) (some (((List.append i.1.1 [m.1.1]),()),(),(),())) none) none) none) (Ag ((decide (0≤a.1.1))&&(decide (a.1.1≤b))) ((e (h,(IntKind.wrap .i64 (d-a.1.1)),())).bind fun j=>Ag ((decide (0≤a.1.1))&&(decide (a.1.1≤b))) ((f (g,())).bind fun n=>Ag (A8 ((List.length j.1.1)+1) (Ty.arr 32 (Ty.int IntKind.u8))) (some (((List.append j.1.1 [n.1.1]),()),(),(),())) none) none) none)))
def Pv:Nat→Afu|0=>fun _=>none|n+1=>fun x=>Avh Ac Ex (Pv n) Ml x.1 x.2.1
def Zu:Afu:=Pv Bkh
abbrev Ah7:B4:=⟨[Bv,Bv,(.ro true W3),V40],[(.ro true W3),V24]⟩
abbrev At3:=Y57→Option Y65
def Bih(L:Af)(m:X6)(h:At3)(i:Ayp)(f:Int)(g:Int)(d:(List Int))(b:Y1):Option Y65:=(A4 (List.length b:Int) fun c=>A4 (IntKind.wrap .i64 (c-1)) fun a=>A4 (List.getD b (Int.toNat a) (List.replicate 32 0)) fun j=>Ag (decide (f=1)) (some ((d,(decide (c=0)),()),(),(),(),(),())) (Ag (decide (c=0)) (some ((d,false,()),(),(),(),(),())) (Ag (Cj a (List.length b)) ((m (f,())).bind fun e=>Ag (decide (g<e.1.1)) (Ag ((decide (0≤a))&&(decide (a≤c))) ((h (e.1.1,g,d,(List.take ((Int.toNat a)-0) (List.drop 0 b)),())).bind fun k=>(i (k.1.1,j,())).bind fun n=>some ((n.1.1,k.1.2.1,()),(),(),(),(),())) none) (Ag ((decide (0≤a))&&(decide (a≤c))) ((h ((IntKind.wrap .i64 (f-e.1.1)),(IntKind.wrap .i64 (g-e.1.1)),d,(List.take ((Int.toNat a)-0) (List.drop 0 b)),())).bind fun l=>(i (j,l.1.1,())).bind fun o=>some ((o.1.1,l.1.2.1,()),(),(),(),(),())) none)) none)))
def Aa1:Nat→At3|0=>fun _=>none|n+1=>fun x=>Bih Ac Ex (Aa1 n) Ry x.1 x.2.1 x.2.2.1 x.2.2.2.1
def Alg:At3:=Aa1 Bkh
abbrev Ajb:B4:=⟨[(.ro true W3),Bv,Bv,(.ro true W3),V40],[V24]⟩
abbrev Atj:=Y83→Option Y93
def Ajx(L:Af)(e:At3)(f:(List Int))(b:Int)(a:Int)(g:(List Int))(c:Y1):Option Y93:=(Ag (decide (a<0)) (some ((false,()),(),(),(),(),(),())) (Ag (decide (a≥b)) (some ((false,()),(),(),(),(),(),())) (Ag (decide ((List.length c:Int)>64)) (some ((false,()),(),(),(),(),(),())) ((e (b,a,g,c,())).bind fun d=>Ag d.1.2.1 (some (((Yu (Ty.arr 32 (Ty.int IntKind.u8)) d.1.1 f),()),(),(),(),(),(),())) (some ((false,()),(),(),(),(),(),()))))))
def Pw:Atj:=fun x=>Ajx Ac Alg x.1 x.2.1 x.2.2.1 x.2.2.2.1 x.2.2.2.2.1
set_option maxRecDepth 100000
abbrev Afh:B4:=⟨[V7],[V32]⟩
abbrev Apr:=(Y18×Unit)→Option Y6
def Agh(L:Af)(b:Abu)(c:Qj)(a:Y18):Option Y6:=((b ([],a.1,())).bind fun d=>(b (d.1.1,a.2.1,())).bind fun e=>(c (e.1.1,a.2.2.1,())).bind fun f=>some ((f.1.1,()),(),()))
def Tw:Apr:=fun x=>Agh Ac Ki Fm x.1
abbrev Aam:B4:=⟨[V7],[(.ro true W3)]⟩
abbrev Afj:=(Y18×Unit)→Option Y6
def Anl(L:Af)(a:Apr)(b:Azm)(c:Y18):Option Y6:=((a (c,())).bind fun d=>(b (d.1.1,())).bind fun e=>some ((e.1.1,()),(),()))
def N0:Afj:=fun x=>Anl Ac Tw Acn x.1
abbrev Tn:B4:=⟨[V44,Bv],[V1]⟩
abbrev Agv:=((List Y18)×Int×Unit)→Option Y48
def Ak8(e:Afj)(f:((List Y18)×Int×Y1×Int×Unit)→Option Y48)(b:(List Y18))(d:Int)(c:Y1)(a:Int):Option Y48:=(Ag (decide (a<d)) (Ag (Cj a (List.length b)) ((e ((List.getD b (Int.toNat a) (0,0,[0,0,0,0],())),())).bind fun g=>Ag (A8 ((List.length c)+1) (Ty.arr 32 (Ty.int IntKind.u8))) (f (b,d,(List.append c [g.1.1]),(IntKind.wrap .i64 (a+1)),())) none) none) (some ((c,()),(),(),())))
def Af9(L:Af)(a:Afj)(b:(List Y18))(c:Int):Option Y48:=(L _ _ (fun z x=>Ak8 a z x.1 x.2.1 x.2.2.1 x.2.2.2.1) (b,c,[],0,()))
def Ks:Agv:=fun x=>Af9 Ac N0 x.1 x.2.1
abbrev Aj5:B4:=⟨[V44,Bv,Bv],[V1,V24]⟩
abbrev Ath:=((List Y18)×Int×Int×Unit)→Option Y81
def Akp(L:Af)(d:Agv)(e:Afu)(c:(List Y18))(a:Int)(b:Int):Option Y81:=(Ag (decide (a<0)) (some (([],false,()),(),(),(),())) (Ag (decide (a≥b)) (some (([],false,()),(),(),(),())) (Ag (decide (b>(List.length c:Int))) (some (([],false,()),(),(),(),())) ((d (c,b,())).bind fun f=>(e (f.1.1,a,())).bind fun g=>some ((g.1.1,true,()),(),(),(),())))))
def Wj:Ath:=fun x=>Akp Ac Ks Zu x.1 x.2.1 x.2.2.1
abbrev Ana:B4:=⟨[V44,Bv],[(.ro true W3),V24]⟩
abbrev Av0:=((List Y18)×Int×Unit)→Option (Y12×Unit×Unit×Unit)
def An8(L:Af)(c:Agv)(d:Wp)(b:(List Y18))(a:Int):Option (Y12×Unit×Unit×Unit):=(Ag (decide (a<0)) (some (((List.replicate 32 0),false,()),(),(),())) (Ag (decide (a>(List.length b:Int))) (some (((List.replicate 32 0),false,()),(),(),())) ((c (b,a,())).bind fun e=>(d (e.1.1,())).bind fun f=>some ((f.1.1,true,()),(),(),()))))
def Zr:Av0:=fun x=>An8 Ac Ks Ml x.1 x.2.1
set_option maxRecDepth 100000
abbrev Add:B4:=⟨[],[V11]⟩
abbrev Ami:=Unit→Option ((Pk×Unit)×Unit)
def Ame(L:Af):Option ((Pk×Unit)×Unit):=(some (((7000000,10,102,[100000000,0,0,0],32000000,[60000000,0,0,0],1000,[10,0,0,0],160000000,10,16,65536,()),()),()))
def X5:Ami:=fun x=>Ame Ac
abbrev Awj:B4:=⟨[Ir,Ir,Ir],[V24]⟩
abbrev Bcl:=Y7→Option Y73
def Avx(L:Af)(a:Int)(b:Int)(c:Int):Option Y73:=(Ag (decide (a≥b)) (some (((decide (a≤c)),()),(),(),(),())) (some ((false,()),(),(),(),())))
def Ag5:Bcl:=fun x=>Avx Ac x.1 x.2.1 x.2.2.1
abbrev Ac9:B4:=⟨[(.ro true W4),Ir],[V24]⟩
abbrev Ama:=Y8→Option Y55
def Adb(L:Af)(b:Wo)(c:(List Int))(d:Int):Option Y55:=((b (c,())).bind fun a=>Ag a.1.2.1 (some (((decide (a.1.1≥d)),()),(),(),())) (some ((false,()),(),(),())))
def Re:Ama:=fun x=>Adb Ac G8 x.1 x.2.1
abbrev Qe:B4:=⟨[V11],[Bv]⟩
abbrev Yy:=(Pk×Unit)→Option Y14
def N6(d:((List Bool)×Int×Unit)→Option Y14)(b:(List Bool))(a:Int):Option Y14:=(A4 (IntKind.wrap .i64 (a+1)) fun c=>Ag (decide (a<12)) (Ag (Cj a 12) (Ag (!(List.getD b (Int.toNat a) false)) (some ((c,()),(),())) (d (b,c,()))) none) (some ((0,()),(),())))
def Qf(L:Af)(b:Bcl)(c:Ama)(a:Pk):Option Y14:=((b (a.1,1,1099511627776,())).bind fun d=>(b (a.2.1,0,1048576,())).bind fun e=>(b (a.2.2.1,1,1048576,())).bind fun f=>(c (a.2.2.2.1,1,())).bind fun g=>(b (a.2.2.2.2.1,1,1099511627776,())).bind fun h=>(c (a.2.2.2.2.2.1,0,())).bind fun i=>(b (a.2.2.2.2.2.2.1,0,10000,())).bind fun j=>(c (a.2.2.2.2.2.2.2.1,0,())).bind fun k=>(b (a.2.2.2.2.2.2.2.2.1,1,1099511627776,())).bind fun l=>(b (a.2.2.2.2.2.2.2.2.2.1,1,1048576,())).bind fun m=>(b (a.2.2.2.2.2.2.2.2.2.2.1,0,1048576,())).bind fun n=>(b (a.2.2.2.2.2.2.2.2.2.2.2.1,a.2.2.2.2.2.2.2.2.2.2.1,16777216,())).bind fun o=>L _ _ (fun z x=>N6 z x.1 x.2.1) ([d.1.1,e.1.1,f.1.1,g.1.1,h.1.1,i.1.1,j.1.1,k.1.1,l.1.1,m.1.1,n.1.1,o.1.1],0,()))
def Ng:Yy:=fun x=>Qf Ac Ag5 Re x.1
abbrev Fc:B4:=⟨[V11],[V24]⟩
abbrev Lc:=(Pk×Unit)→Option Y15
def Aja(L:Af)(a:Yy)(b:Pk):Option Y15:=((a (b,())).bind fun c=>some (((decide (c.1.1=0)),()),(),()))
def C9:Lc:=fun x=>Aja Ac Ng x.1
abbrev Arx:B4:=⟨[V11],[(.ro true (.arr 12 W4))]⟩
abbrev Az1:=(Pk×Unit)→Option ((Y1×Unit)×Unit×Unit)
def Aq6(L:Af)(a:Pk):Option ((Y1×Unit)×Unit×Unit):=(some (([[a.1,0,0,0],[a.2.1,0,0,0],[a.2.2.1,0,0,0],a.2.2.2.1,[a.2.2.2.2.1,0,0,0],a.2.2.2.2.2.1,[a.2.2.2.2.2.2.1,0,0,0],a.2.2.2.2.2.2.2.1,[a.2.2.2.2.2.2.2.2.1,0,0,0],[a.2.2.2.2.2.2.2.2.2.1,0,0,0],[a.2.2.2.2.2.2.2.2.2.2.1,0,0,0],[a.2.2.2.2.2.2.2.2.2.2.2.1,0,0,0]],()),(),()))
def Aje:Az1:=fun x=>Aq6 Ac x.1
abbrev Ard:B4:=⟨[V11,Bv,(.ro true W4)],[V11,Bv]⟩
abbrev Ayh:=(Pk×Int×(List Int)×Unit)→Option Cjq
def Ag7(c:Wo)(d:Lc)(e:(Pk×Y1×Int×Unit)→Option Cjq)(f:Pk)(a:Y1)(b:Int):Option Cjq:=(Ag (decide (b<12)) (Ag (Cj b 12) ((c ((List.getD a (Int.toNat b) [0,0,0,0]),())).bind fun g=>Ag (!g.1.2.1) (some (((0,0,0,[0,0,0,0],0,[0,0,0,0],0,[0,0,0,0],0,0,0,0,()),15,()),(),(),(),())) (e (f,a,(IntKind.wrap .i64 (b+1)),()))) none) ((d (((List.getD (List.getD a 0 [0,0,0,0]) 0 0),(List.getD (List.getD a 1 [0,0,0,0]) 0 0),(List.getD (List.getD a 2 [0,0,0,0]) 0 0),(List.getD a 3 [0,0,0,0]),(List.getD (List.getD a 4 [0,0,0,0]) 0 0),(List.getD a 5 [0,0,0,0]),(List.getD (List.getD a 6 [0,0,0,0]) 0 0),(List.getD a 7 [0,0,0,0]),(List.getD (List.getD a 8 [0,0,0,0]) 0 0),(List.getD (List.getD a 9 [0,0,0,0]) 0 0),(List.getD (List.getD a 10 [0,0,0,0]) 0 0),(List.getD (List.getD a 11 [0,0,0,0]) 0 0),()),())).bind fun h=>Ag (!h.1.1) (some (((0,0,0,[0,0,0,0],0,[0,0,0,0],0,[0,0,0,0],0,0,0,0,()),15,()),(),(),(),())) (some ((((List.getD (List.getD a 0 [0,0,0,0]) 0 0),(List.getD (List.getD a 1 [0,0,0,0]) 0 0),(List.getD (List.getD a 2 [0,0,0,0]) 0 0),(List.getD a 3 [0,0,0,0]),(List.getD (List.getD a 4 [0,0,0,0]) 0 0),(List.getD a 5 [0,0,0,0]),(List.getD (List.getD a 6 [0,0,0,0]) 0 0),(List.getD a 7 [0,0,0,0]),(List.getD (List.getD a 8 [0,0,0,0]) 0 0),(List.getD (List.getD a 9 [0,0,0,0]) 0 0),(List.getD (List.getD a 10 [0,0,0,0]) 0 0),(List.getD (List.getD a 11 [0,0,0,0]) 0 0),()),0,()),(),(),(),()))))
def Asf(L:Af)(b:Lc)(e:Az1)(f:Wo)(c:Pk)(a:Int)(g:(List Int)):Option Cjq:=(A4 (IntKind.wrap .i64 (a-1)) fun d=>Ag (decide (a<1)) (some (((0,0,0,[0,0,0,0],0,[0,0,0,0],0,[0,0,0,0],0,0,0,0,()),17,()),(),(),(),())) (Ag (decide (a>12)) (some (((0,0,0,[0,0,0,0],0,[0,0,0,0],0,[0,0,0,0],0,0,0,0,()),17,()),(),(),(),())) ((b (c,())).bind fun h=>Ag (!h.1.1) (some (((0,0,0,[0,0,0,0],0,[0,0,0,0],0,[0,0,0,0],0,0,0,0,()),15,()),(),(),(),())) ((e (c,())).bind fun i=>Ag (Cj d 12) (L _ _ (fun z x=>Ag7 f b z x.1 x.2.1 x.2.2.1) ((0,0,0,[0,0,0,0],0,[0,0,0,0],0,[0,0,0,0],0,0,0,0,()),(List.set i.1.1 (Int.toNat d) g),0,())) none))))
def Acj:Ayh:=fun x=>Asf Ac C9 Aje G8 x.1 x.2.1 x.2.2.1
set_option maxRecDepth 100000
abbrev Abc:B4:=⟨[Ir,Ir,Ir],[Ir]⟩
abbrev Aog:=Y7→Option Y71
def Ant(L:Af)(a:Cm)(d:Jo)(e:Jf)(f:Kl)(g:B6)(h:Int)(i:Int)(j:Int):Option Y71:=((a (h,())).bind fun b=>(a (i,())).bind fun k=>(a (j,())).bind fun l=>(d (k.1.1,l.1.1,())).bind fun c=>(e (b.1.1,c.1.1,())).bind fun m=>Ag (decide (m.1.1≤0)) (some ((0,()),(),(),(),())) ((f (b.1.1,c.1.1,())).bind fun n=>(g (n.1.1,())).bind fun o=>some (((List.getD o.1.1 0 0),()),(),(),(),())))
def Ob:Aog:=fun x=>Ant Ac A0 Cg Cv Do Ax x.1 x.2.1 x.2.2.1
abbrev Ago:B4:=⟨[Ir,Ir,Ir],[Ir]⟩
abbrev Ap6:=Y7→Option Y71
def Afq(L:Af)(a:Aog)(b:Int)(c:Int)(d:Int):Option Y71:=((a (b,c,d,())).bind fun e=>some ((e.1.1,()),(),(),(),()))
def Td:Ap6:=fun x=>Afq Ac Ob x.1 x.2.1 x.2.2.1
abbrev Ar2:B4:=⟨[Ir,Ir],[Ir]⟩
abbrev Ayo:=Y3→Option Y53
def Arg(L:Af)(a:Cm)(c:Dd)(d:B6)(e:Wo)(f:Int)(g:Int):Option Y53:=((a (f,())).bind fun h=>(a (g,())).bind fun i=>(c (h.1.1,i.1.1,())).bind fun j=>(d (j.1.1,())).bind fun k=>(e (k.1.1,())).bind fun b=>Ag (!b.1.2.1) (some ((18446744073709551615,()),(),(),())) (some ((b.1.1,()),(),(),())))
def Ab9:Ayo:=fun x=>Arg Ac A0 Bh Ax G8 x.1 x.2.1
abbrev Aj1:B4:=⟨[Ir,Ir,Ir],[Ir]⟩
abbrev Asr:=Y7→Option Y71
def Ai7(L:Af)(a:Aog)(b:Int)(c:Int)(d:Int):Option Y71:=((a (b,c,d,())).bind fun e=>some ((e.1.1,()),(),(),(),()))
def Wa:Asr:=fun x=>Ai7 Ac Ob x.1 x.2.1 x.2.2.1
set_option maxRecDepth 100000
abbrev Avz:B4:=⟨[Ir,Bv],[Ir,Bv]⟩
abbrev Bcz:=Y3→Option Y10
def Auq(a:Cm)(c:Jo)(f:Oh)(g:Dd)(h:B6)(i:Y17→Option Y10)(d:Int)(e:(List Int))(b:Int):Option Y10:=(Ag (decide (b≥1)) ((a (d,())).bind fun j=>(c (e,j.1.1,())).bind fun k=>(a ((IntKind.wrap .u64 b),())).bind fun l=>(a (10000,())).bind fun m=>(c (l.1.1,m.1.1,())).bind fun n=>(f (k.1.1,n.1.1,())).bind fun o=>(a (10000,())).bind fun p=>(g (p.1.1,o.1.1,())).bind fun q=>i (d,q.1.1,(IntKind.wrap .i64 (b-1)),())) ((h (e,())).bind fun r=>some (((List.getD r.1.1 0 0),0,()),(),(),())))
def Avr(L:Af)(b:Cm)(d:Jo)(e:Oh)(f:Dd)(g:B6)(c:Int)(a:Int):Option Y10:=(Ag (decide (c>200000)) (some ((0,2,()),(),(),())) (Ag (decide (a<1)) (some ((0,2,()),(),(),())) (Ag (decide (a>20)) (some ((0,2,()),(),(),())) ((b (10000,())).bind fun h=>L _ _ (fun z x=>Auq b d e f g z x.1 x.2.1 x.2.2.1) (c,h.1.1,a,())))))
def Agq:Bcz:=fun x=>Avr Ac A0 Cg Dq Bh Ax x.1 x.2.1
abbrev Ano:B4:=⟨[(.ro true W4),Ir],[(.ro true W4),Bv]⟩
abbrev Avv:=Y8→Option Y29
def Aoi(L:Af)(c:Az)(a:Cm)(d:Jo)(e:Oh)(f:Fs)(g:(List Int))(h:Int):Option Y29:=((c (g,())).bind fun i=>(a (h,())).bind fun j=>(d (i.1.1,j.1.1,())).bind fun k=>(a (10000,())).bind fun l=>(e (k.1.1,l.1.1,())).bind fun m=>(f (m.1.1,())).bind fun b=>some ((b.1.1,b.1.2.1,()),(),(),()))
def Z5:Avv:=fun x=>Aoi Ac Ah A0 Cg Dq B5 x.1 x.2.1
abbrev Adr:B4:=⟨[(.ro true W4),Ir,Bv],[(.ro true W4),Bv]⟩
abbrev Amd:=Y16→Option Y41
def Adc(L:Af)(c:Bcz)(d:Avv)(e:(List Int))(f:Int)(g:Int):Option Y41:=((c (f,g,())).bind fun a=>Ag (!(decide (a.1.2.1=0))) (some (([0,0,0,0],a.1.2.1,()),(),(),(),())) ((d (e,a.1.1,())).bind fun b=>some ((b.1.1,b.1.2.1,()),(),(),(),())))
def Rg:Amd:=fun x=>Adc Ac Agq Z5 x.1 x.2.1 x.2.2.1
set_option maxRecDepth 100000
abbrev Aa4:B4:=⟨[Ir,V11],[Ir,Bv]⟩
abbrev Aib:=(Int×Pk×Unit)→Option Y10
def Aau(L:Af)(d:Lc)(e:Ap6)(a:Cm)(c:Jo)(f:Oh)(g:Aae)(h:B6)(i:Int)(b:Pk):Option Y10:=((d (b,())).bind fun j=>Ag (!j.1.1) (some ((0,15,()),(),(),())) ((e (i,b.1,b.2.1,())).bind fun k=>(a (k.1.1,())).bind fun l=>(a (10000,())).bind fun m=>(c (l.1.1,m.1.1,())).bind fun n=>(a (b.2.2.1,())).bind fun o=>(a (b.1,())).bind fun p=>(c (o.1.1,p.1.1,())).bind fun q=>(f (n.1.1,q.1.1,())).bind fun r=>(a (200000,())).bind fun s=>(g (r.1.1,s.1.1,())).bind fun t=>(h (t.1.1,())).bind fun u=>some (((List.getD u.1.1 0 0),0,()),(),(),())))
def Ko:Aib:=fun x=>Aau Ac C9 Td A0 Cg Dq Hc Ax x.1 x.2.1
abbrev Aek:B4:=⟨[Ir,V11],[(.ro true W4),Bv]⟩
abbrev Are:=(Int×Pk×Unit)→Option Y29
def Aq1(L:Af)(d:Aib)(e:Amd)(f:Int)(b:Pk):Option Y29:=((d (f,b,())).bind fun a=>Ag (!(decide (a.1.2.1=0))) (some (([0,0,0,0],a.1.2.1,()),(),(),())) ((e (b.2.2.2.1,a.1.1,10,())).bind fun c=>some ((c.1.1,c.1.2.1,()),(),(),())))
def Nn:Are:=fun x=>Aq1 Ac Ko Rg x.1 x.2.1
set_option maxRecDepth 100000
abbrev Acu:B4:=⟨[V11],[V8,Bv]⟩
abbrev Aly:=(Pk×Unit)→Option (Y64×Unit×Unit)
def Ac1(L:Af)(b:Are)(c:Pk):Option (Y64×Unit×Unit):=((b (0,c,())).bind fun a=>Ag (!(decide (a.1.2.1=0))) (some (((0,0,0,[0,0,0,0],()),a.1.2.1,()),(),())) (some (((1,0,0,a.1.1,()),0,()),(),())))
def Rd:Aly:=fun x=>Ac1 Ac Nn x.1
abbrev Qb:B4:=⟨[V8,V11],[Ir]⟩
abbrev Zp:=(Y59×Pk×Unit)→Option Y53
def Qo(L:Af)(a:Y59)(b:Pk):Option Y53:=(Ag (decide (a.2.2.1>b.2.2.2.2.1)) (some ((0,()),(),(),())) (some (((IntKind.wrap .u64 (b.2.2.2.2.1-a.2.2.1)),()),(),(),())))
def Jg:Zp:=fun x=>Qo Ac x.1 x.2.1
abbrev Anu:B4:=⟨[V8,Ir,Ir,V11],[V8,Bv]⟩
abbrev Avo:=(Y59×Int×Int×Pk×Unit)→Option Y67
def Aod(L:Af)(f:Are)(a:Y59)(b:Int)(g:Int)(h:Pk):Option Y67:=(A4 (IntKind.wrap .u64 (a.1+1)) fun d=>A4 (IntKind.wrap .u64 (a.2.1+b)) fun e=>Ag (decide (b<1)) (some (((0,0,0,[0,0,0,0],()),2,()),(),(),(),(),())) (Ag (decide (b>1048576)) (some (((0,0,0,[0,0,0,0],()),2,()),(),(),(),(),())) ((f (g,h,())).bind fun c=>Ag (!(decide (c.1.2.1=0))) (some (((0,0,0,[0,0,0,0],()),c.1.2.1,()),(),(),(),(),())) (Ag (decide (d=0)) (some (((0,0,0,[0,0,0,0],()),4,()),(),(),(),(),())) (Ag (decide (e<a.2.1)) (some (((0,0,0,[0,0,0,0],()),4,()),(),(),(),(),())) (some (((d,e,0,c.1.1,()),0,()),(),(),(),(),())))))))
def Z3:Avo:=fun x=>Aod Ac Nn x.1 x.2.1 x.2.2.1 x.2.2.2.1
set_option maxRecDepth 100000
abbrev S2:B4:=⟨[(.ro true W46)],[V24]⟩
abbrev Ss:=(Y97×Unit)→Option Y15
def Sq(L:Af)(b:Az)(c:Dd)(d:Jf)(e:Fx)(a:Y97):Option Y15:=((b (a.2.1,())).bind fun f=>(b (a.2.2.2.2.1,())).bind fun g=>(c (f.1.1,g.1.1,())).bind fun h=>(b (a.2.2.1,())).bind fun i=>(b (a.2.2.2.1,())).bind fun j=>(c (i.1.1,j.1.1,())).bind fun k=>Ag (!(decide (a.1=0))) ((d (h.1.1,k.1.1,())).bind fun l=>Ag (decide (l.1.1=0)) ((e (a.2.1,())).bind fun m=>some (((Yu (Ty.bool) (decide (a.2.2.2.2.2.1=(0:Int))) m.1.1),()),(),())) (some ((false,()),(),()))) (some ((false,()),(),())))
def Kh:Ss:=fun x=>Sq Ac Ah Bh Cv Bs x.1
abbrev Fb:B4:=⟨[V46],[V24]⟩
abbrev Nk:=Y98→Option Y15
def Amx(f:Ss)(d:Y99→Option Y15)(b:(List Y97))(a:Int):Option Y15:=(A4 (IntKind.wrap .i64 (a-1)) fun e=>A4 (List.length b) fun c=>Ag (decide (a<((c:Nat):Int))) (Ag (Cj a c) ((f ((List.getD b (Int.toNat a) (0,[0,0,0,0],[0,0,0,0],[0,0,0,0],[0,0,0,0],0,())),())).bind fun g=>Ag (!g.1.1) (some ((false,()),(),())) (Ag (decide (a>0)) (Ag (Cj a c) (Ag (Cj e c) (Ag (decide ((List.getD b (Int.toNat a) (Ty.zero Dt)).1≤(List.getD b (Int.toNat e) (Ty.zero Dt)).1)) (some ((false,()),(),())) (d (b,(IntKind.wrap .i64 (a+1)),()))) none) none) (d (b,(IntKind.wrap .i64 (a+1)),())))) none) (some ((true,()),(),())))
def Aj8(L:Af)(b:Ss)(a:(List Y97)):Option Y15:=(Ag (decide ((List.length a:Int)>64)) (some ((false,()),(),())) (L _ _ (fun z x=>Amx b z x.1 x.2.1) (a,0,())))
def Dh:Nk:=fun x=>Aj8 Ac Kh x.1
abbrev K6:B4:=⟨[V46,Ir],[Bv]⟩
abbrev Aah:=Y99→Option Y53
def Ao9(e:((List Y97)×Int×Int×Unit)→Option Y53)(b:(List Y97))(c:Int)(a:Int):Option Y53:=(A4 (List.length b) fun d=>Ag (decide (a<((d:Nat):Int))) (Ag (Cj a d) (Ag (decide ((List.getD b (Int.toNat a) (Ty.zero Dt)).1=c)) (some ((a,()),(),(),())) (e (b,c,(IntKind.wrap .i64 (a+1)),()))) none) (some (((-1:Int),()),(),(),())))
def Am6(L:Af)(a:(List Y97))(b:Int):Option Y53:=(L _ _ (fun z x=>Ao9 z x.1 x.2.1 x.2.2.1) (a,b,0,()))
def G0:Aah:=fun x=>Am6 Ac x.1 x.2.1
abbrev Agy:B4:=⟨[V46,Ir,(.ro true W4),(.ro true W4),Ir],[V15,Bv]⟩
abbrev Ao1:=Cpv→Option Cky
def S5(L:Af)(a0:Nk)(a1:Aah)(g:Az)(n:Dd)(q:Qu)(a2:Fx)(f:B6)(h:(List Y97))(a3:Int)(s:(List Int))(t:(List Int))(r:Int):Option Cky:=(A4 (List.length h) fun u=>A4 (List.append (List.replicate 0 (Ty.zero Dt)) h) fun b=>(a0 (h,())).bind fun a4=>Ag (!a4.1.1) (some (([],2,()),(),(),(),(),(),())) (Ag (decide (r=0)) (some (([],2,()),(),(),(),(),(),())) ((a1 (h,a3,())).bind fun a=>A4 (List.set b (Int.toNat a.1.1) ((List.getD b (Int.toNat a.1.1) (Ty.zero Dt)).1,(List.getD b (Int.toNat a.1.1) (Ty.zero Dt)).2.1,(List.getD b (Int.toNat a.1.1) (Ty.zero Dt)).2.2.1,(List.getD b (Int.toNat a.1.1) (Ty.zero Dt)).2.2.2.1,(List.getD b (Int.toNat a.1.1) (Ty.zero Dt)).2.2.2.2.1,r,(List.getD b (Int.toNat a.1.1) (Ty.zero Dt)).2.2.2.2.2.2)) fun i=>Ag (decide (a.1.1<0)) (some (([],8,()),(),(),(),(),(),())) (Ag (A8 (0+u) Dt) (Ag (Cj a.1.1 u) ((g ((List.getD b (Int.toNat a.1.1) (Ty.zero Dt)).2.1,())).bind fun a5=>(g (s,())).bind fun a6=>(g (t,())).bind fun a7=>(n (a6.1.1,a7.1.1,())).bind fun a8=>(n (a5.1.1,a8.1.1,())).bind fun j=>(g ((List.getD b (Int.toNat a.1.1) (Ty.zero Dt)).2.2.1,())).bind fun a9=>(g (s,())).bind fun b0=>(n (a9.1.1,b0.1.1,())).bind fun o=>(g ((List.getD b (Int.toNat a.1.1) (Ty.zero Dt)).2.2.2.1,())).bind fun b1=>(g (t,())).bind fun b2=>(n (b1.1.1,b2.1.1,())).bind fun p=>(q (j.1.1,())).bind fun b3=>Ag (!b3.1.1) (some (([],4,()),(),(),(),(),(),())) ((q (o.1.1,())).bind fun b4=>Ag (!b4.1.1) (some (([],4,()),(),(),(),(),(),())) ((q (p.1.1,())).bind fun b5=>Ag (!b5.1.1) (some (([],4,()),(),(),(),(),(),())) ((a2 ((List.getD b (Int.toNat a.1.1) (Ty.zero Dt)).2.1,())).bind fun b6=>Ag b6.1.1 (Ag (decide ((List.length j.1.1:Int)>0)) ((f (j.1.1,())).bind fun v=>A4 (List.set i (Int.toNat a.1.1) ((List.getD i (Int.toNat a.1.1) (Ty.zero Dt)).1,v.1.1,(List.getD i (Int.toNat a.1.1) (Ty.zero Dt)).2.2)) fun c=>(f (o.1.1,())).bind fun k=>(f (p.1.1,())).bind fun b7=>some (((List.set (List.set (List.set (List.set h (Int.toNat a.1.1) ((List.getD b (Int.toNat a.1.1) (Ty.zero Dt)).1,(List.getD b (Int.toNat a.1.1) (Ty.zero Dt)).2.1,(List.getD b (Int.toNat a.1.1) (Ty.zero Dt)).2.2.1,(List.getD b (Int.toNat a.1.1) (Ty.zero Dt)).2.2.2.1,(List.getD b (Int.toNat a.1.1) (Ty.zero Dt)).2.2.2.2.1,r,(List.getD b (Int.toNat a.1.1) (Ty.zero Dt)).2.2.2.2.2.2)) (Int.toNat a.1.1) ((List.getD i (Int.toNat a.1.1) (Ty.zero Dt)).1,v.1.1,(List.getD i (Int.toNat a.1.1) (Ty.zero Dt)).2.2)) (Int.toNat a.1.1) ((List.getD c (Int.toNat a.1.1) (Ty.zero Dt)).1,(List.getD c (Int.toNat a.1.1) (Ty.zero Dt)).2.1,k.1.1,(List.getD c (Int.toNat a.1.1) (Ty.zero Dt)).2.2.2)) (Int.toNat a.1.1) ((List.getD (List.set c (Int.toNat a.1.1) ((List.getD c (Int.toNat a.1.1) (Ty.zero Dt)).1,(List.getD c (Int.toNat a.1.1) (Ty.zero Dt)).2.1,k.1.1,(List.getD c (Int.toNat a.1.1) (Ty.zero Dt)).2.2.2)) (Int.toNat a.1.1) (Ty.zero Dt)).1,(List.getD (List.set c (Int.toNat a.1.1) ((List.getD c (Int.toNat a.1.1) (Ty.zero Dt)).1,(List.getD c (Int.toNat a.1.1) (Ty.zero Dt)).2.1,k.1.1,(List.getD c (Int.toNat a.1.1) (Ty.zero Dt)).2.2.2)) (Int.toNat a.1.1) (Ty.zero Dt)).2.1,(List.getD (List.set c (Int.toNat a.1.1) ((List.getD c (Int.toNat a.1.1) (Ty.zero Dt)).1,(List.getD c (Int.toNat a.1.1) (Ty.zero Dt)).2.1,k.1.1,(List.getD c (Int.toNat a.1.1) (Ty.zero Dt)).2.2.2)) (Int.toNat a.1.1) (Ty.zero Dt)).2.2.1,b7.1.1,(List.getD (List.set c (Int.toNat a.1.1) ((List.getD c (Int.toNat a.1.1) (Ty.zero Dt)).1,(List.getD c (Int.toNat a.1.1) (Ty.zero Dt)).2.1,k.1.1,(List.getD c (Int.toNat a.1.1) (Ty.zero Dt)).2.2.2)) (Int.toNat a.1.1) (Ty.zero Dt)).2.2.2.2)),0,()),(),(),(),(),(),())) ((f (j.1.1,())).bind fun w=>A4 (List.set b (Int.toNat a.1.1) ((List.getD b (Int.toNat a.1.1) (Ty.zero Dt)).1,w.1.1,(List.getD b (Int.toNat a.1.1) (Ty.zero Dt)).2.2)) fun d=>(f (o.1.1,())).bind fun l=>(f (p.1.1,())).bind fun b8=>some (((List.set (List.set (List.set h (Int.toNat a.1.1) ((List.getD b (Int.toNat a.1.1) (Ty.zero Dt)).1,w.1.1,(List.getD b (Int.toNat a.1.1) (Ty.zero Dt)).2.2)) (Int.toNat a.1.1) ((List.getD d (Int.toNat a.1.1) (Ty.zero Dt)).1,(List.getD d (Int.toNat a.1.1) (Ty.zero Dt)).2.1,l.1.1,(List.getD d (Int.toNat a.1.1) (Ty.zero Dt)).2.2.2)) (Int.toNat a.1.1) ((List.getD (List.set d (Int.toNat a.1.1) ((List.getD d (Int.toNat a.1.1) (Ty.zero Dt)).1,(List.getD d (Int.toNat a.1.1) (Ty.zero Dt)).2.1,l.1.1,(List.getD d (Int.toNat a.1.1) (Ty.zero Dt)).2.2.2)) (Int.toNat a.1.1) (Ty.zero Dt)).1,(List.getD (List.set d (Int.toNat a.1.1) ((List.getD d (Int.toNat a.1.1) (Ty.zero Dt)).1,(List.getD d (Int.toNat a.1.1) (Ty.zero Dt)).2.1,l.1.1,(List.getD d (Int.toNat a.1.1) (Ty.zero Dt)).2.2.2)) (Int.toNat a.1.1) (Ty.zero Dt)).2.1,(List.getD (List.set d (Int.toNat a.1.1) ((List.getD d (Int.toNat a.1.1) (Ty.zero Dt)).1,(List.getD d (Int.toNat a.1.1) (Ty.zero Dt)).2.1,l.1.1,(List.getD d (Int.toNat a.1.1) (Ty.zero Dt)).2.2.2)) (Int.toNat a.1.1) (Ty.zero Dt)).2.2.1,b8.1.1,(List.getD (List.set d (Int.toNat a.1.1) ((List.getD d (Int.toNat a.1.1) (Ty.zero Dt)).1,(List.getD d (Int.toNat a.1.1) (Ty.zero Dt)).2.1,l.1.1,(List.getD d (Int.toNat a.1.1) (Ty.zero Dt)).2.2.2)) (Int.toNat a.1.1) (Ty.zero Dt)).2.2.2.2)),0,()),(),(),(),(),(),()))) ((f (j.1.1,())).bind fun y=>A4 (List.set b (Int.toNat a.1.1) ((List.getD b (Int.toNat a.1.1) (Ty.zero Dt)).1,y.1.1,(List.getD b (Int.toNat a.1.1) (Ty.zero Dt)).2.2)) fun e=>(f (o.1.1,())).bind fun m=>(f (p.1.1,())).bind fun b9=>some (((List.set (List.set (List.set h (Int.toNat a.1.1) ((List.getD b (Int.toNat a.1.1) (Ty.zero Dt)).1,y.1.1,(List.getD b (Int.toNat a.1.1) (Ty.zero Dt)).2.2)) (Int.toNat a.1.1) ((List.getD e (Int.toNat a.1.1) (Ty.zero Dt)).1,(List.getD e (Int.toNat a.1.1) (Ty.zero Dt)).2.1,m.1.1,(List.getD e (Int.toNat a.1.1) (Ty.zero Dt)).2.2.2)) (Int.toNat a.1.1) ((List.getD (List.set e (Int.toNat a.1.1) ((List.getD e (Int.toNat a.1.1) (Ty.zero Dt)).1,(List.getD e (Int.toNat a.1.1) (Ty.zero Dt)).2.1,m.1.1,(List.getD e (Int.toNat a.1.1) (Ty.zero Dt)).2.2.2)) (Int.toNat a.1.1) (Ty.zero Dt)).1,(List.getD (List.set e (Int.toNat a.1.1) ((List.getD e (Int.toNat a.1.1) (Ty.zero Dt)).1,(List.getD e (Int.toNat a.1.1) (Ty.zero Dt)).2.1,m.1.1,(List.getD e (Int.toNat a.1.1) (Ty.zero Dt)).2.2.2)) (Int.toNat a.1.1) (Ty.zero Dt)).2.1,(List.getD (List.set e (Int.toNat a.1.1) ((List.getD e (Int.toNat a.1.1) (Ty.zero Dt)).1,(List.getD e (Int.toNat a.1.1) (Ty.zero Dt)).2.1,m.1.1,(List.getD e (Int.toNat a.1.1) (Ty.zero Dt)).2.2.2)) (Int.toNat a.1.1) (Ty.zero Dt)).2.2.1,b9.1.1,(List.getD (List.set e (Int.toNat a.1.1) ((List.getD e (Int.toNat a.1.1) (Ty.zero Dt)).1,(List.getD e (Int.toNat a.1.1) (Ty.zero Dt)).2.1,m.1.1,(List.getD e (Int.toNat a.1.1) (Ty.zero Dt)).2.2.2)) (Int.toNat a.1.1) (Ty.zero Dt)).2.2.2.2)),0,()),(),(),(),(),(),())))))) none) none))))
def Fa:Ao1:=fun x=>S5 Ac Dh G0 Ah Bh Ds Bs Ax x.1 x.2.1 x.2.2.1 x.2.2.2.1 x.2.2.2.2.1
abbrev Agx:B4:=⟨[V46,Ir,(.ro true W4)],[V15,Bv]⟩
abbrev Ag9:=Cog→Option Cki
def Lu(L:Af)(j:Nk)(k:Aah)(l:Ru)(m:Acl)(n:Fx)(e:(List Y97))(o:Int)(g:(List Int)):Option Cki:=(A4 (List.length e) fun h=>A4 (List.append (List.replicate 0 (Ty.zero Dt)) e) fun d=>(j (e,())).bind fun p=>Ag (!p.1.1) (some (([],2,()),(),(),(),())) ((k (e,o,())).bind fun a=>Ag (decide (a.1.1<0)) (some (([],8,()),(),(),(),())) (Ag (A8 (0+h) Dt) (Ag (Cj a.1.1 h) ((l ((List.getD d (Int.toNat a.1.1) (Ty.zero Dt)).2.1,g,())).bind fun f=>A4 (List.set e (Int.toNat a.1.1) ((List.getD d (Int.toNat a.1.1) (Ty.zero Dt)).1,f.1.1,(List.getD d (Int.toNat a.1.1) (Ty.zero Dt)).2.2)) fun q=>A4 (List.set d (Int.toNat a.1.1) ((List.getD d (Int.toNat a.1.1) (Ty.zero Dt)).1,f.1.1,(List.getD d (Int.toNat a.1.1) (Ty.zero Dt)).2.2)) fun b=>Ag (!(decide (f.1.2.1=0))) (some (([],10,()),(),(),(),())) ((m ((List.getD d (Int.toNat a.1.1) (Ty.zero Dt)).2.2.2.2.1,g,())).bind fun c=>A4 (List.set q (Int.toNat a.1.1) ((List.getD b (Int.toNat a.1.1) (Ty.zero Dt)).1,(List.getD b (Int.toNat a.1.1) (Ty.zero Dt)).2.1,(List.getD b (Int.toNat a.1.1) (Ty.zero Dt)).2.2.1,(List.getD b (Int.toNat a.1.1) (Ty.zero Dt)).2.2.2.1,c.1.1,(List.getD b (Int.toNat a.1.1) (Ty.zero Dt)).2.2.2.2.2)) fun i=>Ag (!(decide (c.1.2.1=0))) (some (([],c.1.2.1,()),(),(),(),())) ((n (f.1.1,())).bind fun r=>Ag r.1.1 (some (((List.set i (Int.toNat a.1.1) ((List.getD (List.set b (Int.toNat a.1.1) ((List.getD b (Int.toNat a.1.1) (Ty.zero Dt)).1,(List.getD b (Int.toNat a.1.1) (Ty.zero Dt)).2.1,(List.getD b (Int.toNat a.1.1) (Ty.zero Dt)).2.2.1,(List.getD b (Int.toNat a.1.1) (Ty.zero Dt)).2.2.2.1,c.1.1,(List.getD b (Int.toNat a.1.1) (Ty.zero Dt)).2.2.2.2.2)) (Int.toNat a.1.1) (Ty.zero Dt)).1,(List.getD (List.set b (Int.toNat a.1.1) ((List.getD b (Int.toNat a.1.1) (Ty.zero Dt)).1,(List.getD b (Int.toNat a.1.1) (Ty.zero Dt)).2.1,(List.getD b (Int.toNat a.1.1) (Ty.zero Dt)).2.2.1,(List.getD b (Int.toNat a.1.1) (Ty.zero Dt)).2.2.2.1,c.1.1,(List.getD b (Int.toNat a.1.1) (Ty.zero Dt)).2.2.2.2.2)) (Int.toNat a.1.1) (Ty.zero Dt)).2.1,(List.getD (List.set b (Int.toNat a.1.1) ((List.getD b (Int.toNat a.1.1) (Ty.zero Dt)).1,(List.getD b (Int.toNat a.1.1) (Ty.zero Dt)).2.1,(List.getD b (Int.toNat a.1.1) (Ty.zero Dt)).2.2.1,(List.getD b (Int.toNat a.1.1) (Ty.zero Dt)).2.2.2.1,c.1.1,(List.getD b (Int.toNat a.1.1) (Ty.zero Dt)).2.2.2.2.2)) (Int.toNat a.1.1) (Ty.zero Dt)).2.2.1,(List.getD (List.set b (Int.toNat a.1.1) ((List.getD b (Int.toNat a.1.1) (Ty.zero Dt)).1,(List.getD b (Int.toNat a.1.1) (Ty.zero Dt)).2.1,(List.getD b (Int.toNat a.1.1) (Ty.zero Dt)).2.2.1,(List.getD b (Int.toNat a.1.1) (Ty.zero Dt)).2.2.2.1,c.1.1,(List.getD b (Int.toNat a.1.1) (Ty.zero Dt)).2.2.2.2.2)) (Int.toNat a.1.1) (Ty.zero Dt)).2.2.2.1,(List.getD (List.set b (Int.toNat a.1.1) ((List.getD b (Int.toNat a.1.1) (Ty.zero Dt)).1,(List.getD b (Int.toNat a.1.1) (Ty.zero Dt)).2.1,(List.getD b (Int.toNat a.1.1) (Ty.zero Dt)).2.2.1,(List.getD b (Int.toNat a.1.1) (Ty.zero Dt)).2.2.2.1,c.1.1,(List.getD b (Int.toNat a.1.1) (Ty.zero Dt)).2.2.2.2.2)) (Int.toNat a.1.1) (Ty.zero Dt)).2.2.2.2.1,0,(List.getD (List.set b (Int.toNat a.1.1) ((List.getD b (Int.toNat a.1.1) (Ty.zero Dt)).1,(List.getD b (Int.toNat a.1.1) (Ty.zero Dt)).2.1,(List.getD b (Int.toNat a.1.1) (Ty.zero Dt)).2.2.1,(List.getD b (Int.toNat a.1.1) (Ty.zero Dt)).2.2.2.1,c.1.1,(List.getD b (Int.toNat a.1.1) (Ty.zero Dt)).2.2.2.2.2)) (Int.toNat a.1.1) (Ty.zero Dt)).2.2.2.2.2.2)),0,()),(),(),(),())) (some ((i,0,()),(),(),(),()))))) none) none)))
def F6:Ag9:=fun x=>Lu Ac Dh G0 Ec Ip Bs x.1 x.2.1 x.2.2.1
abbrev Aan:B4:=⟨[V46],[(.ro true W4),Bv]⟩
abbrev Ah1:=Y98→Option Y21
def Agz(f:Az)(g:Dd)(h:Fs)(i:((List Y97)×(List Int)×(List Int)×Int×Unit)→Option Y21)(b:(List Y97))(j:(List Int))(c:(List Int))(a:Int):Option Y21:=(A4 (List.length b) fun d=>Ag (decide (a<((d:Nat):Int))) (Ag (Cj a d) ((f ((List.getD b (Int.toNat a) (Ty.zero Dt)).2.1,())).bind fun k=>(g (c,k.1.1,())).bind fun l=>i (b,j,l.1.1,(IntKind.wrap .i64 (a+1)),())) none) ((h (c,())).bind fun e=>some ((e.1.1,e.1.2.1,()),(),())))
def Abb(L:Af)(b:Nk)(c:Az)(d:Dd)(e:Fs)(a:(List Y97)):Option Y21:=((b (a,())).bind fun f=>Ag (!f.1.1) (some (([0,0,0,0],2,()),(),())) (L _ _ (fun z x=>Agz c d e z x.1 x.2.1 x.2.2.1 x.2.2.2.1) (a,[0,0,0,0],[],0,())))
def On:Ah1:=fun x=>Abb Ac Dh Ah Bh B5 x.1
abbrev Arv:B4:=⟨[V46,Ir],[V15,Bv]⟩
abbrev Ayl:=Y99→Option Bxr
def Arj(g:((List Y97)×Int×(List Y97)×Bool×Int×Unit)→Option Bxr)(c:(List Y97))(d:Int)(b:(List Y97))(f:Bool)(a:Int):Option Bxr:=(A4 (List.length c) fun e=>A4 (List.append b [(d,[0,0,0,0],[0,0,0,0],[0,0,0,0],[0,0,0,0],0,())]) fun h=>A4 [(List.getD c (Int.toNat a) (0,[0,0,0,0],[0,0,0,0],[0,0,0,0],[0,0,0,0],0,()))] fun i=>Ag (decide (a<((e:Nat):Int))) (Ag (!f) (Ag (Cj a e) (Ag (decide ((List.getD c (Int.toNat a) (Ty.zero Dt)).1>d)) (Ag (A8 ((List.length b)+1) Dt) (Ag (Cj a e) (Ag (A8 ((List.length h)+1) Dt) (g (c,d,(List.append h i),true,(IntKind.wrap .i64 (a+1)),())) none) none) none) (Ag (Cj a e) (Ag (A8 ((List.length b)+1) Dt) (g (c,d,(List.append b i),f,(IntKind.wrap .i64 (a+1)),())) none) none)) none) (Ag (Cj a e) (Ag (A8 ((List.length b)+1) Dt) (g (c,d,(List.append b i),f,(IntKind.wrap .i64 (a+1)),())) none) none)) (Ag (!f) (Ag (A8 ((List.length b)+1) Dt) (some ((h,0,()),(),(),())) none) (some ((b,0,()),(),(),()))))
def Ase(L:Af)(c:Nk)(d:Aah)(a:(List Y97))(b:Int):Option Bxr:=((c (a,())).bind fun e=>Ag (!e.1.1) (some (([],2,()),(),(),())) (Ag (decide (b=0)) (some (([],2,()),(),(),())) ((d (a,b,())).bind fun f=>Ag (decide (f.1.1≥0)) (some (([],9,()),(),(),())) (Ag (decide ((List.length a:Int)≥64)) (some (([],7,()),(),(),())) (L _ _ (fun z x=>Arj z x.1 x.2.1 x.2.2.1 x.2.2.2.1 x.2.2.2.2.1) (a,b,[],false,0,()))))))
def Acd:Ayl:=fun x=>Ase Ac Dh G0 x.1 x.2.1
set_option maxRecDepth 100000
abbrev Aha:B4:=⟨[V46],[V15]⟩
abbrev Aox:=Y98→Option Bsi
def Aab(k:Cl9→Option Bsi)(l:Cpc→Option Bsi)(b:(List Y97))(e:(List Y97))(c:Int)(a:Int):Option Bsi:=(A4 (IntKind.wrap .i64 (a-1)) fun f=>A4 (List.length e) fun d=>A4 (List.take ((Int.toNat a)-0) (List.drop 0 e)) fun g=>A4 (List.take (d-(Int.toNat a)) (List.drop (Int.toNat a) e)) fun i=>A4 (List.append [(List.getD b (Int.toNat c) (0,[0,0,0,0],[0,0,0,0],[0,0,0,0],[0,0,0,0],0,()))] i) fun j=>A4 (List.length j) fun h=>Ag (decide (a>0)) (Ag (Cj f d) (Ag (Cj c (List.length b)) (Ag (decide ((List.getD e (Int.toNat f) (0,[0,0,0,0],[0,0,0,0],[0,0,0,0],[0,0,0,0],0,())).2.2.2.2.2.1>(List.getD b (Int.toNat c) (0,[0,0,0,0],[0,0,0,0],[0,0,0,0],[0,0,0,0],0,())).2.2.2.2.2.1)) (l (b,e,c,f,())) (Ag (Cj f d) (Ag (Cj c (List.length b)) (Ag (decide ((List.getD e (Int.toNat f) (0,[0,0,0,0],[0,0,0,0],[0,0,0,0],[0,0,0,0],0,())).2.2.2.2.2.1=(List.getD b (Int.toNat c) (0,[0,0,0,0],[0,0,0,0],[0,0,0,0],[0,0,0,0],0,())).2.2.2.2.2.1)) (Ag (Cj f d) (Ag (Cj c (List.length b)) (Ag (decide ((List.getD e (Int.toNat f) (0,[0,0,0,0],[0,0,0,0],[0,0,0,0],[0,0,0,0],0,())).1>(List.getD b (Int.toNat c) (0,[0,0,0,0],[0,0,0,0],[0,0,0,0],[0,0,0,0],0,())).1)) (l (b,e,c,f,())) (Ag (decide (a=a)) (Ag ((decide (0≤a))&&(decide (a≤((d:Nat):Int)))) (Ag (Cj c (List.length b)) (Ag ((decide (0≤a))&&(decide (a≤((d:Nat):Int)))) (Ag (A8 (1+(List.length i)) Dt) (Ag ((decide (0<h))&&(A8 ((List.length g)+h) Dt)) (k (b,(List.append g j),(IntKind.wrap .i64 (c+1)),())) none) none) none) none) none) none)) none) none) (Ag (decide (a=a)) (Ag ((decide (0≤a))&&(decide (a≤((d:Nat):Int)))) (Ag (Cj c (List.length b)) (Ag ((decide (0≤a))&&(decide (a≤((d:Nat):Int)))) (Ag (A8 (1+(List.length i)) Dt) (Ag ((decide (0<h))&&(A8 ((List.length g)+h) Dt)) (k (b,(List.append g j),(IntKind.wrap .i64 (c+1)),())) none) none) none) none) none) none)) none) none)) none) none) (Ag (decide (a=a)) (Ag ((decide (0≤a))&&(decide (a≤((d:Nat):Int)))) (Ag (Cj c (List.length b)) (Ag ((decide (0≤a))&&(decide (a≤((d:Nat):Int)))) (Ag (A8 (1+(List.length i)) Dt) (Ag ((decide (0<h))&&(A8 ((List.length g)+h) Dt)) (k (b,(List.append g j),(IntKind.wrap .i64 (c+1)),())) none) none) none) none) none) none))
def Ak0(L:Af)(d:Cl9→Option Bsi)(b:(List Y97))(c:(List Y97))(a:Int):Option Bsi:=(A4 (List.length b) fun e=>Ag (decide (a<((e:Nat):Int))) (Ag (Cj a e) (Ag (Yu (Ty.arr 4 (Ty.int IntKind.u64)) (List.getD b (Int.toNat a) ((0:Int),[(0:Int),(0:Int),(0:Int),(0:Int)],[(0:Int),(0:Int),(0:Int),(0:Int)],[(0:Int),(0:Int),(0:Int),(0:Int)],[(0:Int),(0:Int),(0:Int),(0:Int)],(0:Int),())).2.1 [(0:Int),(0:Int),(0:Int),(0:Int)]) (d (b,c,(IntKind.wrap .i64 (a+1)),())) (L _ _ (fun z x=>Aab d z x.1 x.2.1 x.2.2.1 x.2.2.2.1) (b,c,a,(List.length c:Int),()))) none) (some ((c,()),(),())))
def Agc(L:Af)(a:(List Y97)):Option Bsi:=(L _ _ (fun z x=>Ak0 L z x.1 x.2.1 x.2.2.1) (a,[],0,()))
def T7:Aox:=fun x=>Agc Ac x.1
set_option maxRecDepth 100000
abbrev Am8:B4:=⟨[V46,(.ro true W4)],[V13,Bv]⟩
abbrev Awg:=((List Y97)×(List Int)×Unit)→Option Y30
def Aou(g:Az)(h:Aae)(i:B6)(j:Kl)(k:((List Y9)×(List Y97)×(List Int)×Int×Unit)→Option Y30)(b:(List Y9))(c:(List Y97))(d:(List Int))(a:Int):Option Y30:=(A4 (List.length c) fun e=>Ag (decide (a<((e:Nat):Int))) (Ag (decide ((List.length d:Int)>0)) (Ag (Cj a e) ((g ((List.getD c (Int.toNat a) (0,[0,0,0,0],[0,0,0,0],[0,0,0,0],[0,0,0,0],0,())).2.1,())).bind fun l=>(h (d,l.1.1,())).bind fun f=>Ag (Cj a e) ((i (f.1.1,())).bind fun m=>Ag (A8 ((List.length b)+1) R8) ((j (d,f.1.1,())).bind fun n=>k ((List.append b [((List.getD c (Int.toNat a) (0,[0,0,0,0],[0,0,0,0],[0,0,0,0],[0,0,0,0],0,())).1,m.1.1,())]),c,n.1.1,(IntKind.wrap .i64 (a+1)),())) none) none) none) (some ((b,0,()),(),(),()))) (some ((b,0,()),(),(),())))
def An4(L:Af)(c:Nk)(d:Aox)(a:Az)(e:Aae)(f:B6)(g:Kl)(b:(List Y97))(h:(List Int)):Option Y30:=((c (b,())).bind fun i=>Ag (!i.1.1) (some (([],2,()),(),(),())) ((d (b,())).bind fun j=>(a (h,())).bind fun k=>L _ _ (fun z x=>Aou a e f g z x.1 x.2.1 x.2.2.1 x.2.2.2.1) ([],j.1.1,k.1.1,0,())))
def Zn:Awg:=fun x=>An4 Ac Dh T7 Ah Hc Ax Do x.1 x.2.1
abbrev Ajg:B4:=⟨[V46,V43],[V15,Bv]⟩
abbrev Att:=((List Y97)×(List Y9)×Unit)→Option Bxr
def Amj(f:Ag9)(g:((List Y9)×(List Y97)×Int×Unit)→Option Bxr)(b:(List Y9))(e:(List Y97))(a:Int):Option Bxr:=(A4 (List.length b) fun c=>Ag (decide (a<((c:Nat):Int))) (Ag (Cj a c) (Ag (Cj a c) ((f (e,(List.getD b (Int.toNat a) (0,[0,0,0,0],())).1,(List.getD b (Int.toNat a) (0,[0,0,0,0],())).2.1,())).bind fun d=>Ag (!(decide (d.1.2.1=0))) (some (([],d.1.2.1,()),(),(),())) (g (b,d.1.1,(IntKind.wrap .i64 (a+1)),()))) none) none) (some ((e,0,()),(),(),())))
def Akh(L:Af)(b:Ag9)(a:(List Y97))(c:(List Y9)):Option Bxr:=(Ag (A8 (0+(List.length a)) Dt) (L _ _ (fun z x=>Amj b z x.1 x.2.1 x.2.2.1) (c,a,0,())) none)
def Vv:Att:=fun x=>Akh Ac F6 x.1 x.2.1
abbrev Aev:B4:=⟨[V43],[(.ro true W4),Bv]⟩
abbrev Ary:=Y19→Option Y21
def Ar8(f:Az)(g:Dd)(h:Fs)(i:((List Y9)×(List Int)×(List Int)×Int×Unit)→Option Y21)(b:(List Y9))(j:(List Int))(c:(List Int))(a:Int):Option Y21:=(A4 (List.length b) fun d=>Ag (decide (a<((d:Nat):Int))) (Ag (Cj a d) ((f ((List.getD b (Int.toNat a) (0,[0,0,0,0],())).2.1,())).bind fun k=>(g (c,k.1.1,())).bind fun l=>i (b,j,l.1.1,(IntKind.wrap .i64 (a+1)),())) none) ((h (c,())).bind fun e=>some ((e.1.1,e.1.2.1,()),(),())))
def Arm(L:Af)(a:Az)(b:Dd)(c:Fs)(d:(List Y9)):Option Y21:=(L _ _ (fun z x=>Ar8 a b c z x.1 x.2.1 x.2.2.1 x.2.2.2.1) (d,[0,0,0,0],[],0,()))
def Rm:Ary:=fun x=>Arm Ac Ah Bh B5 x.1
set_option maxRecDepth 100000
abbrev Aar:B4:=⟨[Ir,Ir,Ir,Ir],[Ir,Bv]⟩
abbrev Aiv:=(Int×Int×Int×Int×Unit)→Option Y62
def Aax(L:Af)(b:Cm)(f:Jo)(g:Oh)(h:B6)(e:Int)(a:Int)(c:Int)(d:Int):Option Y62:=(Ag (decide (a>c)) (some ((0,14,()),(),(),(),(),())) (Ag (decide (c>d)) (some ((0,14,()),(),(),(),(),())) (Ag (decide (d=a)) (some ((e,0,()),(),(),(),(),())) ((b (e,())).bind fun i=>(b ((IntKind.wrap .u64 (c-a)),())).bind fun j=>(f (i.1.1,j.1.1,())).bind fun k=>(b ((IntKind.wrap .u64 (d-a)),())).bind fun l=>(g (k.1.1,l.1.1,())).bind fun m=>(h (m.1.1,())).bind fun n=>some (((List.getD n.1.1 0 0),0,()),(),(),(),(),())))))
def Ny:Aiv:=fun x=>Aax Ac A0 Cg Dq Ax x.1 x.2.1 x.2.2.1 x.2.2.2.1
set_option maxRecDepth 100000
abbrev K4:B4:=⟨[V6],[V24]⟩
abbrev Aa0:=(Y13×Unit)→Option Y15
def Ani(L:Af)(b:Fx)(a:Y13):Option Y15:=(Ag a.1 ((b (a.2.1,())).bind fun c=>some (((!c.1.1),()),(),())) (some ((true,()),(),())))
def Ef:Aa0:=fun x=>Ani Ac Bs x.1
abbrev Gc:B4:=⟨[V24,V4],[V16]⟩
abbrev Qp:=Y13→Option Y54
def Arn(L:Af)(b:Bool)(a:(List Int)):Option Y54:=(Ag b (some ((((decide ((List.length a:Int)>0)),a,()),()),(),(),())) (some (((false,a,()),()),(),(),())))
def Dr:Qp:=fun x=>Arn Ac x.1 x.2.1
abbrev Z0:B4:=⟨[V16,V16],[V16]⟩
abbrev Ap7:=(Y13×Y13×Unit)→Option Y54
def Avq(L:Af)(e:Dd)(c:Qp)(f:Jf)(d:Kl)(a:Y13)(b:Y13):Option Y54:=(Ag (Yu (Ty.bool) a.1 b.1) ((e (a.2.1,b.2.1,())).bind fun g=>(c (a.1,g.1.1,())).bind fun h=>some ((h.1.1,()),(),(),())) ((f (a.2.1,b.2.1,())).bind fun i=>Ag (decide (i.1.1≥0)) ((d (a.2.1,b.2.1,())).bind fun j=>(c (a.1,j.1.1,())).bind fun k=>some ((k.1.1,()),(),(),())) ((d (b.2.1,a.2.1,())).bind fun l=>(c (b.1,l.1.1,())).bind fun m=>some ((m.1.1,()),(),(),()))))
def M4:Ap7:=fun x=>Avq Ac Bh Dr Cv Do x.1 x.2.1
abbrev To:B4:=⟨[V16],[V6,Bv]⟩
abbrev Afd:=(Y13×Unit)→Option (Y20×Unit×Unit)
def Afe(L:Af)(c:Fs)(b:Y13):Option (Y20×Unit×Unit):=((c (b.2.1,())).bind fun a=>Ag (!(decide (a.1.2.1=0))) (some (((false,[0,0,0,0],()),a.1.2.1,()),(),())) (some (((b.1,a.1.1,()),0,()),(),())))
def Kp:Afd:=fun x=>Afe Ac B5 x.1
abbrev Asj:B4:=⟨[(.ro true W4),(.ro true W4)],[V6]⟩
abbrev Az3:=Y37→Option Y54
def Aqy(L:Af)(a:Az)(b:Qp)(c:Ap7)(d:Afd)(e:(List Int))(f:(List Int)):Option Y54:=((a (e,())).bind fun g=>(b (false,g.1.1,())).bind fun h=>(a (f,())).bind fun i=>(b (true,i.1.1,())).bind fun j=>(c (h.1.1,j.1.1,())).bind fun k=>(d (k.1.1,())).bind fun l=>some ((l.1.1,()),(),(),()))
def Ab5:Az3:=fun x=>Aqy Ac Ah Dr M4 Kp x.1 x.2.1
abbrev Me:B4:=⟨[V6],[V16]⟩
abbrev X2:=(Y13×Unit)→Option Y32
def Xx(L:Af)(b:Az)(c:Qp)(a:Y13):Option Y32:=((b (a.2.1,())).bind fun d=>(c (a.1,d.1.1,())).bind fun e=>some ((e.1.1,()),(),()))
def Hm:X2:=fun x=>Xx Ac Ah Dr x.1
abbrev Ajc:B4:=⟨[V16],[V16]⟩
abbrev Atb:=(Y13×Unit)→Option Y32
def Aj4(L:Af)(b:Qp)(a:Y13):Option Y32:=((b ((!a.1),a.2.1,())).bind fun c=>some ((c.1.1,()),(),()))
def Vu:Atb:=fun x=>Aj4 Ac Dr x.1
abbrev Adp:B4:=⟨[V16,V4],[V16]⟩
abbrev Amb:=(Y13×(List Int)×Unit)→Option Y54
def Acx(L:Af)(d:Oh)(e:Cm)(f:Dd)(c:Qp)(a:Y13)(g:(List Int)):Option Y54:=((d (a.2.1,g,())).bind fun b=>Ag a.1 (Ag (decide ((List.length b.1.2.1:Int)>0)) ((e (1,())).bind fun h=>(f (b.1.1,h.1.1,())).bind fun i=>(c (a.1,i.1.1,())).bind fun j=>some ((j.1.1,()),(),(),())) ((c (a.1,b.1.1,())).bind fun k=>some ((k.1.1,()),(),(),()))) ((c (a.1,b.1.1,())).bind fun l=>some ((l.1.1,()),(),(),())))
def Qk:Amb:=fun x=>Acx Ac Dq A0 Bh Dr x.1 x.2.1
abbrev Avn:B4:=⟨[V16,V16],[V16]⟩
abbrev Bdn:=(Y13×Y13×Unit)→Option Y54
def Awh(L:Af)(c:Jo)(d:Qp)(a:Y13)(b:Y13):Option Y54:=((c (a.2.1,b.2.1,())).bind fun e=>(d ((!(Yu (Ty.bool) a.1 b.1)),e.1.1,())).bind fun f=>some ((f.1.1,()),(),(),()))
def Ags:Bdn:=fun x=>Awh Ac Cg Dr x.1 x.2.1
abbrev X7:B4:=⟨[(.ro true W4),V6],[(.ro true W4),Bv]⟩
abbrev Ahb:=((List Int)×Y13×Unit)→Option Y29
def Ye(L:Af)(d:Aa0)(e:Az)(f:Qp)(g:X2)(h:Ap7)(i:Fs)(j:(List Int))(a:Y13):Option Y29:=((d (a,())).bind fun k=>Ag (!k.1.1) (some (([0,0,0,0],2,()),(),(),())) ((e (j,())).bind fun l=>(f (false,l.1.1,())).bind fun m=>(g (a,())).bind fun n=>(h (m.1.1,n.1.1,())).bind fun b=>Ag b.1.1.1 (some (([0,0,0,0],0,()),(),(),())) ((i (b.1.1.2.1,())).bind fun c=>some ((c.1.1,c.1.2.1,()),(),(),()))))
def Mt:Ahb:=fun x=>Ye Ac Ef Ah Dr Hm M4 B5 x.1 x.2.1
set_option maxRecDepth 100000
abbrev Ajo:B4:=⟨[V6,V6,Ir,V11],[V6,Bv]⟩
abbrev As5:=(Y13×Y13×Int×Pk×Unit)→Option Y66
def Ajy(L:Af)(p:Lc)(i:Aa0)(d:X2)(e:Atb)(a:Cm)(f:Amb)(j:Ap7)(q:Bdn)(g:Qu)(r:Oh)(s:Dd)(t:Afd)(h:Y13)(k:Y13)(b:Int)(c:Pk):Option Y66:=((p (c,())).bind fun u=>Ag (!u.1.1) (some (((false,[0,0,0,0],()),15,()),(),(),(),(),())) ((i (h,())).bind fun v=>Ag (!v.1.1) (some (((false,[0,0,0,0],()),2,()),(),(),(),(),())) ((i (k,())).bind fun w=>Ag (!w.1.1) (some (((false,[0,0,0,0],()),2,()),(),(),(),(),())) (Ag (decide (b=0)) (some (((false,[0,0,0,0],()),2,()),(),(),(),(),())) ((d (h,())).bind fun y=>(e (y.1.1,())).bind fun a0=>(a (c.2.2.2.2.2.2.2.2.1,())).bind fun a1=>(f (a0.1.1,a1.1.1,())).bind fun a2=>(d (h,())).bind fun a3=>(d (k,())).bind fun a4=>(e (a4.1.1,())).bind fun a5=>(j (a3.1.1,a5.1.1,())).bind fun l=>(a (b,())).bind fun a6=>(f (l.1.1,a6.1.1,())).bind fun a7=>(e (a7.1.1,())).bind fun a8=>(j (a2.1.1,a8.1.1,())).bind fun m=>(a (b,())).bind fun a9=>(q (m.1.1,(false,a9.1.1,()),())).bind fun n=>(g (l.1.1.2.1,())).bind fun b0=>Ag (!b0.1.1) (some (((false,[0,0,0,0],()),4,()),(),(),(),(),())) ((g (m.1.1.2.1,())).bind fun b1=>Ag (!b1.1.1) (some (((false,[0,0,0,0],()),4,()),(),(),(),(),())) ((g (n.1.1.2.1,())).bind fun b2=>Ag (!b2.1.1) (some (((false,[0,0,0,0],()),4,()),(),(),(),(),())) ((a (c.2.2.2.2.2.2.2.2.1,())).bind fun b3=>(a (c.2.2.2.2.2.2.2.2.2.1,())).bind fun b4=>(r (b3.1.1,b4.1.1,())).bind fun b5=>(a (b,())).bind fun b6=>(s (b5.1.1,b6.1.1,())).bind fun b7=>(f (n.1.1,b7.1.1,())).bind fun b8=>(t (b8.1.1,())).bind fun o=>some ((o.1.1,o.1.2.1,()),(),(),(),(),())))))))))
def Vy:As5:=fun x=>Ajy Ac C9 Ef Hm Vu A0 Qk M4 Ags Ds Dq Bh Kp x.1 x.2.1 x.2.2.1 x.2.2.2.1
abbrev Aoh:B4:=⟨[(.ro true W4),V6,V6,Ir,V11],[(.ro true W4),Bv]⟩
abbrev Aw8:=((List Int)×Y13×Y13×Int×Pk×Unit)→Option Y78
def Anq(L:Af)(i:Lc)(b:Aa0)(j:As5)(k:Ahb)(c:(List Int))(d:Y13)(e:Y13)(f:Int)(g:Pk):Option Y78:=((i (g,())).bind fun l=>Ag (!l.1.1) (some (([0,0,0,0],15,()),(),(),(),(),(),())) ((b (d,())).bind fun m=>Ag (!m.1.1) (some (([0,0,0,0],2,()),(),(),(),(),(),())) ((b (e,())).bind fun n=>Ag (!n.1.1) (some (([0,0,0,0],2,()),(),(),(),(),(),())) (Ag (decide (f=0)) (some ((c,0,()),(),(),(),(),(),())) ((j (d,e,f,g,())).bind fun a=>Ag (!(decide (a.1.2.1=0))) (some (([0,0,0,0],a.1.2.1,()),(),(),(),(),(),())) ((k (c,a.1.1,())).bind fun h=>some ((h.1.1,h.1.2.1,()),(),(),(),(),(),())))))))
def Yz:Aw8:=fun x=>Anq Ac C9 Ef Vy Mt x.1 x.2.1 x.2.2.1 x.2.2.2.1 x.2.2.2.2.1
set_option maxRecDepth 100000
abbrev Adh:B4:=⟨[],[V10]⟩
abbrev Al7:=Unit→Option ((Apm×Unit)×Unit)
def Alz(L:Af):Option ((Apm×Unit)×Unit):=(some ((([1000000000,0,0,0],0,0,0,(false,[0,0,0,0],()),[],()),()),()))
def X9:Al7:=fun x=>Alz Ac
abbrev Nm:B4:=⟨[V18],[V24]⟩
abbrev Aci:=(Apm×Unit)→Option Y15
def Amt(d:Ci5→Option Y15)(a:Apm)(b:Int):Option Y15:=(A4 (List.length a.2.2.2.2.2.1) fun c=>Ag (decide (b<((c:Nat):Int))) (Ag (Cj b c) (Ag (decide ((List.getD a.2.2.2.2.2.1 (Int.toNat b) (0,[0,0,0,0],[0,0,0,0],[0,0,0,0],[0,0,0,0],0,())).2.2.2.2.2.1>a.2.2.2.1)) (some ((false,()),(),())) (d (a,(IntKind.wrap .i64 (b+1)),()))) none) (some ((true,()),(),())))
def Akj(L:Af)(b:Nk)(c:Aa0)(a:Apm):Option Y15:=((b (a.2.2.2.2.2.1,())).bind fun d=>Ag (!d.1.1) (some ((false,()),(),())) ((c (a.2.2.2.2.1,())).bind fun e=>Ag (!e.1.1) (some ((false,()),(),())) (L _ _ (fun z x=>Amt z x.1 x.2.1) (a,0,()))))
def G9:Aci:=fun x=>Akj Ac Dh Ef x.1
abbrev Aas:B4:=⟨[V18,Ir],[V10,Bv]⟩
abbrev Aio:=Ci5→Option Ci3
def Aal(L:Af)(d:Aci)(a:Apm)(b:Int):Option Ci3:=(A4 (IntKind.wrap .u64 (a.2.1+b)) fun c=>(d (a,())).bind fun e=>Ag (!e.1.1) (some ((([0,0,0,0],0,0,0,(false,[0,0,0,0],()),[],()),2,()),(),(),())) (Ag (decide (c<b)) (some ((([0,0,0,0],0,0,0,(false,[0,0,0,0],()),[],()),4,()),(),(),())) (Ag (A8 (0+(List.length a.2.2.2.2.2.1)) Dt) (some (((a.1,c,a.2.2),0,()),(),(),())) none)))
def N7:Aio:=fun x=>Aal Ac G9 x.1 x.2.1
abbrev Aj2:B4:=⟨[V18,V11,V7,Ir],[Bv]⟩
abbrev Atc:=(Apm×Pk×Y18×Int×Unit)→Option Y82
def Akk(L:Af)(c:Aci)(d:Lc)(e:Aah)(f:Atg)(b:Apm)(g:Pk)(a:Y18)(h:Int):Option Y82:=((c (b,())).bind fun i=>Ag (!i.1.1) (some ((2,()),(),(),(),(),())) ((d (g,())).bind fun j=>Ag (!j.1.1) (some ((15,()),(),(),(),(),())) ((e (b.2.2.2.2.2.1,a.1,())).bind fun k=>Ag (decide (k.1.1<0)) (some ((8,()),(),(),(),(),())) (Ag (decide (a.2.1<b.2.2.1)) (some ((14,()),(),(),(),(),())) (Ag (decide (a.2.1>h)) (some ((14,()),(),(),(),(),())) ((f (a.2.2.1,())).bind fun l=>Ag (decide (l.1.1>128)) (some ((2,()),(),(),(),(),())) (some ((0,()),(),(),(),(),()))))))))
def Vt:Atc:=fun x=>Akk Ac G9 C9 G0 Wf x.1 x.2.1 x.2.2.1 x.2.2.2.1
abbrev Agb:B4:=⟨[V18,V11,(.ro true W4),V7,Ir],[V10,(.ro true (.pair (.int .u64) W34)),Bv]⟩
abbrev Ap1:=(Apm×Pk×(List Int)×Y18×Int×Unit)→Option Cop
def Agr(L:Af)(q:Atc)(r:Aiv)(s:Aso)(t:Ao1)(u:Awg)(v:Att)(w:Ary)(y:Ru)(a0:Ah1)(a1:Az3)(a2:Aw8)(a:Apm)(h:Pk)(j:(List Int))(b:Y18)(k:Int):Option Cop:=(A4 (IntKind.wrap .u64 (a.2.2.2.1+1)) fun d=>(q (a,h,b,k,())).bind fun l=>Ag (!(decide (l.1.1=0))) (some ((([0,0,0,0],0,0,0,(false,[0,0,0,0],()),[],()),(0,[0,0,0,0],[],()),l.1.1,()),(),(),(),(),(),())) ((r (a.2.1,a.2.2.1,b.2.1,k,())).bind fun c=>A4 (IntKind.wrap .u64 (a.2.1-c.1.1)) fun m=>(s (h.2.2.2.2.2.2.2.1,[c.1.1,0,0,0],())).bind fun e=>Ag (!(decide (e.1.2.1=0))) (some ((([0,0,0,0],0,0,0,(false,[0,0,0,0],()),[],()),(0,[0,0,0,0],[],()),4,()),(),(),(),(),(),())) (Ag (decide (d=0)) (some ((([0,0,0,0],0,0,0,(false,[0,0,0,0],()),[],()),(0,[0,0,0,0],[],()),4,()),(),(),(),(),(),())) ((t (a.2.2.2.2.2.1,b.1,b.2.2.1,e.1.1,d,())).bind fun i=>Ag (!(decide (i.1.2.1=0))) (some ((([0,0,0,0],0,0,0,(false,[0,0,0,0],()),[],()),(0,[0,0,0,0],[],()),4,()),(),(),(),(),(),())) ((u (i.1.1,j,())).bind fun f=>(v (i.1.1,f.1.1,())).bind fun g=>Ag (!(decide (g.1.2.1=0))) (some ((([0,0,0,0],0,0,0,(false,[0,0,0,0],()),[],()),(0,[0,0,0,0],[],()),4,()),(),(),(),(),(),())) ((w (f.1.1,())).bind fun a3=>(y (j,a3.1.1,())).bind fun a4=>(a0 (g.1.1,())).bind fun n=>Ag (!(decide (n.1.2.1=0))) (some ((([0,0,0,0],0,0,0,(false,[0,0,0,0],()),[],()),(0,[0,0,0,0],[],()),4,()),(),(),(),(),(),())) ((a1 (a4.1.1,n.1.1,())).bind fun o=>Ag (decide (c.1.1>0)) ((a2 (a.1,o.1.1,a.2.2.2.2.1,c.1.1,h,())).bind fun p=>Ag (!(decide (p.1.2.1=0))) (some ((([0,0,0,0],0,0,0,(false,[0,0,0,0],()),[],()),(0,[0,0,0,0],[],()),4,()),(),(),(),(),(),())) (some (((p.1.1,m,b.2.1,d,o.1.1,g.1.1,a.2.2.2.2.2.2),(c.1.1,e.1.1,f.1.1,()),0,()),(),(),(),(),(),()))) (some (((a.1,m,b.2.1,d,a.2.2.2.2.1,g.1.1,a.2.2.2.2.2.2),(c.1.1,e.1.1,f.1.1,()),0,()),(),(),(),(),(),())))))))))
def Tu:Ap1:=fun x=>Agr Ac Vt Ny We Fa Zn Vv Rm Ec On Ab5 Yz x.1 x.2.1 x.2.2.1 x.2.2.2.1 x.2.2.2.2.1
abbrev Yl:B4:=⟨[V18,Ir],[V10,Bv]⟩
abbrev Afw:=Ci5→Option Ci3
def X0(L:Af)(c:Aci)(d:Ayl)(a:Apm)(e:Int):Option Ci3:=((c (a,())).bind fun f=>Ag (!f.1.1) (some ((([0,0,0,0],0,0,0,(false,[0,0,0,0],()),[],()),2,()),(),(),())) ((d (a.2.2.2.2.2.1,e,())).bind fun b=>Ag (!(decide (b.1.2.1=0))) (some ((([0,0,0,0],0,0,0,(false,[0,0,0,0],()),[],()),b.1.2.1,()),(),(),())) (some (((a.1,a.2.1,a.2.2.1,a.2.2.2.1,a.2.2.2.2.1,b.1.1,a.2.2.2.2.2.2),0,()),(),(),()))))
def My:Afw:=fun x=>X0 Ac G9 Acd x.1 x.2.1
set_option maxRecDepth 100000
abbrev Vk:B4:=⟨[V3,Bv,Bv],[Bv]⟩
abbrev Vf:=Y16→Option Y71
def Acf(f:((List Int)×Int×Int×Int×Unit)→Option Y71)(b:(List Int))(c:Int)(d:Int)(a:Int):Option Y71:=(A4 (IntKind.wrap .i64 ((IntKind.wrap .i64 (c+a))-d)) fun e=>Ag (decide (a<131)) (Ag (decide ((IntKind.wrap .i64 (c+a))<(List.length b:Int))) (Ag (Cj (IntKind.wrap .i64 (c+a)) (List.length b)) (Ag (Cj e (List.length b)) (Ag (decide ((List.getD b (Int.toNat (IntKind.wrap .i64 (c+a))) 0)=(List.getD b (Int.toNat e) 0))) (f (b,c,d,(IntKind.wrap .i64 (a+1)),())) (some ((a,()),(),(),(),()))) none) none) (some ((a,()),(),(),(),()))) (some ((a,()),(),(),(),())))
def Vp(L:Af)(a:(List Int))(b:Int)(c:Int):Option Y71:=(L _ _ (fun z x=>Acf z x.1 x.2.1 x.2.2.1 x.2.2.2.1) (a,b,c,0,()))
def Lt:Vf:=fun x=>Vp Ac x.1 x.2.1 x.2.2.1
abbrev Arz:B4:=⟨[V3,Bv],[Bv,Bv]⟩
abbrev Aqv:=Y8→Option Y10
def Ar4(h:Vf)(f:((List Int)×Int×Int×Int×Int×Unit)→Option Y10)(d:(List Int))(b:Int)(c:Int)(e:Int)(a:Int):Option Y10:=(Ag (decide (a≤1024)) (Ag (decide (a≤b)) ((h (d,b,a,())).bind fun g=>Ag (decide (g.1.1>c)) (f (d,b,g.1.1,a,(IntKind.wrap .i64 (a+1)),())) (f (d,b,c,e,(IntKind.wrap .i64 (a+1)),()))) (some ((c,e,()),(),(),()))) (some ((c,e,()),(),(),())))
def Asd(L:Af)(a:Vf)(b:(List Int))(c:Int):Option Y10:=(L _ _ (fun z x=>Ar4 a z x.1 x.2.1 x.2.2.1 x.2.2.2.1 x.2.2.2.2.1) (b,c,0,0,1,()))
def Aca:Aqv:=fun x=>Asd Ac Lt x.1 x.2.1
abbrev Ac7:B4:=⟨[V37,V3],[V37]⟩
abbrev Adj:=Y37→Option Y11
def Ahp(c:Y37→Option Y11)(b:(List Int))(a:(List Int)):Option Y11:=(A4 (List.append b [127]) fun d=>A4 (List.append b [(IntKind.wrap .u8 (List.length a:Int))]) fun e=>A4 (List.take ((127:Nat)-(0:Nat)) (List.drop 0 a)) fun f=>A4 (List.take ((Int.toNat (List.length a:Int))-0) (List.drop 0 a)) fun g=>Ag (decide ((List.length a:Int)>0)) (Ag (decide ((List.length a:Int)>127)) (Ag (A8 ((List.length b)+1) (Ty.int IntKind.u8)) (Ag (decide (127≤(List.length a:Int))) (Ag (A8 ((List.length d)+(List.length f)) (Ty.int IntKind.u8)) (Ag (decide (127≤(List.length a:Int))) (c ((List.append d f),(List.take ((List.length a)-127) (List.drop 127 a)),())) none) none) none) none) (Ag (A8 ((List.length b)+1) (Ty.int IntKind.u8)) (Ag ((decide (0≤(List.length a:Int)))&&(decide ((List.length a:Int)≤(List.length a:Int)))) (Ag (A8 ((List.length e)+(List.length g)) (Ty.int IntKind.u8)) (Ag ((decide (0≤(List.length a:Int)))&&(decide ((List.length a:Int)≤(List.length a:Int)))) (c ((List.append e g),(List.take ((List.length a)-(Int.toNat (List.length a:Int))) (List.drop (Int.toNat (List.length a:Int)) a)),())) none) none) none) none)) (some ((b,()),(),(),())))
def Adq(L:Af)(a:(List Int))(b:(List Int)):Option Y11:=(L _ _ (fun z x=>Ahp z x.1 x.2.1) (a,b,()))
def Qh:Adj:=fun x=>Adq Ac x.1 x.2.1
abbrev Adn:B4:=⟨[V3],[V37]⟩
abbrev Al3:=Y4→Option Y6
def Ahk(k:Aqv)(f:Adj)(g:Y75→Option Y6)(a:(List Int))(e:(List Int))(b:Int)(c:Int):Option Y6:=(Ag (decide (c<(List.length a:Int))) ((k (a,c,())).bind fun d=>A4 (IntKind.wrap .i64 (c+d.1.1)) fun h=>A4 (IntKind.wrap .i64 (d.1.2.1-1)) fun i=>Ag (decide (d.1.1<4)) (g (a,e,b,(IntKind.wrap .i64 (c+1)),())) (Ag (((decide (0≤b))&&(decide (b≤c)))&&(decide (c≤(List.length a:Int)))) ((f (e,(List.take ((Int.toNat c)-(Int.toNat b)) (List.drop (Int.toNat b) a)),())).bind fun j=>Ag (A8 ((List.length j.1.1)+3) (Ty.int IntKind.u8)) (g (a,(List.append j.1.1 [(IntKind.wrap .u8 (IntKind.wrap .i64 (d.1.1+124))),(IntKind.wrap .u8 (IntKind.wrap .i64 (Int.tdiv i 256))),(IntKind.wrap .u8 (Int.tmod i 256))]),h,h,())) none) none)) (Ag ((decide (0≤b))&&(decide (b≤(List.length a:Int)))) ((f (e,(List.take ((List.length a)-(Int.toNat b)) (List.drop (Int.toNat b) a)),())).bind fun l=>some ((l.1.1,()),(),())) none))
def Ac3(L:Af)(a:Aqv)(b:Adj)(c:(List Int)):Option Y6:=(L _ _ (fun z x=>Ahk a b z x.1 x.2.1 x.2.2.1 x.2.2.2.1) (c,[],0,0,()))
def Qd:Al3:=fun x=>Ac3 Ac Aca Qh x.1
set_option maxRecDepth 100000
abbrev Ajm:B4:=⟨[V3,Ir,Ir],[Ir,Bv]⟩
abbrev Asu:=Y16→Option Y39
def Ajp(L:Af)(e:Al3)(d:(List Int))(b:Int)(a:Int):Option Y39:=(Ag (decide (b>a)) (some ((0,2,()),(),(),(),())) (Ag (decide ((List.length d:Int)>4096)) (some ((0,6,()),(),(),(),())) ((e (d,())).bind fun f=>A4 (IntKind.wrap .u64 ((IntKind.wrap .u64 (List.length f.1.1:Int))*16)) fun c=>Ag (decide (c<b)) (Ag (decide (b>a)) (some ((a,0,()),(),(),(),())) (some ((b,0,()),(),(),(),()))) (Ag (decide (c>a)) (some ((a,0,()),(),(),(),())) (some ((c,0,()),(),(),(),()))))))
def Wc:Asu:=fun x=>Ajp Ac Qd x.1 x.2.1 x.2.2.1
set_option maxRecDepth 100000
abbrev Aef:B4:=⟨[V17,(.ro true W4)],[V4]⟩
abbrev Asb:=(Bcr×(List Int)×Unit)→Option Y11
def Ar1(L:Af)(a:Az)(c:Kl)(d:Aae)(b:Bcr)(e:(List Int)):Option Y11:=((a (b.2.2.2.2.2.2.1,())).bind fun f=>(a (b.2.2.2.2.2.1,())).bind fun g=>(a (e,())).bind fun h=>(c (g.1.1,h.1.1,())).bind fun i=>(d (f.1.1,i.1.1,())).bind fun j=>some ((j.1.1,()),(),(),()))
def Rj:Asb:=fun x=>Ar1 Ac Ah Do Hc x.1 x.2.1
abbrev Aak:B4:=⟨[V17,(.ro true W4)],[(.ro true W4),Bv]⟩
abbrev Aiw:=(Bcr×(List Int)×Unit)→Option Y29
def Aa5(L:Af)(a:Az)(e:Jf)(f:Asb)(g:Dd)(h:Fs)(c:Bcr)(b:(List Int)):Option Y29:=((a (c.2.2.2.2.2.1,())).bind fun i=>(a (b,())).bind fun j=>(e (i.1.1,j.1.1,())).bind fun k=>Ag (decide (k.1.1<0)) (some (([0,0,0,0],12,()),(),(),())) ((a (b,())).bind fun l=>(f (c,b,())).bind fun m=>(g (l.1.1,m.1.1,())).bind fun n=>(h (n.1.1,())).bind fun d=>some ((d.1.1,d.1.2.1,()),(),(),())))
def N3:Aiw:=fun x=>Aa5 Ac Ah Cv Rj Bh B5 x.1 x.2.1
abbrev Ag0:B4:=⟨[V17,(.ro true W4),(.ro true W4)],[V24]⟩
abbrev Apf:=(Bcr×(List Int)×(List Int)×Unit)→Option Y73
def Agl(L:Af)(c:Cm)(a:Az)(d:Jo)(e:Dd)(f:Jf)(b:Bcr)(g:(List Int))(h:(List Int)):Option Y73:=((c (b.2.2.2.2.1,())).bind fun i=>(a (g,())).bind fun j=>(d (i.1.1,j.1.1,())).bind fun k=>(a (b.2.2.2.1,())).bind fun l=>(e (k.1.1,l.1.1,())).bind fun m=>(a (h,())).bind fun n=>(f (n.1.1,m.1.1,())).bind fun o=>some (((decide (o.1.1≥0)),()),(),(),(),()))
def Tf:Apf:=fun x=>Agl Ac A0 Ah Cg Bh Cv x.1 x.2.1 x.2.2.1
abbrev Arf:B4:=⟨[V17,(.ro true W4),(.ro true W4),V11],[Ir,Ir,Bv]⟩
abbrev Ayr:=Co5→Option Y63
def Arp(L:Af)(j:Lc)(k:Fx)(a:Az)(f:Jf)(l:Asu)(g:Cm)(m:Jo)(n:Qu)(o:Oh)(p:B6)(c:Bcr)(d:(List Int))(q:(List Int))(e:Pk):Option Y63:=((j (e,())).bind fun r=>Ag (!r.1.1) (some ((0,0,15,()),(),(),(),(),())) ((k (d,())).bind fun s=>Ag s.1.1 (some ((0,0,5,()),(),(),(),(),())) ((a (c.2.2.2.2.2.1,())).bind fun t=>(a (d,())).bind fun u=>(f (t.1.1,u.1.1,())).bind fun v=>Ag (decide (v.1.1<0)) (some ((0,0,12,()),(),(),(),(),())) ((l (c.2.2.2.2.2.2.2.2.1,e.2.2.2.2.2.2.2.2.2.2.1,e.2.2.2.2.2.2.2.2.2.2.2.1,())).bind fun b=>Ag (!(decide (b.1.2.1=0))) (some ((0,0,b.1.2.1,()),(),(),(),(),())) ((g (b.1.1,())).bind fun w=>(a (q,())).bind fun y=>(m (w.1.1,y.1.1,())).bind fun h=>(n (h.1.1,())).bind fun a0=>Ag (!a0.1.1) (some ((0,0,4,()),(),(),(),(),())) ((a (d,())).bind fun a1=>(o (h.1.1,a1.1.1,())).bind fun i=>(g (c.2.2.2.2.1,())).bind fun a2=>(f (i.1.1,a2.1.1,())).bind fun a3=>Ag (decide (a3.1.1>0)) (some ((0,0,13,()),(),(),(),(),())) ((p (i.1.1,())).bind fun a4=>some ((b.1.1,(List.getD a4.1.1 0 0),0,()),(),(),(),(),()))))))))
def Ab4:Ayr:=fun x=>Arp Ac C9 Bs Ah Cv Wc A0 Cg Ds Dq Ax x.1 x.2.1 x.2.2.1 x.2.2.2.1
abbrev Acy:B4:=⟨[V17,(.ro true W4),(.ro true W4),V11],[(.ro true W64),Bv]⟩
abbrev Al9:=Co5→Option Cn8
def Adi(L:Af)(a9:Ayr)(j:Az)(n:Asb)(a:Cm)(c:Jo)(o:Aae)(k:Kl)(p:Oh)(q:Dd)(f:Qu)(d:B6)(e:Bcr)(g:(List Int))(b0:(List Int))(h:Pk):Option Cn8:=((a9 (e,g,b0,h,())).bind fun b=>A4 (IntKind.wrap .u64 (e.2.2.2.2.1-b.1.2.1)) fun i=>A4 (IntKind.wrap .u64 (b.1.2.1+i)) fun r=>A4 (IntKind.wrap .u64 (b.1.2.1+e.2.2.2.2.2.2.2.1)) fun s=>Ag (!(decide (b.1.2.2.1=0))) (some (((0,0,0,0,false,[0,0,0,0],[0,0,0,0],[0,0,0,0],[0,0,0,0],[0,0,0,0],()),b.1.2.2.1,()),(),(),(),(),())) (Ag (decide (e.2.2.2.2.2.2.2.1>i)) ((j (g,())).bind fun l=>(n (e,g,())).bind fun t=>(a (b.1.2.1,())).bind fun b1=>(c (l.1.1,b1.1.1,())).bind fun u=>(a (i,())).bind fun b2=>(c (l.1.1,b2.1.1,())).bind fun v=>(j (h.2.2.2.2.2.1,())).bind fun b3=>(o (b3.1.1,l.1.1,())).bind fun b4=>(a (i,())).bind fun b5=>(c (b4.1.1,b5.1.1,())).bind fun w=>(k (v.1.1,w.1.1,())).bind fun y=>(a (h.2.2.2.2.2.2.1,())).bind fun b6=>(c (y.1.1,b6.1.1,())).bind fun b7=>(a (10000,())).bind fun b8=>(p (b7.1.1,b8.1.1,())).bind fun a0=>(k (y.1.1,a0.1.1,())).bind fun b9=>(a (r,())).bind fun c0=>(c (t.1.1,c0.1.1,())).bind fun c1=>(q (b9.1.1,c1.1.1,())).bind fun a1=>(f (u.1.1,())).bind fun c2=>Ag (!c2.1.1) (some (((0,0,0,0,false,[0,0,0,0],[0,0,0,0],[0,0,0,0],[0,0,0,0],[0,0,0,0],()),4,()),(),(),(),(),())) ((f (v.1.1,())).bind fun c3=>Ag (!c3.1.1) (some (((0,0,0,0,false,[0,0,0,0],[0,0,0,0],[0,0,0,0],[0,0,0,0],[0,0,0,0],()),4,()),(),(),(),(),())) ((f (a1.1.1,())).bind fun c4=>Ag (!c4.1.1) (some (((0,0,0,0,false,[0,0,0,0],[0,0,0,0],[0,0,0,0],[0,0,0,0],[0,0,0,0],()),4,()),(),(),(),(),())) ((d (t.1.1,())).bind fun c5=>(d (u.1.1,())).bind fun c6=>(d (w.1.1,())).bind fun c7=>(d (a0.1.1,())).bind fun c8=>(d (a1.1.1,())).bind fun c9=>some (((b.1.1,b.1.2.1,i,r,true,c5.1.1,c6.1.1,c7.1.1,c9.1.1,c8.1.1,()),0,()),(),(),(),(),()))))) ((j (g,())).bind fun m=>(n (e,g,())).bind fun a2=>(a (b.1.2.1,())).bind fun d0=>(c (m.1.1,d0.1.1,())).bind fun a3=>(a (e.2.2.2.2.2.2.2.1,())).bind fun d1=>(c (m.1.1,d1.1.1,())).bind fun a4=>(j (h.2.2.2.2.2.1,())).bind fun d2=>(o (d2.1.1,m.1.1,())).bind fun d3=>(a (e.2.2.2.2.2.2.2.1,())).bind fun d4=>(c (d3.1.1,d4.1.1,())).bind fun a5=>(k (a4.1.1,a5.1.1,())).bind fun a6=>(a (h.2.2.2.2.2.2.1,())).bind fun d5=>(c (a6.1.1,d5.1.1,())).bind fun d6=>(a (10000,())).bind fun d7=>(p (d6.1.1,d7.1.1,())).bind fun a7=>(k (a6.1.1,a7.1.1,())).bind fun d8=>(a (s,())).bind fun d9=>(c (a2.1.1,d9.1.1,())).bind fun e0=>(q (d8.1.1,e0.1.1,())).bind fun a8=>(f (a3.1.1,())).bind fun e1=>Ag (!e1.1.1) (some (((0,0,0,0,false,[0,0,0,0],[0,0,0,0],[0,0,0,0],[0,0,0,0],[0,0,0,0],()),4,()),(),(),(),(),())) ((f (a4.1.1,())).bind fun e2=>Ag (!e2.1.1) (some (((0,0,0,0,false,[0,0,0,0],[0,0,0,0],[0,0,0,0],[0,0,0,0],[0,0,0,0],()),4,()),(),(),(),(),())) ((f (a8.1.1,())).bind fun e3=>Ag (!e3.1.1) (some (((0,0,0,0,false,[0,0,0,0],[0,0,0,0],[0,0,0,0],[0,0,0,0],[0,0,0,0],()),4,()),(),(),(),(),())) ((d (a2.1.1,())).bind fun e4=>(d (a3.1.1,())).bind fun e5=>(d (a5.1.1,())).bind fun e6=>(d (a7.1.1,())).bind fun e7=>(d (a8.1.1,())).bind fun e8=>some (((b.1.1,b.1.2.1,e.2.2.2.2.2.2.2.1,s,false,e4.1.1,e5.1.1,e6.1.1,e8.1.1,e7.1.1,()),0,()),(),(),(),(),())))))))
def Rf:Al9:=fun x=>Adi Ac Ab4 Ah Rj A0 Cg Hc Do Dq Bh Ds Ax x.1 x.2.1 x.2.2.1 x.2.2.2.1
set_option maxRecDepth 100000
abbrev Arl:B4:=⟨[],[(.ptr V55)]⟩
abbrev Bag:=Unit→Option ((Y84×Unit)×Unit)
def Ayi(L:Af):Option ((Y84×Unit)×Unit):=(some ((([0,0,0,0],[],[],[],()),()),()))
def Ajn:Bag:=fun x=>Ayi Ac
abbrev Nh:B4:=⟨[(.ptr V55),(.ro true W4)],[Bv]⟩
abbrev Vc:=(Y84×(List Int)×Unit)→Option Y91
def Nd(L:Af)(d:Fx)(e:Acl)(a:Y84)(c:(List Int)):Option Y91:=((d (c,())).bind fun f=>Ag f.1.1 (some ((2,()),a,(),())) ((e (a.1,c,())).bind fun b=>Ag (!(decide (b.1.2.1=0))) (some ((b.1.2.1,()),a,(),())) (some ((0,()),(b.1.1,a.2),(),()))))
def Ie:Vc:=fun x=>Nd Ac Bs Ip x.1 x.2.1
abbrev Hb:B4:=⟨[(.rp W50),Ir],[V24]⟩
abbrev Je:=(Y84×Int×Unit)→Option Y55
def V0(e:(Y84×Int×Int×Unit)→Option Y55)(b:Y84)(c:Int)(a:Int):Option Y55:=(A4 (List.length b.2.2.1) fun d=>Ag (decide (a<((d:Nat):Int))) (Ag (Cj a d) (Ag (decide ((List.getD b.2.2.1 (Int.toNat a) 0)=c)) (some ((true,()),(),(),())) (e (b,c,(IntKind.wrap .i64 (a+1)),()))) none) (some ((false,()),(),(),())))
def Nj(L:Af)(a:Y84)(b:Int):Option Y55:=(L _ _ (fun z x=>V0 z x.1 x.2.1 x.2.2.1) (a,b,0,()))
def Eo:Je:=fun x=>Nj Ac x.1 x.2.1
abbrev K2:B4:=⟨[(.ptr V55),Ir],[(.ro true W4)]⟩
abbrev Rp:=(Y84×Int×Unit)→Option Y89
def S8(e:(Y84×Int×(List Int)×Int×Unit)→Option Y89)(a:Y84)(d:Int)(f:(List Int))(b:Int):Option Y89:=(A4 (List.length a.2.2.2.1) fun c=>Ag (decide (b<((c:Nat):Int))) (Ag (Cj b c) (Ag (decide ((List.getD a.2.2.2.1 (Int.toNat b) (0,[0,0,0,0],())).1=d)) (Ag (Cj b c) (some (((List.getD a.2.2.2.1 (Int.toNat b) (0,[0,0,0,0],())).2.1,()),a,(),())) none) (e (a,d,f,(IntKind.wrap .i64 (b+1)),()))) none) (some (([0,0,0,0],()),a,(),())))
def K3(L:Af)(a:Y84)(b:Int):Option Y89:=(L _ _ (fun z x=>S8 z x.1 x.2.1 x.2.2.1 x.2.2.2.1) (a,b,[0,0,0,0],0,()))
def Gw:Rp:=fun x=>K3 Ac x.1 x.2.1
abbrev Qt:B4:=⟨[(.ptr V55),(.ro false W67)],[Bv]⟩
abbrev Zx:=(Y84×Y72×Unit)→Option Y91
def Oc(f:(Y84×Y72×(List Int)×Int×Unit)→Option Y91)(a:Y84)(d:Y72)(e:(List Int))(b:Int):Option Y91:=(A4 (List.length a.2.2.2.1) fun c=>Ag (decide (b<((c:Nat):Int))) (Ag (Cj b c) (Ag (decide ((List.getD a.2.2.2.1 (Int.toNat b) (0,[0,0,0,0],())).1=d.2.2.1)) (Ag (Cj b c) (some ((0,()),(a.1,a.2.1,a.2.2.1,(List.set a.2.2.2.1 (Int.toNat b) ((List.getD a.2.2.2.1 (Int.toNat b) (0,[0,0,0,0],())).1,e,(List.getD a.2.2.2.1 (Int.toNat b) (0,[0,0,0,0],())).2.2)),a.2.2.2.2),(),())) none) (f (a,d,e,(IntKind.wrap .i64 (b+1)),()))) none) (Ag (A8 (c+1) R8) (some ((0,()),(a.1,a.2.1,a.2.2.1,(List.append a.2.2.2.1 [(d.2.2.1,e,())]),a.2.2.2.2),(),())) none))
def Q9(L:Af)(h:Fx)(i:Je)(j:Afj)(k:Atj)(l:Ru)(m:Rp)(n:Acl)(b:Y84)(a:Y72):Option Y91:=(A4 (IntKind.wrap .u64 (a.2.1-1)) fun e=>A4 (List.length b.2.1) fun f=>Ag (decide (a.2.2.1=0)) (some ((2,()),b,(),())) ((h (a.2.2.2.1,())).bind fun o=>Ag o.1.1 (some ((2,()),b,(),())) (Ag (decide ((List.length a.2.2.2.2.1:Int)>64)) (some ((2,()),b,(),())) (Ag (decide (a.2.1<1)) (some ((8,()),b,(),())) (Ag (decide (a.2.1>(IntKind.wrap .u64 ((f:Nat):Int)))) (some ((8,()),b,(),())) (Ag (decide (a.1≥a.2.1)) (some ((8,()),b,(),())) ((i (b,a.1,())).bind fun p=>Ag p.1.1 (some ((9,()),b,(),())) (Ag (Cj e f) ((j ((a.1,a.2.2.1,a.2.2.2.1,()),())).bind fun q=>(k ((List.getD b.2.1 (Int.toNat e) (List.replicate 32 0)),(IntKind.wrap .i64 a.2.1),(IntKind.wrap .i64 a.1),q.1.1,a.2.2.2.2.1,())).bind fun r=>Ag (!r.1.1) (some ((16,()),b,(),())) ((l (b.1,a.2.2.2.1,())).bind fun g=>Ag (!(decide (g.1.2.1=0))) (some ((10,()),b,(),())) ((m (b,a.2.2.1,())).bind fun c=>(n (c.1.1,a.2.2.2.1,())).bind fun d=>Ag (!(decide (d.1.2.1=0))) (some ((d.1.2.1,()),c.2.1,(),())) (Ag (A8 ((List.length c.2.1.2.2.1)+1) (Ty.int IntKind.u64)) (L _ _ (fun z x=>Oc z x.1 x.2.1 x.2.2.1 x.2.2.2.1) ((g.1.1,c.2.1.2.1,(List.append c.2.1.2.2.1 [a.1]),c.2.1.2.2.2),a,d.1.1,0,())) none)))) none))))))))
def Jm:Zx:=fun x=>Q9 Ac Bs Eo N0 Pw Ec Gw Ip x.1 x.2.1
abbrev J4:B4:=⟨[(.rp W50)],[V13]⟩
abbrev Ps:=(Y84×Unit)→Option Y27
def J1(k:Y90→Option Y27)(l:(Y84×(List Y9)×Int×Int×Unit)→Option Y27)(b:Y84)(e:(List Y9))(c:Int)(a:Int):Option Y27:=(A4 (IntKind.wrap .i64 (a-1)) fun h=>A4 (List.length e) fun d=>A4 (List.take ((Int.toNat a)-0) (List.drop 0 e)) fun f=>A4 (List.take (d-(Int.toNat a)) (List.drop (Int.toNat a) e)) fun i=>A4 (List.append [(List.getD b.2.2.2.1 (Int.toNat c) (0,[0,0,0,0],()))] i) fun j=>A4 (List.length j) fun g=>Ag (decide (a>0)) (Ag (Cj h d) (Ag (Cj c (List.length b.2.2.2.1)) (Ag (decide ((List.getD e (Int.toNat h) (0,[0,0,0,0],())).1>(List.getD b.2.2.2.1 (Int.toNat c) (0,[0,0,0,0],())).1)) (l (b,e,c,h,())) (Ag (decide (a=a)) (Ag ((decide (0≤a))&&(decide (a≤((d:Nat):Int)))) (Ag (Cj c (List.length b.2.2.2.1)) (Ag ((decide (0≤a))&&(decide (a≤((d:Nat):Int)))) (Ag (A8 (1+(List.length i)) R8) (Ag ((decide (0<g))&&(A8 ((List.length f)+g) R8)) (k (b,(List.append f j),(IntKind.wrap .i64 (c+1)),())) none) none) none) none) none) none)) none) none) (Ag (decide (a=a)) (Ag ((decide (0≤a))&&(decide (a≤((d:Nat):Int)))) (Ag (Cj c (List.length b.2.2.2.1)) (Ag ((decide (0≤a))&&(decide (a≤((d:Nat):Int)))) (Ag (A8 (1+(List.length i)) R8) (Ag ((decide (0<g))&&(A8 ((List.length f)+g) R8)) (k (b,(List.append f j),(IntKind.wrap .i64 (c+1)),())) none) none) none) none) none) none))
def Sa(L:Af)(d:Y90→Option Y27)(b:Y84)(a:(List Y9))(c:Int):Option Y27:=(Ag (decide (c<(List.length b.2.2.2.1:Int))) (L _ _ (fun z x=>J1 d z x.1 x.2.1 x.2.2.1 x.2.2.2.1) (b,a,c,(List.length a:Int),())) (some ((a,()),(),())))
def J7(L:Af)(a:Y84):Option Y27:=(L _ _ (fun z x=>Sa L z x.1 x.2.1 x.2.2.1) (a,[],0,()))
def Gg:Ps:=fun x=>J7 Ac x.1
set_option maxRecDepth 100000
abbrev Yr:B4:=⟨[Bv],[V24]⟩
abbrev Afm:=(Int×Unit)→Option Y15
def Yf(L:Af)(a:Int):Option Y15:=(Ag (decide (a≥1)) (some (((decide (a≤7)),()),(),())) (some ((false,()),(),())))
def Jv:Afm:=fun x=>Yf Ac x.1
set_option maxRecDepth 100000
abbrev Ask:B4:=⟨[],[V59]⟩
abbrev Azl:=Unit→Option ((Sd×Unit)×Unit)
def Aq2(L:Af)(b:Ami)(c:Aly)(d:Al7)(e:Azs)(f:Bag):Option ((Sd×Unit)×Unit):=((b ()).bind fun a=>(c (a.1.1,())).bind fun g=>(d ()).bind fun h=>(e ()).bind fun i=>(f ()).bind fun j=>some (((0,a.1.1,g.1.1,0,h.1.1,i.1.1,[],j.1.1,()),()),()))
def Acc:Azl:=fun x=>Aq2 Ac X5 Rd X9 Ai6 Ajn
abbrev Pa:B4:=⟨[V59,V17],[(.ro true W4),Bv]⟩
abbrev Xn:=(Sd×Bcr×Unit)→Option (Y8×Sd×Unit×Unit)
def Pd(L:Af)(e:Is)(f:Aiw)(g:Zp)(h:Apf)(a:Sd)(b:Bcr):Option (Y8×Sd×Unit×Unit):=(Ag (decide ((List.length b.2.2.2.2.2.2.2.2.1:Int)>4096)) (some (([0,0,0,0],6,()),a,(),())) (Ag (decide (b.1=0)) (some (([0,0,0,0],2,()),a,(),())) (Ag (decide (b.2.2.1=0)) (some (([0,0,0,0],2,()),a,(),())) (Ag (decide (b.1=18446744073709551615)) (some (([0,0,0,0],2,()),a,(),())) ((e (a.2.2.2.2.2.1,b.1,())).bind fun c=>Ag (!(decide (b.2.1=c.1.1.2.2.1))) (some (([0,0,0,0],11,()),(a.1,a.2.1,a.2.2.1,a.2.2.2.1,a.2.2.2.2.1,c.2.1,a.2.2.2.2.2.2),(),())) (Ag (decide ((IntKind.wrap .u64 (c.1.1.2.2.1+1))=0)) (some (([0,0,0,0],4,()),(a.1,a.2.1,a.2.2.1,a.2.2.2.1,a.2.2.2.2.1,c.2.1,a.2.2.2.2.2.2),(),())) ((f (b,a.2.2.1.2.2.2.1,())).bind fun d=>Ag (!(decide (d.1.2.1=0))) (some (([0,0,0,0],d.1.2.1,()),(a.1,a.2.1,a.2.2.1,a.2.2.2.1,a.2.2.2.2.1,c.2.1,a.2.2.2.2.2.2),(),())) ((g (a.2.2.1,a.2.1,())).bind fun i=>Ag (decide (b.2.2.2.2.1>i.1.1)) (some (([0,0,0,0],13,()),(a.1,a.2.1,a.2.2.1,a.2.2.2.1,a.2.2.2.2.1,c.2.1,a.2.2.2.2.2.2),(),())) ((h (b,d.1.1,c.1.1.2.1,())).bind fun j=>Ag (!j.1.1) (some (([0,0,0,0],10,()),(a.1,a.2.1,a.2.2.1,a.2.2.2.1,a.2.2.2.2.1,c.2.1,a.2.2.2.2.2.2),(),())) (some ((d.1.1,0,()),(a.1,a.2.1,a.2.2.1,a.2.2.2.1,a.2.2.2.2.1,c.2.1,a.2.2.2.2.2.2),(),())))))))))))
def I0:Xn:=fun x=>Pd Ac Cq N3 Jg Tf x.1 x.2.1
abbrev It:B4:=⟨[V59,Ir,(.ro true W4)],[V7]⟩
abbrev Lr:=(Sd×Int×(List Int)×Unit)→Option Co6
def Qa(L:Af)(f:Av0)(a:Sd)(d:Int)(e:(List Int)):Option Co6:=(A4 (List.length a.2.2.2.2.2.2.1) fun b=>A4 (List.append a.2.2.2.2.2.2.1 [((IntKind.wrap .u64 ((b:Nat):Int)),d,e,())]) fun c=>Ag (A8 (b+1) R9) ((f (c,(List.length c:Int),())).bind fun g=>Ag (A8 ((List.length a.2.2.2.2.2.2.2.1.2.1)+1) (Ty.arr 32 (Ty.int IntKind.u8))) (some ((((IntKind.wrap .u64 ((b:Nat):Int)),d,e,()),()),(a.1,a.2.1,a.2.2.1,a.2.2.2.1,a.2.2.2.2.1,a.2.2.2.2.2.1,c,(a.2.2.2.2.2.2.2.1.1,(List.append a.2.2.2.2.2.2.2.1.2.1 [g.1.1]),a.2.2.2.2.2.2.2.1.2.2),a.2.2.2.2.2.2.2.2),(),(),())) none) none)
def Fq:Lr:=fun x=>Qa Ac Zr x.1 x.2.1 x.2.2.1
abbrev Vm:B4:=⟨[V59,V17],[(.ro false W79)]⟩
abbrev Ad6:=(Sd×Bcr×Unit)→Option Bx6
def Vn(L:Af)(i:Xn)(j:Al9)(k:Aio)(g:Tj)(l:Lo)(m:Ayo)(n:Tp)(o:Fx)(p:Te)(q:Lr)(r:Sd)(b:Bcr):Option Bx6:=((i (r,b,())).bind fun a=>Ag (!(decide (a.1.2.1=0))) (some (((0,a.1.2.1,(0,0,0,0,false,[0,0,0,0],[0,0,0,0],[0,0,0,0],[0,0,0,0],[0,0,0,0],()),[0,0,0,0],[0,0,0,0],0,[0,0,0,0],[0,0,0,0],[],()),()),a.2.1,(),())) ((j (b,a.2.1.2.2.1.2.2.2.1,a.2.1.2.2.2.2.1.1,a.2.1.2.1,())).bind fun c=>Ag (!(decide (c.1.2.1=0))) (some (((0,c.1.2.1,(0,0,0,0,false,[0,0,0,0],[0,0,0,0],[0,0,0,0],[0,0,0,0],[0,0,0,0],()),[0,0,0,0],[0,0,0,0],0,[0,0,0,0],[0,0,0,0],[],()),()),a.2.1,(),())) ((k (a.2.1.2.2.2.2.1,c.1.1.1,())).bind fun d=>Ag (!(decide (d.1.2.1=0))) (some (((0,4,(0,0,0,0,false,[0,0,0,0],[0,0,0,0],[0,0,0,0],[0,0,0,0],[0,0,0,0],()),[0,0,0,0],[0,0,0,0],0,[0,0,0,0],[0,0,0,0],[],()),()),a.2.1,(),())) ((g (a.2.1.2.2.2.2.2.1,b.1,3,c.1.1.2.2.2.2.2.2.1,())).bind fun s=>(g (s.2.1,b.1,2,c.1.1.2.2.2.2.2.2.2.1,())).bind fun t=>(g (t.2.1,b.1,1,c.1.1.2.2.2.2.2.2.2.2.1,())).bind fun u=>(g (u.2.1,b.1,4,c.1.1.2.2.2.2.2.2.2.2.2.1,())).bind fun v=>(l (v.2.1,b.1,())).bind fun e=>(m (a.2.1.2.2.2.1,c.1.1.2.2.1,())).bind fun f=>Ag c.1.1.2.2.2.2.1 (some (((0,0,c.1.1,a.1.1,[0,0,0,0],0,[0,0,0,0],[0,0,0,0],[],()),()),(a.2.1.1,a.2.1.2.1,(a.2.1.2.2.1.1,a.2.1.2.2.1.2.1,(IntKind.wrap .u64 (a.2.1.2.2.1.2.2.1+c.1.1.2.2.2.1)),a.2.1.2.2.1.2.2.2),f.1.1,d.1.1,e.2.1,a.2.1.2.2.2.2.2.2),(),())) (Ag (decide (b.2.2.1=b.1)) (some (((0,0,c.1.1,a.1.1,[0,0,0,0],0,[0,0,0,0],[0,0,0,0],[],()),()),(a.2.1.1,a.2.1.2.1,(a.2.1.2.2.1.1,a.2.1.2.2.1.2.1,(IntKind.wrap .u64 (a.2.1.2.2.1.2.2.1+c.1.1.2.2.2.1)),a.2.1.2.2.1.2.2.2),f.1.1,d.1.1,e.2.1,a.2.1.2.2.2.2.2.2),(),())) (Ag (!(decide (b.2.2.1=18446744073709551615))) ((n (e.2.1,b.1,b.2.2.1,b.2.2.2.1,())).bind fun w=>some (((0,0,c.1.1,a.1.1,b.2.2.2.1,0,[0,0,0,0],[0,0,0,0],[],()),()),(a.2.1.1,a.2.1.2.1,(a.2.1.2.2.1.1,a.2.1.2.2.1.2.1,(IntKind.wrap .u64 (a.2.1.2.2.1.2.2.1+c.1.1.2.2.2.1)),a.2.1.2.2.1.2.2.2),f.1.1,d.1.1,w.2.1,a.2.1.2.2.2.2.2.2),(),())) ((o (b.2.2.2.1,())).bind fun y=>Ag (!y.1.1) ((p (e.2.1,b.1,b.2.2.2.1,())).bind fun a0=>(q ((a.2.1.1,a.2.1.2.1,(a.2.1.2.2.1.1,a.2.1.2.2.1.2.1,(IntKind.wrap .u64 (a.2.1.2.2.1.2.2.1+c.1.1.2.2.2.1)),a.2.1.2.2.1.2.2.2),f.1.1,d.1.1,a0.2.1,a.2.1.2.2.2.2.2.2),b.1,b.2.2.2.1,())).bind fun h=>some (((0,0,c.1.1,a.1.1,b.2.2.2.1,0,[0,0,0,0],[0,0,0,0],[h.1.1],()),()),h.2.1,(),())) (some (((0,0,c.1.1,a.1.1,b.2.2.2.1,0,[0,0,0,0],[0,0,0,0],[],()),()),(a.2.1.1,a.2.1.2.1,(a.2.1.2.2.1.1,a.2.1.2.2.1.2.1,(IntKind.wrap .u64 (a.2.1.2.2.1.2.2.1+c.1.1.2.2.2.1)),a.2.1.2.2.1.2.2.2),f.1.1,d.1.1,e.2.1,a.2.1.2.2.2.2.2.2),(),())))))))))
def Gz:Ad6:=fun x=>Vn Ac I0 Rf N7 Fk Dm Ab9 Fj Bs Fh Fq x.1 x.2.1
abbrev Nb:B4:=⟨[V59,V7],[(.ro false W79)]⟩
abbrev U4:=(Sd×Y18×Unit)→Option Bx6
def Wm(g:Iq)(h:Lr)(i:(Sd×Btz×Y58×Btz×Int×Unit)→Option Bx6)(b:Sd)(j:Btz)(d:Y58)(a:Btz)(c:Int):Option Bx6:=(A4 (List.length d.2.2.1) fun e=>Ag (decide (c<((e:Nat):Int))) (Ag (Cj c e) ((g (b.2.2.2.2.2.1,3,(List.getD d.2.2.1 (Int.toNat c) (0,[0,0,0,0],())).2.1,())).bind fun k=>Ag (Cj c e) (Ag (Cj c e) ((h ((b.1,b.2.1,b.2.2.1,b.2.2.2.1,b.2.2.2.2.1,k.2.1,b.2.2.2.2.2.2),(List.getD d.2.2.1 (Int.toNat c) (0,[0,0,0,0],())).1,(List.getD d.2.2.1 (Int.toNat c) (0,[0,0,0,0],())).2.1,())).bind fun f=>Ag (A8 ((List.length a.2.2.2.2.2.2.2.2.1)+1) R9) (i (f.2.1,j,d,(a.1,a.2.1,a.2.2.1,a.2.2.2.1,a.2.2.2.2.1,a.2.2.2.2.2.1,a.2.2.2.2.2.2.1,a.2.2.2.2.2.2.2.1,(List.append a.2.2.2.2.2.2.2.2.1 [f.1.1]),a.2.2.2.2.2.2.2.2.2),(IntKind.wrap .i64 (c+1)),())) none) none) none) none) (some ((a,()),b,(),())))
def M9(L:Af)(d:Zg)(e:Ap1)(f:Ary)(g:Iq)(h:Lr)(a:Sd)(i:Y18):Option Bx6:=((d (a.2.2.2.2.2.1,3,())).bind fun c=>(e (a.2.2.2.2.1,a.2.1,c.1.1,i,a.2.2.1.2.1,())).bind fun b=>Ag (!(decide (b.1.2.2.1=0))) (some (((0,b.1.2.2.1,(0,0,0,0,false,[0,0,0,0],[0,0,0,0],[0,0,0,0],[0,0,0,0],[0,0,0,0],()),[0,0,0,0],[0,0,0,0],0,[0,0,0,0],[0,0,0,0],[],()),()),(a.1,a.2.1,a.2.2.1,a.2.2.2.1,a.2.2.2.2.1,c.2.1,a.2.2.2.2.2.2),(),())) ((f (b.1.2.1.2.2.1,())).bind fun j=>L _ _ (fun z x=>Wm g h z x.1 x.2.1 x.2.2.1 x.2.2.2.1 x.2.2.2.2.1) ((a.1,a.2.1,a.2.2.1,a.2.2.2.1,b.1.1,c.2.1,a.2.2.2.2.2.2),(0,0,(0,0,0,0,false,[0,0,0,0],[0,0,0,0],[0,0,0,0],[0,0,0,0],[0,0,0,0],()),[0,0,0,0],[0,0,0,0],0,[0,0,0,0],[0,0,0,0],[],()),b.1.2.1,(0,0,(0,0,0,0,false,[0,0,0,0],[0,0,0,0],[0,0,0,0],[0,0,0,0],[0,0,0,0],()),[0,0,0,0],[0,0,0,0],b.1.2.1.1,b.1.2.1.2.1,j.1.1,[],()),0,())))
def Er:U4:=fun x=>M9 Ac Ja Tu Rm Dx Fq x.1 x.2.1
abbrev O6:B4:=⟨[V59,(.ro false W92)],[Bv]⟩
abbrev Wy:=(Sd×Bbr×Unit)→Option Cp1
def Ox(L:Af)(j:Asr)(k:Avo)(l:Ayh)(m:Afw)(n:Fx)(f:Az)(o:Dd)(p:Qu)(q:Vc)(r:Abt)(s:Zx)(a:Sd)(b:Bbr):Option Cp1:=(Ag (decide (b.1=3)) ((j (a.2.2.2.1,a.2.1.1,b.2.2.2.1,())).bind fun g=>(k (a.2.2.1,b.2.2.2.1,g.1.1,a.2.1,())).bind fun c=>Ag (decide (c.1.2.1=0)) (some ((c.1.2.1,()),(a.1,a.2.1,c.1.1,g.1.1,a.2.2.2.2),(),())) (some ((c.1.2.1,()),a,(),()))) (Ag (decide (b.1=4)) ((l (a.2.1,b.2.2.2.2.1,b.2.2.2.2.2.1,())).bind fun d=>Ag (decide (d.1.2.1=0)) (some ((d.1.2.1,()),(a.1,d.1.1,a.2.2),(),())) (some ((d.1.2.1,()),a,(),()))) (Ag (decide (b.1=5)) ((m (a.2.2.2.2.1,b.2.2.2.2.2.2.1,())).bind fun e=>Ag (decide (e.1.2.1=0)) (some ((e.1.2.1,()),(a.1,a.2.1,a.2.2.1,a.2.2.2.1,e.1.1,a.2.2.2.2.2),(),())) (some ((e.1.2.1,()),a,(),()))) (Ag (decide (b.1=6)) (Ag (decide (b.2.2.2.2.2.2.1=0)) (some ((2,()),a,(),())) (Ag (decide (b.2.2.2.2.2.2.1=18446744073709551615)) (some ((2,()),a,(),())) ((n (b.2.2.2.2.2.1,())).bind fun t=>Ag t.1.1 (some ((2,()),a,(),())) ((f (a.2.2.2.2.2.2.2.1.1,())).bind fun u=>(f (b.2.2.2.2.2.1,())).bind fun v=>(o (u.1.1,v.1.1,())).bind fun w=>(p (w.1.1,())).bind fun y=>Ag (!y.1.1) (some ((4,()),a,(),())) ((q (a.2.2.2.2.2.2.2.1,b.2.2.2.2.2.1,())).bind fun a0=>(r (a.2.2.2.2.2.1,b.2.2.2.2.2.2.1,b.2.2.2.2.2.1,())).bind fun h=>some ((h.1.1,()),(a.1,a.2.1,a.2.2.1,a.2.2.2.1,a.2.2.2.2.1,h.2.1,a.2.2.2.2.2.2.1,a0.2.1,a.2.2.2.2.2.2.2.2),(),())))))) ((s (a.2.2.2.2.2.2.2.1,b.2.2.2.2.2.2.2.1,())).bind fun i=>some ((i.1.1,()),(a.1,a.2.1,a.2.2.1,a.2.2.2.1,a.2.2.2.2.1,a.2.2.2.2.2.1,a.2.2.2.2.2.2.1,i.2.1,a.2.2.2.2.2.2.2.2),(),()))))))
def E9:Wy:=fun x=>Ox Ac Wa Z3 Acj My Bs Ah Bh Ds Ie H9 Jm x.1 x.2.1
abbrev L0:B4:=⟨[V59,(.ro false W92)],[(.ro false W79)]⟩
abbrev Iv:=(Sd×Bbr×Unit)→Option Bx6
def L2(L:Af)(d:Afm)(e:Ad6)(f:U4)(g:Wy)(b:Sd)(a:Bbr):Option Bx6:=(A4 (IntKind.wrap .u64 (b.1+1)) fun c=>Ag (!(decide (c=0))) ((d (a.1,())).bind fun n=>Ag (!n.1.1) (some (((0,17,(0,0,0,0,false,[0,0,0,0],[0,0,0,0],[0,0,0,0],[0,0,0,0],[0,0,0,0],()),[0,0,0,0],[0,0,0,0],0,[0,0,0,0],[0,0,0,0],[],()),()),(c,b.2),(),())) (Ag (decide (a.1=1)) ((e ((c,b.2),a.2.1,())).bind fun h=>some (((a.1,h.1.1.2),()),h.2.1,(),())) (Ag (decide (a.1=2)) ((f ((c,b.2),a.2.2.1,())).bind fun i=>some (((a.1,i.1.1.2),()),i.2.1,(),())) ((g ((c,b.2),a,())).bind fun j=>some (((a.1,j.1.1,(0,0,0,0,false,[0,0,0,0],[0,0,0,0],[0,0,0,0],[0,0,0,0],[0,0,0,0],()),[0,0,0,0],[0,0,0,0],0,[0,0,0,0],[0,0,0,0],[],()),()),j.2.1,(),()))))) ((d (a.1,())).bind fun o=>Ag (!o.1.1) (some (((0,17,(0,0,0,0,false,[0,0,0,0],[0,0,0,0],[0,0,0,0],[0,0,0,0],[0,0,0,0],()),[0,0,0,0],[0,0,0,0],0,[0,0,0,0],[0,0,0,0],[],()),()),b,(),())) (Ag (decide (a.1=1)) ((e (b,a.2.1,())).bind fun k=>some (((a.1,k.1.1.2),()),k.2.1,(),())) (Ag (decide (a.1=2)) ((f (b,a.2.2.1,())).bind fun l=>some (((a.1,l.1.1.2),()),l.2.1,(),())) ((g (b,a,())).bind fun m=>some (((a.1,m.1.1,(0,0,0,0,false,[0,0,0,0],[0,0,0,0],[0,0,0,0],[0,0,0,0],[0,0,0,0],()),[0,0,0,0],[0,0,0,0],0,[0,0,0,0],[0,0,0,0],[],()),()),m.2.1,(),()))))))
def Fi:Iv:=fun x=>L2 Ac Jv Gz Er E9 x.1 x.2.1
abbrev H0:B4:=⟨[V59],[V19]⟩
abbrev Pi:=(Sd×Unit)→Option Ci6
def Xu(d:Je)(e:(Sd×Eu×Eu×Int×Unit)→Option Ci6)(b:Sd)(f:Eu)(a:Eu)(c:Int):Option Ci6:=(Ag (decide (c<(List.length b.2.2.2.2.2.2.1:Int))) ((d (b.2.2.2.2.2.2.2.1,(IntKind.wrap .u64 c),())).bind fun g=>Ag (A8 ((List.length a.2.2.2.2.2.2.2.2.1)+1) (Ty.bool)) (e (b,f,(a.1,a.2.1,a.2.2.1,a.2.2.2.1,a.2.2.2.2.1,a.2.2.2.2.2.1,a.2.2.2.2.2.2.1,a.2.2.2.2.2.2.2.1,(List.append a.2.2.2.2.2.2.2.2.1 [g.1.1]),a.2.2.2.2.2.2.2.2.2),(IntKind.wrap .i64 (c+1)),())) none) (some ((a,()),b,())))
def O5(L:Af)(b:Th)(c:Ps)(d:Je)(a:Sd):Option Ci6:=((b (a.2.2.2.2.2.1,())).bind fun e=>Ag (A8 (0+(List.length a.2.2.2.2.2.2.1)) R9) ((c (a.2.2.2.2.2.2.2.1,())).bind fun f=>Ag (A8 (0+(List.length a.2.2.2.2.1.2.2.2.2.2.1)) Dt) (L _ _ (fun z x=>Xu d z x.1 x.2.1 x.2.2.1 x.2.2.2.1) (a,(0,(0,0,0,[0,0,0,0],0,[0,0,0,0],0,[0,0,0,0],0,0,0,0,()),(0,0,0,[0,0,0,0],()),0,([0,0,0,0],0,0,0,(false,[0,0,0,0],()),[],()),[],[[0,0,0,0],[0,0,0,0],[0,0,0,0],[0,0,0,0]],[],[],[0,0,0,0],[],()),(a.1,a.2.1,a.2.2.1,a.2.2.2.1,a.2.2.2.2.1,e.1.1,a.2.2.2.2.2.1.2.1,a.2.2.2.2.2.2.1,[],a.2.2.2.2.2.2.2.1.1,f.1.1,()),0,())) none) none)
def E6:Pi:=fun x=>O5 Ac He Gg Eo x.1
set_option maxRecDepth 100000
abbrev Zw:B4:=⟨[Bv,Bv],[Bv]⟩
abbrev Aik:=Y3→Option Y53
def Awt(L:Af)(b:Int)(a:Int):Option Y53:=(Ag (decide ((IntKind.wrap .u64 a)≠0)) (some (((IntKind.wrap .i64 (Int.tmod (IntKind.wrap .u64 b) (IntKind.wrap .u64 a))),()),(),(),())) none)
def M7:Aik:=fun x=>Awt Ac x.1 x.2.1
abbrev Qx:B4:=⟨[V45,V45],[V24]⟩
abbrev Ale:=((List Y17)×(List Y17)×Unit)→Option Y55
def Aag(e:((List Y17)×(List Y17)×Int×Unit)→Option Y55)(b:(List Y17))(c:(List Y17))(a:Int):Option Y55:=(A4 (List.length b) fun d=>Ag (decide (a<((d:Nat):Int))) (Ag (Cj a d) (Ag (Cj a (List.length c)) (Ag (!(Yu R7 (List.getD b (Int.toNat a) ((0:Int),[(0:Int),(0:Int),(0:Int),(0:Int)],(0:Int),())) (List.getD c (Int.toNat a) ((0:Int),[(0:Int),(0:Int),(0:Int),(0:Int)],(0:Int),())))) (some ((false,()),(),(),())) (e (b,c,(IntKind.wrap .i64 (a+1)),()))) none) none) (some ((true,()),(),(),())))
def Zv(L:Af)(a:(List Y17))(b:(List Y17)):Option Y55:=(Ag (!(decide ((List.length a:Int)=(List.length b:Int)))) (some ((false,()),(),(),())) (L _ _ (fun z x=>Aag z x.1 x.2.1 x.2.2.1) (a,b,0,())))
def Jk:Ale:=fun x=>Zv Ac x.1 x.2.1
abbrev X3:B4:=⟨[V2,V2],[V24]⟩
abbrev Ari:=((List Bool)×(List Bool)×Unit)→Option Y55
def Aei(d:((List Bool)×(List Bool)×Int×Unit)→Option Y55)(b:(List Bool))(c:(List Bool))(a:Int):Option Y55:=(Ag (decide (a<(List.length b:Int))) (Ag (Cj a (List.length b)) (Ag (Cj a (List.length c)) (Ag (!(Yu (Ty.bool) (List.getD b (Int.toNat a) false) (List.getD c (Int.toNat a) false))) (some ((false,()),(),(),())) (d (b,c,(IntKind.wrap .i64 (a+1)),()))) none) none) (some ((true,()),(),(),())))
def Afr(L:Af)(a:(List Bool))(b:(List Bool)):Option Y55:=(Ag (!(decide ((List.length a:Int)=(List.length b:Int)))) (some ((false,()),(),(),())) (L _ _ (fun z x=>Aei z x.1 x.2.1 x.2.2.1) (a,b,0,())))
def Mu:Ari:=fun x=>Afr Ac x.1 x.2.1
abbrev Yn:B4:=⟨[V3,V3],[V24]⟩
abbrev Ag2:=Y37→Option Y55
def Af3(L:Af)(a:(List Int))(b:(List Int)):Option Y55:=(some (((Yu (Ty.str) a b),()),(),(),()))
def Hn:Ag2:=fun x=>Af3 Ac x.1 x.2.1
abbrev Qv:B4:=⟨[V44,V44],[V24]⟩
abbrev Alm:=((List Y18)×(List Y18)×Unit)→Option Y55
def Om(e:((List Y18)×(List Y18)×Int×Unit)→Option Y55)(b:(List Y18))(c:(List Y18))(a:Int):Option Y55:=(A4 (List.length b) fun d=>Ag (decide (a<((d:Nat):Int))) (Ag (Cj a d) (Ag (Cj a (List.length c)) (Ag (!(Yu R9 (List.getD b (Int.toNat a) ((0:Int),(0:Int),[(0:Int),(0:Int),(0:Int),(0:Int)],())) (List.getD c (Int.toNat a) ((0:Int),(0:Int),[(0:Int),(0:Int),(0:Int),(0:Int)],())))) (some ((false,()),(),(),())) (e (b,c,(IntKind.wrap .i64 (a+1)),()))) none) none) (some ((true,()),(),(),())))
def Aac(L:Af)(a:(List Y18))(b:(List Y18)):Option Y55:=(Ag (!(decide ((List.length a:Int)=(List.length b:Int)))) (some ((false,()),(),(),())) (L _ _ (fun z x=>Om z x.1 x.2.1 x.2.2.1) (a,b,0,())))
def Jl:Alm:=fun x=>Aac Ac x.1 x.2.1
abbrev Ri:B4:=⟨[V43,V43],[V24]⟩
abbrev Ak5:=((List Y9)×(List Y9)×Unit)→Option Y55
def Zb(e:((List Y9)×(List Y9)×Int×Unit)→Option Y55)(b:(List Y9))(c:(List Y9))(a:Int):Option Y55:=(A4 (List.length b) fun d=>Ag (decide (a<((d:Nat):Int))) (Ag (Cj a d) (Ag (Cj a (List.length c)) (Ag (!(Yu R8 (List.getD b (Int.toNat a) ((0:Int),[(0:Int),(0:Int),(0:Int),(0:Int)],())) (List.getD c (Int.toNat a) ((0:Int),[(0:Int),(0:Int),(0:Int),(0:Int)],())))) (some ((false,()),(),(),())) (e (b,c,(IntKind.wrap .i64 (a+1)),()))) none) none) (some ((true,()),(),(),())))
def Yx(L:Af)(a:(List Y9))(b:(List Y9)):Option Y55:=(Ag (!(decide ((List.length a:Int)=(List.length b:Int)))) (some ((false,()),(),(),())) (L _ _ (fun z x=>Zb z x.1 x.2.1 x.2.2.1) (a,b,0,())))
def I8:Ak5:=fun x=>Yx Ac x.1 x.2.1
abbrev Sv:B4:=⟨[V46,V46],[V24]⟩
abbrev Amp:=((List Y97)×(List Y97)×Unit)→Option Y55
def Abi(e:Cl9→Option Y55)(b:(List Y97))(c:(List Y97))(a:Int):Option Y55:=(A4 (List.length b) fun d=>Ag (decide (a<((d:Nat):Int))) (Ag (Cj a d) (Ag (Cj a (List.length c)) (Ag (!(Yu Dt (List.getD b (Int.toNat a) ((0:Int),[(0:Int),(0:Int),(0:Int),(0:Int)],[(0:Int),(0:Int),(0:Int),(0:Int)],[(0:Int),(0:Int),(0:Int),(0:Int)],[(0:Int),(0:Int),(0:Int),(0:Int)],(0:Int),())) (List.getD c (Int.toNat a) ((0:Int),[(0:Int),(0:Int),(0:Int),(0:Int)],[(0:Int),(0:Int),(0:Int),(0:Int)],[(0:Int),(0:Int),(0:Int),(0:Int)],[(0:Int),(0:Int),(0:Int),(0:Int)],(0:Int),())))) (some ((false,()),(),(),())) (e (b,c,(IntKind.wrap .i64 (a+1)),()))) none) none) (some ((true,()),(),(),())))
def Aby(L:Af)(a:(List Y97))(b:(List Y97)):Option Y55:=(Ag (!(decide ((List.length a:Int)=(List.length b:Int)))) (some ((false,()),(),(),())) (L _ _ (fun z x=>Abi z x.1 x.2.1 x.2.2.1) (a,b,0,())))
def Ke:Amp:=fun x=>Aby Ac x.1 x.2.1
abbrev Vi:B4:=⟨[V18,V18],[V24]⟩
abbrev Apz:=(Apm×Apm×Unit)→Option Y55
def Ad4(L:Af)(c:Amp)(a:Apm)(b:Apm):Option Y55:=(Ag (Yu (Ty.arr 4 (Ty.int IntKind.u64)) a.1 b.1) (Ag (decide (a.2.1=b.2.1)) (Ag (decide (a.2.2.1=b.2.2.1)) (Ag (decide (a.2.2.2.1=b.2.2.2.1)) (Ag (Yu (Ty.bool.pair R6) a.2.2.2.2.1 b.2.2.2.2.1) ((c (a.2.2.2.2.2.1,b.2.2.2.2.2.1,())).bind fun d=>some ((d.1.1,()),(),(),())) (some ((false,()),(),(),()))) (some ((false,()),(),(),()))) (some ((false,()),(),(),()))) (some ((false,()),(),(),()))) (some ((false,()),(),(),())))
def Ll:Apz:=fun x=>Ad4 Ac Ke x.1 x.2.1
abbrev Yi:B4:=⟨[V19,V19],[V24]⟩
abbrev Af0:=(Eu×Eu×Unit)→Option Y55
def Agp(L:Af)(c:Apz)(d:Ale)(e:Alm)(f:Ari)(g:Ak5)(a:Eu)(b:Eu):Option Y55:=(Ag (decide (a.1=b.1)) (Ag (Yu ((Ty.int IntKind.u64).pair ((Ty.int IntKind.u64).pair ((Ty.int IntKind.u64).pair ((Ty.arr 4 (Ty.int IntKind.u64)).pair ((Ty.int IntKind.u64).pair ((Ty.arr 4 (Ty.int IntKind.u64)).pair ((Ty.int IntKind.u64).pair ((Ty.arr 4 (Ty.int IntKind.u64)).pair ((Ty.int IntKind.u64).pair ((Ty.int IntKind.u64).pair ((Ty.int IntKind.u64).pair R1))))))))))) a.2.1 b.2.1) (Ag (Yu ((Ty.int IntKind.u64).pair R9) a.2.2.1 b.2.2.1) (Ag (decide (a.2.2.2.1=b.2.2.2.1)) ((c (a.2.2.2.2.1,b.2.2.2.2.1,())).bind fun h=>Ag h.1.1 ((d (a.2.2.2.2.2.1,b.2.2.2.2.2.1,())).bind fun i=>Ag i.1.1 (Ag (Yu (Ty.arr 4 (Ty.arr 4 (Ty.int IntKind.u64))) a.2.2.2.2.2.2.1 b.2.2.2.2.2.2.1) ((e (a.2.2.2.2.2.2.2.1,b.2.2.2.2.2.2.2.1,())).bind fun j=>Ag j.1.1 ((f (a.2.2.2.2.2.2.2.2.1,b.2.2.2.2.2.2.2.2.1,())).bind fun k=>Ag k.1.1 (Ag (Yu (Ty.arr 4 (Ty.int IntKind.u64)) a.2.2.2.2.2.2.2.2.2.1 b.2.2.2.2.2.2.2.2.2.1) ((g (a.2.2.2.2.2.2.2.2.2.2.1,b.2.2.2.2.2.2.2.2.2.2.1,())).bind fun l=>some ((l.1.1,()),(),(),())) (some ((false,()),(),(),()))) (some ((false,()),(),(),()))) (some ((false,()),(),(),()))) (some ((false,()),(),(),()))) (some ((false,()),(),(),()))) (some ((false,()),(),(),()))) (some ((false,()),(),(),()))) (some ((false,()),(),(),()))) (some ((false,()),(),(),()))) (some ((false,()),(),(),())))
def Ho:Af0:=fun x=>Agp Ac Ll Jk Jl Mu I8 x.1 x.2.1
abbrev Ajr:B4:=⟨[Bv],[(.ro true W3)]⟩
abbrev Atw:=(Int×Unit)→Option Y6
def Ams(e:(Int×(List Int)×(List Int)×Int×Unit)→Option Y6)(b:Int)(f:(List Int))(c:(List Int))(a:Int):Option Y6:=(A4 (IntKind.wrap .u64 (IntKind.wrap .i64 (8*a))) fun d=>Ag (decide (a<8)) (Ag (decide (0≤d)) (Ag (Cj a 32) (e (b,f,(List.set c (Int.toNat a) (IntKind.wrap .u8 (Int.fdiv (IntKind.wrap .u64 b) (2 ^ (min (Int.toNat d) 64))))),(IntKind.wrap .i64 (a+1)),())) none) none) (some ((c,()),(),())))
def Akm(L:Af)(a:Int):Option Y6:=(L _ _ (fun z x=>Ams z x.1 x.2.1 x.2.2.1 x.2.2.2.1) (a,(List.replicate 32 0),(List.replicate 32 0),0,()))
def Vr:Atw:=fun x=>Akm Ac x.1
abbrev Agd:B4:=⟨[Bv,Ir,V24],[(.ro true W92)]⟩
abbrev Apo:=(Int×Int×Bool×Unit)→Option Cpq
def Af7(L:Af)(a:Int)(c:Int)(d:Bool):Option Cpq:=(A4 [(IntKind.wrap .u64 (4503599627370496+(IntKind.wrap .u64 (Int.tmod a 100000)))),0,0,0] fun b=>Ag (decide ((Int.tmod a 13)=5)) (some (((6,(0,0,0,[0,0,0,0],0,[0,0,0,0],[0,0,0,0],0,[],()),(0,0,[0,0,0,0],()),0,0,b,9,(0,0,0,[0,0,0,0],[],()),()),()),(),(),(),())) (Ag (decide ((Int.tmod a 31)=6)) (some (((6,(0,0,0,[0,0,0,0],0,[0,0,0,0],[0,0,0,0],0,[],()),(0,0,[0,0,0,0],()),0,0,b,0,(0,0,0,[0,0,0,0],[],()),()),()),(),(),(),())) (Ag (decide ((Int.tmod a 37)=7)) (some (((6,(0,0,0,[0,0,0,0],0,[0,0,0,0],[0,0,0,0],0,[],()),(0,0,[0,0,0,0],()),0,0,b,18446744073709551615,(0,0,0,[0,0,0,0],[],()),()),()),(),(),(),())) (Ag (decide ((Int.tmod a 11)=3)) (some (((6,(0,0,0,[0,0,0,0],0,[0,0,0,0],[0,0,0,0],0,[],()),(0,0,[0,0,0,0],()),0,0,[(IntKind.wrap .u64 (Int.tmod a 50)),0,0,0],c,(0,0,0,[0,0,0,0],[],()),()),()),(),(),(),())) (Ag (decide ((Int.tmod a 61)=8)) (Ag (!d) (some (((6,(0,0,0,[0,0,0,0],0,[0,0,0,0],[0,0,0,0],0,[],()),(0,0,[0,0,0,0],()),0,0,[0,0,0,4611686018427387904],c,(0,0,0,[0,0,0,0],[],()),()),()),(),(),(),())) (some (((6,(0,0,0,[0,0,0,0],0,[0,0,0,0],[0,0,0,0],0,[],()),(0,0,[0,0,0,0],()),0,0,b,c,(0,0,0,[0,0,0,0],[],()),()),()),(),(),(),()))) (some (((6,(0,0,0,[0,0,0,0],0,[0,0,0,0],[0,0,0,0],0,[],()),(0,0,[0,0,0,0],()),0,0,b,c,(0,0,0,[0,0,0,0],[],()),()),()),(),(),(),())))))))
def Kw:Apo:=fun x=>Af7 Ac x.1 x.2.1 x.2.2.1
abbrev Ajf:B4:=⟨[Bv,V59],[V7]⟩
abbrev As3:=(Int×Sd×Unit)→Option Co9
def Ai5(L:Af)(a:Int)(b:Sd):Option Co9:=(A4 (IntKind.wrap .u64 (5+(IntKind.wrap .u64 (Int.tmod a 3)))) fun c=>A4 (IntKind.wrap .u64 (b.2.2.2.2.1.2.2.1+(Int.tmod (IntKind.wrap .u64 (IntKind.wrap .i64 (Int.tdiv a 3))) 1099511627778))) fun d=>A4 (IntKind.wrap .u64 (b.2.2.1.2.1-b.2.2.2.2.1.2.2.1)) fun f=>A4 (IntKind.wrap .u64 (f+2)) fun g=>A4 (IntKind.wrap .u64 (b.2.2.2.2.1.2.2.1+(Int.tmod (IntKind.wrap .u64 (IntKind.wrap .i64 (Int.tdiv a 3))) g))) fun e=>Ag (decide (1099511627776<f)) (Ag (decide ((Int.tmod a 19)=4)) (some (((c,d,[0,0,1,0],()),()),(),b,())) (Ag (decide ((Int.tmod a 23)=5)) (some (((c,(IntKind.wrap .u64 (Int.tmod a 100)),[(IntKind.wrap .u64 ((IntKind.wrap .u64 (Int.tmod (IntKind.wrap .i64 (Int.tdiv a 9)) 5000))*20000000)),0,0,0],()),()),(),b,())) (Ag (decide ((Int.tmod a 29)=6)) (some (((c,d,[0,(IntKind.wrap .u64 (Int.tmod a 1000)),0,0],()),()),(),b,())) (some (((c,d,[(IntKind.wrap .u64 ((IntKind.wrap .u64 (Int.tmod (IntKind.wrap .i64 (Int.tdiv a 9)) 5000))*20000000)),0,0,0],()),()),(),b,()))))) (Ag (decide (g≠0)) (Ag (decide ((Int.tmod a 19)=4)) (some (((c,e,[0,0,1,0],()),()),(),b,())) (Ag (decide ((Int.tmod a 23)=5)) (some (((c,(IntKind.wrap .u64 (Int.tmod a 100)),[(IntKind.wrap .u64 ((IntKind.wrap .u64 (Int.tmod (IntKind.wrap .i64 (Int.tdiv a 9)) 5000))*20000000)),0,0,0],()),()),(),b,())) (Ag (decide ((Int.tmod a 29)=6)) (some (((c,e,[0,(IntKind.wrap .u64 (Int.tmod a 1000)),0,0],()),()),(),b,())) (some (((c,e,[(IntKind.wrap .u64 ((IntKind.wrap .u64 (Int.tmod (IntKind.wrap .i64 (Int.tdiv a 9)) 5000))*20000000)),0,0,0],()),()),(),b,()))))) none))
def Mo:As3:=fun x=>Ai5 Ac x.1 x.2.1
abbrev An5:B4:=⟨[Bv],[(.ro true W92)]⟩
abbrev Aw9:=(Int×Unit)→Option Coc
def Anb(L:Af)(a:Int):Option Coc:=(A4 (Int.tmod (IntKind.wrap .u64 (IntKind.wrap .i64 (Int.tdiv a 12))) 1000000000) fun b=>A4 (IntKind.wrap .i64 ((Int.tmod a 12)+1)) fun c=>Ag (Cj (Int.tmod a 12) 12) (Ag (decide ((Int.tmod a 17)=3)) (Ag (decide ((Int.tmod a 31)=4)) (some (((4,(0,0,0,[0,0,0,0],0,[0,0,0,0],[0,0,0,0],0,[],()),(0,0,[0,0,0,0],()),0,(Int.tmod a 40),[0,0,0,0],0,(0,0,0,[0,0,0,0],[],()),()),()),(),())) (some (((4,(0,0,0,[0,0,0,0],0,[0,0,0,0],[0,0,0,0],0,[],()),(0,0,[0,0,0,0],()),0,c,[0,0,0,0],0,(0,0,0,[0,0,0,0],[],()),()),()),(),()))) (Ag (decide ((Int.tmod a 31)=4)) (some (((4,(0,0,0,[0,0,0,0],0,[0,0,0,0],[0,0,0,0],0,[],()),(0,0,[0,0,0,0],()),0,(Int.tmod a 40),[(List.getD [(IntKind.wrap .u64 (1000000+(Int.tmod (IntKind.wrap .u64 (IntKind.wrap .i64 (Int.tdiv a 12))) 10000000))),(Int.tmod (IntKind.wrap .u64 (IntKind.wrap .i64 (Int.tdiv a 12))) 20),(IntKind.wrap .u64 (1+(Int.tmod (IntKind.wrap .u64 (IntKind.wrap .i64 (Int.tdiv a 12))) 200))),(IntKind.wrap .u64 (10000000+b)),(IntKind.wrap .u64 (1000000+(Int.tmod (IntKind.wrap .u64 (IntKind.wrap .i64 (Int.tdiv a 12))) 100000000))),(Int.tmod (IntKind.wrap .u64 (IntKind.wrap .i64 (Int.tdiv a 12))) 200000000),(Int.tmod (IntKind.wrap .u64 (IntKind.wrap .i64 (Int.tdiv a 12))) 10300),(Int.tmod (IntKind.wrap .u64 (IntKind.wrap .i64 (Int.tdiv a 12))) 1000),(IntKind.wrap .u64 (1000+b)),(IntKind.wrap .u64 (1+(Int.tmod (IntKind.wrap .u64 (IntKind.wrap .i64 (Int.tdiv a 12))) 100))),(Int.tmod (IntKind.wrap .u64 (IntKind.wrap .i64 (Int.tdiv a 12))) 250),(IntKind.wrap .u64 (200+(Int.tmod (IntKind.wrap .u64 (IntKind.wrap .i64 (Int.tdiv a 12))) 100000)))] (Int.toNat (Int.tmod a 12)) 0),0,0,0],0,(0,0,0,[0,0,0,0],[],()),()),()),(),())) (some (((4,(0,0,0,[0,0,0,0],0,[0,0,0,0],[0,0,0,0],0,[],()),(0,0,[0,0,0,0],()),0,c,[(List.getD [(IntKind.wrap .u64 (1000000+(Int.tmod (IntKind.wrap .u64 (IntKind.wrap .i64 (Int.tdiv a 12))) 10000000))),(Int.tmod (IntKind.wrap .u64 (IntKind.wrap .i64 (Int.tdiv a 12))) 20),(IntKind.wrap .u64 (1+(Int.tmod (IntKind.wrap .u64 (IntKind.wrap .i64 (Int.tdiv a 12))) 200))),(IntKind.wrap .u64 (10000000+b)),(IntKind.wrap .u64 (1000000+(Int.tmod (IntKind.wrap .u64 (IntKind.wrap .i64 (Int.tdiv a 12))) 100000000))),(Int.tmod (IntKind.wrap .u64 (IntKind.wrap .i64 (Int.tdiv a 12))) 200000000),(Int.tmod (IntKind.wrap .u64 (IntKind.wrap .i64 (Int.tdiv a 12))) 10300),(Int.tmod (IntKind.wrap .u64 (IntKind.wrap .i64 (Int.tdiv a 12))) 1000),(IntKind.wrap .u64 (1000+b)),(IntKind.wrap .u64 (1+(Int.tmod (IntKind.wrap .u64 (IntKind.wrap .i64 (Int.tdiv a 12))) 100))),(Int.tmod (IntKind.wrap .u64 (IntKind.wrap .i64 (Int.tdiv a 12))) 250),(IntKind.wrap .u64 (200+(Int.tmod (IntKind.wrap .u64 (IntKind.wrap .i64 (Int.tdiv a 12))) 100000)))] (Int.toNat (Int.tmod a 12)) 0),0,0,0],0,(0,0,0,[0,0,0,0],[],()),()),()),(),())))) none)
def N8:Aw9:=fun x=>Anb Ac x.1
abbrev Aoc:B4:=⟨[Bv,V59],[(.ro true W67)]⟩
abbrev Awo:=(Int×Sd×Unit)→Option Cpy
def An7(L:Af)(n:Ath)(j:Az)(o:Cm)(p:Dd)(q:Ai9)(r:Aae)(s:B6)(t:Atw)(b:Int)(a:Sd):Option Cpy:=(A4 (Int.tmod (IntKind.wrap .i64 (Int.tdiv b 3)) 12) fun g=>A4 (List.length a.2.2.2.2.2.2.1) fun i=>A4 ((i:Nat):Int) fun e=>A4 (Int.tmod b e) fun c=>A4 (IntKind.wrap .u64 c) fun f=>A4 (IntKind.wrap .i64 (e+3)) fun k=>A4 (IntKind.wrap .i64 (e-c)) fun l=>A4 (IntKind.wrap .i64 ((IntKind.wrap .i64 (c+1))+(Int.tmod (IntKind.wrap .i64 (Int.tdiv b 7)) l))) fun m=>A4 (IntKind.wrap .u64 m) fun h=>Ag (decide (e=0)) (some ((((IntKind.wrap .u64 (Int.tmod b 3)),(IntKind.wrap .u64 (Int.tmod b 2)),5,[1,0,0,0],[],()),()),(),a,())) (Ag (decide (e≠0)) (Ag (decide (l≠0)) ((n (a.2.2.2.2.2.2.1,c,m,())).bind fun d=>Ag (Cj c i) (Ag (Cj c i) (Ag (decide (g=0)) ((j ((List.getD a.2.2.2.2.2.2.1 (Int.toNat (Int.tmod b (List.length a.2.2.2.2.2.2.1:Int))) (0,0,[0,0,0,0],())).2.2.1,())).bind fun u=>(o (1,())).bind fun v=>(p (u.1.1,v.1.1,())).bind fun w=>(q ()).bind fun y=>(j (y.1.1,())).bind fun a0=>(r (w.1.1,a0.1.1,())).bind fun a1=>(s (a1.1.1,())).bind fun a2=>some (((f,h,(List.getD a.2.2.2.2.2.2.1 (Int.toNat (Int.tmod b (List.length a.2.2.2.2.2.2.1:Int))) (0,0,[0,0,0,0],())).2.1,a2.1.1,d.1.1,()),()),(),a,())) (Ag (decide (g=1)) (some (((f,h,(IntKind.wrap .u64 ((List.getD a.2.2.2.2.2.2.1 (Int.toNat (Int.tmod b (List.length a.2.2.2.2.2.2.1:Int))) (0,0,[0,0,0,0],())).2.1+1)),(List.getD a.2.2.2.2.2.2.1 (Int.toNat (Int.tmod b (List.length a.2.2.2.2.2.2.1:Int))) (0,0,[0,0,0,0],())).2.2.1,d.1.1,()),()),(),a,())) (Ag (decide (g=2)) ((t (b,())).bind fun a3=>Ag (A8 ((List.length d.1.1)+1) (Ty.arr 32 (Ty.int IntKind.u8))) (some (((f,h,(List.getD a.2.2.2.2.2.2.1 (Int.toNat (Int.tmod b (List.length a.2.2.2.2.2.2.1:Int))) (0,0,[0,0,0,0],())).2.1,(List.getD a.2.2.2.2.2.2.1 (Int.toNat (Int.tmod b (List.length a.2.2.2.2.2.2.1:Int))) (0,0,[0,0,0,0],())).2.2.1,(List.append d.1.1 [a3.1.1]),()),()),(),a,())) none) (Ag (decide (g=3)) (Ag (decide (k≠0)) (some (((f,(IntKind.wrap .u64 (Int.tmod b k)),(List.getD a.2.2.2.2.2.2.1 (Int.toNat (Int.tmod b (List.length a.2.2.2.2.2.2.1:Int))) (0,0,[0,0,0,0],())).2.1,(List.getD a.2.2.2.2.2.2.1 (Int.toNat (Int.tmod b (List.length a.2.2.2.2.2.2.1:Int))) (0,0,[0,0,0,0],())).2.2.1,d.1.1,()),()),(),a,())) none) (some (((f,h,(List.getD a.2.2.2.2.2.2.1 (Int.toNat (Int.tmod b (List.length a.2.2.2.2.2.2.1:Int))) (0,0,[0,0,0,0],())).2.1,(List.getD a.2.2.2.2.2.2.1 (Int.toNat (Int.tmod b (List.length a.2.2.2.2.2.2.1:Int))) (0,0,[0,0,0,0],())).2.2.1,d.1.1,()),()),(),a,())))))) none) none) none) none))
def Oi:Awo:=fun x=>An7 Ac Wj Ah A0 Bh Mg Hc Ax Vr x.1 x.2.1
abbrev Na:B4:=⟨[V4],[V32]⟩
abbrev Uw:=Y4→Option Y6
def Io(g:Y61→Option Y6)(h:Y92→Option Y6)(b:(List Int))(a:(List Int))(c:Int)(d:Int)(e:Int)(f:Int):Option Y6:=(Ag (decide (f<e)) (Ag (A8 ((List.length a)+1) (Ty.int IntKind.u8)) (h (b,(List.append a [(IntKind.wrap .u8 (IntKind.wrap .i64 (97+(Int.tmod (IntKind.wrap .i64 (Int.tdiv d 256)) 3))))]),c,d,e,(IntKind.wrap .i64 (f+1)),())) none) (g (b,a,(IntKind.wrap .i64 (c+1)),())))
def Be(f:Y61→Option Y6)(h:Y92→Option Y6)(d:(List Int))(a:(List Int))(e:Int)(g:Int)(c:Int)(b:Int):Option Y6:=(Ag (decide (b<g)) (Ag (decide ((IntKind.wrap .i64 (c+b))<(List.length a:Int))) (Ag (Cj (IntKind.wrap .i64 (c+b)) (List.length a)) (Ag (A8 ((List.length a)+1) (Ty.int IntKind.u8)) (h (d,(List.append a [(List.getD a (Int.toNat (IntKind.wrap .i64 (c+b))) 0)]),e,g,c,(IntKind.wrap .i64 (b+1)),())) none) none) (f (d,a,(IntKind.wrap .i64 (e+1)),()))) (f (d,a,(IntKind.wrap .i64 (e+1)),())))
def Cz(g:Y61→Option Y6)(h:Y92→Option Y6)(d:(List Int))(b:(List Int))(e:Int)(c:Int)(f:Int)(a:Int):Option Y6:=(Ag (decide (a<f)) (Ag (decide (0≤(IntKind.wrap .u64 (Int.tmod a 12)))) (Ag (A8 ((List.length b)+1) (Ty.int IntKind.u8)) (h (d,(List.append b [(IntKind.wrap .u8 (IntKind.wrap .i64 ((Int.fdiv c (2 ^ (min (Int.toNat (IntKind.wrap .u64 (Int.tmod a 12))) 64)))+(IntKind.wrap .i64 (a*c)))))]),e,c,f,(IntKind.wrap .i64 (a+1)),())) none) none) (g (d,b,(IntKind.wrap .i64 (e+1)),())))
def Vs(L:Af)(h:Aik)(d:Y61→Option Y6)(b:(List Int))(a:(List Int))(c:Int):Option Y6:=(Ag (decide (c<(List.length b:Int))) (Ag (Cj c (List.length b)) ((h ((List.getD b (Int.toNat c) 0),1048576,())).bind fun f=>A4 (Int.tmod f.1.1 8) fun g=>A4 (IntKind.wrap .i64 (1+(Int.tmod (IntKind.wrap .i64 (Int.tdiv f.1.1 8)) 24))) fun e=>Ag (decide (g=0)) (Ag (decide (g=0)) (L _ _ (fun z x=>Io d z x.1 x.2.1 x.2.2.1 x.2.2.2.1 x.2.2.2.2.1 x.2.2.2.2.2.1) (b,a,c,f.1.1,e,0,())) (Ag (decide (g=2)) (Ag (decide (g=2)) (Ag (decide ((List.length a:Int)>0)) (Ag (decide ((List.length a:Int)≠0)) (L _ _ (fun z x=>Be d z x.1 x.2.1 x.2.2.1 x.2.2.2.1 x.2.2.2.2.1 x.2.2.2.2.2.1) (b,a,c,e,(Int.tmod (IntKind.wrap .i64 (Int.tdiv f.1.1 64)) (List.length a:Int)),0,())) none) (L _ _ (fun z x=>Be d z x.1 x.2.1 x.2.2.1 x.2.2.2.1 x.2.2.2.2.1 x.2.2.2.2.2.1) (b,a,c,e,0,0,()))) (L _ _ (fun z x=>Cz d z x.1 x.2.1 x.2.2.1 x.2.2.2.1 x.2.2.2.2.1 x.2.2.2.2.2.1) (b,a,c,f.1.1,e,0,()))) (Ag (decide (g=3)) (Ag (decide (g=3)) (Ag (decide ((List.length a:Int)>0)) (Ag (decide ((List.length a:Int)≠0)) (L _ _ (fun z x=>Be d z x.1 x.2.1 x.2.2.1 x.2.2.2.1 x.2.2.2.2.1 x.2.2.2.2.2.1) (b,a,c,e,(Int.tmod (IntKind.wrap .i64 (Int.tdiv f.1.1 64)) (List.length a:Int)),0,())) none) (L _ _ (fun z x=>Be d z x.1 x.2.1 x.2.2.1 x.2.2.2.1 x.2.2.2.2.1 x.2.2.2.2.2.1) (b,a,c,e,0,0,()))) (L _ _ (fun z x=>Cz d z x.1 x.2.1 x.2.2.1 x.2.2.2.1 x.2.2.2.2.1 x.2.2.2.2.2.1) (b,a,c,f.1.1,e,0,()))) (Ag (decide (g=4)) (Ag (decide ((List.length a:Int)>0)) (Ag (decide ((List.length a:Int)≠0)) (L _ _ (fun z x=>Be d z x.1 x.2.1 x.2.2.1 x.2.2.2.1 x.2.2.2.2.1 x.2.2.2.2.2.1) (b,a,c,e,(Int.tmod (IntKind.wrap .i64 (Int.tdiv f.1.1 64)) (List.length a:Int)),0,())) none) (L _ _ (fun z x=>Be d z x.1 x.2.1 x.2.2.1 x.2.2.2.1 x.2.2.2.2.1 x.2.2.2.2.2.1) (b,a,c,e,0,0,()))) (L _ _ (fun z x=>Cz d z x.1 x.2.1 x.2.2.1 x.2.2.2.1 x.2.2.2.2.1 x.2.2.2.2.2.1) (b,a,c,f.1.1,e,0,())))))) (Ag (decide (g=1)) (L _ _ (fun z x=>Io d z x.1 x.2.1 x.2.2.1 x.2.2.2.1 x.2.2.2.2.1 x.2.2.2.2.2.1) (b,a,c,f.1.1,e,0,())) (Ag (decide (g=2)) (Ag (decide (g=2)) (Ag (decide ((List.length a:Int)>0)) (Ag (decide ((List.length a:Int)≠0)) (L _ _ (fun z x=>Be d z x.1 x.2.1 x.2.2.1 x.2.2.2.1 x.2.2.2.2.1 x.2.2.2.2.2.1) (b,a,c,e,(Int.tmod (IntKind.wrap .i64 (Int.tdiv f.1.1 64)) (List.length a:Int)),0,())) none) (L _ _ (fun z x=>Be d z x.1 x.2.1 x.2.2.1 x.2.2.2.1 x.2.2.2.2.1 x.2.2.2.2.2.1) (b,a,c,e,0,0,()))) (L _ _ (fun z x=>Cz d z x.1 x.2.1 x.2.2.1 x.2.2.2.1 x.2.2.2.2.1 x.2.2.2.2.2.1) (b,a,c,f.1.1,e,0,()))) (Ag (decide (g=3)) (Ag (decide (g=3)) (Ag (decide ((List.length a:Int)>0)) (Ag (decide ((List.length a:Int)≠0)) (L _ _ (fun z x=>Be d z x.1 x.2.1 x.2.2.1 x.2.2.2.1 x.2.2.2.2.1 x.2.2.2.2.2.1) (b,a,c,e,(Int.tmod (IntKind.wrap .i64 (Int.tdiv f.1.1 64)) (List.length a:Int)),0,())) none) (L _ _ (fun z x=>Be d z x.1 x.2.1 x.2.2.1 x.2.2.2.1 x.2.2.2.2.1 x.2.2.2.2.2.1) (b,a,c,e,0,0,()))) (L _ _ (fun z x=>Cz d z x.1 x.2.1 x.2.2.1 x.2.2.2.1 x.2.2.2.2.1 x.2.2.2.2.2.1) (b,a,c,f.1.1,e,0,()))) (Ag (decide (g=4)) (Ag (decide ((List.length a:Int)>0)) (Ag (decide ((List.length a:Int)≠0)) (L _ _ (fun z x=>Be d z x.1 x.2.1 x.2.2.1 x.2.2.2.1 x.2.2.2.2.1 x.2.2.2.2.2.1) (b,a,c,e,(Int.tmod (IntKind.wrap .i64 (Int.tdiv f.1.1 64)) (List.length a:Int)),0,())) none) (L _ _ (fun z x=>Be d z x.1 x.2.1 x.2.2.1 x.2.2.2.1 x.2.2.2.2.1 x.2.2.2.2.2.1) (b,a,c,e,0,0,()))) (L _ _ (fun z x=>Cz d z x.1 x.2.1 x.2.2.1 x.2.2.2.1 x.2.2.2.2.1 x.2.2.2.2.2.1) (b,a,c,f.1.1,e,0,()))))))) none) (some ((a,()),(),())))
def M8(L:Af)(a:Aik)(b:(List Int)):Option Y6:=(L _ _ (fun z x=>Vs L a z x.1 x.2.1 x.2.2.1) (b,[],0,()))
def If:Uw:=fun x=>M8 Ac M7 x.1
abbrev Vd:B4:=⟨[Bv,Ir,V59],[(.ro true W66)]⟩
abbrev Aea:=(Int×Int×Sd×Unit)→Option Com
def Uu(L:Af)(n:Is)(o:Az)(p:Cm)(q:Jo)(r:B6)(s:Uw)(m:Ai9)(b:Int)(d:Int)(a:Sd):Option Com:=(A4 (Int.tmod (IntKind.wrap .i64 (Int.tdiv b 5)) 5) fun l=>A4 (IntKind.wrap .u64 ((IntKind.wrap .u64 (Int.tmod (IntKind.wrap .i64 (Int.tdiv b 11)) 50))*3000)) fun e=>A4 (IntKind.wrap .u64 (40000+(IntKind.wrap .u64 ((IntKind.wrap .u64 (Int.tmod (IntKind.wrap .i64 (Int.tdiv b 6000)) 64))*5000)))) fun j=>A4 [(IntKind.wrap .u64 ((IntKind.wrap .u64 (Int.tmod b 7))*100000)),0,0,0] fun g=>A4 (List.getD [1,2,3,4,9,18446744073709551615] (Int.toNat (Int.tmod b 6)) 0) fun h=>A4 [(IntKind.wrap .u64 ((IntKind.wrap .u64 (Int.tmod (IntKind.wrap .i64 (Int.tdiv b 6)) 1000))*1000003)),0,0,0] fun i=>(n (a.2.2.2.2.2.1,d,())).bind fun c=>Ag (Cj (Int.tmod b 6) 6) ((o (a.2.2.1.2.2.2.1,())).bind fun t=>(p ((IntKind.wrap .u64 (IntKind.wrap .i64 (1+(Int.tmod b 3)))),())).bind fun u=>(q (t.1.1,u.1.1,())).bind fun v=>(r (v.1.1,())).bind fun k=>Ag ((decide (0≤l))&&(decide (l≤4))) ((s ((List.take ((Int.toNat l)-0) (List.drop 0 [b,(IntKind.wrap .i64 (Int.tdiv b 3)),(IntKind.wrap .i64 (Int.tdiv b 7)),(IntKind.wrap .i64 (Int.tdiv b 11))])),())).bind fun f=>Ag (decide ((Int.tmod b 29)=1)) (some (((d,(IntKind.wrap .u64 (c.1.1.2.2.1+1)),h,i,j,k.1.1,g,e,f.1.1,()),()),(),(),(a.1,a.2.1,a.2.2.1,a.2.2.2.1,a.2.2.2.2.1,c.2.1,a.2.2.2.2.2.2),())) (Ag (decide ((Int.tmod b 31)=2)) (some (((d,c.1.1.2.2.1,h,[0,0,1,0],j,k.1.1,g,e,f.1.1,()),()),(),(),(a.1,a.2.1,a.2.2.1,a.2.2.2.1,a.2.2.2.2.1,c.2.1,a.2.2.2.2.2.2),())) (Ag (decide ((Int.tmod b 37)=3)) (some (((d,c.1.1.2.2.1,h,i,35184372088832,k.1.1,g,e,f.1.1,()),()),(),(),(a.1,a.2.1,a.2.2.1,a.2.2.2.1,a.2.2.2.2.1,c.2.1,a.2.2.2.2.2.2),())) (Ag (decide ((Int.tmod b 41)=4)) (some (((d,c.1.1.2.2.1,h,i,j,[1,0,0,0],g,e,f.1.1,()),()),(),(),(a.1,a.2.1,a.2.2.1,a.2.2.2.1,a.2.2.2.2.1,c.2.1,a.2.2.2.2.2.2),())) (Ag (decide ((Int.tmod b 43)=5)) (some (((d,c.1.1.2.2.1,0,i,j,k.1.1,g,e,f.1.1,()),()),(),(),(a.1,a.2.1,a.2.2.1,a.2.2.2.1,a.2.2.2.2.1,c.2.1,a.2.2.2.2.2.2),())) (Ag (decide ((Int.tmod b 47)=6)) ((m ()).bind fun w=>(m ()).bind fun y=>some (((d,c.1.1.2.2.1,h,i,j,y.1.1,w.1.1,e,f.1.1,()),()),(),(),(a.1,a.2.1,a.2.2.1,a.2.2.2.1,a.2.2.2.2.1,c.2.1,a.2.2.2.2.2.2),())) (Ag (decide ((Int.tmod b 53)=7)) (some (((d,c.1.1.2.2.1,h,i,(IntKind.wrap .u64 (Int.tmod b 300)),k.1.1,g,e,f.1.1,()),()),(),(),(a.1,a.2.1,a.2.2.1,a.2.2.2.1,a.2.2.2.2.1,c.2.1,a.2.2.2.2.2.2),())) (some (((d,c.1.1.2.2.1,h,i,j,k.1.1,g,e,f.1.1,()),()),(),(),(a.1,a.2.1,a.2.2.1,a.2.2.2.1,a.2.2.2.2.1,c.2.1,a.2.2.2.2.2.2),()))))))))) none) none)
def Gx:Aea:=fun x=>Uu Ac Cq Ah A0 Cg Ax If Mg x.1 x.2.1 x.2.2.1
abbrev Adk:B4:=⟨[Bv,V59,V24],[(.ro true W92)]⟩
abbrev Wh:=(Int×Sd×Bool×Unit)→Option Co4
def Ac6(L:Af)(a7:Aik)(j:Apo)(g:As3)(h:Aw9)(e:Awo)(f:Aea)(a8:Int)(b:Sd)(k:Bool):Option Co4:=((a7 (a8,4611686018427387904,())).bind fun i=>A4 (Int.tmod i.1.1 16) fun c=>A4 (IntKind.wrap .i64 (Int.tdiv i.1.1 64)) fun a=>A4 (IntKind.wrap .u64 (IntKind.wrap .i64 (1+(Int.tmod (IntKind.wrap .i64 (Int.tdiv i.1.1 16)) 4)))) fun d=>Ag (decide (c=0)) (Ag (decide (c=0)) ((j (a,d,k,())).bind fun a9=>some ((a9.1.1,()),(),b,(),())) (Ag (decide (c=8)) (Ag (decide (c=8)) ((g (a,b,())).bind fun l=>some (((2,(0,0,0,[0,0,0,0],0,[0,0,0,0],[0,0,0,0],0,[],()),l.1.1,0,0,[0,0,0,0],0,(0,0,0,[0,0,0,0],[],()),()),()),(),l.2.2.1,(),())) (Ag (decide (c=10)) (Ag (decide ((Int.tmod a 5)=0)) (some (((3,(0,0,0,[0,0,0,0],0,[0,0,0,0],[0,0,0,0],0,[],()),(0,0,[0,0,0,0],()),(IntKind.wrap .u64 (Int.tmod a 3000)),0,[0,0,0,0],0,(0,0,0,[0,0,0,0],[],()),()),()),(),b,(),())) (some (((3,(0,0,0,[0,0,0,0],0,[0,0,0,0],[0,0,0,0],0,[],()),(0,0,[0,0,0,0],()),(IntKind.wrap .u64 (IntKind.wrap .i64 (1+(Int.tmod a 30)))),0,[0,0,0,0],0,(0,0,0,[0,0,0,0],[],()),()),()),(),b,(),()))) (Ag (decide (c=11)) ((h (a,())).bind fun b0=>some ((b0.1.1,()),(),b,(),())) (Ag (decide (c=12)) (Ag (decide ((Int.tmod a 13)=0)) (some (((5,(0,0,0,[0,0,0,0],0,[0,0,0,0],[0,0,0,0],0,[],()),(0,0,[0,0,0,0],()),0,0,[0,0,0,0],(IntKind.wrap .u64 (Int.tmod a 9)),(0,0,0,[0,0,0,0],[],()),()),()),(),b,(),())) (some (((5,(0,0,0,[0,0,0,0],0,[0,0,0,0],[0,0,0,0],0,[],()),(0,0,[0,0,0,0],()),0,0,[0,0,0,0],(IntKind.wrap .u64 (IntKind.wrap .i64 (5+(Int.tmod a 3)))),(0,0,0,[0,0,0,0],[],()),()),()),(),b,(),()))) (Ag (decide (c=13)) (Ag (decide (c=13)) ((e (a,b,())).bind fun m=>some (((7,(0,0,0,[0,0,0,0],0,[0,0,0,0],[0,0,0,0],0,[],()),(0,0,[0,0,0,0],()),0,0,[0,0,0,0],0,m.1.1,()),()),(),m.2.2.1,(),())) ((f (a,d,b,())).bind fun n=>some (((1,n.1.1,(0,0,[0,0,0,0],()),0,0,[0,0,0,0],0,(0,0,0,[0,0,0,0],[],()),()),()),(),n.2.2.2.1,(),()))) (Ag (decide (c=14)) ((e (a,b,())).bind fun o=>some (((7,(0,0,0,[0,0,0,0],0,[0,0,0,0],[0,0,0,0],0,[],()),(0,0,[0,0,0,0],()),0,0,[0,0,0,0],0,o.1.1,()),()),(),o.2.2.1,(),())) ((f (a,d,b,())).bind fun p=>some (((1,p.1.1,(0,0,[0,0,0,0],()),0,0,[0,0,0,0],0,(0,0,0,[0,0,0,0],[],()),()),()),(),p.2.2.2.1,(),())))))))) (Ag (decide (c=9)) ((g (a,b,())).bind fun q=>some (((2,(0,0,0,[0,0,0,0],0,[0,0,0,0],[0,0,0,0],0,[],()),q.1.1,0,0,[0,0,0,0],0,(0,0,0,[0,0,0,0],[],()),()),()),(),q.2.2.1,(),())) (Ag (decide (c=10)) (Ag (decide ((Int.tmod a 5)=0)) (some (((3,(0,0,0,[0,0,0,0],0,[0,0,0,0],[0,0,0,0],0,[],()),(0,0,[0,0,0,0],()),(IntKind.wrap .u64 (Int.tmod a 3000)),0,[0,0,0,0],0,(0,0,0,[0,0,0,0],[],()),()),()),(),b,(),())) (some (((3,(0,0,0,[0,0,0,0],0,[0,0,0,0],[0,0,0,0],0,[],()),(0,0,[0,0,0,0],()),(IntKind.wrap .u64 (IntKind.wrap .i64 (1+(Int.tmod a 30)))),0,[0,0,0,0],0,(0,0,0,[0,0,0,0],[],()),()),()),(),b,(),()))) (Ag (decide (c=11)) ((h (a,())).bind fun b1=>some ((b1.1.1,()),(),b,(),())) (Ag (decide (c=12)) (Ag (decide ((Int.tmod a 13)=0)) (some (((5,(0,0,0,[0,0,0,0],0,[0,0,0,0],[0,0,0,0],0,[],()),(0,0,[0,0,0,0],()),0,0,[0,0,0,0],(IntKind.wrap .u64 (Int.tmod a 9)),(0,0,0,[0,0,0,0],[],()),()),()),(),b,(),())) (some (((5,(0,0,0,[0,0,0,0],0,[0,0,0,0],[0,0,0,0],0,[],()),(0,0,[0,0,0,0],()),0,0,[0,0,0,0],(IntKind.wrap .u64 (IntKind.wrap .i64 (5+(Int.tmod a 3)))),(0,0,0,[0,0,0,0],[],()),()),()),(),b,(),()))) (Ag (decide (c=13)) (Ag (decide (c=13)) ((e (a,b,())).bind fun r=>some (((7,(0,0,0,[0,0,0,0],0,[0,0,0,0],[0,0,0,0],0,[],()),(0,0,[0,0,0,0],()),0,0,[0,0,0,0],0,r.1.1,()),()),(),r.2.2.1,(),())) ((f (a,d,b,())).bind fun s=>some (((1,s.1.1,(0,0,[0,0,0,0],()),0,0,[0,0,0,0],0,(0,0,0,[0,0,0,0],[],()),()),()),(),s.2.2.2.1,(),()))) (Ag (decide (c=14)) ((e (a,b,())).bind fun t=>some (((7,(0,0,0,[0,0,0,0],0,[0,0,0,0],[0,0,0,0],0,[],()),(0,0,[0,0,0,0],()),0,0,[0,0,0,0],0,t.1.1,()),()),(),t.2.2.1,(),())) ((f (a,d,b,())).bind fun u=>some (((1,u.1.1,(0,0,[0,0,0,0],()),0,0,[0,0,0,0],0,(0,0,0,[0,0,0,0],[],()),()),()),(),u.2.2.2.1,(),())))))))))) (Ag (decide (c=1)) ((j (a,d,k,())).bind fun b2=>some ((b2.1.1,()),(),b,(),())) (Ag (decide (c=8)) (Ag (decide (c=8)) ((g (a,b,())).bind fun v=>some (((2,(0,0,0,[0,0,0,0],0,[0,0,0,0],[0,0,0,0],0,[],()),v.1.1,0,0,[0,0,0,0],0,(0,0,0,[0,0,0,0],[],()),()),()),(),v.2.2.1,(),())) (Ag (decide (c=10)) (Ag (decide ((Int.tmod a 5)=0)) (some (((3,(0,0,0,[0,0,0,0],0,[0,0,0,0],[0,0,0,0],0,[],()),(0,0,[0,0,0,0],()),(IntKind.wrap .u64 (Int.tmod a 3000)),0,[0,0,0,0],0,(0,0,0,[0,0,0,0],[],()),()),()),(),b,(),())) (some (((3,(0,0,0,[0,0,0,0],0,[0,0,0,0],[0,0,0,0],0,[],()),(0,0,[0,0,0,0],()),(IntKind.wrap .u64 (IntKind.wrap .i64 (1+(Int.tmod a 30)))),0,[0,0,0,0],0,(0,0,0,[0,0,0,0],[],()),()),()),(),b,(),()))) (Ag (decide (c=11)) ((h (a,())).bind fun b3=>some ((b3.1.1,()),(),b,(),())) (Ag (decide (c=12)) (Ag (decide ((Int.tmod a 13)=0)) (some (((5,(0,0,0,[0,0,0,0],0,[0,0,0,0],[0,0,0,0],0,[],()),(0,0,[0,0,0,0],()),0,0,[0,0,0,0],(IntKind.wrap .u64 (Int.tmod a 9)),(0,0,0,[0,0,0,0],[],()),()),()),(),b,(),())) (some (((5,(0,0,0,[0,0,0,0],0,[0,0,0,0],[0,0,0,0],0,[],()),(0,0,[0,0,0,0],()),0,0,[0,0,0,0],(IntKind.wrap .u64 (IntKind.wrap .i64 (5+(Int.tmod a 3)))),(0,0,0,[0,0,0,0],[],()),()),()),(),b,(),()))) (Ag (decide (c=13)) (Ag (decide (c=13)) ((e (a,b,())).bind fun w=>some (((7,(0,0,0,[0,0,0,0],0,[0,0,0,0],[0,0,0,0],0,[],()),(0,0,[0,0,0,0],()),0,0,[0,0,0,0],0,w.1.1,()),()),(),w.2.2.1,(),())) ((f (a,d,b,())).bind fun y=>some (((1,y.1.1,(0,0,[0,0,0,0],()),0,0,[0,0,0,0],0,(0,0,0,[0,0,0,0],[],()),()),()),(),y.2.2.2.1,(),()))) (Ag (decide (c=14)) ((e (a,b,())).bind fun a0=>some (((7,(0,0,0,[0,0,0,0],0,[0,0,0,0],[0,0,0,0],0,[],()),(0,0,[0,0,0,0],()),0,0,[0,0,0,0],0,a0.1.1,()),()),(),a0.2.2.1,(),())) ((f (a,d,b,())).bind fun a1=>some (((1,a1.1.1,(0,0,[0,0,0,0],()),0,0,[0,0,0,0],0,(0,0,0,[0,0,0,0],[],()),()),()),(),a1.2.2.2.1,(),())))))))) (Ag (decide (c=9)) ((g (a,b,())).bind fun a2=>some (((2,(0,0,0,[0,0,0,0],0,[0,0,0,0],[0,0,0,0],0,[],()),a2.1.1,0,0,[0,0,0,0],0,(0,0,0,[0,0,0,0],[],()),()),()),(),a2.2.2.1,(),())) (Ag (decide (c=10)) (Ag (decide ((Int.tmod a 5)=0)) (some (((3,(0,0,0,[0,0,0,0],0,[0,0,0,0],[0,0,0,0],0,[],()),(0,0,[0,0,0,0],()),(IntKind.wrap .u64 (Int.tmod a 3000)),0,[0,0,0,0],0,(0,0,0,[0,0,0,0],[],()),()),()),(),b,(),())) (some (((3,(0,0,0,[0,0,0,0],0,[0,0,0,0],[0,0,0,0],0,[],()),(0,0,[0,0,0,0],()),(IntKind.wrap .u64 (IntKind.wrap .i64 (1+(Int.tmod a 30)))),0,[0,0,0,0],0,(0,0,0,[0,0,0,0],[],()),()),()),(),b,(),()))) (Ag (decide (c=11)) ((h (a,())).bind fun b4=>some ((b4.1.1,()),(),b,(),())) (Ag (decide (c=12)) (Ag (decide ((Int.tmod a 13)=0)) (some (((5,(0,0,0,[0,0,0,0],0,[0,0,0,0],[0,0,0,0],0,[],()),(0,0,[0,0,0,0],()),0,0,[0,0,0,0],(IntKind.wrap .u64 (Int.tmod a 9)),(0,0,0,[0,0,0,0],[],()),()),()),(),b,(),())) (some (((5,(0,0,0,[0,0,0,0],0,[0,0,0,0],[0,0,0,0],0,[],()),(0,0,[0,0,0,0],()),0,0,[0,0,0,0],(IntKind.wrap .u64 (IntKind.wrap .i64 (5+(Int.tmod a 3)))),(0,0,0,[0,0,0,0],[],()),()),()),(),b,(),()))) (Ag (decide (c=13)) (Ag (decide (c=13)) ((e (a,b,())).bind fun a3=>some (((7,(0,0,0,[0,0,0,0],0,[0,0,0,0],[0,0,0,0],0,[],()),(0,0,[0,0,0,0],()),0,0,[0,0,0,0],0,a3.1.1,()),()),(),a3.2.2.1,(),())) ((f (a,d,b,())).bind fun a4=>some (((1,a4.1.1,(0,0,[0,0,0,0],()),0,0,[0,0,0,0],0,(0,0,0,[0,0,0,0],[],()),()),()),(),a4.2.2.2.1,(),()))) (Ag (decide (c=14)) ((e (a,b,())).bind fun a5=>some (((7,(0,0,0,[0,0,0,0],0,[0,0,0,0],[0,0,0,0],0,[],()),(0,0,[0,0,0,0],()),0,0,[0,0,0,0],0,a5.1.1,()),()),(),a5.2.2.1,(),())) ((f (a,d,b,())).bind fun a6=>some (((1,a6.1.1,(0,0,[0,0,0,0],()),0,0,[0,0,0,0],0,(0,0,0,[0,0,0,0],[],()),()),()),(),a6.2.2.2.1,(),())))))))))))
def Mb:Wh:=fun x=>Ac6 Ac M7 Kw Mo N8 Oi Gx x.1 x.2.1 x.2.2.1
abbrev Yh:B4:=⟨[],[(.own true W92)]⟩
abbrev Ag4:=Unit→Option (Cc5×Unit)
def T5(c:((List Bbr)×Int×Unit)→Option (Cc5×Unit))(a:(List Bbr))(b:Int):Option (Cc5×Unit):=(Ag (decide (b<8)) (Ag (A8 ((List.length a)+1) R37) (c ((List.append a [(5,(0,0,0,[0,0,0,0],0,[0,0,0,0],[0,0,0,0],0,[],()),(0,0,[0,0,0,0],()),0,0,[0,0,0,0],b,(0,0,0,[0,0,0,0],[],()),())]),(IntKind.wrap .u64 (b+1)),())) none) (Ag (A8 ((List.length a)+1) R37) (some (((List.append a [(3,(0,0,0,[0,0,0,0],0,[0,0,0,0],[0,0,0,0],0,[],()),(0,0,[0,0,0,0],()),12,0,[0,0,0,0],0,(0,0,0,[0,0,0,0],[],()),())]),()),())) none))
def Aee(L:Af)(c:((List Bbr)×Int×Unit)→Option (Cc5×Unit))(a:(List Bbr))(b:Int):Option (Cc5×Unit):=(Ag (decide (b<5)) (Ag (A8 ((List.length a)+1) R37) (c ((List.append a [(6,(0,0,0,[0,0,0,0],0,[0,0,0,0],[0,0,0,0],0,[],()),(0,0,[0,0,0,0],()),0,0,[288230376151711744,0,0,0],b,(0,0,0,[0,0,0,0],[],()),())]),(IntKind.wrap .u64 (b+1)),())) none) (L _ _ (fun z x=>T5 z x.1 x.2.1) (a,5,())))
def Yb(L:Af):Option (Cc5×Unit):=(L _ _ (fun z x=>Aee L z x.1 x.2.1) ([],1,()))
def Mq:Ag4:=fun x=>Yb Ac
abbrev Px:B4:=⟨[V4,V24],[V59,(.ro false (.slice W92)),(.ro false (.slice W79))]⟩
abbrev Adt:=Y12→Option Ccu
def Wx(i:Wh)(j:Iv)(k:Cpg→Option Ccu)(a:(List Int))(f:Bool)(g:Sd)(c:(List Bbr))(d:(List Btz))(b:Int):Option Ccu:=(Ag (decide (b<(List.length a:Int))) (Ag (Cj b (List.length a)) ((i ((List.getD a (Int.toNat b) 0),g,f,())).bind fun e=>Ag (A8 ((List.length c)+1) R37) ((j (e.2.2.1,e.1.1,())).bind fun h=>Ag (A8 ((List.length d)+1) R44) (k (a,f,h.2.1,(List.append c [e.1.1]),(List.append d [h.1.1]),(IntKind.wrap .i64 (b+1)),())) none) none) none) (some ((g,c,d,()),(),(),())))
def Ahx(L:Af)(d:Iv)(j:Wh)(k:Cpg→Option Ccu)(e:(List Int))(f:Bool)(g:Sd)(a:(List Bbr))(c:(List Btz))(b:Int):Option Ccu:=(A4 (List.length a) fun h=>Ag (decide (b<((h:Nat):Int))) (Ag (Cj b h) ((d (g,(List.getD a (Int.toNat b) (0,(0,0,0,[0,0,0,0],0,[0,0,0,0],[0,0,0,0],0,[],()),(0,0,[0,0,0,0],()),0,0,[0,0,0,0],0,(0,0,0,[0,0,0,0],[],()),())),())).bind fun i=>Ag (A8 ((List.length c)+1) R44) (k (e,f,i.2.1,a,(List.append c [i.1.1]),(IntKind.wrap .i64 (b+1)),())) none) none) (L _ _ (fun z x=>Wx j d z x.1 x.2.1 x.2.2.1 x.2.2.2.1 x.2.2.2.2.1 x.2.2.2.2.2.1) (e,f,g,a,c,0,())))
def Ac8(L:Af)(a:Azl)(b:Ag4)(c:Iv)(d:Wh)(e:(List Int))(f:Bool):Option Ccu:=((a ()).bind fun g=>(b ()).bind fun h=>L _ _ (fun z x=>Ahx L c d z x.1 x.2.1 x.2.2.1 x.2.2.2.1 x.2.2.2.2.1 x.2.2.2.2.2.1) (e,f,g.1.1,h.1.1,[],0,()))
def Jb:Adt:=fun x=>Ac8 Ac Acc Mq Fi Mb x.1 x.2.1
set_option maxRecDepth 100000
abbrev Fe:B4:=⟨[Ir],[(.ro true W4)]⟩
abbrev Iz:=(Int×Unit)→Option Y6
def Qs(L:Af)(a:Int):Option Y6:=(some (([a,0,0,0],()),(),()))
def Db:Iz:=fun x=>Qs Ac x.1
abbrev Aaq:B4:=⟨[(.ro true W4)],[Bv]⟩
abbrev Au8:=Y4→Option Y14
def Afz(c:Aff)(d:Y8→Option Y14)(b:(List Int))(a:Int):Option Y14:=(Ag (decide (a≥0)) (Ag (Cj a 4) (Ag (!(decide ((List.getD b (Int.toNat a) 0)=0))) (Ag (Cj a 4) ((c ((List.getD b (Int.toNat a) 0),())).bind fun e=>some (((IntKind.wrap .i64 ((IntKind.wrap .i64 (64*a))+e.1.1)),()),(),())) none) (d (b,(IntKind.wrap .i64 (a-1)),()))) none) (some ((0,()),(),())))
def Aiy(L:Af)(a:Aff)(b:(List Int)):Option Y14:=(L _ _ (fun z x=>Afz a z x.1 x.2.1) (b,3,()))
def Oa:Au8:=fun x=>Aiy Ac Mr x.1
abbrev Bb2:=Y37→Option Y29
def Abm(g:Afc)(h:Y96→Option Y29)(b:(List Int))(c:(List Int))(i:(List Int))(d:(List Int))(e:Int)(a:Int):Option Y29:=(Ag (decide (a<4)) (Ag (Cj a 4) (Ag (Cj a 4) ((g ((List.getD b (Int.toNat a) 0),(List.getD c (Int.toNat a) 0),e,())).bind fun f=>Ag (Cj a 4) (h (b,c,i,(List.set d (Int.toNat a) f.1.1),f.1.2.1,(IntKind.wrap .i64 (a+1)),())) none) none) none) (Ag (!(decide (e=0))) (some (([0,0,0,0],4,()),(),(),())) (some ((d,0,()),(),(),()))))
def Ato(L:Af)(a:Afc)(b:(List Int))(c:(List Int)):Option Y29:=(L _ _ (fun z x=>Abm a z x.1 x.2.1 x.2.2.1 x.2.2.2.1 x.2.2.2.2.1 x.2.2.2.2.2.1) (b,c,[0,0,0,0],[0,0,0,0],0,0,()))
def Wl:Bb2:=fun x=>Ato Ac Abw x.1 x.2.1
abbrev Aj6:B4:=⟨[(.ro true W4),(.ro true W4)],[(.ro true W4),Bv]⟩
abbrev Nl:=Y37→Option Y29
def Am1(g:Ht)(h:Y96→Option Y29)(b:(List Int))(c:(List Int))(i:(List Int))(d:(List Int))(e:Int)(a:Int):Option Y29:=(Ag (decide (a<4)) (Ag (Cj a 4) (Ag (Cj a 4) ((g ((List.getD b (Int.toNat a) 0),(List.getD c (Int.toNat a) 0),e,())).bind fun f=>Ag (Cj a 4) (h (b,c,i,(List.set d (Int.toNat a) f.1.1),f.1.2.1,(IntKind.wrap .i64 (a+1)),())) none) none) none) (Ag (!(decide (e=0))) (some (([0,0,0,0],4,()),(),(),())) (some ((d,0,()),(),(),()))))
def Ajs(L:Af)(a:Ht)(b:(List Int))(c:(List Int)):Option Y29:=(L _ _ (fun z x=>Am1 a z x.1 x.2.1 x.2.2.1 x.2.2.2.1 x.2.2.2.2.1 x.2.2.2.2.2.1) (b,c,[0,0,0,0],[0,0,0,0],0,0,()))
def Fu:Nl:=fun x=>Ajs Ac Ew x.1 x.2.1
abbrev Aj0:B4:=⟨[(.ro true W4),(.ro true W4)],[Bv]⟩
abbrev Aj9:=Y37→Option Y53
def Amv(d:Y61→Option Y53)(b:(List Int))(c:(List Int))(a:Int):Option Y53:=(Ag (decide (a≥0)) (Ag (Cj a 4) (Ag (Cj a 4) (Ag (decide ((List.getD b (Int.toNat a) 0)<(List.getD c (Int.toNat a) 0))) (some (((-1:Int),()),(),(),())) (Ag (Cj a 4) (Ag (Cj a 4) (Ag (decide ((List.getD b (Int.toNat a) 0)>(List.getD c (Int.toNat a) 0))) (some ((1,()),(),(),())) (d (b,c,(IntKind.wrap .i64 (a-1)),()))) none) none)) none) none) (some ((0,()),(),(),())))
def Akf(L:Af)(a:(List Int))(b:(List Int)):Option Y53:=(L _ _ (fun z x=>Amv z x.1 x.2.1 x.2.2.1) (a,b,3,()))
def Wi:Aj9:=fun x=>Akf Ac x.1 x.2.1
set_option maxRecDepth 100000
abbrev Aba:B4:=⟨[V9],[V24]⟩
abbrev Abd:=(Y17×Unit)→Option Y15
def Aao(L:Af)(a:Y17):Option Y15:=(Ag (Yu (Ty.arr 4 (Ty.int IntKind.u64)) a.2.1 [(0:Int),(0:Int),(0:Int),(0:Int)]) (some (((decide (a.2.2.1=0)),()),(),())) (some ((false,()),(),())))
def Nz:Abd:=fun x=>Aao Ac x.1
abbrev Ajt:B4:=⟨[V45,V33],[(.optr (.pair V22 (.pair V33 V25))),Bv]⟩
abbrev Atq:=Y23→Option Y36
def Abr(f:Nl)(g:Cp)(h:((List Y17)×Y1×(List Int)×Y1×Int×Unit)→Option Y36)(c:(List Y17))(d:Y1)(i:(List Int))(e:Y1)(a:Int):Option Y36:=(Ag (decide (a<4)) (Ag (Cj a 4) ((f (i,(List.getD e (Int.toNat a) [0,0,0,0]),())).bind fun b=>Ag (!(decide (b.1.2.1=0))) (some ((none,b.1.2.1,()),(),(),())) (h (c,d,b.1.1,e,(IntKind.wrap .i64 (a+1)),()))) none) ((g (c,())).bind fun j=>some (((some (j.1.1,d,())),0,()),(),(),())))
def Abz(L:Af)(e:Nl)(i:Cp)(j:((List Y17)×Y1×(List Int)×(List Y17)×Int×Int×Unit)→Option Y36)(f:(List Y17))(b:Y1)(g:(List Int))(c:(List Y17))(h:Int)(a:Int):Option Y36:=(Ag (decide (a<h)) (Ag (Cj a (List.length c)) ((e (g,(List.getD c (Int.toNat a) (Ty.zero R7)).2.1,())).bind fun d=>Ag (!(decide (d.1.2.1=0))) (some ((none,d.1.2.1,()),(),(),())) (j (f,b,d.1.1,c,h,(IntKind.wrap .i64 (a+1)),()))) none) (L _ _ (fun z x=>Abr e i z x.1 x.2.1 x.2.2.1 x.2.2.2.1 x.2.2.2.2.1) (f,b,g,b,0,())))
def Amm(L:Af)(i:Abd)(j:Nl)(k:Cp)(f:((List Y17)×Y1×(List Y17)×Int×Int×Unit)→Option Y36)(b:(List Y17))(d:Y1)(c:(List Y17))(e:Int)(a:Int):Option Y36:=(A4 (IntKind.wrap .i64 (a-1)) fun g=>A4 (List.length b) fun h=>Ag (decide (a<e)) (Ag (Cj a (List.length c)) (Ag (decide ((List.getD c (Int.toNat a) (Ty.zero R7)).1=0)) (some ((none,2,()),(),(),())) ((i ((List.getD c (Int.toNat a) (0,[0,0,0,0],0,())),())).bind fun l=>Ag l.1.1 (some ((none,2,()),(),(),())) (Ag (decide (a>0)) (Ag (Cj g h) (Ag (decide ((List.getD c (Int.toNat a) (Ty.zero R7)).1≤(List.getD b (Int.toNat g) (Ty.zero R7)).1)) (some ((none,2,()),(),(),())) (f (b,d,c,e,(IntKind.wrap .i64 (a+1)),()))) none) (f (b,d,c,e,(IntKind.wrap .i64 (a+1)),()))))) none) (L _ _ (fun z x=>Abz L j k z x.1 x.2.1 x.2.2.1 x.2.2.2.1 x.2.2.2.2.1 x.2.2.2.2.2.1) (b,d,[0,0,0,0],b,((h:Nat):Int),0,())))
def Akd(L:Af)(b:Abd)(c:Nl)(d:Cp)(a:(List Y17))(e:Y1):Option Y36:=(L _ _ (fun z x=>Amm L b c d z x.1 x.2.1 x.2.2.1 x.2.2.2.1 x.2.2.2.2.1) (a,e,a,(List.length a:Int),0,()))
def Vx:Atq:=fun x=>Akd Ac Nz Fu Bw x.1 x.2.1
set_option maxRecDepth 100000
abbrev Pb:B4:=⟨[(.rp W94),Bv],[(.orp W4)]⟩
abbrev Xq:=Ccb→Option Y87
def Xh(L:Af)(a:Pk)(b:Int):Option Y87:=(Ag (decide (b=4)) (some (((some a.2.2.2.1),()),(),(),())) (Ag (decide (b=6)) (some (((some a.2.2.2.2.2.1),()),(),(),())) (Ag (decide (b=8)) (some (((some a.2.2.2.2.2.2.2.1),()),(),(),())) (some ((none,()),(),(),())))))
def S9:Xq:=fun x=>Xh Ac x.1 x.2.1
abbrev Qg:B4:=⟨[(.rp W94),Bv],[(.orp (.int .u64))]⟩
abbrev Z7:=Ccb→Option Y74
def Z6(L:Af)(a:Pk)(b:Int):Option Y74:=(Ag (decide (b=1)) (some (((some a.1),()),(),(),())) (Ag (decide (b=2)) (some (((some a.2.1),()),(),(),())) (Ag (decide (b=3)) (some (((some a.2.2.1),()),(),(),())) (Ag (decide (b=5)) (some (((some a.2.2.2.2.1),()),(),(),())) (Ag (decide (b=7)) (some (((some a.2.2.2.2.2.2.1),()),(),(),())) (Ag (decide (b=9)) (some (((some a.2.2.2.2.2.2.2.2.1),()),(),(),())) (Ag (decide (b=10)) (some (((some a.2.2.2.2.2.2.2.2.2.1),()),(),(),())) (Ag (decide (b=11)) (some (((some a.2.2.2.2.2.2.2.2.2.2.1),()),(),(),())) (Ag (decide (b=12)) (some (((some a.2.2.2.2.2.2.2.2.2.2.2.1),()),(),(),())) (some ((none,()),(),(),())))))))))))
def Uy:Z7:=fun x=>Z6 Ac x.1 x.2.1
abbrev Anv:B4:=⟨[V11,Bv],[(.ro true W4),Bv]⟩
abbrev Anc:=Ccb→Option Y29
def Awn(L:Af)(c:Xq)(d:Z7)(e:Iz)(a:Pk)(b:Int):Option Y29:=((c (a,b,())).bind fun f=>Cc0 f.1.1 ((d (a,b,())).bind fun g=>Cc0 g.1.1 (some (([0,0,0,0],17,()),(),(),())) (fun h=>(e (h,())).bind fun i=>some ((i.1.1,0,()),(),(),()))) (fun j=>some ((j,0,()),(),(),())))
def Ag6:Anc:=fun x=>Awn Ac S9 Uy Db x.1 x.2.1
abbrev Acw:B4:=⟨[V11,Bv],[Ir,Ir]⟩
abbrev Ac5:=Ccb→Option Y10
def Al4(L:Af)(b:Pk)(a:Int):Option Y10:=(Ag (decide (a=1)) (Ag (decide (a=1)) (some ((1,1099511627776,()),(),(),())) (Ag (decide (a=2)) (Ag (decide (a=2)) (some ((0,1048576,()),(),(),())) (Ag (decide (a=3)) (Ag (decide (a=3)) (some ((1,1048576,()),(),(),())) (Ag (decide (a=4)) (some ((1,18446744073709551615,()),(),(),())) (Ag (decide (a=7)) (some ((0,10000,()),(),(),())) (Ag (decide (a=12)) (some ((b.2.2.2.2.2.2.2.2.2.2.1,16777216,()),(),(),())) (some ((0,18446744073709551615,()),(),(),())))))) (Ag (decide (a=10)) (some ((1,1048576,()),(),(),())) (Ag (decide (a=4)) (some ((1,18446744073709551615,()),(),(),())) (Ag (decide (a=7)) (some ((0,10000,()),(),(),())) (Ag (decide (a=12)) (some ((b.2.2.2.2.2.2.2.2.2.2.1,16777216,()),(),(),())) (some ((0,18446744073709551615,()),(),(),())))))))) (Ag (decide (a=11)) (some ((0,1048576,()),(),(),())) (Ag (decide (a=3)) (Ag (decide (a=3)) (some ((1,1048576,()),(),(),())) (Ag (decide (a=4)) (some ((1,18446744073709551615,()),(),(),())) (Ag (decide (a=7)) (some ((0,10000,()),(),(),())) (Ag (decide (a=12)) (some ((b.2.2.2.2.2.2.2.2.2.2.1,16777216,()),(),(),())) (some ((0,18446744073709551615,()),(),(),())))))) (Ag (decide (a=10)) (some ((1,1048576,()),(),(),())) (Ag (decide (a=4)) (some ((1,18446744073709551615,()),(),(),())) (Ag (decide (a=7)) (some ((0,10000,()),(),(),())) (Ag (decide (a=12)) (some ((b.2.2.2.2.2.2.2.2.2.2.1,16777216,()),(),(),())) (some ((0,18446744073709551615,()),(),(),())))))))))) (Ag (decide (a=5)) (Ag (decide (a=5)) (some ((1,1099511627776,()),(),(),())) (Ag (decide (a=2)) (Ag (decide (a=2)) (some ((0,1048576,()),(),(),())) (Ag (decide (a=3)) (Ag (decide (a=3)) (some ((1,1048576,()),(),(),())) (Ag (decide (a=4)) (some ((1,18446744073709551615,()),(),(),())) (Ag (decide (a=7)) (some ((0,10000,()),(),(),())) (Ag (decide (a=12)) (some ((b.2.2.2.2.2.2.2.2.2.2.1,16777216,()),(),(),())) (some ((0,18446744073709551615,()),(),(),())))))) (Ag (decide (a=10)) (some ((1,1048576,()),(),(),())) (Ag (decide (a=4)) (some ((1,18446744073709551615,()),(),(),())) (Ag (decide (a=7)) (some ((0,10000,()),(),(),())) (Ag (decide (a=12)) (some ((b.2.2.2.2.2.2.2.2.2.2.1,16777216,()),(),(),())) (some ((0,18446744073709551615,()),(),(),())))))))) (Ag (decide (a=11)) (some ((0,1048576,()),(),(),())) (Ag (decide (a=3)) (Ag (decide (a=3)) (some ((1,1048576,()),(),(),())) (Ag (decide (a=4)) (some ((1,18446744073709551615,()),(),(),())) (Ag (decide (a=7)) (some ((0,10000,()),(),(),())) (Ag (decide (a=12)) (some ((b.2.2.2.2.2.2.2.2.2.2.1,16777216,()),(),(),())) (some ((0,18446744073709551615,()),(),(),())))))) (Ag (decide (a=10)) (some ((1,1048576,()),(),(),())) (Ag (decide (a=4)) (some ((1,18446744073709551615,()),(),(),())) (Ag (decide (a=7)) (some ((0,10000,()),(),(),())) (Ag (decide (a=12)) (some ((b.2.2.2.2.2.2.2.2.2.2.1,16777216,()),(),(),())) (some ((0,18446744073709551615,()),(),(),())))))))))) (Ag (decide (a=9)) (some ((1,1099511627776,()),(),(),())) (Ag (decide (a=2)) (Ag (decide (a=2)) (some ((0,1048576,()),(),(),())) (Ag (decide (a=3)) (Ag (decide (a=3)) (some ((1,1048576,()),(),(),())) (Ag (decide (a=4)) (some ((1,18446744073709551615,()),(),(),())) (Ag (decide (a=7)) (some ((0,10000,()),(),(),())) (Ag (decide (a=12)) (some ((b.2.2.2.2.2.2.2.2.2.2.1,16777216,()),(),(),())) (some ((0,18446744073709551615,()),(),(),())))))) (Ag (decide (a=10)) (some ((1,1048576,()),(),(),())) (Ag (decide (a=4)) (some ((1,18446744073709551615,()),(),(),())) (Ag (decide (a=7)) (some ((0,10000,()),(),(),())) (Ag (decide (a=12)) (some ((b.2.2.2.2.2.2.2.2.2.2.1,16777216,()),(),(),())) (some ((0,18446744073709551615,()),(),(),())))))))) (Ag (decide (a=11)) (some ((0,1048576,()),(),(),())) (Ag (decide (a=3)) (Ag (decide (a=3)) (some ((1,1048576,()),(),(),())) (Ag (decide (a=4)) (some ((1,18446744073709551615,()),(),(),())) (Ag (decide (a=7)) (some ((0,10000,()),(),(),())) (Ag (decide (a=12)) (some ((b.2.2.2.2.2.2.2.2.2.2.1,16777216,()),(),(),())) (some ((0,18446744073709551615,()),(),(),())))))) (Ag (decide (a=10)) (some ((1,1048576,()),(),(),())) (Ag (decide (a=4)) (some ((1,18446744073709551615,()),(),(),())) (Ag (decide (a=7)) (some ((0,10000,()),(),(),())) (Ag (decide (a=12)) (some ((b.2.2.2.2.2.2.2.2.2.2.1,16777216,()),(),(),())) (some ((0,18446744073709551615,()),(),(),()))))))))))))
def Yp:Ac5:=fun x=>Al4 Ac x.1 x.2.1
abbrev O4:B4:=⟨[V11],[Bv]⟩
abbrev Xd:=(Pk×Unit)→Option Y14
def Ys(g:Anc)(h:Ac5)(c:Iz)(d:Aj9)(i:Ccb→Option Y14)(b:Pk)(a:Int):Option Y14:=(Ag (decide (a≤12)) ((g (b,a,())).bind fun e=>(h (b,a,())).bind fun f=>(c (f.1.1,())).bind fun j=>(d (e.1.1,j.1.1,())).bind fun k=>Ag (decide (k.1.1<0)) (some ((a,()),(),())) ((c (f.1.2.1,())).bind fun l=>(d (e.1.1,l.1.1,())).bind fun m=>Ag (decide (m.1.1>0)) (some ((a,()),(),())) (i (b,(IntKind.wrap .i64 (a+1)),())))) (some ((0,()),(),())))
def Ot(L:Af)(a:Anc)(b:Ac5)(c:Iz)(d:Aj9)(e:Pk):Option Y14:=(L _ _ (fun z x=>Ys a b c d z x.1 x.2.1) (e,1,()))
def I3:Xd:=fun x=>Ot Ac Ag6 Yp Db Wi x.1
abbrev Ae9:B4:=⟨[V11],[V24]⟩
abbrev Apa:=(Pk×Unit)→Option Y15
def Aga(L:Af)(a:Xd)(b:Pk):Option Y15:=((a (b,())).bind fun c=>some (((decide (c.1.1=0)),()),(),()))
def S6:Apa:=fun x=>Aga Ac I3 x.1
set_option maxRecDepth 100000
abbrev Ann:B4:=⟨[(.ro true W4),(.ro true W4)],[(.ro true W5)]⟩
abbrev Anm:=Y37→Option Y11
def Apn(g:Ht)(h:Y96→Option Y11)(b:(List Int))(c:(List Int))(i:(List Int))(d:(List Int))(e:Int)(a:Int):Option Y11:=(Ag (decide (a<4)) (Ag (Cj a 4) (Ag (Cj a 4) ((g ((List.getD b (Int.toNat a) 0),(List.getD c (Int.toNat a) 0),e,())).bind fun f=>Ag (Cj a 5) (h (b,c,i,(List.set d (Int.toNat a) f.1.1),f.1.2.1,(IntKind.wrap .i64 (a+1)),())) none) none) none) (some (((List.set d 4 e),()),(),(),())))
def An3(L:Af)(a:Ht)(b:(List Int))(c:(List Int)):Option Y11:=(L _ _ (fun z x=>Apn a z x.1 x.2.1 x.2.2.1 x.2.2.2.1 x.2.2.2.2.1 x.2.2.2.2.2.1) (b,c,[0,0,0,0,0],[0,0,0,0,0],0,0,()))
def Zy:Anm:=fun x=>An3 Ac Ew x.1 x.2.1
abbrev Adm:B4:=⟨[(.ro true W4)],[V24]⟩
abbrev Pz:=Y4→Option Y15
def Ads(L:Af)(a:(List Int)):Option Y15:=(some (((Yu (Ty.arr 4 (Ty.int IntKind.u64)) a [(0:Int),(0:Int),(0:Int),(0:Int)]),()),(),()))
def Js:Pz:=fun x=>Ads Ac x.1
abbrev Afi:B4:=⟨[V46],[V24]⟩
abbrev Uf:=Y98→Option Y15
def Ak6(c:Anm)(f:Pz)(g:Cpc→Option Y15)(d:(List Y97))(b:(List Y97))(e:Int)(a:Int):Option Y15:=(A4 (IntKind.wrap .i64 (a-1)) fun h=>A4 (List.length d) fun i=>Ag (decide (a<e)) (Ag (Cj a (List.length b)) (Ag (decide ((List.getD b (Int.toNat a) (Ty.zero Dt)).1=0)) (some ((false,()),(),())) (Ag (decide (a>0)) (Ag (Cj h i) (Ag (decide ((List.getD b (Int.toNat a) (Ty.zero Dt)).1≤(List.getD d (Int.toNat h) (Ty.zero Dt)).1)) (some ((false,()),(),())) ((c ((List.getD b (Int.toNat a) (Ty.zero Dt)).2.1,(List.getD b (Int.toNat a) (Ty.zero Dt)).2.2.2.2.1,())).bind fun j=>(c ((List.getD b (Int.toNat a) (Ty.zero Dt)).2.2.1,(List.getD b (Int.toNat a) (Ty.zero Dt)).2.2.2.1,())).bind fun k=>Ag (!(Yu (Ty.arr 5 (Ty.int IntKind.u64)) j.1.1 k.1.1)) (some ((false,()),(),())) ((f ((List.getD b (Int.toNat a) (Ty.zero Dt)).2.1,())).bind fun l=>Ag (!(Yu (Ty.bool) (decide ((List.getD b (Int.toNat a) (Ty.zero Dt)).2.2.2.2.2.1=(0:Int))) l.1.1)) (some ((false,()),(),())) (g (d,b,e,(IntKind.wrap .i64 (a+1)),()))))) none) ((c ((List.getD b (Int.toNat a) (Ty.zero Dt)).2.1,(List.getD b (Int.toNat a) (Ty.zero Dt)).2.2.2.2.1,())).bind fun m=>(c ((List.getD b (Int.toNat a) (Ty.zero Dt)).2.2.1,(List.getD b (Int.toNat a) (Ty.zero Dt)).2.2.2.1,())).bind fun n=>Ag (!(Yu (Ty.arr 5 (Ty.int IntKind.u64)) m.1.1 n.1.1)) (some ((false,()),(),())) ((f ((List.getD b (Int.toNat a) (Ty.zero Dt)).2.1,())).bind fun o=>Ag (!(Yu (Ty.bool) (decide ((List.getD b (Int.toNat a) (Ty.zero Dt)).2.2.2.2.2.1=(0:Int))) o.1.1)) (some ((false,()),(),())) (g (d,b,e,(IntKind.wrap .i64 (a+1)),())))))) none) (some (((decide (((i:Nat):Int)≤64)),()),(),())))
def Ae8(L:Af)(b:Anm)(c:Pz)(a:(List Y97)):Option Y15:=(L _ _ (fun z x=>Ak6 b c z x.1 x.2.1 x.2.2.1 x.2.2.2.1) (a,a,(List.length a:Int),0,()))
def Km:Uf:=fun x=>Ae8 Ac Zy Js x.1
abbrev Alr:=(Y97×Int×Unit)→Option Y51
def Axj(L:Af)(b:Y97)(a:Int):Option Y51:=(some (((decide (b.1=a)),()),(),a,()))
def Ar7:Alr:=fun x=>Axj Ac x.1 x.2.1
abbrev Kj:=((List Y97)×(Int×Unit)×Unit)→Option Y53
def Ik(f:Alr)(g:((List Y97)×(Int×Unit)×Int×Int×Unit)→Option Y53)(b:(List Y97))(c:(Int×Unit))(d:Int)(a:Int):Option Y53:=(Ag (decide (a<d)) (Ag (Cj a (List.length b)) ((f ((List.getD b (Int.toNat a) (0,[0,0,0,0],[0,0,0,0],[0,0,0,0],[0,0,0,0],0,())),c.1,())).bind fun e=>Ag e.1.1 (some ((a,()),(),(),())) (g (b,(e.2.2.1,c.2),d,(IntKind.wrap .i64 (a+1)),()))) none) (some (((-1:Int),()),(),(),())))
def Kg(L:Af)(b:Alr)(a:(List Y97))(c:(Int×Unit)):Option Y53:=(L _ _ (fun z x=>Ik b z x.1 x.2.1 x.2.2.1 x.2.2.2.1) (a,c,(List.length a:Int),0,()))
def Fl:Kj:=fun x=>Kg Ac Ar7 x.1 x.2.1
abbrev Atd:=Y99→Option Y53
def Bb9(L:Af)(a:Kj)(b:(List Y97))(c:Int):Option Y53:=((a (b,(c,()),())).bind fun d=>some ((d.1.1,()),(),(),()))
def Acr:Atd:=fun x=>Bb9 Ac Fl x.1 x.2.1
abbrev Bkc:=Cpv→Option Cky
def Axb(L:Af)(p:Atd)(q:Uf)(d:Nl)(h:Pz)(g:Hk)(b:(List Y97))(r:Int)(i:(List Int))(j:(List Int))(k:Int):Option Cky:=((p (b,r,())).bind fun a=>(q (b,())).bind fun s=>Ag (!s.1.1) (some (([],2,()),(),(),(),(),(),())) (Ag (decide (k=0)) (some (([],2,()),(),(),(),(),(),())) (Ag (decide (a.1.1<0)) (some (([],8,()),(),(),(),(),(),())) (Ag (Cj a.1.1 (List.length b)) ((d (i,j,())).bind fun l=>(d ((List.getD b (Int.toNat a.1.1) (Ty.zero Dt)).2.1,l.1.1,())).bind fun c=>(d ((List.getD b (Int.toNat a.1.1) (Ty.zero Dt)).2.2.1,i,())).bind fun e=>(d ((List.getD b (Int.toNat a.1.1) (Ty.zero Dt)).2.2.2.1,j,())).bind fun f=>Ag (!(decide (l.1.2.1=0))) (some (([],4,()),(),(),(),(),(),())) (Ag (!(decide (c.1.2.1=0))) (some (([],4,()),(),(),(),(),(),())) (Ag (!(decide (e.1.2.1=0))) (some (([],4,()),(),(),(),(),(),())) (Ag (!(decide (f.1.2.1=0))) (some (([],4,()),(),(),(),(),(),())) ((h ((List.getD b (Int.toNat a.1.1) (Ty.zero Dt)).2.1,())).bind fun t=>Ag t.1.1 ((h (c.1.1,())).bind fun u=>Ag (!u.1.1) ((g (b,())).bind fun m=>Ag (Cj a.1.1 (List.length m.1.1)) (some (((List.set m.1.1 (Int.toNat a.1.1) ((List.getD b (Int.toNat a.1.1) (Ty.zero Dt)).1,c.1.1,e.1.1,f.1.1,(List.getD b (Int.toNat a.1.1) (Ty.zero Dt)).2.2.2.2.1,k,(List.getD b (Int.toNat a.1.1) (Ty.zero Dt)).2.2.2.2.2.2)),0,()),(),(),(),(),(),())) none) ((g (b,())).bind fun n=>Ag (Cj a.1.1 (List.length n.1.1)) (some (((List.set n.1.1 (Int.toNat a.1.1) ((List.getD b (Int.toNat a.1.1) (Ty.zero Dt)).1,c.1.1,e.1.1,f.1.1,(List.getD b (Int.toNat a.1.1) (Ty.zero Dt)).2.2.2.2)),0,()),(),(),(),(),(),())) none)) ((g (b,())).bind fun o=>Ag (Cj a.1.1 (List.length o.1.1)) (some (((List.set o.1.1 (Int.toNat a.1.1) ((List.getD b (Int.toNat a.1.1) (Ty.zero Dt)).1,c.1.1,e.1.1,f.1.1,(List.getD b (Int.toNat a.1.1) (Ty.zero Dt)).2.2.2.2)),0,()),(),(),(),(),(),())) none)))))) none))))
def Asc:Bkc:=fun x=>Axb Ac Acr Km Fu Js Ej x.1 x.2.1 x.2.2.1 x.2.2.2.1 x.2.2.2.2.1
abbrev Bj7:=Cog→Option Cki
def Axd(L:Af)(i:Atd)(j:Uf)(k:Bb2)(l:Nl)(m:Pz)(e:Hk)(b:(List Y97))(n:Int)(f:(List Int)):Option Cki:=((i (b,n,())).bind fun a=>(j (b,())).bind fun o=>Ag (!o.1.1) (some (([],2,()),(),(),(),())) (Ag (decide (a.1.1<0)) (some (([],8,()),(),(),(),())) (Ag (Cj a.1.1 (List.length b)) ((k ((List.getD b (Int.toNat a.1.1) (Ty.zero Dt)).2.1,f,())).bind fun c=>Ag (!(decide (c.1.2.1=0))) (some (([],10,()),(),(),(),())) ((l ((List.getD b (Int.toNat a.1.1) (Ty.zero Dt)).2.2.2.2.1,f,())).bind fun d=>Ag (!(decide (d.1.2.1=0))) (some (([],d.1.2.1,()),(),(),(),())) ((m (c.1.1,())).bind fun p=>Ag p.1.1 ((e (b,())).bind fun g=>Ag (Cj a.1.1 (List.length g.1.1)) (some (((List.set g.1.1 (Int.toNat a.1.1) ((List.getD b (Int.toNat a.1.1) (Ty.zero Dt)).1,c.1.1,(List.getD b (Int.toNat a.1.1) (Ty.zero Dt)).2.2.1,(List.getD b (Int.toNat a.1.1) (Ty.zero Dt)).2.2.2.1,d.1.1,0,(List.getD b (Int.toNat a.1.1) (Ty.zero Dt)).2.2.2.2.2.2)),0,()),(),(),(),())) none) ((e (b,())).bind fun h=>Ag (Cj a.1.1 (List.length h.1.1)) (some (((List.set h.1.1 (Int.toNat a.1.1) ((List.getD b (Int.toNat a.1.1) (Ty.zero Dt)).1,c.1.1,(List.getD b (Int.toNat a.1.1) (Ty.zero Dt)).2.2.1,(List.getD b (Int.toNat a.1.1) (Ty.zero Dt)).2.2.2.1,d.1.1,(List.getD b (Int.toNat a.1.1) (Ty.zero Dt)).2.2.2.2.2)),0,()),(),(),(),())) none)))) none)))
def Aq9:Bj7:=fun x=>Axd Ac Acr Km Wl Fu Js Ej x.1 x.2.1 x.2.2.1
set_option maxRecDepth 100000
abbrev Af8:B4:=⟨[V18],[V24]⟩
abbrev Apb:=(Apm×Unit)→Option Y15
def Ak9(e:Uf)(f:Ta)(g:(Apm×(List Y97)×Int×Int×Unit)→Option Y15)(a:Apm)(c:(List Y97))(d:Int)(b:Int):Option Y15:=(Ag (decide (b<d)) (Ag (Cj b (List.length c)) (Ag (decide ((List.getD c (Int.toNat b) (0,[0,0,0,0],[0,0,0,0],[0,0,0,0],[0,0,0,0],0,())).2.2.2.2.2.1>a.2.2.2.1)) (some ((false,()),(),())) (g (a,c,d,(IntKind.wrap .i64 (b+1)),()))) none) ((e (a.2.2.2.2.2.1,())).bind fun h=>Ag h.1.1 ((f (a.2.2.2.2.1,())).bind fun i=>some ((i.1.1,()),(),())) (some ((false,()),(),()))))
def Agm(L:Af)(b:Uf)(c:Ta)(a:Apm):Option Y15:=(L _ _ (fun z x=>Ak9 b c z x.1 x.2.1 x.2.2.1 x.2.2.2.1) (a,a.2.2.2.2.2.1,(List.length a.2.2.2.2.2.1:Int),0,()))
def Tk:Apb:=fun x=>Agm Ac Km F0 x.1
set_option maxRecDepth 100000
abbrev Ws:B4:=⟨[(.ro true W4)],[V32]⟩
abbrev Atn:=Y4→Option Y6
def Abq(e:Y61→Option Y6)(c:(List Int))(b:(List Int))(a:Int):Option Y6:=(A4 (IntKind.wrap .i64 (8*(Int.tmod a 8))) fun d=>Ag (decide (a≥0)) (Ag (Cj (IntKind.wrap .i64 (Int.tdiv a 8)) 4) (Ag (decide (0≤d)) (Ag (A8 ((List.length b)+1) (Ty.int IntKind.u8)) (e (c,(List.append b [(IntKind.wrap .u8 (Int.fdiv (List.getD c (Int.toNat (IntKind.wrap .i64 (Int.tdiv a 8))) 0) (2 ^ (min (Int.toNat d) 64))))]),(IntKind.wrap .i64 (a-1)),())) none) none) none) (some ((b,()),(),())))
def Atv(L:Af)(c:Au8)(a:(List Int)):Option Y6:=((c (a,())).bind fun d=>A4 (IntKind.wrap .i64 (Int.tdiv (IntKind.wrap .i64 (d.1.1+7)) 8)) fun b=>L _ _ (fun z x=>Abq z x.1 x.2.1 x.2.2.1) (a,[(IntKind.wrap .u8 b)],(IntKind.wrap .i64 (b-1)),()))
def Mk:Atn:=fun x=>Atv Ac Oa x.1
abbrev I1:B4:=⟨[V3,(.ro true W4)],[V32]⟩
abbrev Qn:=Y37→Option Y11
def Zm(L:Af)(a:Atn)(b:Hh)(c:(List Int))(d:(List Int)):Option Y11:=((a (d,())).bind fun e=>(b ([c,e.1.1],())).bind fun f=>some ((f.1.1,()),(),(),()))
def Fo:Qn:=fun x=>Zm Ac Mk B9 x.1 x.2.1
abbrev Sx:B4:=⟨[V3,Ir],[V32]⟩
abbrev Abx:=Y8→Option Y11
def Ab0(L:Af)(a:Iz)(b:Qn)(c:(List Int))(d:Int):Option Y11:=((a (d,())).bind fun e=>(b (c,e.1.1,())).bind fun f=>some ((f.1.1,()),(),(),()))
def J8:Abx:=fun x=>Ab0 Ac Db Fo x.1 x.2.1
abbrev Pt:B4:=⟨[V3,Bv,Bv],[(.ro true W4),Bv,Bv]⟩
abbrev Acq:=Y16→Option Y46
def O8(j:(Int×(List Int)×(List Int)×Int×(List Int)×Int×Int×Unit)→Option Y46)(f:Int)(k:(List Int))(c:(List Int))(d:Int)(e:(List Int))(g:Int)(a:Int):Option Y46:=(A4 (IntKind.wrap .i64 ((IntKind.wrap .i64 (d-1))-a)) fun h=>A4 (IntKind.wrap .i64 (Int.tdiv h 8)) fun b=>A4 (IntKind.wrap .i64 (8*(Int.tmod h 8))) fun i=>Ag (decide (a<g)) (Ag (Cj b 4) (Ag (Cj a (List.length c)) (Ag (decide (0≤i)) (Ag (Cj b 4) (j (f,k,c,d,(List.set e (Int.toNat b) (IntKind.wrap .u64 (((BitVec.toNat ((BitVec.ofInt 64 (List.getD e (Int.toNat b) 0)) ||| (BitVec.ofInt 64 (IntKind.wrap .u64 ((IntKind.wrap .u64 (List.getD c (Int.toNat a) 0))*(2 ^ (min (Int.toNat i) 64))))))):Nat):Int))),g,(IntKind.wrap .i64 (a+1)),())) none) none) none) none) (some ((e,(IntKind.wrap .i64 ((IntKind.wrap .i64 (f+1))+d)),0,()),(),(),(),())))
def Acv(L:Af)(c:(List Int))(a:Int)(i:Int):Option Y46:=(A4 (List.take ((List.length c)-(Int.toNat a)) (List.drop (Int.toNat a) c)) fun e=>A4 (List.length e) fun f=>A4 ((f:Nat):Int) fun g=>A4 (IntKind.wrap .i64 (List.getD e 0 0)) fun b=>A4 (List.take (f-1) (List.drop 1 e)) fun d=>A4 (List.length d) fun h=>Ag (decide (a<0)) (some (([0,0,0,0],0,2,()),(),(),(),())) (Ag (decide (a>(List.length c:Int))) (some (([0,0,0,0],0,2,()),(),(),(),())) (Ag ((decide (0≤a))&&(decide (a≤(List.length c:Int)))) (Ag (decide (g=0)) (some (([0,0,0,0],0,3,()),(),(),(),())) (Ag (Cj 0 f) (Ag (decide (1≤g)) (Ag (decide (b>i)) (some (([0,0,0,0],0,3,()),(),(),(),())) (Ag (decide (b>((h:Nat):Int))) (some (([0,0,0,0],0,3,()),(),(),(),())) (Ag (decide (b>0)) (Ag (Cj 0 h) (Ag (decide ((List.getD d 0 0)=0)) (some (([0,0,0,0],0,3,()),(),(),(),())) (L _ _ (fun z x=>O8 z x.1 x.2.1 x.2.2.1 x.2.2.2.1 x.2.2.2.2.1 x.2.2.2.2.2.1 x.2.2.2.2.2.2.1) (a,[0,0,0,0],d,b,[0,0,0,0],b,0,()))) none) (L _ _ (fun z x=>O8 z x.1 x.2.1 x.2.2.1 x.2.2.2.1 x.2.2.2.2.1 x.2.2.2.2.2.1 x.2.2.2.2.2.2.1) (a,[0,0,0,0],d,b,[0,0,0,0],b,0,()))))) none) none)) none)))
def Jj:Acq:=fun x=>Acv Ac x.1 x.2.1 x.2.2.1
abbrev Xv:B4:=⟨[V3,Bv],[Ir,Bv,Bv]⟩
abbrev Agi:=Y8→Option (Y7×Unit×Unit×Unit)
def Yq(L:Af)(b:Acq)(c:(List Int))(d:Int):Option (Y7×Unit×Unit×Unit):=((b (c,d,8,())).bind fun a=>some (((List.getD a.1.1 0 0),a.1.2.1,a.1.2.2.1,()),(),(),()))
def Mv:Agi:=fun x=>Yq Ac Jj x.1 x.2.1
abbrev Kv:B4:=⟨[V3,Bv],[(.ro true W4),Bv,Bv]⟩
abbrev U3:=Y8→Option (Y16×Unit×Unit×Unit)
def Uz(L:Af)(b:Acq)(c:(List Int))(d:Int):Option (Y16×Unit×Unit×Unit):=((b (c,d,32,())).bind fun a=>some ((a.1.1,a.1.2.1,a.1.2.2.1,()),(),(),()))
def G3:U3:=fun x=>Uz Ac Jj x.1 x.2.1
abbrev X4:B4:=⟨[V3,Bv],[V6,Bv,Bv]⟩
abbrev Agn:=Y8→Option Y79
def X1(L:Af)(d:U3)(e:Ta)(b:(List Int))(a:Int):Option Y79:=(Ag (decide (a<0)) (some (((false,[0,0,0,0],()),0,2,()),(),(),())) (Ag (decide (a>(List.length b:Int))) (some (((false,[0,0,0,0],()),0,2,()),(),(),())) (Ag (decide (a=(List.length b:Int))) (some (((false,[0,0,0,0],()),0,3,()),(),(),())) (Ag (Cj a (List.length b)) (Ag (decide ((List.getD b (Int.toNat a) 0)>1)) (some (((false,[0,0,0,0],()),0,3,()),(),(),())) ((d (b,(IntKind.wrap .i64 (a+1)),())).bind fun c=>Ag (Cj a (List.length b)) (Ag (!(decide (c.1.2.2.1=0))) (some (((false,[0,0,0,0],()),0,3,()),(),(),())) ((e (((decide ((List.getD b (Int.toNat a) 0)=1)),c.1.1,()),())).bind fun f=>Ag (!f.1.1) (some (((false,[0,0,0,0],()),0,3,()),(),(),())) (some ((((decide ((List.getD b (Int.toNat a) 0)=1)),c.1.1,()),c.1.2.1,0,()),(),(),())))) none)) none))))
def Mw:Agn:=fun x=>X1 Ac G3 F0 x.1 x.2.1
abbrev Se:B4:=⟨[V3,V6],[V32]⟩
abbrev Aml:=((List Int)×Y13×Unit)→Option Y11
def Abn(L:Af)(e:Ta)(f:Ace)(c:Atn)(d:Hh)(b:(List Int))(a:Y13):Option Y11:=((e (a,())).bind fun g=>Ag (!g.1.1) ((f (b,())).bind fun h=>some ((h.1.1,()),(),(),())) (Ag a.1 ((c (a.2.1,())).bind fun i=>(d ([b,[1],i.1.1],())).bind fun j=>some ((j.1.1,()),(),(),())) ((c (a.2.1,())).bind fun k=>(d ([b,[0],k.1.1],())).bind fun l=>some ((l.1.1,()),(),(),()))))
def Kf:Aml:=fun x=>Abn Ac F0 Gy Mk B9 x.1 x.2.1
set_option maxRecDepth 100000
abbrev Aap:B4:=⟨[V3],[V52]⟩
abbrev Aij:=Y4→Option ((Y38×Unit)×Unit×Unit)
def Ah5(L:Af)(a:(List Int)):Option ((Y38×Unit)×Unit×Unit):=(some (((a,0,false,()),()),(),()))
def Vh:Aij:=fun x=>Ah5 Ac x.1
abbrev C5:B4:=⟨[V52,Bv,Bv],[V24]⟩
abbrev Gj:=(Y38×Int×Int×Unit)→Option Y70
def Et(L:Af)(a:Y38)(b:Int)(c:Int):Option Y70:=(Ag a.2.2.1 (some ((false,()),(a.1,a.2.1,true,a.2.2.2),(),(),())) (Ag (!(decide (c=0))) (some ((false,()),(a.1,a.2.1,true,a.2.2.2),(),(),())) (some ((true,()),(a.1,b,a.2.2),(),(),()))))
def B1:Gj:=fun x=>Et Ac x.1 x.2.1 x.2.2.1
abbrev Av:B4:=⟨[V52],[Ir]⟩
abbrev Bu:=(Y38×Unit)→Option Y43
def Jd(L:Af)(d:Agi)(e:Gj)(a:Y38):Option Y43:=((d (a.1,a.2.1,())).bind fun b=>(e (a,b.1.2.1,b.1.2.2.1,())).bind fun c=>Ag (!c.1.1) (some ((0,()),c.2.1,())) (some ((b.1.1,()),c.2.1,())))
def As:Bu:=fun x=>Jd Ac Mv B1 x.1
abbrev Bk:B4:=⟨[V52],[(.ro true W4)]⟩
abbrev C4:=(Y38×Unit)→Option (Y4×Y38×Unit)
def I4(L:Af)(d:U3)(e:Gj)(a:Y38):Option (Y4×Y38×Unit):=((d (a.1,a.2.1,())).bind fun b=>(e (a,b.1.2.1,b.1.2.2.1,())).bind fun c=>Ag (!c.1.1) (some (([0,0,0,0],()),c.2.1,())) (some ((b.1.1,()),c.2.1,())))
def Ba:C4:=fun x=>I4 Ac G3 B1 x.1
abbrev K0:B4:=⟨[V52],[V24]⟩
abbrev Rl:=(Y38×Unit)→Option Y44
def Le(L:Af)(a:Y38):Option Y44:=(Ag (!a.2.2.1) (some (((decide (a.2.1=(List.length a.1:Int))),()),a,())) (some ((false,()),a,())))
def G5:Rl:=fun x=>Le Ac x.1
abbrev K5:B4:=⟨[V52],[V31]⟩
abbrev Rx:=(Y38×Unit)→Option Y43
def Lf(L:Af)(a:Y38):Option Y43:=(A4 (IntKind.wrap .i64 (a.2.1+1)) fun b=>A4 (IntKind.wrap .i64 (b-1)) fun c=>Ag a.2.2.1 (some ((0,()),(a.1,a.2.1,true,a.2.2.2),())) (Ag (decide (a.2.1≥(List.length a.1:Int))) (some ((0,()),(a.1,a.2.1,true,a.2.2.2),())) (Ag (Cj c (List.length a.1)) (some (((List.getD a.1 (Int.toNat c) 0),()),(a.1,b,a.2.2),())) none)))
def E0:Rx:=fun x=>Lf Ac x.1
abbrev Jc:B4:=⟨[V52],[V6]⟩
abbrev Ok:=(Y38×Unit)→Option ((Y13×Unit)×Y38×Unit)
def Jp(L:Af)(d:Agn)(e:Gj)(a:Y38):Option ((Y13×Unit)×Y38×Unit):=((d (a.1,a.2.1,())).bind fun b=>(e (a,b.1.2.1,b.1.2.2.1,())).bind fun c=>Ag (!c.1.1) (some (((false,[0,0,0,0],()),()),c.2.1,())) (some ((b.1.1,()),c.2.1,())))
def Ft:Ok:=fun x=>Jp Ac Mw B1 x.1
abbrev C0:B4:=⟨[V52],[V24]⟩
abbrev C1:=(Y38×Unit)→Option Y44
def L3(L:Af)(a:Y38):Option Y44:=(some ((a.2.2.1,()),a,()))
def By:C1:=fun x=>L3 Ac x.1
set_option maxRecDepth 100000
abbrev Ov:B4:=⟨[V52],[(.pair Ir (.pair V11 (.pair V8 (.pair Ir (.pair (.pair (.ro true W4) (.pair Ir (.pair Ir (.pair Ir (.pair V6 (.pair (.nilm W46) V25)))))) (.pair (.nilm W44) (.pair V33 (.pair (.nilm W25) (.pair (.nilm .bool) (.pair (.ro true W4) (.pair (.nilm W21) V25)))))))))))]⟩
abbrev Xm:=(Y38×Unit)→Option ((Cn6×Unit)×Y38×Unit)
def O3(L:Af)(a:Bu)(b:C4)(a1:Ok)(a2:Y38):Option ((Cn6×Unit)×Y38×Unit):=((a (a2,())).bind fun c=>(a (c.2.1,())).bind fun d=>(a (d.2.1,())).bind fun e=>(a (e.2.1,())).bind fun f=>(b (f.2.1,())).bind fun g=>(a (g.2.1,())).bind fun h=>(b (h.2.1,())).bind fun i=>(a (i.2.1,())).bind fun j=>(b (j.2.1,())).bind fun k=>(a (k.2.1,())).bind fun l=>(a (l.2.1,())).bind fun m=>(a (m.2.1,())).bind fun n=>(a (n.2.1,())).bind fun o=>(a (o.2.1,())).bind fun p=>(a (p.2.1,())).bind fun q=>(a (q.2.1,())).bind fun r=>(b (r.2.1,())).bind fun s=>(a (s.2.1,())).bind fun t=>(b (t.2.1,())).bind fun u=>(a (u.2.1,())).bind fun v=>(a (v.2.1,())).bind fun w=>(a (w.2.1,())).bind fun y=>(a1 (y.2.1,())).bind fun a0=>some (((c.1.1,(d.1.1,e.1.1,f.1.1,g.1.1,h.1.1,i.1.1,j.1.1,k.1.1,l.1.1,m.1.1,n.1.1,o.1.1,()),(p.1.1,q.1.1,r.1.1,s.1.1,()),t.1.1,(u.1.1,v.1.1,w.1.1,y.1.1,a0.1.1,(),()),(),[[0,0,0,0],[0,0,0,0],[0,0,0,0],[0,0,0,0]],(),(),[0,0,0,0],(),()),()),a0.2.1,()))
def I2:Xm:=fun x=>O3 Ac As Ba Ft x.1
abbrev Ju:B4:=⟨[V52,V62],[]⟩
abbrev Sf:=Cdw→Option Axv
def Sj(L:Af)(c:Bu)(b:C4)(j:Y38)(a:Eu):Option Axv:=((c (j,())).bind fun d=>(b (d.2.1,())).bind fun e=>(b (e.2.1,())).bind fun f=>(b (f.2.1,())).bind fun g=>(b (g.2.1,())).bind fun h=>(c (h.2.1,())).bind fun i=>Ag (A8 ((List.length a.2.2.2.2.1.2.2.2.2.2.1)+1) Dt) (some ((),i.2.1,(a.1,a.2.1,a.2.2.1,a.2.2.2.1,(a.2.2.2.2.1.1,a.2.2.2.2.1.2.1,a.2.2.2.2.1.2.2.1,a.2.2.2.2.1.2.2.2.1,a.2.2.2.2.1.2.2.2.2.1,(List.append a.2.2.2.2.1.2.2.2.2.2.1 [(d.1.1,e.1.1,f.1.1,g.1.1,h.1.1,i.1.1,())]),a.2.2.2.2.1.2.2.2.2.2.2),a.2.2.2.2.2),())) none)
def H3:Sf:=fun x=>Sj Ac As Ba x.1 x.2.1
abbrev H8:B4:=⟨[V52,V62],[]⟩
abbrev W0:=Cdw→Option Axv
def Anx(g:C1)(h:Sf)(i:Cmv→Option Axv)(c:Y38)(a:Eu)(d:Int)(e:Int):Option Axv:=(Ag (decide (e<d)) ((g (c,())).bind fun b=>Ag (!b.1.1) ((h (b.2.1,a,())).bind fun f=>i (f.2.1,f.2.2.1,d,(IntKind.wrap .u64 (e+1)),())) (some ((),b.2.1,a,()))) (some ((),c,a,())))
def O9(L:Af)(b:Bu)(c:C1)(d:Sf)(e:Y38)(f:Eu):Option Axv:=((b (e,())).bind fun a=>L _ _ (fun z x=>Anx c d z x.1 x.2.1 x.2.2.1 x.2.2.2.1) (a.2.1,f,a.1.1,0,()))
def Gp:W0:=fun x=>O9 Ac As By H3 x.1 x.2.1
abbrev Jt:B4:=⟨[V52,V62],[]⟩
abbrev Si:=Cdw→Option Axv
def Sz(L:Af)(b:Bu)(f:C4)(g:Y38)(a:Eu):Option Axv:=((b (g,())).bind fun c=>(f (c.2.1,())).bind fun d=>(b (d.2.1,())).bind fun e=>Ag (A8 ((List.length a.2.2.2.2.2.1)+1) R7) (some ((),e.2.1,(a.1,a.2.1,a.2.2.1,a.2.2.2.1,a.2.2.2.2.1,(List.append a.2.2.2.2.2.1 [(c.1.1,d.1.1,e.1.1,())]),a.2.2.2.2.2.2),())) none)
def H1:Si:=fun x=>Sz Ac As Ba x.1 x.2.1
abbrev H5:B4:=⟨[V52,V62],[]⟩
abbrev Xb:=Cdw→Option Axv
def An6(g:C1)(h:Si)(i:Cmv→Option Axv)(c:Y38)(a:Eu)(d:Int)(e:Int):Option Axv:=(Ag (decide (e<d)) ((g (c,())).bind fun b=>Ag (!b.1.1) ((h (b.2.1,a,())).bind fun f=>i (f.2.1,f.2.2.1,d,(IntKind.wrap .u64 (e+1)),())) (some ((),b.2.1,a,()))) (some ((),c,a,())))
def Ow(L:Af)(b:Bu)(c:C1)(d:Si)(e:Y38)(f:Eu):Option Axv:=((b (e,())).bind fun a=>L _ _ (fun z x=>An6 c d z x.1 x.2.1 x.2.2.1 x.2.2.2.1) (a.2.1,f,a.1.1,0,()))
def Gn:Xb:=fun x=>Ow Ac As By H1 x.1 x.2.1
abbrev Jw:B4:=⟨[V52,V62,(.ptr V24)],[]⟩
abbrev Sw:=(Y38×Eu×Bool×Unit)→Option Cd2
def S3(L:Af)(g:Bu)(h:C4)(i:Rx)(j:Y38)(a:Eu)(k:Bool):Option Cd2:=(A4 (List.length a.2.2.2.2.2.2.2.1) fun c=>A4 (IntKind.wrap .u64 ((c:Nat):Int)) fun l=>(g (j,())).bind fun d=>(h (d.2.1,())).bind fun e=>A4 (List.append a.2.2.2.2.2.2.2.1 [(l,d.1.1,e.1.1,())]) fun f=>(i (e.2.1,())).bind fun b=>Ag k (Ag (A8 (c+1) R9) (Ag (A8 ((List.length a.2.2.2.2.2.2.2.2.1)+1) (Ty.bool)) (some ((),b.2.1,(a.1,a.2.1,a.2.2.1,a.2.2.2.1,a.2.2.2.2.1,a.2.2.2.2.2.1,a.2.2.2.2.2.2.1,f,(List.append a.2.2.2.2.2.2.2.2.1 [(decide (b.1.1=1))]),a.2.2.2.2.2.2.2.2.2),true,())) none) none) (Ag (A8 (c+1) R9) (Ag (A8 ((List.length a.2.2.2.2.2.2.2.2.1)+1) (Ty.bool)) (some ((),b.2.1,(a.1,a.2.1,a.2.2.1,a.2.2.2.1,a.2.2.2.2.1,a.2.2.2.2.2.1,a.2.2.2.2.2.2.1,f,(List.append a.2.2.2.2.2.2.2.2.1 [(decide (b.1.1=1))]),a.2.2.2.2.2.2.2.2.2),(decide (b.1.1>1)),())) none) none))
def Ia:Sw:=fun x=>S3 Ac As Ba E0 x.1 x.2.1 x.2.2.1
abbrev Hz:B4:=⟨[V52,V62,(.ptr V24)],[]⟩
abbrev Xl:=(Y38×Eu×Bool×Unit)→Option Cd2
def Xt(h:C1)(i:Sw)(j:(Y38×Eu×Bool×Int×Int×Unit)→Option Cd2)(e:Y38)(a:Eu)(b:Bool)(f:Int)(g:Int):Option Cd2:=(Ag (decide (g<f)) ((h (e,())).bind fun c=>Ag (!c.1.1) ((i (c.2.1,a,b,())).bind fun d=>j (d.2.1,d.2.2.1,d.2.2.2.1,f,(IntKind.wrap .u64 (g+1)),())) (some ((),c.2.1,a,b,()))) (some ((),e,a,b,())))
def Pc(L:Af)(b:Bu)(c:C1)(d:Sw)(e:Y38)(f:Eu)(g:Bool):Option Cd2:=((b (e,())).bind fun a=>L _ _ (fun z x=>Xt c d z x.1 x.2.1 x.2.2.1 x.2.2.2.1 x.2.2.2.2.1) (a.2.1,f,g,a.1.1,0,()))
def Gm:Xl:=fun x=>Pc Ac As By Ia x.1 x.2.1 x.2.2.1
abbrev Jx:B4:=⟨[V52,V62],[]⟩
abbrev Sr:=Cdw→Option Axv
def Sk(L:Af)(d:Bu)(e:C4)(f:Y38)(a:Eu):Option Axv:=((d (f,())).bind fun b=>(e (b.2.1,())).bind fun c=>Ag (A8 ((List.length a.2.2.2.2.2.2.2.2.2.2.1)+1) R8) (some ((),c.2.1,(a.1,a.2.1,a.2.2.1,a.2.2.2.1,a.2.2.2.2.1,a.2.2.2.2.2.1,a.2.2.2.2.2.2.1,a.2.2.2.2.2.2.2.1,a.2.2.2.2.2.2.2.2.1,a.2.2.2.2.2.2.2.2.2.1,(List.append a.2.2.2.2.2.2.2.2.2.2.1 [(b.1.1,c.1.1,())]),a.2.2.2.2.2.2.2.2.2.2.2),())) none)
def H7:Sr:=fun x=>Sk Ac As Ba x.1 x.2.1
abbrev H4:B4:=⟨[V52,V62],[]⟩
abbrev Xi:=Cdw→Option Axv
def Ank(g:C1)(h:Sr)(i:Cmv→Option Axv)(c:Y38)(a:Eu)(d:Int)(e:Int):Option Axv:=(Ag (decide (e<d)) ((g (c,())).bind fun b=>Ag (!b.1.1) ((h (b.2.1,a,())).bind fun f=>i (f.2.1,f.2.2.1,d,(IntKind.wrap .u64 (e+1)),())) (some ((),b.2.1,a,()))) (some ((),c,a,())))
def Oy(L:Af)(b:Bu)(c:C1)(d:Sr)(e:Y38)(f:Eu):Option Axv:=((b (e,())).bind fun a=>L _ _ (fun z x=>Ank c d z x.1 x.2.1 x.2.2.1 x.2.2.2.1) (a.2.1,f,a.1.1,0,()))
def Gq:Xi:=fun x=>Oy Ac As By H7 x.1 x.2.1
abbrev K7:B4:=⟨[V19],[V24]⟩
abbrev Rs:=(Eu×Unit)→Option Y15
def Uh(e:(Eu×(List Y18)×Int×Int×Unit)→Option Y15)(c:Eu)(b:(List Y18))(d:Int)(a:Int):Option Y15:=(Ag (decide (a<d)) (Ag (Cj a (List.length b)) (Ag (!(decide ((List.getD b (Int.toNat a) (0,0,[0,0,0,0],())).1=(IntKind.wrap .u64 a)))) (some ((false,()),(),())) (Ag (decide ((List.getD b (Int.toNat a) (0,0,[0,0,0,0],())).2.1=0)) (some ((false,()),(),())) (Ag (Yu (Ty.arr 4 (Ty.int IntKind.u64)) (List.getD b (Int.toNat a) ((0:Int),(0:Int),[(0:Int),(0:Int),(0:Int),(0:Int)],())).2.2.1 [(0:Int),(0:Int),(0:Int),(0:Int)]) (some ((false,()),(),())) (e (c,b,d,(IntKind.wrap .i64 (a+1)),()))))) none) (some (((decide ((List.length c.2.2.2.2.2.2.2.2.1:Int)=(List.length c.2.2.2.2.2.2.2.1:Int))),()),(),())))
def K8(L:Af)(a:Eu):Option Y15:=(L _ _ (fun z x=>Uh z x.1 x.2.1 x.2.2.1 x.2.2.2.1) (a,a.2.2.2.2.2.2.2.1,(List.length a.2.2.2.2.2.2.2.1:Int),0,()))
def G6:Rs:=fun x=>K8 Ac x.1
abbrev Lh:B4:=⟨[V19],[V24]⟩
abbrev Rw:=(Eu×Unit)→Option Y15
def Kn(g:Hd)(h:Un)(f:Cp0→Option Y15)(b:Eu)(d:(List Int))(c:(List Y18))(e:Int)(a:Int):Option Y15:=(Ag (decide (a<e)) (Ag (Cj a (List.length c)) (Ag (Cj a (List.length b.2.2.2.2.2.2.2.2.1)) (Ag (!(List.getD b.2.2.2.2.2.2.2.2.1 (Int.toNat a) false)) ((g (d,(List.getD c (Int.toNat a) (0,0,[0,0,0,0],())).2.2.1,())).bind fun i=>f (b,i.1.1,c,e,(IntKind.wrap .i64 (a+1)),())) (f (b,d,c,e,(IntKind.wrap .i64 (a+1)),()))) none) none) ((h ([b.2.2.2.2.2.2.2.2.2.1],())).bind fun j=>some (((Yu (Ty.arr 5 (Ty.int IntKind.u64)) d j.1.1),()),(),())))
def T3(L:Af)(d:Hd)(g:Un)(h:Cnx→Option Y15)(a:Eu)(e:(List Int))(c:(List Y17))(f:Int)(b:Int):Option Y15:=(Ag (decide (b<f)) (Ag (Cj b (List.length c)) ((d (e,(List.getD c (Int.toNat b) (0,[0,0,0,0],0,())).2.1,())).bind fun i=>h (a,i.1.1,c,f,(IntKind.wrap .i64 (b+1)),())) none) (L _ _ (fun z x=>Kn d g z x.1 x.2.1 x.2.2.1 x.2.2.2.1 x.2.2.2.2.1) (a,e,a.2.2.2.2.2.2.2.1,(List.length a.2.2.2.2.2.2.2.1:Int),0,())))
def K1(L:Af)(b:Un)(c:Hd)(a:Eu):Option Y15:=((b ((List.take ((4:Nat)-(0:Nat)) (List.drop 0 a.2.2.2.2.2.2.1)),())).bind fun d=>L _ _ (fun z x=>T3 L c b z x.1 x.2.1 x.2.2.1 x.2.2.2.1 x.2.2.2.2.1) (a,d.1.1,a.2.2.2.2.2.1,(List.length a.2.2.2.2.2.1:Int),0,()))
def G4:Rw:=fun x=>K1 Ac Li Es x.1
abbrev M6:B4:=⟨[V19],[V24]⟩
abbrev Va:=(Eu×Unit)→Option Y15
def Mh(f:Un)(g:(Eu×(List Y2)×(List Y9)×Int×Int×Unit)→Option Y15)(d:Eu)(c:(List Y2))(b:(List Y9))(e:Int)(a:Int):Option Y15:=(A4 (List.length c) fun h=>A4 (IntKind.wrap .i64 (a-1)) fun i=>A4 (List.length d.2.2.2.2.2.2.2.2.2.2.1) fun j=>Ag (decide (a<e)) (Ag (Cj a (List.length b)) (Ag (decide ((List.getD b (Int.toNat a) (0,[0,0,0,0],())).1=0)) (some ((false,()),(),())) (Ag (Yu (Ty.arr 4 (Ty.int IntKind.u64)) (List.getD b (Int.toNat a) ((0:Int),[(0:Int),(0:Int),(0:Int),(0:Int)],())).2.1 [(0:Int),(0:Int),(0:Int),(0:Int)]) (some ((false,()),(),())) (Ag (decide (a>0)) (Ag (Cj i j) (Ag (decide ((List.getD b (Int.toNat a) (0,[0,0,0,0],())).1≤(List.getD d.2.2.2.2.2.2.2.2.2.2.1 (Int.toNat i) (0,[0,0,0,0],())).1)) (some ((false,()),(),())) ((f ([(List.getD b (Int.toNat a) (0,[0,0,0,0],())).2.1],())).bind fun k=>Ag (!(Yu (Ty.arr 5 (Ty.int IntKind.u64)) (Ug [(0:Int),(0:Int),(0:Int),(0:Int),(0:Int)] c (List.getD b (Int.toNat a) ((0:Int),[(0:Int),(0:Int),(0:Int),(0:Int)],())).1) k.1.1)) (some ((false,()),(),())) (g (d,c,b,e,(IntKind.wrap .i64 (a+1)),())))) none) ((f ([(List.getD b (Int.toNat a) (0,[0,0,0,0],())).2.1],())).bind fun l=>Ag (!(Yu (Ty.arr 5 (Ty.int IntKind.u64)) (Ug [(0:Int),(0:Int),(0:Int),(0:Int),(0:Int)] c (List.getD b (Int.toNat a) ((0:Int),[(0:Int),(0:Int),(0:Int),(0:Int)],())).1) l.1.1)) (some ((false,()),(),())) (g (d,c,b,e,(IntKind.wrap .i64 (a+1)),())))))) none) (Ag (decide (h≤9223372036854775807)) (some (((decide (((h:Nat):Int)=((j:Nat):Int))),()),(),())) none))
def Wb(L:Af)(g:Hd)(h:Un)(f:(Eu×(List Y2)×(List Y18)×Int×Int×Unit)→Option Y15)(b:Eu)(d:(List Y2))(c:(List Y18))(e:Int)(a:Int):Option Y15:=(Ag (decide (a<e)) (Ag (Cj a (List.length c)) (Ag (Cj a (List.length b.2.2.2.2.2.2.2.2.1)) (Ag (List.getD b.2.2.2.2.2.2.2.2.1 (Int.toNat a) false) ((g ((Ug [0,0,0,0,0] d (List.getD c (Int.toNat a) (0,0,[0,0,0,0],())).2.1),(List.getD c (Int.toNat a) (0,0,[0,0,0,0],())).2.2.1,())).bind fun i=>f (b,(Kr d (List.getD c (Int.toNat a) (0,0,[0,0,0,0],())).2.1 i.1.1),c,e,(IntKind.wrap .i64 (a+1)),())) (f (b,d,c,e,(IntKind.wrap .i64 (a+1)),()))) none) none) (L _ _ (fun z x=>Mh h z x.1 x.2.1 x.2.2.1 x.2.2.2.1 x.2.2.2.2.1) (b,d,b.2.2.2.2.2.2.2.2.2.2.1,(List.length b.2.2.2.2.2.2.2.2.2.2.1:Int),0,())))
def Nc(L:Af)(b:Hd)(c:Un)(a:Eu):Option Y15:=(L _ _ (fun z x=>Wb L b c z x.1 x.2.1 x.2.2.1 x.2.2.2.1 x.2.2.2.2.1) (a,[],a.2.2.2.2.2.2.2.1,(List.length a.2.2.2.2.2.2.2.1:Int),0,()))
def Ih:Va:=fun x=>Nc Ac Es Li x.1
abbrev Fy:B4:=⟨[V19],[V24]⟩
abbrev Kq:=(Eu×Unit)→Option Y15
def Aa8(L:Af)(f:Apa)(g:Apb)(h:Atq)(c:Rs)(d:Rw)(e:Va)(a:Eu):Option Y15:=((f (a.2.1,())).bind fun i=>Ag (!i.1.1) (some ((false,()),(),())) (Ag (Yu (Ty.arr 4 (Ty.int IntKind.u64)) a.2.2.1.2.2.2.1 [(0:Int),(0:Int),(0:Int),(0:Int)]) (some ((false,()),(),())) ((g (a.2.2.2.2.1,())).bind fun j=>Ag (!j.1.1) (some ((false,()),(),())) (Ag (decide (a.2.2.2.2.1.2.2.1>a.2.2.1.2.1)) (some ((false,()),(),())) ((h (a.2.2.2.2.2.1,a.2.2.2.2.2.2.1,())).bind fun b=>Cc0 b.1.1 (Ag (decide (b.1.2.1=0)) ((c (a,())).bind fun k=>Ag k.1.1 ((d (a,())).bind fun l=>Ag l.1.1 ((e (a,())).bind fun m=>some ((m.1.1,()),(),())) (some ((false,()),(),()))) (some ((false,()),(),()))) (some ((false,()),(),()))) (fun q=>Ag (decide (b.1.2.1=0)) ((c (a,())).bind fun n=>Ag n.1.1 ((d (a,())).bind fun o=>Ag o.1.1 ((e (a,())).bind fun p=>some ((p.1.1,()),(),())) (some ((false,()),(),()))) (some ((false,()),(),()))) (some ((false,()),(),()))))))))
def Cc:Kq:=fun x=>Aa8 Ac S6 Tk Vx G6 G4 Ih x.1
abbrev Jq:B4:=⟨[V3],[V19,Bv]⟩
abbrev Q8:=Y4→Option Cod
def Xz(L:Af)(m:Aij)(n:Bu)(o:Xm)(p:W0)(q:Xb)(d:C4)(r:Xl)(s:Xi)(t:Rl)(u:Kq)(v:(List Int)):Option Cod:=((m (v,())).bind fun w=>(n (w.1.1,())).bind fun f=>(o (f.2.1,())).bind fun a=>(p (a.2.1,(a.1.1.1,a.1.1.2.1,a.1.1.2.2.1,a.1.1.2.2.2.1,(a.1.1.2.2.2.2.1.1,a.1.1.2.2.2.2.1.2.1,a.1.1.2.2.2.2.1.2.2.1,a.1.1.2.2.2.2.1.2.2.2.1,a.1.1.2.2.2.2.1.2.2.2.2.1,[],a.1.1.2.2.2.2.1.2.2.2.2.2.2),[],a.1.1.2.2.2.2.2.2.1,[],[],a.1.1.2.2.2.2.2.2.2.2.2.1,[],a.1.1.2.2.2.2.2.2.2.2.2.2.2),())).bind fun g=>(q (g.2.1,g.2.2.1,())).bind fun c=>(d (c.2.1,())).bind fun h=>(d (h.2.1,())).bind fun i=>(d (i.2.1,())).bind fun j=>(d (j.2.1,())).bind fun k=>(r (k.2.1,(c.2.2.1.1,c.2.2.1.2.1,c.2.2.1.2.2.1,c.2.2.1.2.2.2.1,c.2.2.1.2.2.2.2.1,c.2.2.1.2.2.2.2.2.1,(List.set (List.set (List.set (List.set c.2.2.1.2.2.2.2.2.2.1 0 h.1.1) 1 i.1.1) 2 j.1.1) 3 k.1.1),c.2.2.1.2.2.2.2.2.2.2),false,())).bind fun b=>(d (b.2.1,())).bind fun l=>(s (l.2.1,(b.2.2.1.1,b.2.2.1.2.1,b.2.2.1.2.2.1,b.2.2.1.2.2.2.1,b.2.2.1.2.2.2.2.1,b.2.2.1.2.2.2.2.2.1,b.2.2.1.2.2.2.2.2.2.1,b.2.2.1.2.2.2.2.2.2.2.1,b.2.2.1.2.2.2.2.2.2.2.2.1,l.1.1,b.2.2.1.2.2.2.2.2.2.2.2.2.2),())).bind fun e=>Ag (!(decide (f.1.1=1886350964))) (some (((0,(0,0,0,[0,0,0,0],0,[0,0,0,0],0,[0,0,0,0],0,0,0,0,()),(0,0,0,[0,0,0,0],()),0,([0,0,0,0],0,0,0,(false,[0,0,0,0],()),[],()),[],[[0,0,0,0],[0,0,0,0],[0,0,0,0],[0,0,0,0]],[],[],[0,0,0,0],[],()),3,()),(),())) (Ag b.2.2.2.1 (some (((0,(0,0,0,[0,0,0,0],0,[0,0,0,0],0,[0,0,0,0],0,0,0,0,()),(0,0,0,[0,0,0,0],()),0,([0,0,0,0],0,0,0,(false,[0,0,0,0],()),[],()),[],[[0,0,0,0],[0,0,0,0],[0,0,0,0],[0,0,0,0]],[],[],[0,0,0,0],[],()),3,()),(),())) ((t (e.2.1,())).bind fun y=>Ag (!y.1.1) (some (((0,(0,0,0,[0,0,0,0],0,[0,0,0,0],0,[0,0,0,0],0,0,0,0,()),(0,0,0,[0,0,0,0],()),0,([0,0,0,0],0,0,0,(false,[0,0,0,0],()),[],()),[],[[0,0,0,0],[0,0,0,0],[0,0,0,0],[0,0,0,0]],[],[],[0,0,0,0],[],()),3,()),(),())) ((u (e.2.2.1,())).bind fun a0=>Ag (!a0.1.1) (some (((0,(0,0,0,[0,0,0,0],0,[0,0,0,0],0,[0,0,0,0],0,0,0,0,()),(0,0,0,[0,0,0,0],()),0,([0,0,0,0],0,0,0,(false,[0,0,0,0],()),[],()),[],[[0,0,0,0],[0,0,0,0],[0,0,0,0],[0,0,0,0]],[],[],[0,0,0,0],[],()),3,()),(),())) (some ((e.2.2.1,0,()),(),()))))))
def Dk:Q8:=fun x=>Xz Ac Vh As I2 Gp Gn Ba Gm Gq G5 Cc x.1
abbrev F9:B4:=⟨[V37,(.ro false W8)],[V37]⟩
abbrev Ep:=Y37→Option Y11
def T6(f:Abx)(g:Y75→Option Y11)(b:(List Int))(c:(List Int))(d:Int)(a:Int):Option Y11:=(Ag (decide (a<d)) (Ag (Cj a (List.length c)) ((f ([],(List.getD c (Int.toNat a) 0),())).bind fun e=>Ag (A8 ((List.length b)+(List.length e.1.1)) (Ty.int IntKind.u8)) (g ((List.append b e.1.1),c,d,(IntKind.wrap .i64 (a+1)),())) none) none) (some ((b,()),(),(),())))
def Rv(L:Af)(b:Abx)(c:(List Int))(a:(List Int)):Option Y11:=(L _ _ (fun z x=>T6 b z x.1 x.2.1 x.2.2.1 x.2.2.2.1) (c,a,(List.length a:Int),0,()))
def Bt:Ep:=fun x=>Rv Ac J8 x.1 x.2.1
abbrev Fg:B4:=⟨[V37,V41],[V37]⟩
abbrev D9:=((List Int)×Y1×Unit)→Option Y11
def Rz(f:Qn)(g:Y56→Option Y11)(b:(List Int))(c:Y1)(d:Int)(a:Int):Option Y11:=(Ag (decide (a<d)) (Ag (Cj a (List.length c)) ((f ([],(List.getD c (Int.toNat a) [0,0,0,0]),())).bind fun e=>Ag (A8 ((List.length b)+(List.length e.1.1)) (Ty.int IntKind.u8)) (g ((List.append b e.1.1),c,d,(IntKind.wrap .i64 (a+1)),())) none) none) (some ((b,()),(),(),())))
def Pr(L:Af)(b:Qn)(c:(List Int))(a:Y1):Option Y11:=(L _ _ (fun z x=>Rz b z x.1 x.2.1 x.2.2.1 x.2.2.2.1) (c,a,(List.length a:Int),0,()))
def Br:D9:=fun x=>Pr Ac Fo x.1 x.2.1
abbrev Ma:B4:=⟨[V37,V19],[V37]⟩
abbrev Aet:=((List Int)×Eu×Unit)→Option Y11
def T8(L:Af)(b:Ep)(c:D9)(f:Aml)(g:(List Int))(a:Eu):Option Y11:=((b (g,[1886350964,a.1,a.2.1.1,a.2.1.2.1,a.2.1.2.2.1],())).bind fun h=>(c (h.1.1,[a.2.1.2.2.2.1],())).bind fun i=>(b (i.1.1,[a.2.1.2.2.2.2.1],())).bind fun j=>(c (j.1.1,[a.2.1.2.2.2.2.2.1],())).bind fun k=>(b (k.1.1,[a.2.1.2.2.2.2.2.2.1],())).bind fun l=>(c (l.1.1,[a.2.1.2.2.2.2.2.2.2.1],())).bind fun m=>(b (m.1.1,[a.2.1.2.2.2.2.2.2.2.2.1,a.2.1.2.2.2.2.2.2.2.2.2.1,a.2.1.2.2.2.2.2.2.2.2.2.2.1,a.2.1.2.2.2.2.2.2.2.2.2.2.2.1],())).bind fun n=>(b (n.1.1,[a.2.2.1.1,a.2.2.1.2.1,a.2.2.1.2.2.1],())).bind fun o=>(c (o.1.1,[a.2.2.1.2.2.2.1],())).bind fun p=>(b (p.1.1,[a.2.2.2.1],())).bind fun q=>(c (q.1.1,[a.2.2.2.2.1.1],())).bind fun r=>(b (r.1.1,[a.2.2.2.2.1.2.1,a.2.2.2.2.1.2.2.1,a.2.2.2.2.1.2.2.2.1],())).bind fun d=>(f ([],a.2.2.2.2.1.2.2.2.2.1,())).bind fun e=>Ag (A8 ((List.length d.1.1)+(List.length e.1.1)) (Ty.int IntKind.u8)) (some (((List.append d.1.1 e.1.1),()),(),(),())) none)
def Hg:Aet:=fun x=>T8 Ac Bt Br Kf x.1 x.2.1
abbrev Lz:B4:=⟨[V19],[(.full (.int .u8)),Bv]⟩
abbrev Yd:=(Eu×Unit)→Option Y21
def Ui(g:Ep)(h:D9)(i:Gu)(j:((List Int)×(List Y9)×Int×Int×Unit)→Option Y21)(d:(List Int))(b:(List Y9))(e:Int)(a:Int):Option Y21:=(Ag (decide (a<e)) (Ag (Cj a (List.length b)) ((g (d,[(List.getD b (Int.toNat a) (0,[0,0,0,0],())).1],())).bind fun k=>(h (k.1.1,[(List.getD b (Int.toNat a) (0,[0,0,0,0],())).2.1],())).bind fun l=>j (l.1.1,b,e,(IntKind.wrap .i64 (a+1)),())) none) ((i (d,())).bind fun f=>A4 (List.length f.1.1) fun c=>Ag ((decide (0<c))&&(decide (c=c))) (some ((f.1.1,0,()),(),())) none))
def Uj(L:Af)(d:Ep)(e:D9)(l:Gu)(h:Cp0→Option Y21)(b:Eu)(f:(List Int))(c:(List Y18))(g:Int)(a:Int):Option Y21:=(A4 (List.length b.2.2.2.2.2.2.2.2.2.2.1:Int) fun i=>Ag (decide (a<g)) (Ag (Cj a (List.length c)) (Ag (Cj a (List.length b.2.2.2.2.2.2.2.2.1)) (Ag (List.getD b.2.2.2.2.2.2.2.2.1 (Int.toNat a) false) ((d (f,[(List.getD c (Int.toNat a) (0,0,[0,0,0,0],())).2.1],())).bind fun m=>(e (m.1.1,[(List.getD c (Int.toNat a) (0,0,[0,0,0,0],())).2.2.1],())).bind fun j=>Ag (A8 ((List.length j.1.1)+1) (Ty.int IntKind.u8)) (h (b,(List.append j.1.1 [1]),c,g,(IntKind.wrap .i64 (a+1)),())) none) ((d (f,[(List.getD c (Int.toNat a) (0,0,[0,0,0,0],())).2.1],())).bind fun n=>(e (n.1.1,[(List.getD c (Int.toNat a) (0,0,[0,0,0,0],())).2.2.1],())).bind fun k=>Ag (A8 ((List.length k.1.1)+1) (Ty.int IntKind.u8)) (h (b,(List.append k.1.1 [0]),c,g,(IntKind.wrap .i64 (a+1)),())) none)) none) none) ((e (f,[b.2.2.2.2.2.2.2.2.2.1],())).bind fun o=>(d (o.1.1,[(IntKind.wrap .u64 i)],())).bind fun p=>L _ _ (fun z x=>Ui d e l z x.1 x.2.1 x.2.2.1 x.2.2.2.1) (p.1.1,b.2.2.2.2.2.2.2.2.2.2.1,i,0,())))
def T1(L:Af)(d:Ep)(e:D9)(i:Gu)(j:Cnx→Option Y21)(b:Eu)(f:(List Int))(c:(List Y17))(g:Int)(a:Int):Option Y21:=(A4 (List.length b.2.2.2.2.2.2.2.1:Int) fun h=>Ag (decide (a<g)) (Ag (Cj a (List.length c)) ((d (f,[(List.getD c (Int.toNat a) (0,[0,0,0,0],0,())).1],())).bind fun k=>(e (k.1.1,[(List.getD c (Int.toNat a) (0,[0,0,0,0],0,())).2.1],())).bind fun l=>(d (l.1.1,[(List.getD c (Int.toNat a) (0,[0,0,0,0],0,())).2.2.1],())).bind fun m=>j (b,m.1.1,c,g,(IntKind.wrap .i64 (a+1)),())) none) ((e (f,(List.take ((4:Nat)-(0:Nat)) (List.drop 0 b.2.2.2.2.2.2.1)),())).bind fun n=>(d (n.1.1,[(IntKind.wrap .u64 h)],())).bind fun o=>L _ _ (fun z x=>Uj L d e i z x.1 x.2.1 x.2.2.1 x.2.2.2.1 x.2.2.2.2.1) (b,o.1.1,b.2.2.2.2.2.2.2.1,h,0,())))
def Tq(L:Af)(c:Ep)(e:D9)(i:Gu)(j:(Eu×(List Int)×(List Y97)×Int×Int×Unit)→Option Y21)(d:Eu)(f:(List Int))(b:(List Y97))(g:Int)(a:Int):Option Y21:=(A4 (List.length d.2.2.2.2.2.1:Int) fun h=>Ag (decide (a<g)) (Ag (Cj a (List.length b)) ((c (f,[(List.getD b (Int.toNat a) (0,[0,0,0,0],[0,0,0,0],[0,0,0,0],[0,0,0,0],0,())).1],())).bind fun k=>(e (k.1.1,[(List.getD b (Int.toNat a) (0,[0,0,0,0],[0,0,0,0],[0,0,0,0],[0,0,0,0],0,())).2.1,(List.getD b (Int.toNat a) (0,[0,0,0,0],[0,0,0,0],[0,0,0,0],[0,0,0,0],0,())).2.2.1,(List.getD b (Int.toNat a) (0,[0,0,0,0],[0,0,0,0],[0,0,0,0],[0,0,0,0],0,())).2.2.2.1,(List.getD b (Int.toNat a) (0,[0,0,0,0],[0,0,0,0],[0,0,0,0],[0,0,0,0],0,())).2.2.2.2.1],())).bind fun l=>(c (l.1.1,[(List.getD b (Int.toNat a) (0,[0,0,0,0],[0,0,0,0],[0,0,0,0],[0,0,0,0],0,())).2.2.2.2.2.1],())).bind fun m=>j (d,m.1.1,b,g,(IntKind.wrap .i64 (a+1)),())) none) ((c (f,[(IntKind.wrap .u64 h)],())).bind fun n=>L _ _ (fun z x=>T1 L c e i z x.1 x.2.1 x.2.2.1 x.2.2.2.1 x.2.2.2.2.1) (d,n.1.1,d.2.2.2.2.2.1,h,0,())))
def Afp(L:Af)(d:Kq)(e:Aet)(b:Ep)(f:D9)(g:Gu)(a:Eu):Option Y21:=(A4 (List.length a.2.2.2.2.1.2.2.2.2.2.1:Int) fun c=>(d (a,())).bind fun h=>Ag (!h.1.1) (some (([],2,()),(),())) ((e ([],a,())).bind fun i=>(b (i.1.1,[(IntKind.wrap .u64 c)],())).bind fun j=>L _ _ (fun z x=>Tq L b f g z x.1 x.2.1 x.2.2.1 x.2.2.2.1 x.2.2.2.2.1) (a,j.1.1,a.2.2.2.2.1.2.2.2.2.2.1,c,0,())))
def D0:Yd:=fun x=>Afp Ac Cc Hg Bt Br C2 x.1
abbrev Acz:B4:=⟨[V19],[(.ro true W3),Bv]⟩
abbrev Alx:=(Eu×Unit)→Option Y21
def Al2(L:Af)(b:Yd)(c:Aov)(d:Eu):Option Y21:=((b (d,())).bind fun a=>Ag (!(decide (a.1.2.1=0))) (some (((List.replicate 32 0),a.1.2.1,()),(),())) ((c ((List.take ((List.length a.1.1)-0) (List.drop 0 a.1.1)),())).bind fun e=>some ((e.1.1,0,()),(),())))
def L7:Alx:=fun x=>Al2 Ac D0 Ld x.1
set_option maxRecDepth 100000
abbrev Ajq:B4:=⟨[],[V24]⟩
abbrev Ajv:=Unit→Option ((Bool×Unit)×Unit)
def As6(L:Af)(b:Q8)(c:Adt)(a:Kq)(d:Pi):Option ((Bool×Unit)×Unit):=((b ([],())).bind fun e=>(c ([],true,())).bind fun f=>Ag (decide (e.1.2.1=3)) ((a ((0,(0,0,0,[0,0,0,0],0,[0,0,0,0],0,[0,0,0,0],0,0,0,0,()),(0,0,0,[0,0,0,0],()),0,([0,0,0,0],0,0,0,(false,[0,0,0,0],()),[],()),[],[[0,0,0,0],[0,0,0,0],[0,0,0,0],[0,0,0,0]],[],[],[0,0,0,0],[],()),())).bind fun g=>Ag (!g.1.1) ((d (f.1.1,())).bind fun h=>(a (h.1.1,())).bind fun i=>some ((i.1.1,()),())) (some ((false,()),()))) (some ((false,()),())))
def Pu:Ajv:=fun x=>As6 Ac Dk Jb Cc E6
abbrev Agw:B4:=⟨[V19,Bv,(.ro true W4)],[V19]⟩
abbrev Azx:=(Eu×Int×(List Int)×Unit)→Option Beg
def Ay(a:Eu)(b:Eu):Option Beg:=(some ((a,()),(),(),(),()))
def Qq(a:Eu)(f:(List Int))(d:Eu)(b:Int)(c:Int):Option Beg:=(A4 (List.length a.2.2.2.2.1.2.2.2.2.2.1) fun e=>Ag (decide (b>0)) (Ag (A8 (0+e) Dt) (Ag (decide (b≠0)) (Ag (Cj (Int.tmod c b) e) (Fv (fun x=>Ay x.1 x.2.1) ((a.1,a.2.1,a.2.2.1,a.2.2.2.1,(a.2.2.2.2.1.1,a.2.2.2.2.1.2.1,a.2.2.2.2.1.2.2.1,a.2.2.2.2.1.2.2.2.1,a.2.2.2.2.1.2.2.2.2.1,(List.set a.2.2.2.2.1.2.2.2.2.2.1 (Int.toNat (Int.tmod c b)) ((List.getD (List.append (List.replicate 0 (0,[0,0,0,0],[0,0,0,0],[0,0,0,0],[0,0,0,0],0,())) a.2.2.2.2.1.2.2.2.2.2.1) (Int.toNat (Int.tmod c b)) (0,[0,0,0,0],[0,0,0,0],[0,0,0,0],[0,0,0,0],0,())).1,(List.getD (List.append (List.replicate 0 (0,[0,0,0,0],[0,0,0,0],[0,0,0,0],[0,0,0,0],0,())) a.2.2.2.2.1.2.2.2.2.2.1) (Int.toNat (Int.tmod c b)) (0,[0,0,0,0],[0,0,0,0],[0,0,0,0],[0,0,0,0],0,())).2.1,(List.getD (List.append (List.replicate 0 (0,[0,0,0,0],[0,0,0,0],[0,0,0,0],[0,0,0,0],0,())) a.2.2.2.2.1.2.2.2.2.2.1) (Int.toNat (Int.tmod c b)) (0,[0,0,0,0],[0,0,0,0],[0,0,0,0],[0,0,0,0],0,())).2.2.1,(List.getD (List.append (List.replicate 0 (0,[0,0,0,0],[0,0,0,0],[0,0,0,0],[0,0,0,0],0,())) a.2.2.2.2.1.2.2.2.2.2.1) (Int.toNat (Int.tmod c b)) (0,[0,0,0,0],[0,0,0,0],[0,0,0,0],[0,0,0,0],0,())).2.2.2.1,(List.getD (List.append (List.replicate 0 (0,[0,0,0,0],[0,0,0,0],[0,0,0,0],[0,0,0,0],0,())) a.2.2.2.2.1.2.2.2.2.2.1) (Int.toNat (Int.tmod c b)) (0,[0,0,0,0],[0,0,0,0],[0,0,0,0],[0,0,0,0],0,())).2.2.2.2.1,(Int.tmod (List.getD f 0 0) 4),(List.getD (List.append (List.replicate 0 (0,[0,0,0,0],[0,0,0,0],[0,0,0,0],[0,0,0,0],0,())) a.2.2.2.2.1.2.2.2.2.2.1) (Int.toNat (Int.tmod c b)) (0,[0,0,0,0],[0,0,0,0],[0,0,0,0],[0,0,0,0],0,())).2.2.2.2.2.2)),a.2.2.2.2.1.2.2.2.2.2.2),a.2.2.2.2.2),d,())) none) none) none) (Fv (fun x=>Ay x.1 x.2.1) (a,d,())))
def Ra(a:Eu)(f:(List Int))(d:Eu)(b:Int)(c:Int):Option Beg:=(A4 (List.length a.2.2.2.2.2.1) fun e=>Ag (decide (b>0)) (Ag (A8 (0+e) R7) (Ag (decide (b≠0)) (Ag (Cj (Int.tmod c b) e) (Fv (fun x=>Ay x.1 x.2.1) ((a.1,a.2.1,a.2.2.1,a.2.2.2.1,a.2.2.2.2.1,(List.set a.2.2.2.2.2.1 (Int.toNat (Int.tmod c b)) ((List.getD (List.append (List.replicate 0 (0,[0,0,0,0],0,())) a.2.2.2.2.2.1) (Int.toNat (Int.tmod c b)) (0,[0,0,0,0],0,())).1,f,(List.getD (List.append (List.replicate 0 (0,[0,0,0,0],0,())) a.2.2.2.2.2.1) (Int.toNat (Int.tmod c b)) (0,[0,0,0,0],0,())).2.2)),a.2.2.2.2.2.2),d,())) none) none) none) (Fv (fun x=>Ay x.1 x.2.1) (a,d,())))
def Qr(a:Eu)(f:(List Int))(d:Eu)(b:Int)(c:Int):Option Beg:=(A4 (List.length a.2.2.2.2.2.2.2.1) fun e=>Ag (decide (b>0)) (Ag (A8 (0+e) R9) (Ag (decide (b≠0)) (Ag (Cj (Int.tmod c b) e) (Fv (fun x=>Ay x.1 x.2.1) ((a.1,a.2.1,a.2.2.1,a.2.2.2.1,a.2.2.2.2.1,a.2.2.2.2.2.1,a.2.2.2.2.2.2.1,(List.set a.2.2.2.2.2.2.2.1 (Int.toNat (Int.tmod c b)) ((List.getD (List.append (List.replicate 0 (0,0,[0,0,0,0],())) a.2.2.2.2.2.2.2.1) (Int.toNat (Int.tmod c b)) (0,0,[0,0,0,0],())).1,(List.getD (List.append (List.replicate 0 (0,0,[0,0,0,0],())) a.2.2.2.2.2.2.2.1) (Int.toNat (Int.tmod c b)) (0,0,[0,0,0,0],())).2.1,[(Int.tmod (List.getD f 0 0) 3),0,0,0],(List.getD (List.append (List.replicate 0 (0,0,[0,0,0,0],())) a.2.2.2.2.2.2.2.1) (Int.toNat (Int.tmod c b)) (0,0,[0,0,0,0],())).2.2.2)),a.2.2.2.2.2.2.2.2),d,())) none) none) none) (Fv (fun x=>Ay x.1 x.2.1) (a,d,())))
def Alp(a:Eu)(e:Eu)(b:Int)(c:Int):Option Beg:=(A4 (List.length a.2.2.2.2.2.2.2.2.1) fun d=>Ag (A8 (0+d) (Ty.bool)) (Ag (decide (b≠0)) (Ag (decide (b≠0)) (Ag (Cj (Int.tmod c b) d) (Ag (Cj (Int.tmod c b) d) (Fv (fun x=>Ay x.1 x.2.1) ((a.1,a.2.1,a.2.2.1,a.2.2.2.1,a.2.2.2.2.1,a.2.2.2.2.2.1,a.2.2.2.2.2.2.1,a.2.2.2.2.2.2.2.1,(List.set a.2.2.2.2.2.2.2.2.1 (Int.toNat (Int.tmod c b)) (!(List.getD a.2.2.2.2.2.2.2.2.1 (Int.toNat (Int.tmod c b)) false))),a.2.2.2.2.2.2.2.2.2),e,())) none) none) none) none) none)
def Qw(a:Eu)(b:Eu)(c:Int)(d:Int):Option Beg:=(Ag (decide (c>0)) (Ag (decide ((List.length a.2.2.2.2.2.2.2.2.1:Int)=c)) (Fv (fun x=>Alp x.1 x.2.1 x.2.2.1 x.2.2.2.1) (a,b,c,d,())) (Fv (fun x=>Ay x.1 x.2.1) (a,b,()))) (Fv (fun x=>Ay x.1 x.2.1) (a,b,())))
def Oz(a:Eu)(f:(List Int))(d:Eu)(b:Int)(c:Int):Option Beg:=(A4 (List.length a.2.2.2.2.2.2.2.2.2.2.1) fun e=>Ag (decide (b>0)) (Ag (A8 (0+e) R8) (Ag (decide (b≠0)) (Ag (Cj (Int.tmod c b) e) (Fv (fun x=>Ay x.1 x.2.1) ((a.1,a.2.1,a.2.2.1,a.2.2.2.1,a.2.2.2.2.1,a.2.2.2.2.2.1,a.2.2.2.2.2.2.1,a.2.2.2.2.2.2.2.1,a.2.2.2.2.2.2.2.2.1,a.2.2.2.2.2.2.2.2.2.1,(List.set a.2.2.2.2.2.2.2.2.2.2.1 (Int.toNat (Int.tmod c b)) ((List.getD (List.append (List.replicate 0 (0,[0,0,0,0],())) a.2.2.2.2.2.2.2.2.2.2.1) (Int.toNat (Int.tmod c b)) (0,[0,0,0,0],())).1,[(Int.tmod (List.getD f 0 0) 3),0,0,0],(List.getD (List.append (List.replicate 0 (0,[0,0,0,0],())) a.2.2.2.2.2.2.2.2.2.2.1) (Int.toNat (Int.tmod c b)) (0,[0,0,0,0],())).2.2)),a.2.2.2.2.2.2.2.2.2.2.2),d,())) none) none) none) (Fv (fun x=>Ay x.1 x.2.1) (a,d,())))
def Ph(a:Eu)(c:(List Int))(b:Eu)(g:Int)(d:Int):Option Beg:=(A4 (List.getD c 1 0) fun e=>A4 (List.length a.2.2.2.2.2.2.2.2.2.2.1) fun f=>Ag (decide (d=22)) (Ag (decide (g>0)) (Ag (decide (1≤((f:Nat):Int))) (Fv (fun x=>Ay x.1 x.2.1) ((a.1,a.2.1,a.2.2.1,a.2.2.2.1,a.2.2.2.2.1,a.2.2.2.2.2.1,a.2.2.2.2.2.2.1,a.2.2.2.2.2.2.2.1,a.2.2.2.2.2.2.2.2.1,a.2.2.2.2.2.2.2.2.2.1,(List.take (f-1) (List.drop 1 a.2.2.2.2.2.2.2.2.2.2.1)),a.2.2.2.2.2.2.2.2.2.2.2),b,())) none) (Fv (fun x=>Ay x.1 x.2.1) (a,b,()))) (Ag (decide (d=23)) (Fv (fun x=>Ay x.1 x.2.1) (((List.getD c 0 0),a.2.1,(a.2.2.1.1,a.2.2.1.2.1,(List.getD c 2 0),a.2.2.1.2.2.2),e,a.2.2.2.2),b,())) (Ag (decide (d=24)) (Fv (fun x=>Ay x.1 x.2.1) ((a.1,a.2.1,a.2.2.1,a.2.2.2.1,(c,e,a.2.2.2.2.1.2.2),a.2.2.2.2.2),b,())) (Fv (fun x=>Ay x.1 x.2.1) (a,b,())))))
def Rb(b:Eu)(c:(List Int))(d:Eu)(e:Int)(f:Int)(a:Int):Option Beg:=(Ag (decide (a=20)) (Ag (decide (a=20)) (Fv (fun x=>Oz x.1 x.2.1 x.2.2.1 x.2.2.2.1 x.2.2.2.2.1) (b,c,d,e,f,())) (Fv (fun x=>Ph x.1 x.2.1 x.2.2.1 x.2.2.2.1 x.2.2.2.2.1) (b,c,d,e,a,()))) (Ag (decide (a=21)) (Fv (fun x=>Oz x.1 x.2.1 x.2.2.1 x.2.2.2.1 x.2.2.2.2.1) (b,c,d,e,f,())) (Fv (fun x=>Ph x.1 x.2.1 x.2.2.1 x.2.2.2.1 x.2.2.2.2.1) (b,c,d,e,a,()))))
def Rc(b:Eu)(e:(List Int))(c:Eu)(f:Int)(g:Int)(d:Int)(a:Int):Option Beg:=(Ag (decide (a=18)) (Ag (decide (a=18)) (Fv (fun x=>Qw x.1 x.2.1 x.2.2.1 x.2.2.2.1) (b,c,f,d,())) (Fv (fun x=>Rb x.1 x.2.1 x.2.2.1 x.2.2.2.1 x.2.2.2.2.1 x.2.2.2.2.2.1) (b,e,c,g,d,a,()))) (Ag (decide (a=19)) (Fv (fun x=>Qw x.1 x.2.1 x.2.2.1 x.2.2.2.1) (b,c,f,d,())) (Fv (fun x=>Rb x.1 x.2.1 x.2.2.1 x.2.2.2.1 x.2.2.2.2.1 x.2.2.2.2.2.1) (b,e,c,g,d,a,()))))
def Rh(b:Eu)(c:(List Int))(d:Eu)(e:Int)(g:Int)(f:Int)(a:Int):Option Beg:=(Ag (decide (a=16)) (Ag (decide (a=16)) (Fv (fun x=>Qr x.1 x.2.1 x.2.2.1 x.2.2.2.1 x.2.2.2.2.1) (b,c,d,e,f,())) (Fv (fun x=>Rc x.1 x.2.1 x.2.2.1 x.2.2.2.1 x.2.2.2.2.1 x.2.2.2.2.2.1 x.2.2.2.2.2.2.1) (b,c,d,e,g,f,a,()))) (Ag (decide (a=17)) (Fv (fun x=>Qr x.1 x.2.1 x.2.2.1 x.2.2.2.1 x.2.2.2.2.1) (b,c,d,e,f,())) (Fv (fun x=>Rc x.1 x.2.1 x.2.2.1 x.2.2.2.1 x.2.2.2.2.1 x.2.2.2.2.2.1 x.2.2.2.2.2.2.1) (b,c,d,e,g,f,a,()))))
def P0(b:Eu)(c:(List Int))(d:Eu)(f:Int)(g:Int)(h:Int)(e:Int)(a:Int):Option Beg:=(Ag (decide (a=14)) (Ag (decide (a=14)) (Fv (fun x=>Ra x.1 x.2.1 x.2.2.1 x.2.2.2.1 x.2.2.2.2.1) (b,c,d,f,e,())) (Fv (fun x=>Rh x.1 x.2.1 x.2.2.1 x.2.2.2.1 x.2.2.2.2.1 x.2.2.2.2.2.1 x.2.2.2.2.2.2.1) (b,c,d,g,h,e,a,()))) (Ag (decide (a=15)) (Fv (fun x=>Ra x.1 x.2.1 x.2.2.1 x.2.2.2.1 x.2.2.2.2.1) (b,c,d,f,e,())) (Fv (fun x=>Rh x.1 x.2.1 x.2.2.1 x.2.2.2.1 x.2.2.2.2.1 x.2.2.2.2.2.1 x.2.2.2.2.2.2.1) (b,c,d,g,h,e,a,()))))
def Apq(L:Af)(h:Aik)(a:Eu)(i:Int)(c:(List Int)):Option Beg:=(A4 (List.getD c 0 0) fun d=>A4 (Int.tmod (List.getD c 1 0) 2) fun j=>A4 [(Int.tmod d 2),0,0,0] fun k=>A4 (List.length a.2.2.2.2.2.1) fun f=>A4 ((f:Nat):Int) fun l=>A4 (List.length a.2.2.2.2.2.2.2.1:Int) fun m=>A4 (List.length a.2.2.2.2.2.2.2.2.1) fun n=>A4 (List.length a.2.2.2.2.2.2.2.2.2.2.1) fun g=>A4 ((g:Nat):Int) fun o=>A4 (List.length a.2.2.2.2.1.2.2.2.2.2.1:Int) fun p=>(h (i,1048576,())).bind fun r=>A4 (IntKind.wrap .i64 (Int.tdiv r.1.1 32)) fun e=>A4 (Int.tmod e 4) fun q=>(h (i,32,())).bind fun b=>Ag (decide (b.1.1=0)) (Fv (fun x=>Ay x.1 x.2.1) ((a.1,(d,a.2.1.2),a.2.2),(0,(0,0,0,[0,0,0,0],0,[0,0,0,0],0,[0,0,0,0],0,0,0,0,()),(0,0,0,[0,0,0,0],()),0,([0,0,0,0],0,0,0,(false,[0,0,0,0],()),[],()),[],[[0,0,0,0],[0,0,0,0],[0,0,0,0],[0,0,0,0]],[],[],[0,0,0,0],[],()),())) (Ag (decide (b.1.1=1)) (Fv (fun x=>Ay x.1 x.2.1) ((a.1,(a.2.1.1,a.2.1.2.1,a.2.1.2.2.1,a.2.1.2.2.2.1,a.2.1.2.2.2.2.1,a.2.1.2.2.2.2.2.1,a.2.1.2.2.2.2.2.2.1,a.2.1.2.2.2.2.2.2.2.1,a.2.1.2.2.2.2.2.2.2.2.1,a.2.1.2.2.2.2.2.2.2.2.2.1,a.2.1.2.2.2.2.2.2.2.2.2.2.1,(Int.tmod d 300),a.2.1.2.2.2.2.2.2.2.2.2.2.2.2),a.2.2),(0,(0,0,0,[0,0,0,0],0,[0,0,0,0],0,[0,0,0,0],0,0,0,0,()),(0,0,0,[0,0,0,0],()),0,([0,0,0,0],0,0,0,(false,[0,0,0,0],()),[],()),[],[[0,0,0,0],[0,0,0,0],[0,0,0,0],[0,0,0,0]],[],[],[0,0,0,0],[],()),())) (Ag (decide (b.1.1=2)) (Fv (fun x=>Ay x.1 x.2.1) ((a.1,a.2.1,(a.2.2.1.1,a.2.2.1.2.1,a.2.2.1.2.2.1,k,a.2.2.1.2.2.2.2),a.2.2.2),(0,(0,0,0,[0,0,0,0],0,[0,0,0,0],0,[0,0,0,0],0,0,0,0,()),(0,0,0,[0,0,0,0],()),0,([0,0,0,0],0,0,0,(false,[0,0,0,0],()),[],()),[],[[0,0,0,0],[0,0,0,0],[0,0,0,0],[0,0,0,0]],[],[],[0,0,0,0],[],()),())) (Ag (decide (b.1.1=3)) (Fv (fun x=>Ay x.1 x.2.1) ((a.1,a.2.1,(a.2.2.1.1,(Int.tmod d 20),a.2.2.1.2.2),a.2.2.2),(0,(0,0,0,[0,0,0,0],0,[0,0,0,0],0,[0,0,0,0],0,0,0,0,()),(0,0,0,[0,0,0,0],()),0,([0,0,0,0],0,0,0,(false,[0,0,0,0],()),[],()),[],[[0,0,0,0],[0,0,0,0],[0,0,0,0],[0,0,0,0]],[],[],[0,0,0,0],[],()),())) (Ag (decide (b.1.1=4)) (Fv (fun x=>Ay x.1 x.2.1) ((a.1,a.2.1,a.2.2.1,a.2.2.2.1,(a.2.2.2.2.1.1,a.2.2.2.2.1.2.1,(Int.tmod d 40),a.2.2.2.2.1.2.2.2),a.2.2.2.2.2),(0,(0,0,0,[0,0,0,0],0,[0,0,0,0],0,[0,0,0,0],0,0,0,0,()),(0,0,0,[0,0,0,0],()),0,([0,0,0,0],0,0,0,(false,[0,0,0,0],()),[],()),[],[[0,0,0,0],[0,0,0,0],[0,0,0,0],[0,0,0,0]],[],[],[0,0,0,0],[],()),())) (Ag (decide (b.1.1=5)) (Fv (fun x=>Ay x.1 x.2.1) ((a.1,a.2.1,a.2.2.1,a.2.2.2.1,(a.2.2.2.2.1.1,a.2.2.2.2.1.2.1,a.2.2.2.2.1.2.2.1,a.2.2.2.2.1.2.2.2.1,(true,k,()),a.2.2.2.2.1.2.2.2.2.2),a.2.2.2.2.2),(0,(0,0,0,[0,0,0,0],0,[0,0,0,0],0,[0,0,0,0],0,0,0,0,()),(0,0,0,[0,0,0,0],()),0,([0,0,0,0],0,0,0,(false,[0,0,0,0],()),[],()),[],[[0,0,0,0],[0,0,0,0],[0,0,0,0],[0,0,0,0]],[],[],[0,0,0,0],[],()),())) (Ag (decide (b.1.1=6)) (Fv (fun x=>Ay x.1 x.2.1) ((a.1,a.2.1,a.2.2.1,a.2.2.2.1,a.2.2.2.2.1,a.2.2.2.2.2.1,a.2.2.2.2.2.2.1,a.2.2.2.2.2.2.2.1,a.2.2.2.2.2.2.2.2.1,c,a.2.2.2.2.2.2.2.2.2.2),(0,(0,0,0,[0,0,0,0],0,[0,0,0,0],0,[0,0,0,0],0,0,0,0,()),(0,0,0,[0,0,0,0],()),0,([0,0,0,0],0,0,0,(false,[0,0,0,0],()),[],()),[],[[0,0,0,0],[0,0,0,0],[0,0,0,0],[0,0,0,0]],[],[],[0,0,0,0],[],()),())) (Ag (decide (b.1.1=7)) (Ag (Cj q 4) (Fv (fun x=>Ay x.1 x.2.1) ((a.1,a.2.1,a.2.2.1,a.2.2.2.1,a.2.2.2.2.1,a.2.2.2.2.2.1,(List.set a.2.2.2.2.2.2.1 (Int.toNat q) c),a.2.2.2.2.2.2.2),(0,(0,0,0,[0,0,0,0],0,[0,0,0,0],0,[0,0,0,0],0,0,0,0,()),(0,0,0,[0,0,0,0],()),0,([0,0,0,0],0,0,0,(false,[0,0,0,0],()),[],()),[],[[0,0,0,0],[0,0,0,0],[0,0,0,0],[0,0,0,0]],[],[],[0,0,0,0],[],()),())) none) (Ag (decide (b.1.1=8)) (Ag (A8 (0+n) (Ty.bool)) (Ag (A8 (n+1) (Ty.bool)) (Fv (fun x=>Ay x.1 x.2.1) ((a.1,a.2.1,a.2.2.1,a.2.2.2.1,a.2.2.2.2.1,a.2.2.2.2.2.1,a.2.2.2.2.2.2.1,a.2.2.2.2.2.2.2.1,(List.append a.2.2.2.2.2.2.2.2.1 [true]),a.2.2.2.2.2.2.2.2.2),(0,(0,0,0,[0,0,0,0],0,[0,0,0,0],0,[0,0,0,0],0,0,0,0,()),(0,0,0,[0,0,0,0],()),0,([0,0,0,0],0,0,0,(false,[0,0,0,0],()),[],()),[],[[0,0,0,0],[0,0,0,0],[0,0,0,0],[0,0,0,0]],[],[],[0,0,0,0],[],()),())) none) none) (Ag (decide (b.1.1=9)) (Ag (A8 (0+g) R8) (Ag (A8 (g+1) R8) (Fv (fun x=>Ay x.1 x.2.1) ((a.1,a.2.1,a.2.2.1,a.2.2.2.1,a.2.2.2.2.1,a.2.2.2.2.2.1,a.2.2.2.2.2.2.1,a.2.2.2.2.2.2.2.1,a.2.2.2.2.2.2.2.2.1,a.2.2.2.2.2.2.2.2.2.1,(List.append a.2.2.2.2.2.2.2.2.2.2.1 [(d,[j,0,0,0],())]),a.2.2.2.2.2.2.2.2.2.2.2),(0,(0,0,0,[0,0,0,0],0,[0,0,0,0],0,[0,0,0,0],0,0,0,0,()),(0,0,0,[0,0,0,0],()),0,([0,0,0,0],0,0,0,(false,[0,0,0,0],()),[],()),[],[[0,0,0,0],[0,0,0,0],[0,0,0,0],[0,0,0,0]],[],[],[0,0,0,0],[],()),())) none) none) (Ag (decide (b.1.1=10)) (Ag (A8 (0+f) R7) (Ag (A8 (f+1) R7) (Fv (fun x=>Ay x.1 x.2.1) ((a.1,a.2.1,a.2.2.1,a.2.2.2.1,a.2.2.2.2.1,(List.append a.2.2.2.2.2.1 [(d,[0,0,0,0],j,())]),a.2.2.2.2.2.2),(0,(0,0,0,[0,0,0,0],0,[0,0,0,0],0,[0,0,0,0],0,0,0,0,()),(0,0,0,[0,0,0,0],()),0,([0,0,0,0],0,0,0,(false,[0,0,0,0],()),[],()),[],[[0,0,0,0],[0,0,0,0],[0,0,0,0],[0,0,0,0]],[],[],[0,0,0,0],[],()),())) none) none) (Ag (decide (b.1.1=11)) (Fv (fun x=>Ay x.1 x.2.1) ((a.1,a.2.1,a.2.2.1,a.2.2.2.1,(a.2.2.2.2.1.1,a.2.2.2.2.1.2.1,a.2.2.2.2.1.2.2.1,(Int.tmod d 3),a.2.2.2.2.1.2.2.2.2),a.2.2.2.2.2),(0,(0,0,0,[0,0,0,0],0,[0,0,0,0],0,[0,0,0,0],0,0,0,0,()),(0,0,0,[0,0,0,0],()),0,([0,0,0,0],0,0,0,(false,[0,0,0,0],()),[],()),[],[[0,0,0,0],[0,0,0,0],[0,0,0,0],[0,0,0,0]],[],[],[0,0,0,0],[],()),())) (Ag (decide (b.1.1=12)) (Ag (decide (b.1.1=12)) (Fv (fun x=>Qq x.1 x.2.1 x.2.2.1 x.2.2.2.1 x.2.2.2.2.1) (a,c,(0,(0,0,0,[0,0,0,0],0,[0,0,0,0],0,[0,0,0,0],0,0,0,0,()),(0,0,0,[0,0,0,0],()),0,([0,0,0,0],0,0,0,(false,[0,0,0,0],()),[],()),[],[[0,0,0,0],[0,0,0,0],[0,0,0,0],[0,0,0,0]],[],[],[0,0,0,0],[],()),p,e,())) (Fv (fun x=>P0 x.1 x.2.1 x.2.2.1 x.2.2.2.1 x.2.2.2.2.1 x.2.2.2.2.2.1 x.2.2.2.2.2.2.1 x.2.2.2.2.2.2.2.1) (a,c,(0,(0,0,0,[0,0,0,0],0,[0,0,0,0],0,[0,0,0,0],0,0,0,0,()),(0,0,0,[0,0,0,0],()),0,([0,0,0,0],0,0,0,(false,[0,0,0,0],()),[],()),[],[[0,0,0,0],[0,0,0,0],[0,0,0,0],[0,0,0,0]],[],[],[0,0,0,0],[],()),l,m,o,e,b.1.1,()))) (Ag (decide (b.1.1=13)) (Fv (fun x=>Qq x.1 x.2.1 x.2.2.1 x.2.2.2.1 x.2.2.2.2.1) (a,c,(0,(0,0,0,[0,0,0,0],0,[0,0,0,0],0,[0,0,0,0],0,0,0,0,()),(0,0,0,[0,0,0,0],()),0,([0,0,0,0],0,0,0,(false,[0,0,0,0],()),[],()),[],[[0,0,0,0],[0,0,0,0],[0,0,0,0],[0,0,0,0]],[],[],[0,0,0,0],[],()),p,e,())) (Fv (fun x=>P0 x.1 x.2.1 x.2.2.1 x.2.2.2.1 x.2.2.2.2.1 x.2.2.2.2.2.1 x.2.2.2.2.2.2.1 x.2.2.2.2.2.2.2.1) (a,c,(0,(0,0,0,[0,0,0,0],0,[0,0,0,0],0,[0,0,0,0],0,0,0,0,()),(0,0,0,[0,0,0,0],()),0,([0,0,0,0],0,0,0,(false,[0,0,0,0],()),[],()),[],[[0,0,0,0],[0,0,0,0],[0,0,0,0],[0,0,0,0]],[],[],[0,0,0,0],[],()),l,m,o,e,b.1.1,()))))))))))))))))
def T4:Azx:=fun x=>Apq Ac M7 x.1 x.2.1 x.2.2.1
abbrev J5:B4:=⟨[V4,Bv,(.ro true W4),V31],[V24]⟩
abbrev Aql:=Y76→Option Y85
def J3(k:Yd)(l:Kq)(e:Q8)(r:Alx)(s:Af0)(t:Ag2)(u:Aov)(v:Ajv)(m:(Int×(List Eu)×Int×Unit)→Option Y85)(f:Int)(c:(List Eu))(b:Int):Option Y85:=(Ag (decide (b<2)) (Ag (Cj b 2) ((k ((List.getD c (Int.toNat b) (0,(0,0,0,[0,0,0,0],0,[0,0,0,0],0,[0,0,0,0],0,0,0,0,()),(0,0,0,[0,0,0,0],()),0,([0,0,0,0],0,0,0,(false,[0,0,0,0],()),[],()),[],[[0,0,0,0],[0,0,0,0],[0,0,0,0],[0,0,0,0]],[],[],[0,0,0,0],[],())),())).bind fun d=>A4 ((List.length d.1.1)-0) fun n=>A4 ((n:Nat):Int) fun a=>A4 (List.drop ((0:Nat)+(0:Nat)) d.1.1) fun o=>A4 (IntKind.wrap .i64 (a-1)) fun g=>A4 (List.take n (List.drop 0 d.1.1)) fun h=>A4 (List.take ((0+(Int.toNat a))-((0:Nat)+(0:Nat))) o) fun p=>Ag (!(decide (d.1.2.1=0))) (Ag (!(decide (d.1.2.1=2))) (some ((false,()),(),(),(),(),())) ((l ((List.getD c (Int.toNat b) (0,(0,0,0,[0,0,0,0],0,[0,0,0,0],0,[0,0,0,0],0,0,0,0,()),(0,0,0,[0,0,0,0],()),0,([0,0,0,0],0,0,0,(false,[0,0,0,0],()),[],()),[],[[0,0,0,0],[0,0,0,0],[0,0,0,0],[0,0,0,0]],[],[],[0,0,0,0],[],())),())).bind fun w=>Ag w.1.1 (some ((false,()),(),(),(),(),())) (Ag (decide (a>0)) (some ((false,()),(),(),(),(),())) (m (f,c,(IntKind.wrap .i64 (b+1)),()))))) (Ag (decide (a=0)) (some ((false,()),(),(),(),(),())) ((e (h,())).bind fun i=>(k (i.1.1,())).bind fun j=>(r ((List.getD c (Int.toNat b) (0,(0,0,0,[0,0,0,0],0,[0,0,0,0],0,[0,0,0,0],0,0,0,0,()),(0,0,0,[0,0,0,0],()),0,([0,0,0,0],0,0,0,(false,[0,0,0,0],()),[],()),[],[[0,0,0,0],[0,0,0,0],[0,0,0,0],[0,0,0,0]],[],[],[0,0,0,0],[],())),())).bind fun q=>Ag (decide (a=a)) (Ag ((decide (0≤a))&&(decide (a≤a))) (Ag (A8 ((List.length p)+1) (Ty.int IntKind.u8)) ((e ((List.append p [f]),())).bind fun y=>Ag ((decide (0≤g))&&(decide (g≤a))) ((e ((List.take ((0+(Int.toNat g))-((0:Nat)+(0:Nat))) o),())).bind fun a0=>Ag (!(decide (i.1.2.1=0))) (some ((false,()),(),(),(),(),())) (Ag (!(decide (j.1.2.1=0))) (some ((false,()),(),(),(),(),())) (Ag (!(decide (q.1.2.1=0))) (some ((false,()),(),(),(),(),())) ((l ((List.getD c (Int.toNat b) (0,(0,0,0,[0,0,0,0],0,[0,0,0,0],0,[0,0,0,0],0,0,0,0,()),(0,0,0,[0,0,0,0],()),0,([0,0,0,0],0,0,0,(false,[0,0,0,0],()),[],()),[],[[0,0,0,0],[0,0,0,0],[0,0,0,0],[0,0,0,0]],[],[],[0,0,0,0],[],())),())).bind fun a1=>Ag (!a1.1.1) (some ((false,()),(),(),(),(),())) ((s ((List.getD c (Int.toNat b) (0,(0,0,0,[0,0,0,0],0,[0,0,0,0],0,[0,0,0,0],0,0,0,0,()),(0,0,0,[0,0,0,0],()),0,([0,0,0,0],0,0,0,(false,[0,0,0,0],()),[],()),[],[[0,0,0,0],[0,0,0,0],[0,0,0,0],[0,0,0,0]],[],[],[0,0,0,0],[],())),i.1.1,())).bind fun a2=>Ag (!a2.1.1) (some ((false,()),(),(),(),(),())) ((t (h,(List.take ((List.length j.1.1)-0) (List.drop 0 j.1.1)),())).bind fun a3=>Ag (!a3.1.1) (some ((false,()),(),(),(),(),())) ((u (h,())).bind fun a4=>Ag (!(Yu (Ty.arr 32 (Ty.int IntKind.u8)) q.1.1 a4.1.1)) (some ((false,()),(),(),(),(),())) (Ag (!(decide (y.1.2.1=3))) (some ((false,()),(),(),(),(),())) (Ag (!(decide (a0.1.2.1=3))) (some ((false,()),(),(),(),(),())) (m (f,c,(IntKind.wrap .i64 (b+1)),()))))))))))) none) none) none) none))) none) ((v ()).bind fun a5=>some ((a5.1.1,()),(),(),(),(),())))
def Pq(L:Af)(a:Ajv)(e:Adt)(b:Pi)(f:Azx)(g:Yd)(h:Kq)(i:Q8)(j:Alx)(k:Af0)(l:Ag2)(m:Aov)(c:(List Int))(n:Int)(o:(List Int))(p:Int):Option Y85:=(Ag (decide ((List.length c:Int)>20)) ((a ()).bind fun q=>some ((q.1.1,()),(),(),(),(),())) ((e (c,true,())).bind fun r=>(b (r.1.1,())).bind fun d=>(b (d.2.1,())).bind fun s=>(f (s.1.1,n,o,())).bind fun t=>L _ _ (fun z x=>J3 g h i j k l m a z x.1 x.2.1 x.2.2.1) (p,[d.1.1,t.1.1],0,())))
def Gh:Aql:=fun x=>Pq Ac Pu Jb E6 T4 D0 Cc Dk L7 Ho Hn Ld x.1 x.2.1 x.2.2.1 x.2.2.2.1
theorem Bso{α:Type}(c:Bool)(t e:Option α):Ag c t e=if c=true then t else e:=by cases c<;>rfl
theorem Ad{α:Type}(p:Prop)[Decidable p](t e:Option α):Ag (decide p) t e=if p then t else e:=by
 rw[Bso];by_cases h:p<;>simp[h]
theorem An{α:Type}(c:Bool)(t e:Option α):Ag (!c) t e=Ag c e t:=by cases c<;>rfl
theorem Adg{α:Type}(a b:Bool)(t e:Option α):Ag (a&&b) t e=Ag a (Ag b t e) e:=by cases a<;>rfl
theorem Cl7{α:Type}(a b:Bool)(t e:Option α):Ag (a||b) t e=Ag a t (Ag b t e):=by cases a<;>rfl
theorem Ao{α:Type}(i:Int)(n:Nat)(t e:Option α):Ag (Cj i n) t e=if 0≤i∧i<n then t else e:=by
 unfold Cj;rw[Adg,Ad,Ad];by_cases h1:0≤i<;>by_cases h2:i<n<;>simp[h1,h2]
theorem Aa{α β:Type}(a:α)(f:α→Option β):Option.bind (some a) f=f a:=rfl
theorem Aeu{n:Nat}{t:Ty}:A8 n t=decide (0<t.size∧n*(24*t.size)≤140737488355328):=by
 unfold A8
 by_cases h:0<t.size
 ·simp[h]
 ·simp[h]
theorem Ah2{α:Type}(n:Nat)(t:Ty)(a b:Option α):Ag (A8 n t) a b=if 0<t.size∧n*(24*t.size)≤140737488355328 then a else b:=by
 rw[Aeu,Ad]
theorem Cdk{α β:Type}(a:α)(n:Option β)(f:α→Option β):Cc0 (some a) n f=f a:=rfl
theorem Brz{α β:Type}(n:Option β)(f:α→Option β):Cc0 none n f=n:=rfl
theorem El{ω δ:Type}(f:δ→Option ω)(x:δ):Fv f x=f x:=rfl
theorem Ai{ω δ:Type}{round:(δ→Option ω)→δ→Option ω}(I:δ→Prop)(m:δ→Nat)(g:δ→Option ω)
  (h:∀ x (aa:δ→Option ω),I x→(∀ y,I y→m y<m x→aa y=g y)→round aa x=g x) {x:δ} (hx:I x) (hm:m x<Bo4):Ac ω δ round x=g x:=by
 have key:∀ n x,I x→m x<n→Bb8 round n x=g x:=by
  intro n
  induction n with
  | zero=>intro x _ hm;omega
  | succ n ih =>
   intro x hx hm
   rw[Axa]
   exact h x _ hx fun y hy ar=>ih y hy (by omega)
 rw[Arw]
 exact key Bo4 x hx hm
theorem Au:Bo4=18446744073709551616:=rfl
theorem Ar{n:Int}(h1 : -9223372036854775808≤n)(h2:n≤9223372036854775807):IntKind.i64.wrap n=n:=by rw[as3];omega
theorem Gt{n:Int}(h1:0≤n)(h2:n≤18446744073709551615):IntKind.u64.wrap n=n:=by rw[am8];omega
theorem Blv{n:Int}(h1:0≤n)(h2:n≤4294967295):IntKind.u32.wrap n=n:=by rw[IntKind.wrap_u32];omega
theorem Cmy{n:Int}(h1:0≤n)(h2:n≤255):IntKind.u8.wrap n=n:=by rw[ap2];omega
theorem Ak1{a b:Int}(h:0≤a):Int.tdiv a b=a / b:=ah3 h
theorem Ix{a b:Int}(h:0≤a):Int.tmod a b=a % b:=Int.tmod_eq_emod_of_nonneg h
theorem Bkq{n:Int}:inK .u64 n↔0≤n∧n≤18446744073709551615:=by simp[inK,IntKind.min,IntKind.max,IntKind.signed,IntKind.bits]
theorem Cmg{n:Int}:inK .u8 n↔0≤n∧n≤255:=by simp[inK,IntKind.min,IntKind.max,IntKind.signed,IntKind.bits]
theorem Cbs{n:Int}:inK .i64 n↔-9223372036854775808≤n∧n≤9223372036854775807:=by simp[inK,IntKind.min,IntKind.max,IntKind.signed,IntKind.bits]
theorem Bsw(t:Ty)(x y:t.den)[Decidable (x=y)]:Yu t x y=decide (x=y):=by
 rw[an7,J6];simp
theorem B3{α:Type}{l:List α}{i:Nat}{d:α}(h:i<l.length):List.getD l i d∈l:=by
 rw[aa2,aa6 h];simp
theorem Cgx{p:Int→Prop}{l:List Int}(h:∀ x∈l,p x)(h0:p 0)(i:Nat):p (List.getD l i 0):=by
 rcases ad3 i l.length with hi|hi
 ·exact h _ (B3 hi)
 ·rw[aa2,ai4 hi];exact h0
theorem Bx{α:Type}(l m:List α):List.append l m=l++m:=rfl
def B2(n:Int):Prop:=0≤n∧n≤18446744073709551615
def I64(n:Int):Prop:=-9223372036854775808≤n∧n≤9223372036854775807
def Al(n:Nat):Prop:=n<115792089237316195423570985008687907853269984665640564039457584007913129639936
theorem Aln{α:Type}{l m:List α}{d:α}(hl:l.length=m.length)(h:∀ k,k<l.length→l.getD k d=m.getD k d):l=m:=by
 apply al4 hl
 intro k h1 h2
 have:=h k h1
 rw[aa2,aa6 h1,aa2,aa6 h2] at this
 exact this
theorem Bo8{α β:Type}{f:α→β}{l:List α}{d:α}{i:Nat}(h:i<l.length):(l.take (i+1)).map f=(l.take i).map f++[f (l.getD i d)]:=by
 rw[am0 h,at2,aa2,aa6 h];rfl
theorem Of{α:Type}{l:List α}{d:α}{i:Nat}(h:i<l.length):l.take (i+1)=l.take i++[l.getD i d]:=by
 rw[am0 h,aa2,aa6 h];rfl
def Kt(n:Nat):Nat:=if n=0 then 0 else Nat.log2 n+1
theorem Byd:Kt 0=0:=rfl
theorem Bq9(n:Nat):n<2 ^ Kt n:=by
 unfold Kt
 by_cases h:n=0
 ·subst h;simp
 ·rw[aa1 h];exact Nat.lt_log2_self
theorem Aun{n b:Nat}:Kt n≤b↔n<2 ^ b:=by
 unfold Kt
 by_cases h:n=0
 ·subst h;simp[ap3]
 ·rw[aa1 h,Nat.succ_le_iff,Nat.log2_lt h]
theorem Cdf{n b:Nat}(h1:n<2 ^ b)(h2:∀ c,c<b→2 ^ c≤n):Kt n=b:=by
 rcases Nat.lt_trichotomy (Kt n) b with h|h|h
 ·have:=h2 _ h
  have:=Bq9 n
  omega
 ·exact h
 ·have:=Aun.2 h1
  omega
theorem Blj{n k:Nat}(h:2 ^ k≤n):Kt n=k+Kt (n / 2 ^ k):=by
 have dr:0<2 ^ k:=ap3 k
 have h1:n / 2 ^ k≠0:=by
  have:1≤n / 2 ^ k:=(Nat.le_div_iff_mul_le dr).2 (by omega)
  omega
 refine Cdf ?_ fun c hc=>?_
 ·have:=Bq9 (n / 2 ^ k)
  rw[ao5 dr,← al5] at this
  rwa [Nat.add_comm] at this
 ·rcases ad3 c k with nf|nf
  ·exact af2 (ah6 (by omega) (by omega)) h
  ·have h2:¬ (n / 2 ^ k)<2 ^ (c-k):=fun hh=>by
    have:=Aun.2 hh
    omega
   have h3:2 ^ (c-k)≤n / 2 ^ k:=by omega
   rw[Nat.le_div_iff_mul_le dr,← al5] at h3
   rwa [Nat.sub_add_cancel nf] at h3
def At(n:Nat):List Int:=[((n % 18446744073709551616:Nat):Int),((n / 18446744073709551616 % 18446744073709551616:Nat):Int),((n / 340282366920938463463374607431768211456 % 18446744073709551616:Nat):Int),((n / 6277101735386680763835789423207666416102355444464034512896:Nat):Int)]
def D8(l:List Int):Nat:=(l.getD 0 0).toNat+(l.getD 1 0).toNat*18446744073709551616+(l.getD 2 0).toNat*340282366920938463463374607431768211456+(l.getD 3 0).toNat*6277101735386680763835789423207666416102355444464034512896
theorem Bi{n:Nat}:D8 (At n)=n:=by
 simp only[D8,At,ag6,ah1,aa3]
 omega
theorem Be6{n m:Nat}:At n=At m↔n=m:=⟨fun h=>by rw[← Bi (n:=n),h,Bi],fun h=>by rw[h]⟩
theorem Ckt{n:Nat}:(At n).length=4:=rfl
theorem Cob{α:Type}{l:List α}(h:l.length=4):∃ a b c d,l=[a,b,c,d]:=by
 match l,h with
 | [a,b,c,d],_=>exact⟨a,b,c,d,rfl⟩
theorem Cji{l:List Int}(h:(Ty.arr 4 (.int .u64)).wf l):∃ n,n<115792089237316195423570985008687907853269984665640564039457584007913129639936∧l=At n:=by
 obtain⟨h1,h2⟩:=h
 obtain⟨a,b,c,d,rfl⟩:=Cob (α:=Int) h1
 have ha:=Bkq.1 (h2 a (by simp))
 have hb:=Bkq.1 (h2 b (by simp))
 have hc:=Bkq.1 (h2 c (by simp))
 have hd:=Bkq.1 (h2 d (by simp))
 refine⟨a.toNat+b.toNat*18446744073709551616+c.toNat*340282366920938463463374607431768211456+d.toNat*6277101735386680763835789423207666416102355444464034512896,by omega,?_⟩
 simp only[At,ao9,aq4]
 refine⟨?_,?_,?_,?_⟩<;>omega
theorem Aai{x:Int}(h1:0≤x)(h2:x≤18446744073709551615):([x,0,0,0]:List Int)=At x.toNat:=by
 simp only[At,ao9,aq4]
 refine⟨?_,?_,?_,?_⟩<;>omega
theorem Aut:At 0=[0,0,0,0]:=rfl
theorem Be8{n i:Nat}(hn:n<115792089237316195423570985008687907853269984665640564039457584007913129639936)(hi:i<4):(At n).getD i 0=((n / 18446744073709551616 ^ i % 18446744073709551616:Nat):Int):=by
 match i,hi with
 | 0,_=>simp[At]
 | 1,_=>simp[At]
 | 2,_=>simp[At]
 | 3,_ =>
  simp only[At,ag6,ah1]
  have:n / 6277101735386680763835789423207666416102355444464034512896 % 18446744073709551616=n / 6277101735386680763835789423207666416102355444464034512896:=ac8 (by omega)
  rw[show (18446744073709551616:Nat) ^ 3=6277101735386680763835789423207666416102355444464034512896 from rfl,this]
def beB:Nat→Nat→List Int
 | 0,_=>[]
 | k+1,n=>((n / 256 ^ k % 256:Nat):Int)::beB k n
theorem Ado:∀ {k n:Nat},(beB k n).length=k
 | 0,_=>rfl
 | k+1,n=>by simp[beB,Ado]
theorem Bx0:∀ {k n:Nat},∀ x∈beB k n,0≤x∧x≤255
 | 0,_,x,h=>by simp[beB] at h
 | k+1,n,x,h=>by
  rcases aa9.1 h with rfl|h
  ·have:=ai3 (n / 256 ^ k) (show 0<256 by omega)
   omega
  ·exact Bx0 x h
def Wn(n:Nat):Nat:=(Kt n+7) / 8
theorem Bdf(k:Nat):256 ^ k=2 ^ (8*k):=by rw[show (256:Nat)=2 ^ 8 from rfl,← Nat.pow_mul]
theorem Alj{n k:Nat}:Wn n≤k↔n<256 ^ k:=by
 rw[Bdf,← Aun];unfold Wn;omega
theorem Ae3{n:Nat}(h:n<115792089237316195423570985008687907853269984665640564039457584007913129639936):Wn n≤32:=Alj.2 h
theorem Bfs{n:Nat}(h:n<18446744073709551616):Wn n≤8:=Alj.2 h
theorem Bzc:Wn 0=0:=rfl
def beV(l:List Int):Nat:=l.foldl (fun v x=>v*256+x.toNat) 0
theorem Bcx(l:List Int)(x:Int):beV (l++[x])=beV l*256+x.toNat:=by simp[beV]
theorem Caf:beV []=0:=rfl
theorem Bxf{α:Type}{motive:List α→Prop}(l:List α)(nil:motive [])(append:∀ l x,motive l→motive (l++[x])):motive l:=by
 have:motive l.reverse.reverse:=by
  induction l.reverse with
  | nil=>exact nil
  | cons a m ih=>rw[List.reverse_cons];exact append _ _ ih
 simpa using this
theorem Cm3(l:List Int):(∀ x∈l,0≤x∧x≤255)→beV l<256 ^ l.length:=by
 refine Bxf (motive:=fun l=>(∀ x∈l,0≤x∧x≤255)→beV l<256 ^ l.length) l ?_ ?_
 ·intro _;simp[beV]
 ·intro l x ih h
  have h1:=ih fun y hy=>h y (by simp[hy])
  have h2:=h x (by simp)
  rw[Bcx,aa4,ag4,ae6]
  omega
theorem Cjd{x y:Nat}(hx:x<18446744073709551616)(hy:y<18446744073709551616):(((BitVec.ofInt 64 (x:Int) ||| BitVec.ofInt 64 (y:Int)).toNat:Nat):Int)=((x ||| y:Nat):Int):=by
 rw[BitVec.toNat_or,ai5,ai5,aj1,aj1,ac8 hx,ac8 hy]
theorem Bq1{b i:Nat}(hb:b<256)(hi:8≤i):b.testBit i=false :=
 Nat.testBit_lt_two_pow (ae3 hb (by rw[show (256:Nat)=2 ^ 8 from rfl];exact ah6 (by omega) hi))
theorem Cjw{a b j q:Nat}(hb:b<256) :
  (a*256 ^ (j+1)+b*256 ^ j) / 18446744073709551616 ^ q % 18446744073709551616 =
   (a*256 ^ (j+1) / 18446744073709551616 ^ q % 18446744073709551616) ||| (if q=j / 8 then b*2 ^ (8*(j % 8)) else 0):=by
 have h1:a*256 ^ (j+1)+b*256 ^ j=(a*256 ^ (j+1)) ||| (b <<< (8*j)):=by
  rw[Nat.shiftLeft_eq,Bdf,Bdf,af9 a,af9 b,← Nat.two_pow_add_eq_or_of_lt]
  rw[show 8*(j+1)=8*j+8 by omega,al5,af9 (2 ^ (8*j)) b,af9 (2 ^ (8*j)) (2 ^ 8)]
  exact Nat.mul_lt_mul_of_pos_right hb (ap3 _)
 rw[h1,show (18446744073709551616:Nat) ^ q=2 ^ (64*q) by rw[show (18446744073709551616:Nat)=2 ^ 64 from rfl,← Nat.pow_mul],show (18446744073709551616:Nat)=2 ^ 64 from rfl]
 generalize a*256 ^ (j+1)=m
 apply Nat.eq_of_testBit_eq
 intro t
 simp only[Nat.testBit_mod_two_pow,Nat.testBit_div_two_pow,Nat.testBit_or,Nat.testBit_shiftLeft]
 by_cases hq:q=j / 8
 ·subst hq
  rw[aa0 rfl,← Nat.shiftLeft_eq,Nat.testBit_shiftLeft]
  by_cases ht:t<64
  ·rw[show t+64*(j / 8)-8*j=t-8*(j % 8) by omega,show decide (t+64*(j / 8)≥8*j)=decide (t≥8*(j % 8)) by simp;omega]
   simp[ht]
  ·rw[Bq1 hb (i:=t-8*(j % 8)) (by omega)];simp[ht]
 ·rw[aa1 hq,Nat.zero_testBit,at0]
  by_cases ht:t<64
  ·by_cases h:8*j≤t+64*q
   ·rw[Bq1 hb (i:=t+64*q-8*j) (by omega)];simp[ht]
   ·simp[ht,h]
  ·simp[ht]
theorem Ckw{a b j:Nat}(hj:j<32)(hb:b<256)(h:a*256 ^ (j+1)+b*256 ^ j<115792089237316195423570985008687907853269984665640564039457584007913129639936){y:Int}
  (hy:y=(((a*256 ^ (j+1) / 18446744073709551616 ^ (j / 8) % 18446744073709551616) ||| (b*2 ^ (8*(j % 8))):Nat):Int)) :
  (At (a*256 ^ (j+1))).set (j / 8) y=At (a*256 ^ (j+1)+b*256 ^ j):=by
 apply al4
 ·simp[Ckt]
 ·intro q h1 h2
  have hq:q<4:=h2
  have e:∀ n,n<115792089237316195423570985008687907853269984665640564039457584007913129639936→(hh:q<(At n).length)→(At n)[q]=((n / 18446744073709551616 ^ q % 18446744073709551616:Nat):Int):=fun n hn hh=>by
   rw[← Be8 hn hq,aa2,aa6 hh];rfl
  rw[e _ h,Cjw hb,as4]
  by_cases hc:j / 8=q
  ·rw[aa0 hc,aa0 hc.symm,hy,hc]
  ·rw[aa1 hc,aa1 (fun h=>hc h.symm),e _ (by omega),Nat.or_zero]
abbrev A2:=Int×(List Int×Int×Unit)
abbrev Ib:A2:=((0:Int),[(0:Int),0,0,0],(0:Int),())
abbrev Cef(a:Int):A2:=(a,[(0:Int),0,0,0],(0:Int),())
inductive Aky:A2→Prop
 | mk {a:Int} {b:Nat} {n:Int} (ha:B2 a) (hb:Al b) (hn:B2 n):Aky (a,At b,n,())
def Aaf(l:List A2):Prop:=∀ x∈l,Aky x
def isE(x:A2):Prop:=x=Cef x.1
instance(x:A2):Decidable (isE x):=inferInstanceAs (Decidable (x=Cef x.1))
theorem Clp{a:Int}(h:B2 a):Aky (Cef a):=by
 have:=Aky.mk (a:=a) (b:=0) (n:=0) h (by unfold Al;omega) (by unfold B2;omega)
 exact this
theorem Cpd:Aky Ib:=Clp (by unfold B2;omega)
theorem Aaf.at{l:List A2}(h:Aaf l)(i:Nat):Aky (l.getD i Ib):=by
 rcases ad3 i l.length with hi|hi
 ·exact h _ (B3 hi)
 ·rw[aa2,ai4 hi];exact Cpd
def I5:List A2→Int→A2
 | [],a=>Cef a
 | x::l,a=>if x.1=a then x else I5 l a
def Jy:List A2→A2→List A2
 | [],y=>if isE y then [] else [y]
 | x::l,y=>if x.1<y.1 then x::Jy l y else if x.1=y.1 then (if isE y then l else y::l) else (if isE y then x::l else y::x::l)
def Srt(l:List A2):Prop:=l.Pairwise fun x y=>x.1<y.1
def NE(l:List A2):Prop:=∀ x∈l,¬ isE x
def Fr(l:List A2):Nat:=(l.map fun x=>D8 x.2.1).sum
theorem Tt:Fr []=0:=rfl
theorem Nw(x:A2)(l:List A2):Fr (x::l)=D8 x.2.1+Fr l:=by simp[Fr]
theorem Alc(l m:List A2):Fr (l++m)=Fr l+Fr m:=by simp[Fr]
theorem Lk:∀ {l:List A2} {a:Int},(∀ x∈l,x.1≠a)→I5 l a=Cef a
 | [],_,_=>rfl
 | x::l,a,h=>by
  unfold I5
  rw[aa1 (h x (by simp)),Lk fun y hy=>h y (by simp[hy])]
theorem Az2:∀ (l:List A2) (a:Int),(I5 l a).1=a
 | [],_=>rfl
 | x::l,a=>by
  unfold I5
  by_cases h:x.1=a
  ·rw[aa0 h];exact h
  ·rw[aa1 h];exact Az2 l a
theorem Bmw:∀ (l:List A2) (a:Int),I5 l a∈l∨((∀ x∈l,x.1≠a)∧I5 l a=Cef a)
 | [],_=>.inr ⟨fun x h=>by simp at h,rfl⟩
 | x::l,a=>by
  unfold I5
  by_cases h:x.1=a
  ·rw[aa0 h];exact .inl (by simp)
  ·rw[aa1 h]
   rcases Bmw l a with h1 | ⟨h1,h2⟩
   ·exact .inl (by simp[h1])
   ·exact .inr ⟨fun y hy=>by
     rcases aa9.1 hy with rfl|hy
     ·exact h
     ·exact h1 y hy,h2⟩
theorem Coa{l:List A2}{a:Int}(h:Aaf l)(ha:B2 a):Aky (I5 l a):=by
 rcases Bmw l a with h1 | ⟨_,h2⟩
 ·exact h _ h1
 ·rw[h2];exact Clp ha
theorem Aqc:∀ {l:List A2} {x y:A2},x∈Jy l y→x∈l∨(x=y∧¬ isE y)
 | [],x,y,h=>by
  unfold Jy at h
  by_cases he:isE y
  ·rw[aa0 he] at h;simp at h
  ·rw[aa1 he] at h;exact .inr ⟨by simpa using h,he⟩
 | z::l,x,y,h=>by
  unfold Jy at h
  by_cases h1:z.1<y.1
  ·rw[aa0 h1] at h
   rcases aa9.1 h with rfl|h
   ·exact .inl (by simp)
   ·rcases Aqc h with h|h
    ·exact .inl (by simp[h])
    ·exact .inr h
  ·rw[aa1 h1] at h
   by_cases h2:z.1=y.1
   ·rw[aa0 h2] at h
    by_cases he:isE y
    ·rw[aa0 he] at h;exact .inl (by simp[h])
    ·rw[aa1 he] at h
     rcases aa9.1 h with rfl|h
     ·exact .inr ⟨rfl,he⟩
     ·exact .inl (by simp[h])
   ·rw[aa1 h2] at h
    by_cases he:isE y
    ·rw[aa0 he] at h;exact .inl h
    ·rw[aa1 he] at h
     rcases aa9.1 h with rfl|h
     ·exact .inr ⟨rfl,he⟩
     ·exact .inl h
theorem Aup:∀ {l:List A2} {y:A2},Srt l→Srt (Jy l y)
 | [],y,_=>by
  unfold Jy
  by_cases he:isE y
  ·rw[aa0 he];exact List.Pairwise.nil
  ·rw[aa1 he];exact aq6 _ _
 | z::l,y,h=>by
  have h':=ad6.1 h
  unfold Jy
  by_cases h1:z.1<y.1
  ·rw[aa0 h1]
   refine ad6.2 ⟨fun x hx=>?_,Aup h'.2⟩
   rcases Aqc hx with hx | ⟨rfl,_⟩
   ·exact h'.1 x hx
   ·exact h1
  ·rw[aa1 h1]
   by_cases h2:z.1=y.1
   ·rw[aa0 h2]
    by_cases he:isE y
    ·rw[aa0 he];exact h'.2
    ·rw[aa1 he]
     exact ad6.2 ⟨fun x hx=>by rw[← h2];exact h'.1 x hx,h'.2⟩
   ·rw[aa1 h2]
    by_cases he:isE y
    ·rw[aa0 he];exact h
    ·rw[aa1 he]
     refine ad6.2 ⟨fun x hx=>?_,h⟩
     rcases aa9.1 hx with rfl|hx
     ·omega
     ·have:=h'.1 x hx;omega
theorem Bul{l:List A2}{y:A2}(h:NE l):NE (Jy l y):=fun x hx=>by
 rcases Aqc hx with hx | ⟨rfl,he⟩
 ·exact h x hx
 ·exact he
theorem Bu3{l:List A2}{y:A2}(h:Aaf l)(hy:Aky y):Aaf (Jy l y):=fun x hx=>by
 rcases Aqc hx with hx | ⟨rfl,he⟩
 ·exact h x hx
 ·exact hy
theorem Ayz:∀ (l:List A2) (y:A2),(Jy l y).length≤l.length+1
 | [],y=>by
  unfold Jy
  by_cases he:isE y
  ·rw[aa0 he];simp
  ·rw[aa1 he];simp
 | z::l,y=>by
  have:=Ayz l y
  unfold Jy
  split
  ·simp;omega
  ·split
   ·split<;>(simp;try omega)
   ·split<;>simp
theorem Bgm:∀ {l:List A2} {y:A2} {a:Int},Srt l→I5 (Jy l y) a=if a=y.1 then y else I5 l a
 | [],y,a,_=>by
  unfold Jy
  by_cases he:isE y
  ·rw[aa0 he]
   by_cases ha:a=y.1
   ·rw[aa0 ha,ha];exact he.symm
   ·rw[aa1 ha]
  ·rw[aa1 he]
   simp only[I5]
   by_cases ha:a=y.1
   ·rw[aa0 ha,aa0 ha.symm]
   ·rw[aa1 ha,aa1 fun h=>ha h.symm]
 | z::l,y,a,h=>by
  have h':=ad6.1 h
  unfold Jy
  by_cases h1:z.1<y.1
  ·rw[aa0 h1]
   have ih:=Bgm (y:=y) (a:=a) h'.2
   simp only[I5]
   rw[ih]
   by_cases hz:z.1=a
   ·rw[aa0 hz,aa1 (by omega),aa0 hz]
   ·rw[aa1 hz,aa1 hz]
  ·rw[aa1 h1]
   by_cases h2:z.1=y.1
   ·rw[aa0 h2]
    by_cases he:isE y
    ·rw[aa0 he]
     by_cases ha:a=y.1
     ·rw[aa0 ha,Lk fun x hx=>by have:=h'.1 x hx;omega,ha]
      exact he.symm
     ·rw[aa1 ha]
      simp only[I5]
      rw[aa1 (by omega)]
    ·rw[aa1 he]
     simp only[I5]
     by_cases ha:a=y.1
     ·rw[aa0 ha,aa0 ha.symm]
     ·rw[aa1 ha,aa1 (fun h=>ha h.symm),aa1 (by omega)]
   ·rw[aa1 h2]
    by_cases he:isE y
    ·rw[aa0 he]
     by_cases ha:a=y.1
     ·rw[aa0 ha,Lk (fun x hx=>?_),ha]
      ·exact he.symm
      ·rcases aa9.1 hx with rfl|hx
       ·omega
       ·have:=h'.1 x hx;omega
     ·rw[aa1 ha]
    ·rw[aa1 he]
     simp only[I5]
     by_cases ha:a=y.1
     ·rw[aa0 ha,aa0 ha.symm]
     ·rw[aa1 ha,aa1 fun h=>ha h.symm]
theorem Big:D8 [(0:Int),0,0,0]=0:=by decide
theorem Buk{y:A2}(h:isE y):D8 y.2.1=0:=by
 unfold isE at h;rw[h];exact Big
theorem Azp:∀ {l:List A2} {y:A2},Srt l→Fr (Jy l y)+D8 (I5 l y.1).2.1=Fr l+D8 y.2.1
 | [],y,_=>by
  unfold Jy I5
  by_cases he:isE y
  ·rw[aa0 he,Buk he,Big]
  ·rw[aa1 he,Big,Nw,Tt];omega
 | z::l,y,h=>by
  have h':=ad6.1 h
  unfold Jy
  by_cases h1:z.1<y.1
  ·rw[aa0 h1]
   have ih:=Azp (y:=y) h'.2
   simp only[I5]
   rw[aa1 (by omega),Nw,Nw];omega
  ·rw[aa1 h1]
   by_cases h2:z.1=y.1
   ·rw[aa0 h2]
    simp only[I5]
    rw[aa0 h2]
    by_cases he:isE y
    ·rw[aa0 he,Buk he,Nw];omega
    ·rw[aa1 he,Nw,Nw];omega
   ·rw[aa1 h2,Lk (fun x hx=>?_),Big]
    ·by_cases he:isE y
     ·rw[aa0 he,Buk he]
     ·rw[aa1 he,Nw y];omega
    ·rcases aa9.1 hx with rfl|hx
     ·exact h2
     ·have:=h'.1 x hx;omega
theorem Air{x:A2}{l:List A2}:I5 (x::l) x.1=x:=by unfold I5;rw[aa0 rfl]
theorem Cpj:∀ {l m:List A2},Srt l→Srt m→NE l→NE m→(∀ a,I5 l a=I5 m a)→l=m
 | [],[],_,_,_,_,_=>rfl
 | [],y::m,_,_,_,hn,h=>by
  have:=h y.1
  rw[Air] at this
  exact absurd this.symm (hn y (by simp))
 | x::l,[],_,_,hn,_,h=>by
  have:=h x.1
  rw[Air] at this
  exact absurd this (hn x (by simp))
 | x::l,y::m,hs,ht,hn,hm,h=>by
  have dl:=ad6.1 hs
  have gn:=ad6.1 ht
  rcases Int.lt_trichotomy x.1 y.1 with h1|h1|h1
  ·have:=h x.1
   rw[Air,Lk (l:=y::m) (fun z hz=>by
    rcases aa9.1 hz with rfl|hz
    ·omega
    ·have:=gn.1 z hz;omega)] at this
   exact absurd this (hn x (by simp))
  ·have e:x=y:=by
    have:=h x.1
    rw[Air,h1,Air] at this
    exact this
   subst e
   congr 1
   refine Cpj dl.2 gn.2 (fun z hz=>hn z (by simp[hz])) (fun z hz=>hm z (by simp[hz])) fun a=>?_
   by_cases ha:x.1=a
   ·rw[Lk fun z hz=>by have:=dl.1 z hz;omega,Lk fun z hz=>by have:=gn.1 z hz;omega]
   ·have:=h a
    simp only[I5] at this
    rw[aa1 ha,aa1 ha] at this
    exact this
  ·have:=h y.1
   rw[Air,Lk (l:=x::l) (fun z hz=>by
    rcases aa9.1 hz with rfl|hz
    ·omega
    ·have:=dl.1 z hz;omega)] at this
   exact absurd this.symm (hm y (by simp))
def Ad9:List A2→Int→Nat
 | [],_=>0
 | p::l,a=>if p.1<a then Ad9 l a+1 else 0
theorem Cde(p:A2)(l:List A2)(a:Int):Ad9 (p::l) a=if p.1<a then Ad9 l a+1 else 0:=rfl
theorem Cbg(a:Int):∀ l:List A2,Ad9 l a≤l.length
 | []=>by simp[Ad9]
 | p::l=>by
  have:=Cbg a l
  unfold Ad9
  split
  ·simp;omega
  ·simp
theorem Cal:∀ {l:List A2} {a:Int} {i:Nat},i<Ad9 l a→(l.getD i Ib).1<a
 | [],a,i,h=>by simp[Ad9] at h
 | p::l,a,i,h=>by
  unfold Ad9 at h
  by_cases hp:p.1<a
  ·rw[aa0 hp] at h
   cases i with
   | zero=>exact hp
   | succ i=>exact Cal (l:=l) (by omega)
  ·rw[aa1 hp] at h;omega
theorem Cf4{l:List A2}(h:Srt l){i j:Nat}(qt:i<j)(hj:j<l.length):(l.getD i Ib).1<(l.getD j Ib).1:=by
 have:=am4.1 h i j (by omega) hj qt
 rw[aa2,aa6 (by omega),aa2,aa6 hj]
 exact this
theorem Cb7:∀ {l:List A2} {a:Int},Ad9 l a<l.length→a≤(l.getD (Ad9 l a) Ib).1
 | [],a,h=>by simp[Ad9] at h
 | p::l,a,h=>by
  unfold Ad9 at h ⊢
  by_cases hp:p.1<a
  ·rw[aa0 hp] at h ⊢
   exact Cb7 (l:=l) (by simpa using h)
  ·rw[aa1 hp] at h ⊢
   show a≤p.1
   omega
theorem Cj9{l:List A2}(hs:Srt l){a:Int}{i:Nat}(h:Ad9 l a≤i)(hi:i<l.length):a≤(l.getD i Ib).1:=by
 have h1:=Cb7 (l:=l) (a:=a) (by omega)
 rcases ad3 (Ad9 l a) i with h2|h2
 ·have:=Cf4 hs h2 hi;omega
 ·rw[show i=Ad9 l a by omega];exact h1
abbrev Br5(l:List A2)(a:Int):Prop:=Ad9 l a<l.length∧(l.getD (Ad9 l a) Ib).1=a
theorem Bwo:∀ (l:List A2) (y:A2),Jy l y=if Br5 l y.1 then (if isE y then l.take (Ad9 l y.1)++l.drop (Ad9 l y.1+1) else l.set (Ad9 l y.1) y) else
  (if isE y then l else l.take (Ad9 l y.1)++(y::l.drop (Ad9 l y.1)))
 | [],y=>by
  unfold Jy Br5 Ad9
  simp
 | p::l,y=>by
  unfold Br5
  rw[Cde]
  unfold Jy
  by_cases hp:p.1<y.1
  ·rw[aa0 hp,aa0 hp,Bwo l y]
   unfold Br5
   simp only[ac5,an0,ah1,aq1,an9,List.set_cons_succ]
   split
   ·split<;>rfl
   ·split<;>rfl
  ·rw[aa1 hp,aa1 hp]
   simp only[ac5,ag6,Nat.zero_lt_succ,true_and,ag1,ag0,af8,am9,af1,an9]
def Bsl(m:List A2):Prop:=m.Pairwise fun x y=>x.1≠y.1
def Anh:List A2→A2→List A2
 | [],y=>[y]
 | x::m,y=>if x.1=y.1 then y::m else x::Anh m y
def Ce(m:List A2):List A2:=m.foldl Jy []
theorem Bnu:∀ {m:List A2} {x y:A2},x∈Anh m y→x∈m∨x=y
 | [],x,y,h=>.inr (by simpa [Anh] using h)
 | z::m,x,y,h=>by
  unfold Anh at h
  by_cases hz:z.1=y.1
  ·rw[aa0 hz] at h
   rcases aa9.1 h with rfl|h
   ·exact .inr rfl
   ·exact .inl (by simp[h])
  ·rw[aa1 hz] at h
   rcases aa9.1 h with rfl|h
   ·exact .inl (by simp)
   ·rcases Bnu h with h|h
    ·exact .inl (by simp[h])
    ·exact .inr h
theorem Bid:∀ {m:List A2} {y:A2},Bsl m→Bsl (Anh m y)
 | [],y,_=>aq6 _ _
 | z::m,y,h=>by
  have h':=ad6.1 h
  unfold Anh
  by_cases hz:z.1=y.1
  ·rw[aa0 hz]
   exact ad6.2 ⟨fun x hx=>by rw[← hz];exact h'.1 x hx,h'.2⟩
  ·rw[aa1 hz]
   refine ad6.2 ⟨fun x hx=>?_,Bid h'.2⟩
   rcases Bnu hx with hx|rfl
   ·exact h'.1 x hx
   ·exact hz
theorem Cgn{m:List A2}{y:A2}(h:Aaf m)(hy:Aky y):Aaf (Anh m y):=fun x hx=>by
 rcases Bnu hx with hx|rfl
 ·exact h x hx
 ·exact hy
theorem Ben:∀ (m:List A2) (y:A2),(Anh m y).length≤m.length+1
 | [],y=>by simp[Anh]
 | z::m,y=>by
  have:=Ben m y
  unfold Anh
  split
  ·simp
  ·simp;omega
theorem Bqh:∀ (m:List A2) (y:A2) (a:Int),I5 (Anh m y) a=if a=y.1 then y else I5 m a
 | [],y,a=>by
  simp only[Anh,I5]
  by_cases ha:a=y.1
  ·rw[aa0 ha,aa0 ha.symm]
  ·rw[aa1 ha,aa1 fun h=>ha h.symm]
 | z::m,y,a=>by
  unfold Anh
  by_cases hz:z.1=y.1
  ·rw[aa0 hz]
   simp only[I5]
   by_cases ha:a=y.1
   ·rw[aa0 ha,aa0 ha.symm]
   ·rw[aa1 ha,aa1 (fun h=>ha h.symm),aa1 (by omega)]
  ·rw[aa1 hz]
   simp only[I5]
   rw[Bqh m y a]
   by_cases ha:z.1=a
   ·rw[aa0 ha,aa1 (by omega),aa0 ha]
   ·rw[aa1 ha,aa1 ha]
theorem Bxq:∀ (m:List A2) {o:List A2},Srt o→Srt (m.foldl Jy o)
 | [],_,h=>h
 | x::m,_,h=>Bxq m (Aup h)
theorem Cbc:∀ (m:List A2) {o:List A2},NE o→NE (m.foldl Jy o)
 | [],_,h=>h
 | x::m,_,h=>Cbc m (Bul h)
theorem Bu8:∀ {m o:List A2},Aaf m→Aaf o→Aaf (m.foldl Jy o)
 | [],_,_,h=>h
 | x::m,o,hm,h=>Bu8 (m:=m) (o:=Jy o x) (fun y hy=>hm y (by simp[hy])) (Bu3 h (hm x (by simp)))
theorem Bat(m:List A2):Srt (Ce m):=Bxq m List.Pairwise.nil
theorem Bv3(m:List A2):NE (Ce m):=Cbc m fun x h=>by simp at h
theorem Ba6{m:List A2}(h:Aaf m):Aaf (Ce m):=Bu8 h fun x h=>by simp at h
theorem Bxe:∀ {m o:List A2} {x:A2},x∈m.foldl Jy o→x∈m∨x∈o
 | [],_,_,h=>.inr h
 | y::m,o,x,h=>by
  rcases Bxe (m:=m) h with h|h
  ·exact .inl (by simp[h])
  ·rcases Aqc h with h | ⟨rfl,_⟩
   ·exact .inr h
   ·exact .inl (by simp)
theorem Ccq{m:List A2}{x:A2}(h:x∈Ce m):x∈m:=by
 rcases Bxe h with h|h
 ·exact h
 ·simp at h
theorem Bqz:∀ {m o:List A2} (a:Int),Bsl m→Srt o→((∀ x∈m,x.1≠a)∧I5 (m.foldl Jy o) a=I5 o a)∨((∃ x∈m,x.1=a)∧I5 (m.foldl Jy o) a=I5 m a)
 | [],o,a,_,_=>.inl ⟨fun x h=>by simp at h,rfl⟩
 | y::m,o,a,hd,ho=>by
  have ji:=ad6.1 hd
  show ((∀ x∈y::m,x.1≠a)∧I5 (m.foldl Jy (Jy o y)) a=I5 o a)∨((∃ x∈y::m,x.1=a)∧I5 (m.foldl Jy (Jy o y)) a=I5 (y::m) a)
  rcases Bqz (m:=m) (o:=Jy o y) a ji.2 (Aup ho) with⟨h1,h2⟩ | ⟨⟨z,hz,h1⟩,h2⟩
  ·rw[h2,Bgm ho]
   by_cases ha:a=y.1
   ·rw[aa0 ha]
    exact .inr ⟨⟨y,by simp,ha.symm⟩,by rw[ha,Air]⟩
   ·rw[aa1 ha]
    refine .inl ⟨fun x hx=>?_,rfl⟩
    rcases aa9.1 hx with rfl|hx
    ·exact fun h=>ha h.symm
    ·exact h1 x hx
  ·refine .inr ⟨⟨z,by simp[hz],h1⟩,?_⟩
   rw[h2]
   simp only[I5]
   rw[aa1]
   have:=ji.1 z hz
   rw[h1] at this
   exact this
theorem Bds{m:List A2}(h:Bsl m)(a:Int):I5 (Ce m) a=I5 m a:=by
 rcases Bqz (o:=[]) a h List.Pairwise.nil with⟨h1,h2⟩ | ⟨_,h2⟩
 ·exact h2.trans (by rw[Lk h1];rfl)
 ·exact h2
theorem Bdt{m:List A2}{y:A2}(h:Bsl m):Ce (Anh m y)=Jy (Ce m) y :=
 Cpj (Bat _) (Aup (Bat m)) (Bv3 _) (Bul (Bv3 m)) fun a=>by
  rw[Bds (Bid h),Bqh,Bgm (Bat m),Bds h]
theorem Bv8:∀ {m o:List A2},Bsl m→Srt o→(∀ x∈m,∀ y∈o,y.1≠x.1)→Fr (m.foldl Jy o)=Fr o+Fr m
 | [],o,_,_,_=>by simp[Tt]
 | x::m,o,hd,ho,h=>by
  have ji:=ad6.1 hd
  show Fr (m.foldl Jy (Jy o x))=Fr o+Fr (x::m)
  rw[Bv8 ji.2 (Aup ho) fun y hy z hz=>?_,Nw]
  ·have:=Azp (y:=x) ho
   rw[Lk (h x (by simp)),Big] at this
   omega
  ·rcases Aqc hz with hz | ⟨rfl,_⟩
   ·exact h y (by simp[hy]) z hz
   ·exact ji.1 y hy
theorem Ceg{m:List A2}(h:Bsl m):Fr (Ce m)=Fr m:=by
 have:=Bv8 (o:=[]) h List.Pairwise.nil (fun x _ y hy=>by simp at hy)
 rw[Tt,af1] at this
 exact this
theorem Bk9:∀ (m o:List A2),(m.foldl Jy o).length≤o.length+m.length
 | [],o=>by simp
 | x::m,o=>by
  have h1:=Bk9 m (Jy o x)
  have h2:=Ayz o x
  simp only[ap0,ac5]
  omega
end Go.Pon
