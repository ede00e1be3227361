/-
  The seat's program: what each function computes.
-/
import Derived.Test.YtjbkeldlldpddaaGreatChecked
import Derived.Test.YtjbkeldlldpddaaGreatPSnapshotRoundTrip3
set_option autoImplicit false
set_option maxRecDepth 100000
noncomputable section
namespace Go.Pon.YtjbkeldlldpddaaGreat
open Go Go.Pon Go.Proofs.Tryz

def Axh:List (Nat×Ty):=[(3,(.int .i64)),(4,.bool),(5,(.int .u8)),(9,.str),(22,W2),(23,W7),(25,.ptr),(26,(.slice W92)),(27,(.slice W79)),(30,(.int .i64)),(33,(.int .u64)),(35,W4),(37,W94),(39,W41),(41,W14),(42,(.slice W46)),(44,W83),(45,(.slice W44)),(46,(.arr 4 W4)),(47,(.slice W25)),(48,W1),(49,(.slice W21)),(51,W96),(54,(.arr 2 W2)),(63,(.arr 3 W96)),(65,W3),(69,(.arr 2 W96)),(76,W64),(78,W79),(80,(.int .u64)),(82,W66),(84,W25),(85,(.slice W3)),(87,W67),(89,W92),(94,W46),(97,W44),(99,W25),(101,W21),(102,.ptr),(103,.ptr),(105,(.pair (.int .u64) (.pair W94 (.pair W41 (.pair (.int .u64) (.pair W83 (.pair .ptr (.pair (.slice W25) (.pair .ptr .unit))))))))),(108,W59),(109,W8),(111,W50),(114,(.int .u64)),(115,.ptr),(122,.ptr),(124,(.pair W2 W97)),(127,.ptr),(136,(.slice W4)),(140,.ptr),(148,W7),(154,(.int .u32)),(155,W6),(156,W12),(179,(.pair W2 W97)),(183,.ptr),(199,W59),(200,W5),(201,W5),(207,(.slice W2)),(223,(.pair (.int .u64) W34)),(237,(.arr 12 (.int .u64))),(244,(.arr 6 (.int .u64))),(259,(.arr 12 .bool)),(290,(.arr 12 W4)),(301,.ptr),(303,.ptr),(317,W15)]

def Al8:List (Nat×B4):=[(35,Aap),(159,Pt),(100,Xv),(101,C5),(36,Av),(104,Kv),(40,Bk),(115,Lj),(160,X4),(102,Jc),(37,Ov),(103,C0),(45,K0),(214,Pb),(215,Qg),(163,Fe),(168,Anv),(169,Acw),(170,Aj0),(113,O4),(62,Ae9),(173,Hx),(171,Ann),(172,Adm),(114,Afi),(63,Af8),(116,Aba),(117,Aj6),(118,Ed),(64,Ajt),(65,K7),(120,Iy),(119,Aes),(66,Lh),(67,M6),(22,Fy),(43,K5),(13,Jq),(83,Add),(174,Awj),(188,Nq),(175,Ac9),(121,Qe),(68,Fc),(125,J0),(76,Aj),(153,Bf),(157,Dp),(74,Ez),(184,Hp),(151,A9),(202,Abc),(216,Ago),(220,Am7),(185,Gf),(152,Mm),(177,Aa4),(124,Bq),(217,Avz),(146,Ga),(201,C3),(218,Ano),(178,Adr),(128,Aek),(84,Acu),(85,Adh),(86,Ar6),(87,Arl),(25,Ask),(26,Yh),(88,Yr),(212,L1),(156,Di),(183,Aef),(179,Aak),(180,Qb),(181,Ag0),(129,Pa),(69,Cn),(244,Vk),(242,Arz),(243,Ac7),(236,Adn),(219,Ajm),(182,Arf),(130,Acy),(176,S2),(122,Fb),(123,K4),(70,Nm),(131,Aas),(197,G7),(187,G2),(186,Ff),(132,Mc),(133,Hs),(134,Ar2),(189,Hy),(135,L5),(136,Lx),(99,Ajl),(31,Iw),(29,Sl),(233,Afh),(166,Aof),(167,Am9),(112,Ans),(61,Zz),(232,Ar3),(208,Aam),(211,Tn),(234,Hq),(237,Aew),(221,Lb),(190,Ana),(137,It),(89,Vm),(139,Ql),(222,K6),(223,Aj3),(191,Aj2),(192,Aar),(193,Ajh),(194,Agy),(224,Aha),(195,Am8),(205,Np),(225,Agx),(196,Ajg),(140,Aev),(198,Aan),(228,Gc),(227,Z0),(226,To),(199,Asj),(240,Me),(239,Ajc),(238,Adp),(241,Avn),(229,Ajo),(230,X7),(200,Aoh),(138,Agb),(141,In),(90,Nb),(142,Aj1),(143,Anu),(203,Arx),(144,Ard),(204,Arv),(145,Yl),(147,Nh),(206,O7),(148,S4),(34,Hb),(231,Ah7),(207,Ajb),(209,K2),(149,Qt),(91,O6),(27,L0),(12,Zw),(92,Agd),(93,Ajf),(94,An5),(210,U6),(150,Aj5),(154,Wq),(155,Ajr),(95,Aoc),(158,Na),(96,Vd),(28,Adk),(9,Px),(32,L9),(33,J4),(11,H0),(8,Ajq),(108,Sv),(52,Vi),(53,Qx),(54,Qv),(55,X3),(56,Ri),(15,Yi),(235,Yc),(213,Aaq),(165,Ws),(126,L4),(79,Dj),(111,I1),(109,Sx),(57,F9),(59,Fg),(164,Ky),(110,Se),(58,Ma),(60,Md),(16,Lz),(17,Yn),(19,Agw),(80,Pf),(127,Fz),(82,Ada),(81,Adl),(24,Ai4),(20,Acz),(6,J5)]

def Afy:List ((Nat×Nat)×List (Nat×Dz)):=[((159,0),[(1,Bv),(6,V28),(9,V3),(10,Bv),(11,V28),(56,Bv),(57,Bv)]),((170,0),[(2,V28),(3,V28),(5,Bv)]),((113,0),[(1,(.ptr V11)),(3,Bv)]),((171,0),[(2,V28),(3,V28),(4,V29),(5,V29),(6,Ir),(8,Bv)]),((114,0),[(0,V46),(5,V46),(6,Bv),(7,Bv)]),((63,0),[(1,(.ptr V58)),(6,V46),(7,Bv),(8,Bv)]),((117,0),[(2,V28),(3,V28),(4,V28),(6,V28),(7,Ir),(9,Bv)]),((64,0),[(0,V45),(3,(.ptr V33)),(14,V45),(15,Bv),(16,Bv)]),((64,2),[(0,V45),(3,(.ptr V33)),(8,V28),(45,V45),(46,Bv),(47,Bv)]),((64,4),[(0,V45),(3,(.ptr V33)),(8,V28),(62,V33),(63,Bv)]),((65,0),[(1,V60),(6,V44),(7,Bv),(8,Bv)]),((120,0),[(2,V29),(3,V28),(4,V29),(5,Ir),(7,Bv)]),((119,0),[(2,V29),(3,V29),(6,V41),(7,Bv),(8,Bv)]),((66,0),[(1,V60),(3,V29),(12,V45),(13,Bv),(14,Bv)]),((66,2),[(1,V60),(3,V29),(24,V44),(25,Bv),(26,Bv)]),((67,0),[(1,V60),(3,(.mapm .u64 W5)),(10,V44),(11,Bv),(12,Bv)]),((67,2),[(1,V60),(3,(.mapm .u64 W5)),(34,V43),(35,Bv),(36,Bv)]),((2000039,0),[(4,Ir),(5,Ir)]),((2000041,0),[(4,Ir),(5,Ir)]),((2000042,0),[(4,Ir),(5,Ir)]),((2000044,0),[(4,Ir),(5,Ir)]),((13,0),[(2,(.ptr V19)),(4,(.ptr V52)),(5,Ir),(6,(.ptr V19)),(21,Bv)]),((121,0),[(3,(.ptr (.ro true (.arr 12 .bool)))),(4,Bv)]),((125,0),[(0,(.bor (.int .i64))),(3,Bv)]),((76,0),[(1,V28),(3,V38),(4,Bv)]),((157,0),[(0,V4),(1,V4),(5,V38),(6,Bv)]),((157,2),[(0,V4),(1,V4),(5,V38),(6,Bv),(7,Bv),(8,Bv)]),((74,0),[(0,V4),(1,V4),(5,Bv)]),((184,0),[(0,V4),(1,V4),(5,V38),(6,Bv),(7,Bv)]),((151,0),[(0,V4),(2,V28),(3,V28),(4,Bv)]),((220,0),[(0,V4),(1,Bv),(6,V38),(7,Bv),(8,Bv)]),((185,0),[(0,V4),(1,V4),(6,V38),(7,V38),(8,Bv)]),((185,2),[(0,V4),(1,V4),(6,V38),(7,V38),(8,Bv),(9,Bv)]),((185,4),[(0,V4),(1,V4),(6,V38),(7,V38),(8,Bv),(9,Bv),(10,Bv),(11,Bv)]),((185,6),[(0,V4),(1,V4),(6,V38),(7,V38),(8,Bv),(9,Bv),(12,(.ro true W7)),(13,Bv)]),((124,0),[(0,V4),(1,V4),(5,V38),(6,Bv),(7,Bv)]),((217,0),[(0,Ir),(6,V4),(7,Bv)]),((26,0),[(1,(.own true W92)),(2,Ir)]),((26,2),[(1,(.own true W92)),(3,Ir)]),((212,0),[(0,V47),(1,Ir),(5,Bv)]),((244,0),[(0,V3),(1,Bv),(2,Bv),(7,Bv)]),((242,0),[(0,V3),(1,Bv),(6,Bv),(7,Bv),(8,Bv)]),((243,0),[(0,V37),(1,V3)]),((236,0),[(0,V3),(3,V37),(4,Bv),(5,Bv)]),((122,0),[(0,V46),(3,Bv)]),((70,0),[(1,(.ptr V58)),(3,Bv)]),((99,0),[(1,V28),(3,V32),(4,Bv)]),((112,0),[(1,V3),(2,V30),(4,V30),(5,(.ptr V5)),(6,(.ptr V5)),(7,Bv)]),((112,2),[(2,V30),(4,V30),(5,(.ptr V5)),(6,(.ptr V5)),(10,V30),(11,Bv)]),((112,4),[(2,V30),(4,V30),(10,V30),(16,Bv)]),((61,0),[(0,V3),(2,V27),(3,V32)]),((61,2),[(2,V27),(3,V32),(4,Ir),(5,Bv)]),((61,4),[(2,V27),(3,V32),(6,V30),(7,Bv)]),((61,6),[(2,V27),(6,V30),(8,V27),(9,Bv)]),((211,0),[(0,V44),(1,Bv),(5,V1),(6,Bv)]),((234,0),[(0,Bv),(3,Bv)]),((222,0),[(0,V46),(1,Ir),(5,Bv)]),((223,0),[(1,V28),(3,Bv),(4,Bv)]),((224,0),[(0,V46),(3,V15),(4,Bv)]),((224,2),[(0,V46),(3,V15),(4,Bv),(5,Bv)]),((195,0),[(6,V13),(7,V15),(8,(.ro true W7)),(9,Bv)]),((196,0),[(1,V43),(6,V15),(7,Bv)]),((140,0),[(0,V43),(2,V28),(4,V38),(5,Bv)]),((198,0),[(0,V46),(2,V28),(4,V38),(5,Bv)]),((90,0),[(0,V59),(4,(.ptr (.pair Bv V54))),(6,(.ptr (.pair Ir V50))),(8,(.ptr (.pair Bv V54))),(9,Bv)]),((144,0),[(6,(.ptr V11)),(8,(.ptr (.ro true (.arr 12 W4)))),(9,Bv)]),((204,0),[(0,V46),(1,Ir),(6,V15),(7,V24),(8,Bv)]),((206,0),[(0,V47),(3,V38),(4,Bv)]),((206,2),[(0,V47),(3,V38),(5,Bv)]),((34,0),[(0,(.rp W50)),(1,Ir),(5,Bv)]),((209,0),[(0,(.ptr V55)),(1,Ir),(4,V28),(5,Bv)]),((149,0),[(0,(.ptr V55)),(3,(.ptr (.pair Ir (.pair Ir (.pair Ir (.pair (.ro true W4) (.pair V40 V25))))))),(8,V28),(9,Bv)]),((155,0),[(0,Bv),(2,V27),(3,V27),(4,Bv)]),((158,0),[(0,V4),(3,V32),(4,Bv)]),((158,5),[(0,V4),(3,V32),(4,Bv),(5,Bv),(6,Bv),(7,Bv)]),((158,7),[(0,V4),(3,V32),(4,Bv),(6,Bv),(8,Bv),(9,Bv)]),((158,3),[(0,V4),(3,V32),(4,Bv),(5,Bv),(6,Bv),(10,Bv)]),((9,0),[(0,V4),(1,V24),(7,V59),(8,(.own false W92)),(9,(.own false W79)),(10,Bv)]),((9,2),[(0,V4),(1,V24),(7,V59),(8,(.own false W92)),(9,(.own false W79)),(11,Bv)]),((32,0),[(0,(.rp W59)),(3,V14),(4,Bv)]),((32,2),[(0,(.rp W59)),(3,V14),(4,Bv),(5,(.ptr V9)),(6,Bv)]),((33,0),[(0,(.rp W50)),(3,V13),(4,Bv)]),((33,2),[(0,(.rp W50)),(3,V13),(4,Bv),(5,Bv)]),((11,0),[(0,V59),(2,V61),(3,V61),(4,Bv)]),((108,0),[(0,V46),(1,V46),(5,Bv)]),((53,0),[(0,V45),(1,V45),(5,Bv)]),((54,0),[(0,V44),(1,V44),(5,Bv)]),((55,0),[(0,V2),(1,V2),(5,Bv)]),((56,0),[(0,V43),(1,V43),(5,Bv)]),((213,0),[(1,V28),(3,Bv)]),((165,0),[(1,V28),(4,V32),(5,Bv)]),((79,0),[(0,V39),(3,Bv),(9,V39),(10,Bv),(11,Bv)]),((79,2),[(6,V32),(25,V39),(26,Bv),(27,Bv)]),((57,0),[(0,V37),(7,(.ro false W8)),(8,Bv),(9,Bv)]),((59,0),[(0,V37),(7,V41),(8,Bv),(9,Bv)]),((16,0),[(1,V60),(4,V37),(28,V46),(29,Bv),(30,Bv)]),((16,2),[(1,V60),(4,V37),(62,V45),(63,Bv),(64,Bv)]),((16,4),[(1,V60),(4,V37),(93,V44),(94,Bv),(95,Bv)]),((16,6),[(4,V37),(130,V43),(131,Bv),(132,Bv)]),((19,1000031),[(3,V60),(5,V28),(6,V61),(7,Bv),(11,Bv)]),((19,1000034),[(3,V60),(5,V28),(6,V61),(8,Bv),(9,Bv),(10,Bv),(11,Bv),(29,Bv)]),((19,1000036),[(3,V60),(5,V28),(6,V61),(8,Bv),(11,Bv)]),((19,1000039),[(3,V60),(5,V28),(6,V61),(9,Bv),(10,Bv),(11,Bv),(29,Bv)]),((19,1000041),[(3,V60),(5,V28),(6,V61),(9,Bv),(11,Bv)]),((19,1000044),[(3,V60),(5,V28),(6,V61),(9,Bv),(10,Bv),(11,Bv),(29,Bv)]),((19,1000046),[(3,V60),(6,V61),(9,Bv),(11,Bv)]),((19,1000047),[(3,V60),(6,V61),(9,Bv),(11,Bv)]),((19,1000049),[(3,V60),(5,V28),(6,V61),(10,Bv),(11,Bv),(29,Bv)]),((19,1000051),[(3,V60),(5,V28),(6,V61),(10,Bv),(11,Bv)]),((19,1000054),[(3,V60),(5,V28),(6,V61),(10,Bv),(29,Bv)]),((19,1000061),[(3,V60),(6,V61)]),((82,0),[(0,V3),(2,(.ptr V5)),(3,(.ptr V5)),(10,Bv)]),((82,2),[(2,(.ptr V5)),(3,(.ptr V5)),(5,Bv)]),((81,0),[(3,V30),(4,(.ptr V5)),(5,(.ptr V5)),(6,V30),(7,V30),(18,Bv)]),((81,2),[(3,V30),(6,V30),(7,V30),(103,Bv)]),((24,0),[(2,V27),(3,Ir),(4,V32)]),((24,2),[(2,V27),(3,Ir),(4,V32),(5,Bv)]),((24,4),[(2,V27),(4,V32),(6,V30),(7,(.ptr V5)),(8,Bv)]),((24,6),[(2,V27),(6,V30),(9,V27),(55,Bv)]),((6,0),[(3,V31),(43,(.ro false (.arr 2 W96))),(44,Bv)])]

def Ape:List ((Nat×Nat)×List Ali):=[]

def Al1:List (Nat×IntKind×Ty):=[(204,.u64,W5)]

abbrev gN:Ctx:=mkG Axh Al8 Afy false Ape Al1
abbrev gC:Ctx:=mkG Axh Al8 Afy true Ape Al1

theorem tab:Beu prog Axh Al8 Al1 :=
 ⟨ar4 (by kernel_rfl),by kernel_rfl,by kernel_rfl,by kernel_rfl,by kernel_rfl⟩

theorem Bj(l:List Pl)(hl:∀ e∈l,A7 prog e.f e.s e.F){f:FuncId}{fn:Func}{s:B4}{F:Iu s.ins→Option s.outDen}(hf:prog.funcs[f]?=some fn)(he:∀ C,Ayt C l→∀ x,Afk Ac C gN f fn (fn.body.getD .skip) s x=F x)(hb:fn.body=some (fn.body.getD .skip):=by kernel_rfl)(bj:Bc3 s fn (fn.body.getD .skip)=true:=by kernel_rfl)(nd:ndB l=true:=by rfl):A7 prog f s F:=Cpf tab l hl hf hb bj nd he

theorem Chq(l:List Pl)(hl:∀ e∈l,A7 prog e.f e.s e.F){f:FuncId}{fn:Func}{s:B4}{F:Iu s.ins→Option s.outDen}(hf:prog.funcs[f]?=some fn)(he:∀ C,Ayt C l→∀ x,Afk Ac C gC f fn (fn.body.getD .skip) s x=F x)(hb:fn.body=some (fn.body.getD .skip):=by kernel_rfl)(bj:Bc3 s fn (fn.body.getD .skip)=true:=by kernel_rfl)(nd:ndB l=true:=by rfl):A7 prog f s F:=Cpf tab l hl hf hb bj nd he

def Ahu:List (Nat×Nat):=[(13,0)]

def So:Lay:=⟨39,none,0⟩

def Amn:Bgg:=⟨39,none,1000039,Ju,So⟩

def Ou:Lay:=⟨38,(some 39),0⟩

def Aht:Bgg:=⟨38,(some 39),2000039,H8,Ou⟩

def Sy:Lay:=⟨41,none,1⟩

def Amr:Bgg:=⟨41,none,1000041,Jt,Sy⟩

def Or:Lay:=⟨38,(some 41),1⟩

def Ahj:Bgg:=⟨38,(some 41),2000041,H5,Or⟩

def Sh:Lay:=⟨42,none,1⟩

def Am0:Bgg:=⟨42,none,1000042,Jw,Sh⟩

def Pj:Lay:=⟨38,(some 42),1⟩

def Ahi:Bgg:=⟨38,(some 42),2000042,Hz,Pj⟩

def Su:Lay:=⟨44,none,1⟩

def Amw:Bgg:=⟨44,none,1000044,Jx,Su⟩

def O2:Lay:=⟨38,(some 44),1⟩

def Ahv:Bgg:=⟨38,(some 44),2000044,H4,O2⟩

theorem Bfw:A7 prog 35 Aap Vh :=
 Bj [] Ae func35 (fun C _ x=>(show _=Ah5 Ac x.1 from by kernel_rfl).trans (by exact rfl))

theorem Ava:A7 prog 159 Pt Jj :=
 Bj [] Ae func159 (fun C _ x=>(show _=Acv Ac x.1 x.2.1 x.2.2.1 from by kernel_rfl).trans (by exact rfl))

theorem Bc2:A7 prog 100 Xv Mv :=
 Bj [⟨159,Pt,Jj⟩] (Ab Ava Ae) func100 (fun C ⟨h0,_⟩ x=>(show _=Yq Ac (C 159 Pt) x.1 x.2.1 from by kernel_rfl).trans (by rw[h0];exact rfl))

theorem Mi:A7 prog 101 C5 B1 :=
 Bj [] Ae func101 (fun C _ x=>(show _=Et Ac x.1 x.2.1 x.2.2.1 from by kernel_rfl).trans (by exact rfl))

theorem B8:A7 prog 36 Av As :=
 Bj [⟨100,Xv,Mv⟩,⟨101,C5,B1⟩] (Ab Bc2 (Ab Mi Ae)) func36 (fun C ⟨h0,h1,_⟩ x=>(show _=Jd Ac (C 100 Xv) (C 101 C5) x.1 from by kernel_rfl).trans (by rw[h0,h1];exact rfl))

theorem Amk:A7 prog 104 Kv G3 :=
 Bj [⟨159,Pt,Jj⟩] (Ab Ava Ae) func104 (fun C ⟨h0,_⟩ x=>(show _=Uz Ac (C 159 Pt) x.1 x.2.1 from by kernel_rfl).trans (by rw[h0];exact rfl))

theorem Eb:A7 prog 40 Bk Ba :=
 Bj [⟨104,Kv,G3⟩,⟨101,C5,B1⟩] (Ab Amk (Ab Mi Ae)) func40 (fun C ⟨h0,h1,_⟩ x=>(show _=I4 Ac (C 104 Kv) (C 101 C5) x.1 from by kernel_rfl).trans (by rw[h0,h1];exact rfl))

theorem Amf:A7 prog 115 Lj F0 :=
 Bj [] Ae func115 (fun C _ x=>(show _=Age Ac x.1 from by kernel_rfl).trans (by exact rfl))

theorem Bdo:A7 prog 160 X4 Mw :=
 Bj [⟨104,Kv,G3⟩,⟨115,Lj,F0⟩] (Ab Amk (Ab Amf Ae)) func160 (fun C ⟨h0,h1,_⟩ x=>(show _=X1 Ac (C 104 Kv) (C 115 Lj) x.1 x.2.1 from by kernel_rfl).trans (by rw[h0,h1];exact rfl))

theorem Anj:A7 prog 102 Jc Ft :=
 Bj [⟨160,X4,Mw⟩,⟨101,C5,B1⟩] (Ab Bdo (Ab Mi Ae)) func102 (fun C ⟨h0,h1,_⟩ x=>(show _=Jp Ac (C 160 X4) (C 101 C5) x.1 from by kernel_rfl).trans (by rw[h0,h1];exact rfl))

theorem Avj:A7 prog 37 Ov I2 :=
 Bj [⟨36,Av,As⟩,⟨40,Bk,Ba⟩,⟨102,Jc,Ft⟩] (Ab B8 (Ab Eb (Ab Anj Ae))) func37 (fun C ⟨h0,h1,h2,_⟩ x=>(show _=O3 Ac (C 36 Av) (C 40 Bk) (C 102 Jc) x.1 from by kernel_rfl).trans (by rw[h0,h1,h2];exact rfl))

theorem Kz:A7 prog 103 C0 By :=
 Bj [] Ae func103 (fun C _ x=>(show _=L3 Ac x.1 from by kernel_rfl).trans (by exact rfl))

theorem Aqp:A7 prog 45 K0 G5 :=
 Bj [] Ae func45 (fun C _ x=>(show _=Le Ac x.1 from by kernel_rfl).trans (by exact rfl))

theorem Avw:A7 prog 214 Pb S9 :=
 Bj [] Ae func214 (fun C _ x=>(show _=Xh Ac x.1 x.2.1 from by kernel_rfl).trans (by exact rfl))

theorem Ax1:A7 prog 215 Qg Uy :=
 Bj [] Ae func215 (fun C _ x=>(show _=Z6 Ac x.1 x.2.1 from by kernel_rfl).trans (by exact rfl))

theorem Xk:A7 prog 163 Fe Db :=
 Bj [] Ae func163 (fun C _ x=>(show _=Qs Ac x.1 from by kernel_rfl).trans (by exact rfl))

theorem Bo1:A7 prog 168 Anv Ag6 :=
 Bj [⟨214,Pb,S9⟩,⟨215,Qg,Uy⟩,⟨163,Fe,Db⟩] (Ab Avw (Ab Ax1 (Ab Xk Ae))) func168 (fun C ⟨h0,h1,h2,_⟩ x=>(show _=Awn Ac (C 214 Pb) (C 215 Qg) (C 163 Fe) x.1 x.2.1 from by kernel_rfl).trans (by rw[h0,h1,h2];exact rfl))

theorem Bhk:A7 prog 169 Acw Yp :=
 Bj [] Ae func169 (fun C _ x=>(show _=Al4 Ac x.1 x.2.1 from by kernel_rfl).trans (by exact rfl))

theorem Bnm:A7 prog 170 Aj0 Wi :=
 Bj [] Ae func170 (fun C _ x=>(show _=Akf Ac x.1 x.2.1 from by kernel_rfl).trans (by exact rfl))

theorem Awq:A7 prog 113 O4 I3 :=
 Bj [⟨168,Anv,Ag6⟩,⟨169,Acw,Yp⟩,⟨163,Fe,Db⟩,⟨170,Aj0,Wi⟩] (Ab Bo1 (Ab Bhk (Ab Xk (Ab Bnm Ae)))) func113 (fun C ⟨h0,h1,h2,h3,_⟩ x=>(show _=Ot Ac (C 168 Anv) (C 169 Acw) (C 163 Fe) (C 170 Aj0) x.1 from by kernel_rfl).trans (by rw[h0,h1,h2,h3];exact rfl))

theorem Bkb:A7 prog 62 Ae9 S6 :=
 Bj [⟨113,O4,I3⟩] (Ab Awq Ae) func62 (fun C ⟨h0,_⟩ x=>(show _=Aga Ac (C 113 O4) x.1 from by kernel_rfl).trans (by rw[h0];exact rfl))

theorem Ad7:A7 prog 173 Hx Ew :=
 Chp (fn:=f173) func173 (by kernel_rfl) (by kernel_rfl) (by kernel_rfl) (by kernel_rfl)

theorem Bpd:A7 prog 171 Ann Zy :=
 Bj [⟨173,Hx,Ew⟩] (Ab Ad7 Ae) func171 (fun C ⟨h0,_⟩ x=>(show _=An3 Ac (C 173 Hx) x.1 x.2.1 from by kernel_rfl).trans (by rw[h0];exact rfl))

theorem Bgz:A7 prog 172 Adm Js :=
 Bj [] Ae func172 (fun C _ x=>(show _=Ads Ac x.1 from by kernel_rfl).trans (by exact rfl))

theorem Bjd:A7 prog 114 Afi Km :=
 Bj [⟨171,Ann,Zy⟩,⟨172,Adm,Js⟩] (Ab Bpd (Ab Bgz Ae)) func114 (fun C ⟨h0,h1,_⟩ x=>(show _=Ae8 Ac (C 171 Ann) (C 172 Adm) x.1 from by kernel_rfl).trans (by rw[h0,h1];exact rfl))

theorem Bjp:A7 prog 63 Af8 Tk :=
 Bj [⟨114,Afi,Km⟩,⟨115,Lj,F0⟩] (Ab Bjd (Ab Amf Ae)) func63 (fun C ⟨h0,h1,_⟩ x=>(show _=Agm Ac (C 114 Afi) (C 115 Lj) x.1 from by kernel_rfl).trans (by rw[h0,h1];exact rfl))

theorem Bfl:A7 prog 116 Aba Nz :=
 Bj [] Ae func116 (fun C _ x=>(show _=Aao Ac x.1 from by kernel_rfl).trans (by exact rfl))

theorem Bmv:A7 prog 117 Aj6 Fu :=
 Bj [⟨173,Hx,Ew⟩] (Ab Ad7 Ae) func117 (fun C ⟨h0,_⟩ x=>(show _=Ajs Ac (C 173 Hx) x.1 x.2.1 from by kernel_rfl).trans (by rw[h0];exact rfl))

theorem Yt:A7 prog 118 Ed Bw :=
 Bj [] Ae func118 (fun C _ x=>(show _=Ei Ac x.1 from by kernel_rfl).trans (by exact rfl))

theorem Bmk:A7 prog 64 Ajt Vx :=
 Bj [⟨116,Aba,Nz⟩,⟨117,Aj6,Fu⟩,⟨118,Ed,Bw⟩] (Ab Bfl (Ab Bmv (Ab Yt Ae))) func64 (fun C ⟨h0,h1,h2,_⟩ x=>(show _=Akd Ac (C 116 Aba) (C 117 Aj6) (C 118 Ed) x.1 x.2.1 from by kernel_rfl).trans (by rw[h0,h1,h2];exact rfl))

theorem Aqo:A7 prog 65 K7 G6 :=
 Bj [] Ae func65 (fun C _ x=>(show _=K8 Ac x.1 from by kernel_rfl).trans (by exact rfl))

theorem Afn:A7 prog 120 Iy Es :=
 Bj [⟨173,Hx,Ew⟩] (Ab Ad7 Ae) func120 (fun C ⟨h0,_⟩ x=>(show _=Aa3 Ac (C 173 Hx) x.1 x.2.1 from by kernel_rfl).trans (by rw[h0];exact rfl))

theorem Bfr:A7 prog 119 Aes Li :=
 Bj [⟨120,Iy,Es⟩] (Ab Afn Ae) func119 (fun C ⟨h0,_⟩ x=>(show _=Arb Ac (C 120 Iy) x.1 from by kernel_rfl).trans (by rw[h0];exact rfl))

theorem Aqj:A7 prog 66 Lh G4 :=
 Bj [⟨119,Aes,Li⟩,⟨120,Iy,Es⟩] (Ab Bfr (Ab Afn Ae)) func66 (fun C ⟨h0,h1,_⟩ x=>(show _=K1 Ac (C 119 Aes) (C 120 Iy) x.1 from by kernel_rfl).trans (by rw[h0,h1];exact rfl))

theorem Auz:A7 prog 67 M6 Ih :=
 Bj [⟨120,Iy,Es⟩,⟨119,Aes,Li⟩] (Ab Afn (Ab Bfr Ae)) func67 (fun C ⟨h0,h1,_⟩ x=>(show _=Nc Ac (C 120 Iy) (C 119 Aes) x.1 from by kernel_rfl).trans (by rw[h0,h1];exact rfl))

theorem Ym:A7 prog 22 Fy Cc :=
 Bj [⟨62,Ae9,S6⟩,⟨63,Af8,Tk⟩,⟨64,Ajt,Vx⟩,⟨65,K7,G6⟩,⟨66,Lh,G4⟩,⟨67,M6,Ih⟩] (Ab Bkb (Ab Bjp (Ab Bmk (Ab Aqo (Ab Aqj (Ab Auz Ae)))))) func22 (fun C ⟨h0,h1,h2,h3,h4,h5,_⟩ x=>(show _=Aa8 Ac (C 62 Ae9) (C 63 Af8) (C 64 Ajt) (C 65 K7) (C 66 Lh) (C 67 M6) x.1 from by kernel_rfl).trans (by rw[h0,h1,h2,h3,h4,h5];exact rfl))

theorem Aqq:A7 prog 43 K5 E0 :=
 Bj [] Ae func43 (fun C _ x=>(show _=Lf Ac x.1 from by kernel_rfl).trans (by exact rfl))

theorem Ayb(L:Af)(C:Gi):∀ x,T0 L C (mkG Axh Al8 Afy false Ape Al1 [] (some (1000039,So,Ju.ins)) Ahu) 1000039 f39 (f39.body.getD .skip) Ju So x=Sj L (C 36 Av) (C 40 Bk) x.1 x.2.1:=by
 intro x;kernel_rfl
theorem Axp:VOK prog So Ju H3 :=
 Biz tab [⟨36,Av,As⟩,⟨40,Bk,Ba⟩] (Ab B8 (Ab Eb Ae)) [] Afa Ahu (by kernel_rfl) (by kernel_rfl) (v:=1000039) func39 (by kernel_rfl) (by kernel_rfl) (by rfl) (by kernel_rfl) (fun C ⟨h0,h1,_⟩ _ x=>(Ayb Ac C x).trans (by rw[h0,h1];exact rfl))

theorem Avg(L:Af)(C:Gi):∀ x,T0 L C (mkG Axh Al8 Afy false Ape Al1 [Amn] (some (2000039,Ou,H8.ins)) Ahu) 2000039 f38 (f38.body.getD .skip) H8 Ou x=O9 L (C 36 Av) (C 103 C0) (C 1000039 Ju) x.1 x.2.1:=by
 intro x;kernel_rfl
theorem Au1:VOK prog Ou H8 Gp :=
 Biz tab [⟨36,Av,As⟩,⟨103,C0,By⟩] (Ab B8 (Ab Kz Ae)) [⟨Amn,H3⟩] (Aeb Axp Afa) Ahu (by kernel_rfl) (by kernel_rfl) (v:=2000039) func38 (by kernel_rfl) (by kernel_rfl) (by rfl) (by kernel_rfl) (fun C ⟨h0,h1,_⟩ ⟨g0,_⟩ x=>(Avg Ac C x).trans (by rw[h0,h1,show C 1000039 Ju=H3 from g0];exact rfl))

theorem Az6(L:Af)(C:Gi):∀ x,T0 L C (mkG Axh Al8 Afy false Ape Al1 [] (some (1000041,Sy,Jt.ins)) Ahu) 1000041 f41 (f41.body.getD .skip) Jt Sy x=Sz L (C 36 Av) (C 40 Bk) x.1 x.2.1:=by
 intro x;kernel_rfl
theorem Axs:VOK prog Sy Jt H1 :=
 Biz tab [⟨36,Av,As⟩,⟨40,Bk,Ba⟩] (Ab B8 (Ab Eb Ae)) [] Afa Ahu (by kernel_rfl) (by kernel_rfl) (v:=1000041) func41 (by kernel_rfl) (by kernel_rfl) (by rfl) (by kernel_rfl) (fun C ⟨h0,h1,_⟩ _ x=>(Az6 Ac C x).trans (by rw[h0,h1];exact rfl))

theorem Awx(L:Af)(C:Gi):∀ x,T0 L C (mkG Axh Al8 Afy false Ape Al1 [Amr] (some (2000041,Or,H5.ins)) Ahu) 2000041 f38 (f38.body.getD .skip) H5 Or x=Ow L (C 36 Av) (C 103 C0) (C 1000041 Jt) x.1 x.2.1:=by
 intro x;kernel_rfl
theorem Auj:VOK prog Or H5 Gn :=
 Biz tab [⟨36,Av,As⟩,⟨103,C0,By⟩] (Ab B8 (Ab Kz Ae)) [⟨Amr,H1⟩] (Aeb Axs Afa) Ahu (by kernel_rfl) (by kernel_rfl) (v:=2000041) func38 (by kernel_rfl) (by kernel_rfl) (by rfl) (by kernel_rfl) (fun C ⟨h0,h1,_⟩ ⟨g0,_⟩ x=>(Awx Ac C x).trans (by rw[h0,h1,show C 1000041 Jt=H1 from g0];exact rfl))

theorem Ay1(L:Af)(C:Gi):∀ x,T0 L C (mkG Axh Al8 Afy false Ape Al1 [] (some (1000042,Sh,Jw.ins)) Ahu) 1000042 f42 (f42.body.getD .skip) Jw Sh x=S3 L (C 36 Av) (C 40 Bk) (C 43 K5) x.1 x.2.1 x.2.2.1:=by
 intro x;kernel_rfl
theorem Ax8:VOK prog Sh Jw Ia :=
 Biz tab [⟨36,Av,As⟩,⟨40,Bk,Ba⟩,⟨43,K5,E0⟩] (Ab B8 (Ab Eb (Ab Aqq Ae))) [] Afa Ahu (by kernel_rfl) (by kernel_rfl) (v:=1000042) func42 (by kernel_rfl) (by kernel_rfl) (by rfl) (by kernel_rfl) (fun C ⟨h0,h1,h2,_⟩ _ x=>(Ay1 Ac C x).trans (by rw[h0,h1,h2];exact rfl))

theorem Awm(L:Af)(C:Gi):∀ x,T0 L C (mkG Axh Al8 Afy false Ape Al1 [Am0] (some (2000042,Pj,Hz.ins)) Ahu) 2000042 f38 (f38.body.getD .skip) Hz Pj x=Pc L (C 36 Av) (C 103 C0) (C 1000042 Jw) x.1 x.2.1 x.2.2.1:=by
 intro x;kernel_rfl
theorem Aua:VOK prog Pj Hz Gm :=
 Biz tab [⟨36,Av,As⟩,⟨103,C0,By⟩] (Ab B8 (Ab Kz Ae)) [⟨Am0,Ia⟩] (Aeb Ax8 Afa) Ahu (by kernel_rfl) (by kernel_rfl) (v:=2000042) func38 (by kernel_rfl) (by kernel_rfl) (by rfl) (by kernel_rfl) (fun C ⟨h0,h1,_⟩ ⟨g0,_⟩ x=>(Awm Ac C x).trans (by rw[h0,h1,show C 1000042 Jw=Ia from g0];exact rfl))

theorem Ay6(L:Af)(C:Gi):∀ x,T0 L C (mkG Axh Al8 Afy false Ape Al1 [] (some (1000044,Su,Jx.ins)) Ahu) 1000044 f44 (f44.body.getD .skip) Jx Su x=Sk L (C 36 Av) (C 40 Bk) x.1 x.2.1:=by
 intro x;kernel_rfl
theorem Axx:VOK prog Su Jx H7 :=
 Biz tab [⟨36,Av,As⟩,⟨40,Bk,Ba⟩] (Ab B8 (Ab Eb Ae)) [] Afa Ahu (by kernel_rfl) (by kernel_rfl) (v:=1000044) func44 (by kernel_rfl) (by kernel_rfl) (by rfl) (by kernel_rfl) (fun C ⟨h0,h1,_⟩ _ x=>(Ay6 Ac C x).trans (by rw[h0,h1];exact rfl))

theorem Av5(L:Af)(C:Gi):∀ x,T0 L C (mkG Axh Al8 Afy false Ape Al1 [Amw] (some (2000044,O2,H4.ins)) Ahu) 2000044 f38 (f38.body.getD .skip) H4 O2 x=Oy L (C 36 Av) (C 103 C0) (C 1000044 Jx) x.1 x.2.1:=by
 intro x;kernel_rfl
theorem At8:VOK prog O2 H4 Gq :=
 Biz tab [⟨36,Av,As⟩,⟨103,C0,By⟩] (Ab B8 (Ab Kz Ae)) [⟨Amw,H7⟩] (Aeb Axx Afa) Ahu (by kernel_rfl) (by kernel_rfl) (v:=2000044) func38 (by kernel_rfl) (by kernel_rfl) (by rfl) (by kernel_rfl) (fun C ⟨h0,h1,_⟩ ⟨g0,_⟩ x=>(Av5 Ac C x).trans (by rw[h0,h1,show C 1000044 Jx=H7 from g0];exact rfl))

theorem Bc0(L:Af)(C:Gi):∀ x,Afk L C (mkG Axh Al8 Afy false Ape Al1 [Aht,Ahj,Ahi,Ahv] none Ahu) 13 f13 (f13.body.getD .skip) Jq x=Xz L (C 35 Aap) (C 36 Av) (C 37 Ov) (C 2000039 H8) (C 2000041 H5) (C 40 Bk) (C 2000042 Hz) (C 2000044 H4) (C 45 K0) (C 22 Fy) x.1:=by
 intro x;kernel_rfl
theorem Aoz:A7 prog 13 Jq Dk :=
 Coh tab [⟨35,Aap,Vh⟩,⟨36,Av,As⟩,⟨37,Ov,I2⟩,⟨40,Bk,Ba⟩,⟨45,K0,G5⟩,⟨22,Fy,Cc⟩] (Ab Bfw (Ab B8 (Ab Avj (Ab Eb (Ab Aqp (Ab Ym Ae)))))) [⟨Aht,Gp⟩,⟨Ahj,Gn⟩,⟨Ahi,Gm⟩,⟨Ahv,Gq⟩] (Aeb Au1 (Aeb Auj (Aeb Aua (Aeb At8 Afa)))) Ahu (by kernel_rfl) (by kernel_rfl) func13 (by kernel_rfl) (by kernel_rfl) (by rfl) (by kernel_rfl) (fun C ⟨h0,h1,h2,h3,h4,h5,_⟩ ⟨g0,g1,g2,g3,_⟩ x=>(Bc0 Ac C x).trans (by rw[h0,h1,h2,show C 2000039 H8=Gp from g0,show C 2000041 H5=Gn from g1,h3,show C 2000042 Hz=Gm from g2,show C 2000044 H4=Gq from g3,h4,h5];exact rfl))

theorem Bhv:A7 prog 83 Add X5 :=
 Bj [] Ae func83 (fun C _ x=>(show _=Ame Ac from by kernel_rfl).trans (by exact rfl))

theorem Bw2:A7 prog 174 Awj Ag5 :=
 Bj [] Ae func174 (fun C _ x=>(show _=Avx Ac x.1 x.2.1 x.2.2.1 from by kernel_rfl).trans (by exact rfl))

theorem Ao6:A7 prog 188 Nq G8 :=
 Bj [] Ae func188 (fun C _ x=>(show _=Ai8 Ac x.1 from by kernel_rfl).trans (by exact rfl))

theorem Bg8:A7 prog 175 Ac9 Re :=
 Bj [⟨188,Nq,G8⟩] (Ab Ao6 Ae) func175 (fun C ⟨h0,_⟩ x=>(show _=Adb Ac (C 188 Nq) x.1 x.2.1 from by kernel_rfl).trans (by rw[h0];exact rfl))

theorem Axw:A7 prog 121 Qe Ng :=
 Bj [⟨174,Awj,Ag5⟩,⟨175,Ac9,Re⟩] (Ab Bw2 (Ab Bg8 Ae)) func121 (fun C ⟨h0,h1,_⟩ x=>(show _=Qf Ac (C 174 Awj) (C 175 Ac9) x.1 from by kernel_rfl).trans (by rw[h0,h1];exact rfl))

theorem Tz:A7 prog 68 Fc C9 :=
 Bj [⟨121,Qe,Ng⟩] (Ab Axw Ae) func68 (fun C ⟨h0,_⟩ x=>(show _=Aja Ac (C 121 Qe) x.1 from by kernel_rfl).trans (by rw[h0];exact rfl))

theorem Afs:A7 prog 125 J0 En :=
 Bj [] Ae func125 (fun C _ x=>(show _=Aqx Ac x.1 from by kernel_rfl).trans (by exact rfl))

theorem Bd:A7 prog 76 Aj Ah :=
 Bj [⟨125,J0,En⟩] (Ab Afs Ae) func76 (fun C ⟨h0,_⟩ x=>(show _=U8 Ac (C 125 J0) x.1 from by kernel_rfl).trans (by rw[h0];exact rfl))

theorem C6:A7 prog 153 Bf A0 :=
 Bj [⟨76,Aj,Ah⟩] (Ab Bd Ae) func153 (fun C ⟨h0,_⟩ x=>(show _=Yk Ac (C 76 Aj) x.1 from by kernel_rfl).trans (by rw[h0];exact rfl))

theorem Lm:A7 prog 157 Dp Cg :=
 Bj [⟨125,J0,En⟩] (Ab Afs Ae) func157 (fun C ⟨h0,_⟩ x=>(show _=Awd Ac (C 125 J0) x.1 x.2.1 from by kernel_rfl).trans (by rw[h0];exact rfl))

theorem Qy:A7 prog 74 Ez Cv :=
 Bj [] Ae func74 (fun C _ x=>(show _=Av2 Ac x.1 x.2.1 from by kernel_rfl).trans (by exact rfl))

theorem Zf:A7 prog 184 Hp Do :=
 Bj [⟨125,J0,En⟩] (Ab Afs Ae) func184 (fun C ⟨h0,_⟩ x=>(show _=Aw1 Ac (C 125 J0) x.1 x.2.1 from by kernel_rfl).trans (by rw[h0];exact rfl))

theorem Cw:A7 prog 151 A9 Ax :=
 Bj [] Ae func151 (fun C _ x=>(show _=Aaw Ac x.1 from by kernel_rfl).trans (by exact rfl))

theorem Bb4:A7 prog 202 Abc Ob :=
 Bj [⟨153,Bf,A0⟩,⟨157,Dp,Cg⟩,⟨74,Ez,Cv⟩,⟨184,Hp,Do⟩,⟨151,A9,Ax⟩] (Ab C6 (Ab Lm (Ab Qy (Ab Zf (Ab Cw Ae))))) func202 (fun C ⟨h0,h1,h2,h3,h4,_⟩ x=>(show _=Ant Ac (C 153 Bf) (C 157 Dp) (C 74 Ez) (C 184 Hp) (C 151 A9) x.1 x.2.1 x.2.2.1 from by kernel_rfl).trans (by rw[h0,h1,h2,h3,h4];exact rfl))

theorem Bjn:A7 prog 216 Ago Td :=
 Bj [⟨202,Abc,Ob⟩] (Ab Bb4 Ae) func216 (fun C ⟨h0,_⟩ x=>(show _=Afq Ac (C 202 Abc) x.1 x.2.1 x.2.2.1 from by kernel_rfl).trans (by rw[h0];exact rfl))

theorem Bo7:A7 prog 220 Am7 Zi :=
 Bj [⟨125,J0,En⟩] (Ab Afs Ae) func220 (fun C ⟨h0,_⟩ x=>(show _=An1 Ac (C 125 J0) x.1 x.2.1 from by kernel_rfl).trans (by rw[h0];exact rfl))

theorem Ut:A7 prog 185 Gf Dq :=
 Bj [⟨220,Am7,Zi⟩,⟨125,J0,En⟩,⟨74,Ez,Cv⟩,⟨184,Hp,Do⟩] (Ab Bo7 (Ab Afs (Ab Qy (Ab Zf Ae)))) func185 (fun C ⟨h0,h1,h2,h3,_⟩ x=>(show _=Awr Ac (C 220 Am7) (C 125 J0) (C 74 Ez) (C 184 Hp) x.1 x.2.1 from by kernel_rfl).trans (by rw[h0,h1,h2,h3];exact rfl))

theorem Aks:A7 prog 152 Mm Hc :=
 Bj [⟨74,Ez,Cv⟩] (Ab Qy Ae) func152 (fun C ⟨h0,_⟩ x=>(show _=Aws Ac (C 74 Ez) x.1 x.2.1 from by kernel_rfl).trans (by rw[h0];exact rfl))

theorem Bed:A7 prog 177 Aa4 Ko :=
 Bj [⟨68,Fc,C9⟩,⟨216,Ago,Td⟩,⟨153,Bf,A0⟩,⟨157,Dp,Cg⟩,⟨185,Gf,Dq⟩,⟨152,Mm,Hc⟩,⟨151,A9,Ax⟩] (Ab Tz (Ab Bjn (Ab C6 (Ab Lm (Ab Ut (Ab Aks (Ab Cw Ae))))))) func177 (fun C ⟨h0,h1,h2,h3,h4,h5,h6,_⟩ x=>(show _=Aau Ac (C 68 Fc) (C 216 Ago) (C 153 Bf) (C 157 Dp) (C 185 Gf) (C 152 Mm) (C 151 A9) x.1 x.2.1 from by kernel_rfl).trans (by rw[h0,h1,h2,h3,h4,h5,h6];exact rfl))

theorem Eh:A7 prog 124 Bq Bh :=
 Bj [] Ae func124 (fun C _ x=>(show _=Aw0 Ac x.1 x.2.1 from by kernel_rfl).trans (by exact rfl))

theorem Bve:A7 prog 217 Avz Agq :=
 Bj [⟨153,Bf,A0⟩,⟨157,Dp,Cg⟩,⟨185,Gf,Dq⟩,⟨124,Bq,Bh⟩,⟨151,A9,Ax⟩] (Ab C6 (Ab Lm (Ab Ut (Ab Eh (Ab Cw Ae))))) func217 (fun C ⟨h0,h1,h2,h3,h4,_⟩ x=>(show _=Avr Ac (C 153 Bf) (C 157 Dp) (C 185 Gf) (C 124 Bq) (C 151 A9) x.1 x.2.1 from by kernel_rfl).trans (by rw[h0,h1,h2,h3,h4];exact rfl))

theorem Vl:A7 prog 146 Ga Ds :=
 Bj [] Ae func146 (fun C _ x=>(show _=Ars Ac x.1 from by kernel_rfl).trans (by exact rfl))

theorem Jz:A7 prog 201 C3 B5 :=
 Bj [⟨146,Ga,Ds⟩,⟨151,A9,Ax⟩] (Ab Vl (Ab Cw Ae)) func201 (fun C ⟨h0,h1,_⟩ x=>(show _=Af5 Ac (C 146 Ga) (C 151 A9) x.1 from by kernel_rfl).trans (by rw[h0,h1];exact rfl))

theorem Bpt:A7 prog 218 Ano Z5 :=
 Bj [⟨76,Aj,Ah⟩,⟨153,Bf,A0⟩,⟨157,Dp,Cg⟩,⟨185,Gf,Dq⟩,⟨201,C3,B5⟩] (Ab Bd (Ab C6 (Ab Lm (Ab Ut (Ab Jz Ae))))) func218 (fun C ⟨h0,h1,h2,h3,h4,_⟩ x=>(show _=Aoi Ac (C 76 Aj) (C 153 Bf) (C 157 Dp) (C 185 Gf) (C 201 C3) x.1 x.2.1 from by kernel_rfl).trans (by rw[h0,h1,h2,h3,h4];exact rfl))

theorem Bg9:A7 prog 178 Adr Rg :=
 Bj [⟨217,Avz,Agq⟩,⟨218,Ano,Z5⟩] (Ab Bve (Ab Bpt Ae)) func178 (fun C ⟨h0,h1,_⟩ x=>(show _=Adc Ac (C 217 Avz) (C 218 Ano) x.1 x.2.1 x.2.2.1 from by kernel_rfl).trans (by rw[h0,h1];exact rfl))

theorem Bfb:A7 prog 128 Aek Nn :=
 Bj [⟨177,Aa4,Ko⟩,⟨178,Adr,Rg⟩] (Ab Bed (Ab Bg9 Ae)) func128 (fun C ⟨h0,h1,_⟩ x=>(show _=Aq1 Ac (C 177 Aa4) (C 178 Adr) x.1 x.2.1 from by kernel_rfl).trans (by rw[h0,h1];exact rfl))

theorem Bgp:A7 prog 84 Acu Rd :=
 Bj [⟨128,Aek,Nn⟩] (Ab Bfb Ae) func84 (fun C ⟨h0,_⟩ x=>(show _=Ac1 Ac (C 128 Aek) x.1 from by kernel_rfl).trans (by rw[h0];exact rfl))

theorem Bif:A7 prog 85 Adh X9 :=
 Bj [] Ae func85 (fun C _ x=>(show _=Alz Ac from by kernel_rfl).trans (by exact rfl))

theorem Bti:A7 prog 86 Ar6 Ai6 :=
 Bj [] Ae func86 (fun C _ x=>(show _=Ay3 Ac from by kernel_rfl).trans (by exact rfl))

theorem Bs3:A7 prog 87 Arl Ajn :=
 Bj [] Ae func87 (fun C _ x=>(show _=Ayi Ac from by kernel_rfl).trans (by exact rfl))

theorem Btk:A7 prog 25 Ask Acc :=
 Bj [⟨83,Add,X5⟩,⟨84,Acu,Rd⟩,⟨85,Adh,X9⟩,⟨86,Ar6,Ai6⟩,⟨87,Arl,Ajn⟩] (Ab Bhv (Ab Bgp (Ab Bif (Ab Bti (Ab Bs3 Ae))))) func25 (fun C ⟨h0,h1,h2,h3,h4,_⟩ x=>(show _=Aq2 Ac (C 83 Add) (C 84 Acu) (C 85 Adh) (C 86 Ar6) (C 87 Arl) from by kernel_rfl).trans (by rw[h0,h1,h2,h3,h4];exact rfl))

theorem Bdc:A7 prog 26 Yh Mq :=
 Bj [] Ae func26 (fun C _ x=>(show _=Yb Ac from by kernel_rfl).trans (by exact rfl))

theorem Bci:A7 prog 88 Yr Jv :=
 Bj [] Ae func88 (fun C _ x=>(show _=Yf Ac x.1 from by kernel_rfl).trans (by exact rfl))

theorem Aqd:A7 prog 212 L1 Hj :=
 Bj [] Ae func212 (fun C _ x=>(show _=X8 Ac x.1 x.2.1 from by kernel_rfl).trans (by exact rfl))

theorem Mx:A7 prog 156 Di Cq :=
 Bj [⟨212,L1,Hj⟩] (Ab Aqd Ae) func156 (fun C ⟨h0,_⟩ x=>(show _=Vq Ac (C 212 L1) x.1 x.2.1 from by kernel_rfl).trans (by rw[h0];exact rfl))

theorem Be9:A7 prog 183 Aef Rj :=
 Bj [⟨76,Aj,Ah⟩,⟨184,Hp,Do⟩,⟨152,Mm,Hc⟩] (Ab Bd (Ab Zf (Ab Aks Ae))) func183 (fun C ⟨h0,h1,h2,_⟩ x=>(show _=Ar1 Ac (C 76 Aj) (C 184 Hp) (C 152 Mm) x.1 x.2.1 from by kernel_rfl).trans (by rw[h0,h1,h2];exact rfl))

theorem Bf8:A7 prog 179 Aak N3 :=
 Bj [⟨76,Aj,Ah⟩,⟨74,Ez,Cv⟩,⟨183,Aef,Rj⟩,⟨124,Bq,Bh⟩,⟨201,C3,B5⟩] (Ab Bd (Ab Qy (Ab Be9 (Ab Eh (Ab Jz Ae))))) func179 (fun C ⟨h0,h1,h2,h3,h4,_⟩ x=>(show _=Aa5 Ac (C 76 Aj) (C 74 Ez) (C 183 Aef) (C 124 Bq) (C 201 C3) x.1 x.2.1 from by kernel_rfl).trans (by rw[h0,h1,h2,h3,h4];exact rfl))

theorem Axt:A7 prog 180 Qb Jg :=
 Bj [] Ae func180 (fun C _ x=>(show _=Qo Ac x.1 x.2.1 from by kernel_rfl).trans (by exact rfl))

theorem Bjz:A7 prog 181 Ag0 Tf :=
 Bj [⟨153,Bf,A0⟩,⟨76,Aj,Ah⟩,⟨157,Dp,Cg⟩,⟨124,Bq,Bh⟩,⟨74,Ez,Cv⟩] (Ab C6 (Ab Bd (Ab Lm (Ab Eh (Ab Qy Ae))))) func181 (fun C ⟨h0,h1,h2,h3,h4,_⟩ x=>(show _=Agl Ac (C 153 Bf) (C 76 Aj) (C 157 Dp) (C 124 Bq) (C 74 Ez) x.1 x.2.1 x.2.2.1 from by kernel_rfl).trans (by rw[h0,h1,h2,h3,h4];exact rfl))

theorem Awa:A7 prog 129 Pa I0 :=
 Bj [⟨156,Di,Cq⟩,⟨179,Aak,N3⟩,⟨180,Qb,Jg⟩,⟨181,Ag0,Tf⟩] (Ab Mx (Ab Bf8 (Ab Axt (Ab Bjz Ae)))) func129 (fun C ⟨h0,h1,h2,h3,_⟩ x=>(show _=Pd Ac (C 156 Di) (C 179 Aak) (C 180 Qb) (C 181 Ag0) x.1 x.2.1 from by kernel_rfl).trans (by rw[h0,h1,h2,h3];exact rfl))

theorem Ig:A7 prog 69 Cn Bs :=
 Bj [] Ae func69 (fun C _ x=>(show _=Ajj Ac x.1 from by kernel_rfl).trans (by exact rfl))

theorem Bbm:A7 prog 244 Vk Lt :=
 Bj [] Ae func244 (fun C _ x=>(show _=Vp Ac x.1 x.2.1 x.2.2.1 from by kernel_rfl).trans (by exact rfl))

theorem Buc:A7 prog 242 Arz Aca :=
 Bj [⟨244,Vk,Lt⟩] (Ab Bbm Ae) func242 (fun C ⟨h0,_⟩ x=>(show _=Asd Ac (C 244 Vk) x.1 x.2.1 from by kernel_rfl).trans (by rw[h0];exact rfl))

theorem Bh0:A7 prog 243 Ac7 Qh :=
 Bj [] Ae func243 (fun C _ x=>(show _=Adq Ac x.1 x.2.1 from by kernel_rfl).trans (by exact rfl))

theorem Bh9:A7 prog 236 Adn Qd :=
 Bj [⟨242,Arz,Aca⟩,⟨243,Ac7,Qh⟩] (Ab Buc (Ab Bh0 Ae)) func236 (fun C ⟨h0,h1,_⟩ x=>(show _=Ac3 Ac (C 242 Arz) (C 243 Ac7) x.1 from by kernel_rfl).trans (by rw[h0,h1];exact rfl))

theorem Bly:A7 prog 219 Ajm Wc :=
 Bj [⟨236,Adn,Qd⟩] (Ab Bh9 Ae) func219 (fun C ⟨h0,_⟩ x=>(show _=Ajp Ac (C 236 Adn) x.1 x.2.1 x.2.2.1 from by kernel_rfl).trans (by rw[h0];exact rfl))

theorem Bt2:A7 prog 182 Arf Ab4 :=
 Bj [⟨68,Fc,C9⟩,⟨69,Cn,Bs⟩,⟨76,Aj,Ah⟩,⟨74,Ez,Cv⟩,⟨219,Ajm,Wc⟩,⟨153,Bf,A0⟩,⟨157,Dp,Cg⟩,⟨146,Ga,Ds⟩,⟨185,Gf,Dq⟩,⟨151,A9,Ax⟩] (Ab Tz (Ab Ig (Ab Bd (Ab Qy (Ab Bly (Ab C6 (Ab Lm (Ab Vl (Ab Ut (Ab Cw Ae)))))))))) func182 (fun C ⟨h0,h1,h2,h3,h4,h5,h6,h7,h8,h9,_⟩ x=>(show _=Arp Ac (C 68 Fc) (C 69 Cn) (C 76 Aj) (C 74 Ez) (C 219 Ajm) (C 153 Bf) (C 157 Dp) (C 146 Ga) (C 185 Gf) (C 151 A9) x.1 x.2.1 x.2.2.1 x.2.2.2.1 from by kernel_rfl).trans (by rw[h0,h1,h2,h3,h4,h5,h6,h7,h8,h9];exact rfl))

theorem Bg6:A7 prog 130 Acy Rf :=
 Bj [⟨182,Arf,Ab4⟩,⟨76,Aj,Ah⟩,⟨183,Aef,Rj⟩,⟨153,Bf,A0⟩,⟨157,Dp,Cg⟩,⟨152,Mm,Hc⟩,⟨184,Hp,Do⟩,⟨185,Gf,Dq⟩,⟨124,Bq,Bh⟩,⟨146,Ga,Ds⟩,⟨151,A9,Ax⟩] (Ab Bt2 (Ab Bd (Ab Be9 (Ab C6 (Ab Lm (Ab Aks (Ab Zf (Ab Ut (Ab Eh (Ab Vl (Ab Cw Ae))))))))))) func130 (fun C ⟨h0,h1,h2,h3,h4,h5,h6,h7,h8,h9,bq,_⟩ x=>(show _=Adi Ac (C 182 Arf) (C 76 Aj) (C 183 Aef) (C 153 Bf) (C 157 Dp) (C 152 Mm) (C 184 Hp) (C 185 Gf) (C 124 Bq) (C 146 Ga) (C 151 A9) x.1 x.2.1 x.2.2.1 x.2.2.2.1 from by kernel_rfl).trans (by rw[h0,h1,h2,h3,h4,h5,h6,h7,h8,h9,bq];exact rfl))

theorem Bac:A7 prog 176 S2 Kh :=
 Bj [⟨76,Aj,Ah⟩,⟨124,Bq,Bh⟩,⟨74,Ez,Cv⟩,⟨69,Cn,Bs⟩] (Ab Bd (Ab Eh (Ab Qy (Ab Ig Ae)))) func176 (fun C ⟨h0,h1,h2,h3,_⟩ x=>(show _=Sq Ac (C 76 Aj) (C 124 Bq) (C 74 Ez) (C 69 Cn) x.1 from by kernel_rfl).trans (by rw[h0,h1,h2,h3];exact rfl))

theorem Tx:A7 prog 122 Fb Dh :=
 Bj [⟨176,S2,Kh⟩] (Ab Bac Ae) func122 (fun C ⟨h0,_⟩ x=>(show _=Aj8 Ac (C 176 S2) x.1 from by kernel_rfl).trans (by rw[h0];exact rfl))

theorem Akb:A7 prog 123 K4 Ef :=
 Bj [⟨69,Cn,Bs⟩] (Ab Ig Ae) func123 (fun C ⟨h0,_⟩ x=>(show _=Ani Ac (C 69 Cn) x.1 from by kernel_rfl).trans (by rw[h0];exact rfl))

theorem Ao2:A7 prog 70 Nm G9 :=
 Bj [⟨122,Fb,Dh⟩,⟨123,K4,Ef⟩] (Ab Tx (Ab Akb Ae)) func70 (fun C ⟨h0,h1,_⟩ x=>(show _=Akj Ac (C 122 Fb) (C 123 K4) x.1 from by kernel_rfl).trans (by rw[h0,h1];exact rfl))

theorem Beo:A7 prog 131 Aas N7 :=
 Bj [⟨70,Nm,G9⟩] (Ab Ao2 Ae) func131 (fun C ⟨h0,_⟩ x=>(show _=Aal Ac (C 70 Nm) x.1 x.2.1 from by kernel_rfl).trans (by rw[h0];exact rfl))

theorem Zt:A7 prog 197 G7 Ec :=
 Bj [⟨76,Aj,Ah⟩,⟨74,Ez,Cv⟩,⟨184,Hp,Do⟩,⟨151,A9,Ax⟩] (Ab Bd (Ab Qy (Ab Zf (Ab Cw Ae)))) func197 (fun C ⟨h0,h1,h2,h3,_⟩ x=>(show _=Akn Ac (C 76 Aj) (C 74 Ez) (C 184 Hp) (C 151 A9) x.1 x.2.1 from by kernel_rfl).trans (by rw[h0,h1,h2,h3];exact rfl))

theorem Ab1:A7 prog 187 G2 Eg :=
 Bj [⟨212,L1,Hj⟩] (Ab Aqd Ae) func187 (fun C ⟨h0,_⟩ x=>(show _=Ve Ac (C 212 L1) x.1 x.2.1 from by kernel_rfl).trans (by rw[h0];exact rfl))

theorem Xe:A7 prog 186 Ff Ct :=
 Bj [⟨156,Di,Cq⟩,⟨197,G7,Ec⟩,⟨187,G2,Eg⟩] (Ab Mx (Ab Zt (Ab Ab1 Ae))) func186 (fun C ⟨h0,h1,h2,_⟩ x=>(show _=Ln Ac (C 156 Di) (C 197 G7) (C 187 G2) x.1 x.2.1 x.2.2.1 from by kernel_rfl).trans (by rw[h0,h1,h2];exact rfl))

theorem Ata:A7 prog 132 Mc Fk :=
 Bj [⟨186,Ff,Ct⟩,⟨76,Aj,Ah⟩,⟨124,Bq,Bh⟩,⟨151,A9,Ax⟩] (Ab Xe (Ab Bd (Ab Eh (Ab Cw Ae)))) func132 (fun C ⟨h0,h1,h2,h3,_⟩ x=>(show _=L6 Ac (C 186 Ff) (C 76 Aj) (C 124 Bq) (C 151 A9) x.1 x.2.1 x.2.2.1 x.2.2.2.1 from by kernel_rfl).trans (by rw[h0,h1,h2,h3];exact rfl))

theorem Ai1:A7 prog 133 Hs Dm :=
 Bj [⟨156,Di,Cq⟩,⟨187,G2,Eg⟩] (Ab Mx (Ab Ab1 Ae)) func133 (fun C ⟨h0,h1,_⟩ x=>(show _=Hv Ac (C 156 Di) (C 187 G2) x.1 x.2.1 from by kernel_rfl).trans (by rw[h0,h1];exact rfl))

theorem Bsg:A7 prog 134 Ar2 Ab9 :=
 Bj [⟨153,Bf,A0⟩,⟨124,Bq,Bh⟩,⟨151,A9,Ax⟩,⟨188,Nq,G8⟩] (Ab C6 (Ab Eh (Ab Cw (Ab Ao6 Ae)))) func134 (fun C ⟨h0,h1,h2,h3,_⟩ x=>(show _=Arg Ac (C 153 Bf) (C 124 Bq) (C 151 A9) (C 188 Nq) x.1 x.2.1 from by kernel_rfl).trans (by rw[h0,h1,h2,h3];exact rfl))

theorem Afo:A7 prog 189 Hy Ey :=
 Bj [⟨156,Di,Cq⟩,⟨76,Aj,Ah⟩,⟨124,Bq,Bh⟩,⟨151,A9,Ax⟩,⟨187,G2,Eg⟩] (Ab Mx (Ab Bd (Ab Eh (Ab Cw (Ab Ab1 Ae))))) func189 (fun C ⟨h0,h1,h2,h3,h4,_⟩ x=>(show _=O0 Ac (C 156 Di) (C 76 Aj) (C 124 Bq) (C 151 A9) (C 187 G2) x.1 x.2.1 x.2.2.1 from by kernel_rfl).trans (by rw[h0,h1,h2,h3,h4];exact rfl))

theorem Asw:A7 prog 135 L5 Fj :=
 Bj [⟨186,Ff,Ct⟩,⟨189,Hy,Ey⟩] (Ab Xe (Ab Afo Ae)) func135 (fun C ⟨h0,h1,_⟩ x=>(show _=Mf Ac (C 186 Ff) (C 189 Hy) x.1 x.2.1 x.2.2.1 x.2.2.2.1 from by kernel_rfl).trans (by rw[h0,h1];exact rfl))

theorem Asx:A7 prog 136 Lx Fh :=
 Bj [⟨186,Ff,Ct⟩] (Ab Xe Ae) func136 (fun C ⟨h0,_⟩ x=>(show _=Ly Ac (C 186 Ff) x.1 x.2.1 x.2.2.1 from by kernel_rfl).trans (by rw[h0];exact rfl))

theorem Boe:A7 prog 99 Ajl Wd :=
 Bj [] Ae func99 (fun C _ x=>(show _=Ajz Ac x.1 from by kernel_rfl).trans (by exact rfl))

theorem Ahl:A7 prog 31 Iw Fm :=
 Bj [⟨99,Ajl,Wd⟩] (Ab Boe Ae) func31 (fun C ⟨h0,_⟩ x=>(show _=Qz Ac (C 99 Ajl) x.1 x.2.1 from by kernel_rfl).trans (by rw[h0];exact rfl))

theorem Ayv:A7 prog 29 Sl Ki :=
 Bj [⟨31,Iw,Fm⟩] (Ab Ahl Ae) func29 (fun C ⟨h0,_⟩ x=>(show _=Sm Ac (C 31 Iw) x.1 x.2.1 from by kernel_rfl).trans (by rw[h0];exact rfl))

theorem Bj5:A7 prog 233 Afh Tw :=
 Bj [⟨29,Sl,Ki⟩,⟨31,Iw,Fm⟩] (Ab Ayv (Ab Ahl Ae)) func233 (fun C ⟨h0,h1,_⟩ x=>(show _=Agh Ac (C 29 Sl) (C 31 Iw) x.1 from by kernel_rfl).trans (by rw[h0,h1];exact rfl))

theorem Bo6:A7 prog 166 Aof Za :=
 Bj [] Ae func166 (fun C _ x=>(show _=An0 Ac from by kernel_rfl).trans (by exact rfl))

theorem Bpc:A7 prog 167 Am9 Dl :=
 Bj [] Ae func167 (fun C _ x=>(show _=Anr Ac x.1 x.2.1 from by kernel_rfl).trans (by exact rfl))

theorem Bo3:A7 prog 112 Ans Od :=
 Bj [⟨166,Aof,Za⟩,⟨167,Am9,Dl⟩] (Ab Bo6 (Ab Bpc Ae)) func112 (fun C ⟨h0,h1,_⟩ x=>(show _=Anw Ac (C 166 Aof) (C 167 Am9) x.1 x.2.1 from by kernel_rfl).trans (by rw[h0,h1];exact rfl))

theorem Az9:A7 prog 61 Zz M5 :=
 Bj [⟨112,Ans,Od⟩] (Ab Bo3 Ae) func61 (fun C ⟨h0,_⟩ x=>(show _=Awz Ac (C 112 Ans) x.1 from by kernel_rfl).trans (by rw[h0];exact rfl))

theorem Br4:A7 prog 232 Ar3 Acn :=
 Bj [⟨61,Zz,M5⟩] (Ab Az9 Ae) func232 (fun C ⟨h0,_⟩ x=>(show _=Aqw Ac (C 61 Zz) x.1 from by kernel_rfl).trans (by rw[h0];exact rfl))

theorem Bb3:A7 prog 208 Aam N0 :=
 Bj [⟨233,Afh,Tw⟩,⟨232,Ar3,Acn⟩] (Ab Bj5 (Ab Br4 Ae)) func208 (fun C ⟨h0,h1,_⟩ x=>(show _=Anl Ac (C 233 Afh) (C 232 Ar3) x.1 from by kernel_rfl).trans (by rw[h0,h1];exact rfl))

theorem Axc:A7 prog 211 Tn Ks :=
 Bj [⟨208,Aam,N0⟩] (Ab Bb3 Ae) func211 (fun C ⟨h0,_⟩ x=>(show _=Af9 Ac (C 208 Aam) x.1 x.2.1 from by kernel_rfl).trans (by rw[h0];exact rfl))

theorem Adw:A7 prog 234 Hq Ex :=
 Bj [] Ae func234 (fun C _ x=>(show _=Agf Ac x.1 from by kernel_rfl).trans (by exact rfl))

theorem Beb:A7 prog 237 Aew Ry :=
 Bj [⟨61,Zz,M5⟩] (Ab Az9 Ae) func237 (fun C ⟨h0,_⟩ x=>(show _=Az8 Ac (C 61 Zz) x.1 x.2.1 from by kernel_rfl).trans (by rw[h0];exact rfl))

theorem Bj4(n:Nat):A7 prog 221 Lb (Nt n):=by
 induction n with
 | zero=>exact Bha
 | succ n ih=>exact Bj [⟨61,Zz,M5⟩,⟨234,Hq,Ex⟩,⟨221,Lb,Nt n⟩,⟨237,Aew,Ry⟩] (Ab Az9 (Ab Adw (Ab ih (Ab Beb Ae)))) func221 (fun C ⟨h0,h1,h2,h3,_⟩ x=>(show _=As0 Ac (C 61 Zz) (C 234 Hq) (C 221 Lb) (C 237 Aew) x.1 from by kernel_rfl).trans (by rw[h0,h1,h2,h3];exact rfl))
theorem Azk:A7 prog 221 Lb Ml:=Bj4 Bkh

theorem Bpq:A7 prog 190 Ana Zr :=
 Bj [⟨211,Tn,Ks⟩,⟨221,Lb,Ml⟩] (Ab Axc (Ab Azk Ae)) func190 (fun C ⟨h0,h1,_⟩ x=>(show _=An8 Ac (C 211 Tn) (C 221 Lb) x.1 x.2.1 from by kernel_rfl).trans (by rw[h0,h1];exact rfl))

theorem Ahr:A7 prog 137 It Fq :=
 Bj [⟨190,Ana,Zr⟩] (Ab Bpq Ae) func137 (fun C ⟨h0,_⟩ x=>(show _=Qa Ac (C 190 Ana) x.1 x.2.1 x.2.2.1 from by kernel_rfl).trans (by rw[h0];exact rfl))

theorem Bbo:A7 prog 89 Vm Gz :=
 Bj [⟨129,Pa,I0⟩,⟨130,Acy,Rf⟩,⟨131,Aas,N7⟩,⟨132,Mc,Fk⟩,⟨133,Hs,Dm⟩,⟨134,Ar2,Ab9⟩,⟨135,L5,Fj⟩,⟨69,Cn,Bs⟩,⟨136,Lx,Fh⟩,⟨137,It,Fq⟩] (Ab Awa (Ab Bg6 (Ab Beo (Ab Ata (Ab Ai1 (Ab Bsg (Ab Asw (Ab Ig (Ab Asx (Ab Ahr Ae)))))))))) func89 (fun C ⟨h0,h1,h2,h3,h4,h5,h6,h7,h8,h9,_⟩ x=>(show _=Vn Ac (C 129 Pa) (C 130 Acy) (C 131 Aas) (C 132 Mc) (C 133 Hs) (C 134 Ar2) (C 135 L5) (C 69 Cn) (C 136 Lx) (C 137 It) x.1 x.2.1 from by kernel_rfl).trans (by rw[h0,h1,h2,h3,h4,h5,h6,h7,h8,h9];exact rfl))

theorem Ax3:A7 prog 139 Ql Ja :=
 Bj [] Ae func139 (fun C _ x=>(show _=Qc Ac x.1 x.2.1 from by kernel_rfl).trans (by exact rfl))

theorem Aj7:A7 prog 222 K6 G0 :=
 Bj [] Ae func222 (fun C _ x=>(show _=Am6 Ac x.1 x.2.1 from by kernel_rfl).trans (by exact rfl))

theorem Blc:A7 prog 223 Aj3 Wf :=
 Bj [] Ae func223 (fun C _ x=>(show _=Ako Ac x.1 from by kernel_rfl).trans (by exact rfl))

theorem Bod:A7 prog 191 Aj2 Vt :=
 Bj [⟨70,Nm,G9⟩,⟨68,Fc,C9⟩,⟨222,K6,G0⟩,⟨223,Aj3,Wf⟩] (Ab Ao2 (Ab Tz (Ab Aj7 (Ab Blc Ae)))) func191 (fun C ⟨h0,h1,h2,h3,_⟩ x=>(show _=Akk Ac (C 70 Nm) (C 68 Fc) (C 222 K6) (C 223 Aj3) x.1 x.2.1 x.2.2.1 x.2.2.2.1 from by kernel_rfl).trans (by rw[h0,h1,h2,h3];exact rfl))

theorem Be3:A7 prog 192 Aar Ny :=
 Bj [⟨153,Bf,A0⟩,⟨157,Dp,Cg⟩,⟨185,Gf,Dq⟩,⟨151,A9,Ax⟩] (Ab C6 (Ab Lm (Ab Ut (Ab Cw Ae)))) func192 (fun C ⟨h0,h1,h2,h3,_⟩ x=>(show _=Aax Ac (C 153 Bf) (C 157 Dp) (C 185 Gf) (C 151 A9) x.1 x.2.1 x.2.2.1 x.2.2.2.1 from by kernel_rfl).trans (by rw[h0,h1,h2,h3];exact rfl))

theorem Bl7:A7 prog 193 Ajh We :=
 Bj [⟨76,Aj,Ah⟩,⟨157,Dp,Cg⟩,⟨201,C3,B5⟩] (Ab Bd (Ab Lm (Ab Jz Ae))) func193 (fun C ⟨h0,h1,h2,_⟩ x=>(show _=Ajd Ac (C 76 Aj) (C 157 Dp) (C 201 C3) x.1 x.2.1 from by kernel_rfl).trans (by rw[h0,h1,h2];exact rfl))

theorem Bkg:A7 prog 194 Agy Fa :=
 Bj [⟨122,Fb,Dh⟩,⟨222,K6,G0⟩,⟨76,Aj,Ah⟩,⟨124,Bq,Bh⟩,⟨146,Ga,Ds⟩,⟨69,Cn,Bs⟩,⟨151,A9,Ax⟩] (Ab Tx (Ab Aj7 (Ab Bd (Ab Eh (Ab Vl (Ab Ig (Ab Cw Ae))))))) func194 (fun C ⟨h0,h1,h2,h3,h4,h5,h6,_⟩ x=>(show _=S5 Ac (C 122 Fb) (C 222 K6) (C 76 Aj) (C 124 Bq) (C 146 Ga) (C 69 Cn) (C 151 A9) x.1 x.2.1 x.2.2.1 x.2.2.2.1 x.2.2.2.2.1 from by kernel_rfl).trans (by rw[h0,h1,h2,h3,h4,h5,h6];exact rfl))

theorem Bji:A7 prog 224 Aha T7 :=
 Chq [] Ae func224 (fun C _ x=>(show _=Agc Ac x.1 from by kernel_rfl).trans (by exact rfl))

theorem Bow:A7 prog 195 Am8 Zn :=
 Bj [⟨122,Fb,Dh⟩,⟨224,Aha,T7⟩,⟨76,Aj,Ah⟩,⟨152,Mm,Hc⟩,⟨151,A9,Ax⟩,⟨184,Hp,Do⟩] (Ab Tx (Ab Bji (Ab Bd (Ab Aks (Ab Cw (Ab Zf Ae)))))) func195 (fun C ⟨h0,h1,h2,h3,h4,h5,_⟩ x=>(show _=An4 Ac (C 122 Fb) (C 224 Aha) (C 76 Aj) (C 152 Mm) (C 151 A9) (C 184 Hp) x.1 x.2.1 from by kernel_rfl).trans (by rw[h0,h1,h2,h3,h4,h5];exact rfl))

theorem Ao0:A7 prog 205 Np Ip :=
 Bj [⟨76,Aj,Ah⟩,⟨124,Bq,Bh⟩,⟨201,C3,B5⟩] (Ab Bd (Ab Eh (Ab Jz Ae))) func205 (fun C ⟨h0,h1,h2,_⟩ x=>(show _=Ajk Ac (C 76 Aj) (C 124 Bq) (C 201 C3) x.1 x.2.1 from by kernel_rfl).trans (by rw[h0,h1,h2];exact rfl))

theorem Bjj:A7 prog 225 Agx F6 :=
 Bj [⟨122,Fb,Dh⟩,⟨222,K6,G0⟩,⟨197,G7,Ec⟩,⟨205,Np,Ip⟩,⟨69,Cn,Bs⟩] (Ab Tx (Ab Aj7 (Ab Zt (Ab Ao0 (Ab Ig Ae))))) func225 (fun C ⟨h0,h1,h2,h3,h4,_⟩ x=>(show _=Lu Ac (C 122 Fb) (C 222 K6) (C 197 G7) (C 205 Np) (C 69 Cn) x.1 x.2.1 x.2.2.1 from by kernel_rfl).trans (by rw[h0,h1,h2,h3,h4];exact rfl))

theorem Bmr:A7 prog 196 Ajg Vv :=
 Bj [⟨225,Agx,F6⟩] (Ab Bjj Ae) func196 (fun C ⟨h0,_⟩ x=>(show _=Akh Ac (C 225 Agx) x.1 x.2.1 from by kernel_rfl).trans (by rw[h0];exact rfl))

theorem Bfn:A7 prog 140 Aev Rm :=
 Bj [⟨76,Aj,Ah⟩,⟨124,Bq,Bh⟩,⟨201,C3,B5⟩] (Ab Bd (Ab Eh (Ab Jz Ae))) func140 (fun C ⟨h0,h1,h2,_⟩ x=>(show _=Arm Ac (C 76 Aj) (C 124 Bq) (C 201 C3) x.1 from by kernel_rfl).trans (by rw[h0,h1,h2];exact rfl))

theorem Bei:A7 prog 198 Aan On :=
 Bj [⟨122,Fb,Dh⟩,⟨76,Aj,Ah⟩,⟨124,Bq,Bh⟩,⟨201,C3,B5⟩] (Ab Tx (Ab Bd (Ab Eh (Ab Jz Ae)))) func198 (fun C ⟨h0,h1,h2,h3,_⟩ x=>(show _=Abb Ac (C 122 Fb) (C 76 Aj) (C 124 Bq) (C 201 C3) x.1 from by kernel_rfl).trans (by rw[h0,h1,h2,h3];exact rfl))

theorem U9:A7 prog 228 Gc Dr :=
 Bj [] Ae func228 (fun C _ x=>(show _=Arn Ac x.1 x.2.1 from by kernel_rfl).trans (by exact rfl))

theorem Aze:A7 prog 227 Z0 M4 :=
 Bj [⟨124,Bq,Bh⟩,⟨228,Gc,Dr⟩,⟨74,Ez,Cv⟩,⟨184,Hp,Do⟩] (Ab Eh (Ab U9 (Ab Qy (Ab Zf Ae)))) func227 (fun C ⟨h0,h1,h2,h3,_⟩ x=>(show _=Avq Ac (C 124 Bq) (C 228 Gc) (C 74 Ez) (C 184 Hp) x.1 x.2.1 from by kernel_rfl).trans (by rw[h0,h1,h2,h3];exact rfl))

theorem Axi:A7 prog 226 To Kp :=
 Bj [⟨201,C3,B5⟩] (Ab Jz Ae) func226 (fun C ⟨h0,_⟩ x=>(show _=Afe Ac (C 201 C3) x.1 from by kernel_rfl).trans (by rw[h0];exact rfl))

theorem Bsx:A7 prog 199 Asj Ab5 :=
 Bj [⟨76,Aj,Ah⟩,⟨228,Gc,Dr⟩,⟨227,Z0,M4⟩,⟨226,To,Kp⟩] (Ab Bd (Ab U9 (Ab Aze (Ab Axi Ae)))) func199 (fun C ⟨h0,h1,h2,h3,_⟩ x=>(show _=Aqy Ac (C 76 Aj) (C 228 Gc) (C 227 Z0) (C 226 To) x.1 x.2.1 from by kernel_rfl).trans (by rw[h0,h1,h2,h3];exact rfl))

theorem Apl:A7 prog 240 Me Hm :=
 Bj [⟨76,Aj,Ah⟩,⟨228,Gc,Dr⟩] (Ab Bd (Ab U9 Ae)) func240 (fun C ⟨h0,h1,_⟩ x=>(show _=Xx Ac (C 76 Aj) (C 228 Gc) x.1 from by kernel_rfl).trans (by rw[h0,h1];exact rfl))

theorem Bn9:A7 prog 239 Ajc Vu :=
 Bj [⟨228,Gc,Dr⟩] (Ab U9 Ae) func239 (fun C ⟨h0,_⟩ x=>(show _=Aj4 Ac (C 228 Gc) x.1 from by kernel_rfl).trans (by rw[h0];exact rfl))

theorem Bg3:A7 prog 238 Adp Qk :=
 Bj [⟨185,Gf,Dq⟩,⟨153,Bf,A0⟩,⟨124,Bq,Bh⟩,⟨228,Gc,Dr⟩] (Ab Ut (Ab C6 (Ab Eh (Ab U9 Ae)))) func238 (fun C ⟨h0,h1,h2,h3,_⟩ x=>(show _=Acx Ac (C 185 Gf) (C 153 Bf) (C 124 Bq) (C 228 Gc) x.1 x.2.1 from by kernel_rfl).trans (by rw[h0,h1,h2,h3];exact rfl))

theorem Bwc:A7 prog 241 Avn Ags :=
 Bj [⟨157,Dp,Cg⟩,⟨228,Gc,Dr⟩] (Ab Lm (Ab U9 Ae)) func241 (fun C ⟨h0,h1,_⟩ x=>(show _=Awh Ac (C 157 Dp) (C 228 Gc) x.1 x.2.1 from by kernel_rfl).trans (by rw[h0,h1];exact rfl))

theorem Bnn:A7 prog 229 Ajo Vy :=
 Bj [⟨68,Fc,C9⟩,⟨123,K4,Ef⟩,⟨240,Me,Hm⟩,⟨239,Ajc,Vu⟩,⟨153,Bf,A0⟩,⟨238,Adp,Qk⟩,⟨227,Z0,M4⟩,⟨241,Avn,Ags⟩,⟨146,Ga,Ds⟩,⟨185,Gf,Dq⟩,⟨124,Bq,Bh⟩,⟨226,To,Kp⟩] (Ab Tz (Ab Akb (Ab Apl (Ab Bn9 (Ab C6 (Ab Bg3 (Ab Aze (Ab Bwc (Ab Vl (Ab Ut (Ab Eh (Ab Axi Ae)))))))))))) func229 (fun C ⟨h0,h1,h2,h3,h4,h5,h6,h7,h8,h9,bq,pc,_⟩ x=>(show _=Ajy Ac (C 68 Fc) (C 123 K4) (C 240 Me) (C 239 Ajc) (C 153 Bf) (C 238 Adp) (C 227 Z0) (C 241 Avn) (C 146 Ga) (C 185 Gf) (C 124 Bq) (C 226 To) x.1 x.2.1 x.2.2.1 x.2.2.2.1 from by kernel_rfl).trans (by rw[h0,h1,h2,h3,h4,h5,h6,h7,h8,h9,bq,pc];exact rfl))

theorem Bd2:A7 prog 230 X7 Mt :=
 Bj [⟨123,K4,Ef⟩,⟨76,Aj,Ah⟩,⟨228,Gc,Dr⟩,⟨240,Me,Hm⟩,⟨227,Z0,M4⟩,⟨201,C3,B5⟩] (Ab Akb (Ab Bd (Ab U9 (Ab Apl (Ab Aze (Ab Jz Ae)))))) func230 (fun C ⟨h0,h1,h2,h3,h4,h5,_⟩ x=>(show _=Ye Ac (C 123 K4) (C 76 Aj) (C 228 Gc) (C 240 Me) (C 227 Z0) (C 201 C3) x.1 x.2.1 from by kernel_rfl).trans (by rw[h0,h1,h2,h3,h4,h5];exact rfl))

theorem Bpe:A7 prog 200 Aoh Yz :=
 Bj [⟨68,Fc,C9⟩,⟨123,K4,Ef⟩,⟨229,Ajo,Vy⟩,⟨230,X7,Mt⟩] (Ab Tz (Ab Akb (Ab Bnn (Ab Bd2 Ae)))) func200 (fun C ⟨h0,h1,h2,h3,_⟩ x=>(show _=Anq Ac (C 68 Fc) (C 123 K4) (C 229 Ajo) (C 230 X7) x.1 x.2.1 x.2.2.1 x.2.2.2.1 x.2.2.2.2.1 from by kernel_rfl).trans (by rw[h0,h1,h2,h3];exact rfl))

theorem Bj8:A7 prog 138 Agb Tu :=
 Bj [⟨191,Aj2,Vt⟩,⟨192,Aar,Ny⟩,⟨193,Ajh,We⟩,⟨194,Agy,Fa⟩,⟨195,Am8,Zn⟩,⟨196,Ajg,Vv⟩,⟨140,Aev,Rm⟩,⟨197,G7,Ec⟩,⟨198,Aan,On⟩,⟨199,Asj,Ab5⟩,⟨200,Aoh,Yz⟩] (Ab Bod (Ab Be3 (Ab Bl7 (Ab Bkg (Ab Bow (Ab Bmr (Ab Bfn (Ab Zt (Ab Bei (Ab Bsx (Ab Bpe Ae))))))))))) func138 (fun C ⟨h0,h1,h2,h3,h4,h5,h6,h7,h8,h9,bq,_⟩ x=>(show _=Agr Ac (C 191 Aj2) (C 192 Aar) (C 193 Ajh) (C 194 Agy) (C 195 Am8) (C 196 Ajg) (C 140 Aev) (C 197 G7) (C 198 Aan) (C 199 Asj) (C 200 Aoh) x.1 x.2.1 x.2.2.1 x.2.2.2.1 x.2.2.2.2.1 from by kernel_rfl).trans (by rw[h0,h1,h2,h3,h4,h5,h6,h7,h8,h9,bq];exact rfl))

theorem Alb:A7 prog 141 In Dx :=
 Bj [⟨197,G7,Ec⟩] (Ab Zt Ae) func141 (fun C ⟨h0,_⟩ x=>(show _=Im Ac (C 197 G7) x.1 x.2.1 x.2.2.1 from by kernel_rfl).trans (by rw[h0];exact rfl))

theorem Auh:A7 prog 90 Nb Er :=
 Bj [⟨139,Ql,Ja⟩,⟨138,Agb,Tu⟩,⟨140,Aev,Rm⟩,⟨141,In,Dx⟩,⟨137,It,Fq⟩] (Ab Ax3 (Ab Bj8 (Ab Bfn (Ab Alb (Ab Ahr Ae))))) func90 (fun C ⟨h0,h1,h2,h3,h4,_⟩ x=>(show _=M9 Ac (C 139 Ql) (C 138 Agb) (C 140 Aev) (C 141 In) (C 137 It) x.1 x.2.1 from by kernel_rfl).trans (by rw[h0,h1,h2,h3,h4];exact rfl))

theorem Blb:A7 prog 142 Aj1 Wa :=
 Bj [⟨202,Abc,Ob⟩] (Ab Bb4 Ae) func142 (fun C ⟨h0,_⟩ x=>(show _=Ai7 Ac (C 202 Abc) x.1 x.2.1 x.2.2.1 from by kernel_rfl).trans (by rw[h0];exact rfl))

theorem Box:A7 prog 143 Anu Z3 :=
 Bj [⟨128,Aek,Nn⟩] (Ab Bfb Ae) func143 (fun C ⟨h0,_⟩ x=>(show _=Aod Ac (C 128 Aek) x.1 x.2.1 x.2.2.1 x.2.2.2.1 from by kernel_rfl).trans (by rw[h0];exact rfl))

theorem Btc:A7 prog 203 Arx Aje :=
 Bj [] Ae func203 (fun C _ x=>(show _=Aq6 Ac x.1 from by kernel_rfl).trans (by exact rfl))

theorem Bsa:A7 prog 144 Ard Acj :=
 Bj [⟨68,Fc,C9⟩,⟨203,Arx,Aje⟩,⟨188,Nq,G8⟩] (Ab Tz (Ab Btc (Ab Ao6 Ae))) func144 (fun C ⟨h0,h1,h2,_⟩ x=>(show _=Asf Ac (C 68 Fc) (C 203 Arx) (C 188 Nq) x.1 x.2.1 x.2.2.1 from by kernel_rfl).trans (by rw[h0,h1,h2];exact rfl))

theorem Bt4:A7 prog 204 Arv Acd :=
 Bj [⟨122,Fb,Dh⟩,⟨222,K6,G0⟩] (Ab Tx (Ab Aj7 Ae)) func204 (fun C ⟨h0,h1,_⟩ x=>(show _=Ase Ac (C 122 Fb) (C 222 K6) x.1 x.2.1 from by kernel_rfl).trans (by rw[h0,h1];exact rfl))

theorem Bcm:A7 prog 145 Yl My :=
 Bj [⟨70,Nm,G9⟩,⟨204,Arv,Acd⟩] (Ab Ao2 (Ab Bt4 Ae)) func145 (fun C ⟨h0,h1,_⟩ x=>(show _=X0 Ac (C 70 Nm) (C 204 Arv) x.1 x.2.1 from by kernel_rfl).trans (by rw[h0,h1];exact rfl))

theorem At1:A7 prog 147 Nh Ie :=
 Bj [⟨69,Cn,Bs⟩,⟨205,Np,Ip⟩] (Ab Ig (Ab Ao0 Ae)) func147 (fun C ⟨h0,h1,_⟩ x=>(show _=Nd Ac (C 69 Cn) (C 205 Np) x.1 x.2.1 from by kernel_rfl).trans (by rw[h0,h1];exact rfl))

theorem Avp:A7 prog 206 O7 Gr :=
 Bj [⟨76,Aj,Ah⟩,⟨124,Bq,Bh⟩] (Ab Bd (Ab Eh Ae)) func206 (fun C ⟨h0,h1,_⟩ x=>(show _=Pe Ac (C 76 Aj) (C 124 Bq) x.1 from by kernel_rfl).trans (by rw[h0,h1];exact rfl))

theorem Ays:A7 prog 148 S4 H9 :=
 Bj [⟨206,O7,Gr⟩,⟨76,Aj,Ah⟩,⟨124,Bq,Bh⟩,⟨146,Ga,Ds⟩,⟨189,Hy,Ey⟩] (Ab Avp (Ab Bd (Ab Eh (Ab Vl (Ab Afo Ae))))) func148 (fun C ⟨h0,h1,h2,h3,h4,_⟩ x=>(show _=Sg Ac (C 206 O7) (C 76 Aj) (C 124 Bq) (C 146 Ga) (C 189 Hy) x.1 x.2.1 x.2.2.1 from by kernel_rfl).trans (by rw[h0,h1,h2,h3,h4];exact rfl))

theorem Aec:A7 prog 34 Hb Eo :=
 Bj [] Ae func34 (fun C _ x=>(show _=Nj Ac x.1 x.2.1 from by kernel_rfl).trans (by exact rfl))

theorem Bw9(n:Nat):A7 prog 231 Ah7 (Aa1 n):=by
 induction n with
 | zero=>exact Bha
 | succ n ih=>exact Bj [⟨234,Hq,Ex⟩,⟨231,Ah7,Aa1 n⟩,⟨237,Aew,Ry⟩] (Ab Adw (Ab ih (Ab Beb Ae))) func231 (fun C ⟨h0,h1,h2,_⟩ x=>(show _=Bih Ac (C 234 Hq) (C 231 Ah7) (C 237 Aew) x.1 x.2.1 x.2.2.1 x.2.2.2.1 from by kernel_rfl).trans (by rw[h0,h1,h2];exact rfl))
theorem Caa:A7 prog 231 Ah7 Alg:=Bw9 Bkh

theorem Bnx:A7 prog 207 Ajb Pw :=
 Bj [⟨231,Ah7,Alg⟩] (Ab Caa Ae) func207 (fun C ⟨h0,_⟩ x=>(show _=Ajx Ac (C 231 Ah7) x.1 x.2.1 x.2.2.1 x.2.2.2.1 x.2.2.2.2.1 from by kernel_rfl).trans (by rw[h0];exact rfl))

theorem Aqh:A7 prog 209 K2 Gw :=
 Bj [] Ae func209 (fun C _ x=>(show _=K3 Ac x.1 x.2.1 from by kernel_rfl).trans (by exact rfl))

theorem Ax5:A7 prog 149 Qt Jm :=
 Bj [⟨69,Cn,Bs⟩,⟨34,Hb,Eo⟩,⟨208,Aam,N0⟩,⟨207,Ajb,Pw⟩,⟨197,G7,Ec⟩,⟨209,K2,Gw⟩,⟨205,Np,Ip⟩] (Ab Ig (Ab Aec (Ab Bb3 (Ab Bnx (Ab Zt (Ab Aqh (Ab Ao0 Ae))))))) func149 (fun C ⟨h0,h1,h2,h3,h4,h5,h6,_⟩ x=>(show _=Q9 Ac (C 69 Cn) (C 34 Hb) (C 208 Aam) (C 207 Ajb) (C 197 G7) (C 209 K2) (C 205 Np) x.1 x.2.1 from by kernel_rfl).trans (by rw[h0,h1,h2,h3,h4,h5,h6];exact rfl))

theorem Awe:A7 prog 91 O6 E9 :=
 Bj [⟨142,Aj1,Wa⟩,⟨143,Anu,Z3⟩,⟨144,Ard,Acj⟩,⟨145,Yl,My⟩,⟨69,Cn,Bs⟩,⟨76,Aj,Ah⟩,⟨124,Bq,Bh⟩,⟨146,Ga,Ds⟩,⟨147,Nh,Ie⟩,⟨148,S4,H9⟩,⟨149,Qt,Jm⟩] (Ab Blb (Ab Box (Ab Bsa (Ab Bcm (Ab Ig (Ab Bd (Ab Eh (Ab Vl (Ab At1 (Ab Ays (Ab Ax5 Ae))))))))))) func91 (fun C ⟨h0,h1,h2,h3,h4,h5,h6,h7,h8,h9,bq,_⟩ x=>(show _=Ox Ac (C 142 Aj1) (C 143 Anu) (C 144 Ard) (C 145 Yl) (C 69 Cn) (C 76 Aj) (C 124 Bq) (C 146 Ga) (C 147 Nh) (C 148 S4) (C 149 Qt) x.1 x.2.1 from by kernel_rfl).trans (by rw[h0,h1,h2,h3,h4,h5,h6,h7,h8,h9,bq];exact rfl))

theorem Asq:A7 prog 27 L0 Fi :=
 Bj [⟨88,Yr,Jv⟩,⟨89,Vm,Gz⟩,⟨90,Nb,Er⟩,⟨91,O6,E9⟩] (Ab Bci (Ab Bbo (Ab Auh (Ab Awe Ae)))) func27 (fun C ⟨h0,h1,h2,h3,_⟩ x=>(show _=L2 Ac (C 88 Yr) (C 89 Vm) (C 90 Nb) (C 91 O6) x.1 x.2.1 from by kernel_rfl).trans (by rw[h0,h1,h2,h3];exact rfl))

theorem Azu:A7 prog 12 Zw M7 :=
 Bj [] Ae func12 (fun C _ x=>(show _=Awt Ac x.1 x.2.1 from by kernel_rfl).trans (by exact rfl))

theorem Bj3:A7 prog 92 Agd Kw :=
 Bj [] Ae func92 (fun C _ x=>(show _=Af7 Ac x.1 x.2.1 x.2.2.1 from by kernel_rfl).trans (by exact rfl))

theorem Bn6:A7 prog 93 Ajf Mo :=
 Bj [] Ae func93 (fun C _ x=>(show _=Ai5 Ac x.1 x.2.1 from by kernel_rfl).trans (by exact rfl))

theorem Bpn:A7 prog 94 An5 N8 :=
 Bj [] Ae func94 (fun C _ x=>(show _=Anb Ac x.1 from by kernel_rfl).trans (by exact rfl))

theorem Bk7(n:Nat):A7 prog 210 U6 (Pv n):=by
 induction n with
 | zero=>exact Bha
 | succ n ih=>exact Bj [⟨234,Hq,Ex⟩,⟨210,U6,Pv n⟩,⟨221,Lb,Ml⟩] (Ab Adw (Ab ih (Ab Azk Ae))) func210 (fun C ⟨h0,h1,h2,_⟩ x=>(show _=Avh Ac (C 234 Hq) (C 210 U6) (C 221 Lb) x.1 x.2.1 from by kernel_rfl).trans (by rw[h0,h1,h2];exact rfl))
theorem Bps:A7 prog 210 U6 Zu:=Bk7 Bkh

theorem Bn8:A7 prog 150 Aj5 Wj :=
 Bj [⟨211,Tn,Ks⟩,⟨210,U6,Zu⟩] (Ab Axc (Ab Bps Ae)) func150 (fun C ⟨h0,h1,_⟩ x=>(show _=Akp Ac (C 211 Tn) (C 210 U6) x.1 x.2.1 x.2.2.1 from by kernel_rfl).trans (by rw[h0,h1];exact rfl))

theorem Bad:A7 prog 154 Wq Mg :=
 Bj [] Ae func154 (fun C _ x=>(show _=Aju Ac from by kernel_rfl).trans (by exact rfl))

theorem Bk8:A7 prog 155 Ajr Vr :=
 Bj [] Ae func155 (fun C _ x=>(show _=Akm Ac x.1 from by kernel_rfl).trans (by exact rfl))

theorem Bpv:A7 prog 95 Aoc Oi :=
 Bj [⟨150,Aj5,Wj⟩,⟨76,Aj,Ah⟩,⟨153,Bf,A0⟩,⟨124,Bq,Bh⟩,⟨154,Wq,Mg⟩,⟨152,Mm,Hc⟩,⟨151,A9,Ax⟩,⟨155,Ajr,Vr⟩] (Ab Bn8 (Ab Bd (Ab C6 (Ab Eh (Ab Bad (Ab Aks (Ab Cw (Ab Bk8 Ae)))))))) func95 (fun C ⟨h0,h1,h2,h3,h4,h5,h6,h7,_⟩ x=>(show _=An7 Ac (C 150 Aj5) (C 76 Aj) (C 153 Bf) (C 124 Bq) (C 154 Wq) (C 152 Mm) (C 151 A9) (C 155 Ajr) x.1 x.2.1 from by kernel_rfl).trans (by rw[h0,h1,h2,h3,h4,h5,h6,h7];exact rfl))

theorem Aux:A7 prog 158 Na If :=
 Bj [⟨12,Zw,M7⟩] (Ab Azu Ae) func158 (fun C ⟨h0,_⟩ x=>(show _=M8 Ac (C 12 Zw) x.1 from by kernel_rfl).trans (by rw[h0];exact rfl))

theorem Bbn:A7 prog 96 Vd Gx :=
 Bj [⟨156,Di,Cq⟩,⟨76,Aj,Ah⟩,⟨153,Bf,A0⟩,⟨157,Dp,Cg⟩,⟨151,A9,Ax⟩,⟨158,Na,If⟩,⟨154,Wq,Mg⟩] (Ab Mx (Ab Bd (Ab C6 (Ab Lm (Ab Cw (Ab Aux (Ab Bad Ae))))))) func96 (fun C ⟨h0,h1,h2,h3,h4,h5,h6,_⟩ x=>(show _=Uu Ac (C 156 Di) (C 76 Aj) (C 153 Bf) (C 157 Dp) (C 151 A9) (C 158 Na) (C 154 Wq) x.1 x.2.1 x.2.2.1 from by kernel_rfl).trans (by rw[h0,h1,h2,h3,h4,h5,h6];exact rfl))

theorem Bgj:A7 prog 28 Adk Mb :=
 Bj [⟨12,Zw,M7⟩,⟨92,Agd,Kw⟩,⟨93,Ajf,Mo⟩,⟨94,An5,N8⟩,⟨95,Aoc,Oi⟩,⟨96,Vd,Gx⟩] (Ab Azu (Ab Bj3 (Ab Bn6 (Ab Bpn (Ab Bpv (Ab Bbn Ae)))))) func28 (fun C ⟨h0,h1,h2,h3,h4,h5,_⟩ x=>(show _=Ac6 Ac (C 12 Zw) (C 92 Agd) (C 93 Ajf) (C 94 An5) (C 95 Aoc) (C 96 Vd) x.1 x.2.1 x.2.2.1 from by kernel_rfl).trans (by rw[h0,h1,h2,h3,h4,h5];exact rfl))

theorem Auu:A7 prog 9 Px Jb :=
 Bj [⟨25,Ask,Acc⟩,⟨26,Yh,Mq⟩,⟨27,L0,Fi⟩,⟨28,Adk,Mb⟩] (Ab Btk (Ab Bdc (Ab Asq (Ab Bgj Ae)))) func9 (fun C ⟨h0,h1,h2,h3,_⟩ x=>(show _=Ac8 Ac (C 25 Ask) (C 26 Yh) (C 27 L0) (C 28 Adk) x.1 x.2.1 from by kernel_rfl).trans (by rw[h0,h1,h2,h3];exact rfl))

theorem As1:A7 prog 32 L9 He :=
 Chq [⟨69,Cn,Bs⟩] (Ab Ig Ae) func32 (fun C ⟨h0,_⟩ x=>(show _=Lw Ac (C 69 Cn) x.1 from by kernel_rfl).trans (by rw[h0];exact rfl))

theorem Aor:A7 prog 33 J4 Gg :=
 Chq [] Ae func33 (fun C _ x=>(show _=J7 Ac x.1 from by kernel_rfl).trans (by exact rfl))

theorem Agj:A7 prog 11 H0 E6 :=
 Bj [⟨32,L9,He⟩,⟨33,J4,Gg⟩,⟨34,Hb,Eo⟩] (Ab As1 (Ab Aor (Ab Aec Ae))) func11 (fun C ⟨h0,h1,h2,_⟩ x=>(show _=O5 Ac (C 32 L9) (C 33 J4) (C 34 Hb) x.1 from by kernel_rfl).trans (by rw[h0,h1,h2];exact rfl))

theorem Blw:A7 prog 8 Ajq Pu :=
 Bj [⟨13,Jq,Dk⟩,⟨9,Px,Jb⟩,⟨22,Fy,Cc⟩,⟨11,H0,E6⟩] (Ab Aoz (Ab Auu (Ab Ym (Ab Agj Ae)))) func8 (fun C ⟨h0,h1,h2,h3,_⟩ x=>(show _=As6 Ac (C 13 Jq) (C 9 Px) (C 22 Fy) (C 11 H0) from by kernel_rfl).trans (by rw[h0,h1,h2,h3];exact rfl))

theorem Azw:A7 prog 108 Sv Ke :=
 Bj [] Ae func108 (fun C _ x=>(show _=Aby Ac x.1 x.2.1 from by kernel_rfl).trans (by exact rfl))

theorem Bbt:A7 prog 52 Vi Ll :=
 Bj [⟨108,Sv,Ke⟩] (Ab Azw Ae) func52 (fun C ⟨h0,_⟩ x=>(show _=Ad4 Ac (C 108 Sv) x.1 x.2.1 from by kernel_rfl).trans (by rw[h0];exact rfl))

theorem Axq:A7 prog 53 Qx Jk :=
 Bj [] Ae func53 (fun C _ x=>(show _=Zv Ac x.1 x.2.1 from by kernel_rfl).trans (by exact rfl))

theorem Axo:A7 prog 54 Qv Jl :=
 Bj [] Ae func54 (fun C _ x=>(show _=Aac Ac x.1 x.2.1 from by kernel_rfl).trans (by exact rfl))

theorem Bcw:A7 prog 55 X3 Mu :=
 Bj [] Ae func55 (fun C _ x=>(show _=Afr Ac x.1 x.2.1 from by kernel_rfl).trans (by exact rfl))

theorem Axr:A7 prog 56 Ri I8 :=
 Bj [] Ae func56 (fun C _ x=>(show _=Yx Ac x.1 x.2.1 from by kernel_rfl).trans (by exact rfl))

theorem Bcu:A7 prog 15 Yi Ho :=
 Bj [⟨52,Vi,Ll⟩,⟨53,Qx,Jk⟩,⟨54,Qv,Jl⟩,⟨55,X3,Mu⟩,⟨56,Ri,I8⟩] (Ab Bbt (Ab Axq (Ab Axo (Ab Bcw (Ab Axr Ae))))) func15 (fun C ⟨h0,h1,h2,h3,h4,_⟩ x=>(show _=Agp Ac (C 52 Vi) (C 53 Qx) (C 54 Qv) (C 55 X3) (C 56 Ri) x.1 x.2.1 from by kernel_rfl).trans (by rw[h0,h1,h2,h3,h4];exact rfl))

theorem Bcg:A7 prog 235 Yc Mr :=
 Bj [] Ae func235 (fun C _ x=>(show _=Agk Ac x.1 from by kernel_rfl).trans (by exact rfl))

theorem Bf7:A7 prog 213 Aaq Oa :=
 Bj [⟨235,Yc,Mr⟩] (Ab Bcg Ae) func213 (fun C ⟨h0,_⟩ x=>(show _=Aiy Ac (C 235 Yc) x.1 from by kernel_rfl).trans (by rw[h0];exact rfl))

theorem Bae:A7 prog 165 Ws Mk :=
 Bj [⟨213,Aaq,Oa⟩] (Ab Bf7 Ae) func165 (fun C ⟨h0,_⟩ x=>(show _=Atv Ac (C 213 Aaq) x.1 from by kernel_rfl).trans (by rw[h0];exact rfl))

theorem Ast:A7 prog 126 L4 Hi :=
 Chq [] Ae func126 (fun C _ x=>(show _=Ti Ac x.1 x.2.1 from by kernel_rfl).trans (by exact rfl))

theorem Ol:A7 prog 79 Dj B9 :=
 Bj [⟨126,L4,Hi⟩] (Ab Ast Ae) func79 (fun C ⟨h0,_⟩ x=>(show _=Pn Ac (C 126 L4) x.1 from by kernel_rfl).trans (by rw[h0];exact rfl))

theorem Ahw:A7 prog 111 I1 Fo :=
 Bj [⟨165,Ws,Mk⟩,⟨79,Dj,B9⟩] (Ab Bae (Ab Ol Ae)) func111 (fun C ⟨h0,h1,_⟩ x=>(show _=Zm Ac (C 165 Ws) (C 79 Dj) x.1 x.2.1 from by kernel_rfl).trans (by rw[h0,h1];exact rfl))

theorem Azz:A7 prog 109 Sx J8 :=
 Bj [⟨163,Fe,Db⟩,⟨111,I1,Fo⟩] (Ab Xk (Ab Ahw Ae)) func109 (fun C ⟨h0,h1,_⟩ x=>(show _=Ab0 Ac (C 163 Fe) (C 111 I1) x.1 x.2.1 from by kernel_rfl).trans (by rw[h0,h1];exact rfl))

theorem Abl:A7 prog 57 F9 Bt :=
 Bj [⟨109,Sx,J8⟩] (Ab Azz Ae) func57 (fun C ⟨h0,_⟩ x=>(show _=Rv Ac (C 109 Sx) x.1 x.2.1 from by kernel_rfl).trans (by rw[h0];exact rfl))

theorem Yw:A7 prog 59 Fg Br :=
 Bj [⟨111,I1,Fo⟩] (Ab Ahw Ae) func59 (fun C ⟨h0,_⟩ x=>(show _=Pr Ac (C 111 I1) x.1 x.2.1 from by kernel_rfl).trans (by rw[h0];exact rfl))

theorem Aqr:A7 prog 164 Ky Gy :=
 Bj [] Ae func164 (fun C _ x=>(show _=Rt Ac x.1 from by kernel_rfl).trans (by exact rfl))

theorem Ban:A7 prog 110 Se Kf :=
 Bj [⟨115,Lj,F0⟩,⟨164,Ky,Gy⟩,⟨165,Ws,Mk⟩,⟨79,Dj,B9⟩] (Ab Amf (Ab Aqr (Ab Bae (Ab Ol Ae)))) func110 (fun C ⟨h0,h1,h2,h3,_⟩ x=>(show _=Abn Ac (C 115 Lj) (C 164 Ky) (C 165 Ws) (C 79 Dj) x.1 x.2.1 from by kernel_rfl).trans (by rw[h0,h1,h2,h3];exact rfl))

theorem Ats:A7 prog 58 Ma Hg :=
 Bj [⟨57,F9,Bt⟩,⟨59,Fg,Br⟩,⟨110,Se,Kf⟩] (Ab Abl (Ab Yw (Ab Ban Ae))) func58 (fun C ⟨h0,h1,h2,_⟩ x=>(show _=T8 Ac (C 57 F9) (C 59 Fg) (C 110 Se) x.1 x.2.1 from by kernel_rfl).trans (by rw[h0,h1,h2];exact rfl))

theorem Atl:A7 prog 60 Md C2 :=
 Chq [] Ae func60 (fun C _ x=>(show _=Tl Ac x.1 from by kernel_rfl).trans (by exact rfl))

theorem Apj:A7 prog 16 Lz D0 :=
 Bj [⟨22,Fy,Cc⟩,⟨58,Ma,Hg⟩,⟨57,F9,Bt⟩,⟨59,Fg,Br⟩,⟨60,Md,C2⟩] (Ab Ym (Ab Ats (Ab Abl (Ab Yw (Ab Atl Ae))))) func16 (fun C ⟨h0,h1,h2,h3,h4,_⟩ x=>(show _=Afp Ac (C 22 Fy) (C 58 Ma) (C 57 F9) (C 59 Fg) (C 60 Md) x.1 from by kernel_rfl).trans (by rw[h0,h1,h2,h3,h4];exact rfl))

theorem Bda:A7 prog 17 Yn Hn :=
 Bj [] Ae func17 (fun C _ x=>(show _=Af3 Ac x.1 x.2.1 from by kernel_rfl).trans (by exact rfl))

theorem Bjw:A7 prog 19 Agw T4 :=
 Bj [⟨12,Zw,M7⟩] (Ab Azu Ae) func19 (fun C ⟨h0,_⟩ x=>(show _=Apq Ac (C 12 Zw) x.1 x.2.1 x.2.2.1 from by kernel_rfl).trans (by rw[h0];exact rfl))

theorem Awk:A7 prog 80 Pf Gv :=
 Bj [] Ae func80 (fun C _ x=>(show _=Wz Ac from by kernel_rfl).trans (by exact rfl))

theorem Abg:A7 prog 127 Fz Bb :=
 Bj [] Ae func127 (fun C _ x=>(show _=Rq Ac x.1 x.2.1 from by kernel_rfl).trans (by exact rfl))

theorem Bgv:A7 prog 82 Ada Ji :=
 Bj [⟨127,Fz,Bb⟩] (Ab Abg Ae) func82 (fun C ⟨h0,_⟩ x=>(show _=Alv Ac (C 127 Fz) x.1 from by kernel_rfl).trans (by rw[h0];exact rfl))

theorem Bhl:A7 prog 81 Adl Jr :=
 Bj [⟨127,Fz,Bb⟩] (Ab Abg Ae) func81 (fun C ⟨h0,_⟩ x=>(show _=Amg Ac (C 127 Fz) x.1 x.2.1 x.2.2.1 from by kernel_rfl).trans (by rw[h0];exact rfl))

theorem Bjb:A7 prog 24 Ai4 Ld :=
 Bj [⟨79,Dj,B9⟩,⟨80,Pf,Gv⟩,⟨82,Ada,Ji⟩,⟨81,Adl,Jr⟩] (Ab Ol (Ab Awk (Ab Bgv (Ab Bhl Ae)))) func24 (fun C ⟨h0,h1,h2,h3,_⟩ x=>(show _=Bc4 Ac (C 79 Dj) (C 80 Pf) (C 82 Ada) (C 81 Adl) x.1 from by kernel_rfl).trans (by rw[h0,h1,h2,h3];exact rfl))

theorem Bg5:A7 prog 20 Acz L7 :=
 Bj [⟨16,Lz,D0⟩,⟨24,Ai4,Ld⟩] (Ab Apj (Ab Bjb Ae)) func20 (fun C ⟨h0,h1,_⟩ x=>(show _=Al2 Ac (C 16 Lz) (C 24 Ai4) x.1 from by kernel_rfl).trans (by rw[h0,h1];exact rfl))

theorem ok_law27_SnapshotRoundTrip:A7 prog 6 J5 Gh :=
 Bj [⟨8,Ajq,Pu⟩,⟨9,Px,Jb⟩,⟨11,H0,E6⟩,⟨19,Agw,T4⟩,⟨16,Lz,D0⟩,⟨22,Fy,Cc⟩,⟨13,Jq,Dk⟩,⟨20,Acz,L7⟩,⟨15,Yi,Ho⟩,⟨17,Yn,Hn⟩,⟨24,Ai4,Ld⟩] (Ab Blw (Ab Auu (Ab Agj (Ab Bjw (Ab Apj (Ab Ym (Ab Aoz (Ab Bg5 (Ab Bcu (Ab Bda (Ab Bjb Ae))))))))))) func6 (fun C ⟨h0,h1,h2,h3,h4,h5,h6,h7,h8,h9,bq,_⟩ x=>(show _=Pq Ac (C 8 Ajq) (C 9 Px) (C 11 H0) (C 19 Agw) (C 16 Lz) (C 22 Fy) (C 13 Jq) (C 20 Acz) (C 15 Yi) (C 17 Yn) (C 24 Ai4) x.1 x.2.1 x.2.2.1 x.2.2.2.1 from by kernel_rfl).trans (by rw[h0,h1,h2,h3,h4,h5,h6,h7,h8,h9,bq];exact rfl))

end Go.Pon.YtjbkeldlldpddaaGreat
