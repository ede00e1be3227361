/-
  The seat's program: what each function computes.
-/
import Derived.Test.YtjbkeldlldpddaaGreatChecked
import Derived.Test.YtjbkeldlldpddaaGreatPSnapshotReference3
set_option autoImplicit false
set_option maxRecDepth 100000
noncomputable section
namespace Go.Pon.YtjbkeldlldpddaaGreat
open Go Go.Pon Go.Proofs.Tryz

def Cju:List (Nat×Ty):=[(3,(.int .i64)),(4,.bool),(5,(.int .u8)),(9,.str),(22,W2),(23,W7),(25,.ptr),(26,(.slice W92)),(27,(.slice W79)),(30,(.int .i64)),(33,(.int .u64)),(35,W4),(37,W94),(39,W41),(41,W14),(42,(.slice W46)),(44,W83),(45,(.slice W44)),(46,(.arr 4 W4)),(47,(.slice W25)),(48,W1),(49,(.slice W21)),(51,W96),(54,(.arr 2 W2)),(63,(.arr 3 W96)),(65,W3),(69,(.arr 2 W96)),(76,W64),(78,W79),(80,(.int .u64)),(82,W66),(84,W25),(85,(.slice W3)),(87,W67),(89,W92),(94,W46),(97,W44),(99,W25),(101,W21),(102,.ptr),(103,.ptr),(105,(.pair (.int .u64) (.pair W94 (.pair W41 (.pair (.int .u64) (.pair W83 (.pair .ptr (.pair (.slice W25) (.pair .ptr .unit))))))))),(108,W59),(109,W8),(111,W50),(114,(.int .u64)),(115,.ptr),(122,.ptr),(124,(.pair W2 W97)),(127,.ptr),(136,(.slice W4)),(140,.ptr),(148,W7),(154,(.int .u32)),(155,W6),(156,W12),(179,(.pair W2 W97)),(183,.ptr),(199,W59),(200,W5),(201,W5),(207,(.slice W2)),(223,(.pair (.int .u64) W34)),(237,(.arr 12 (.int .u64))),(244,(.arr 6 (.int .u64))),(259,(.arr 12 .bool)),(290,(.arr 12 W4)),(301,.ptr),(303,.ptr),(317,W15)]

def Ccl:List (Nat×Ce):=[(35,Tc),(159,Mb),(100,Pr),(101,Cp),(36,Cu),(104,Il),(40,Dt),(115,Ju),(160,P2),(102,Gw),(37,Ka),(103,In),(39,Aa3),(38,Mh),(45,H5),(214,Kg),(215,Lm),(163,Em),(168,Afl),(169,Ut),(170,Acj),(113,J9),(62,Zp),(173,Hs),(171,Afy),(172,Vs),(114,Zt),(63,Zv),(116,Rm),(117,Abv),(118,Df),(64,Ab1),(65,Hz),(120,Hb),(119,Xy),(66,H3),(67,Ja),(22,Fc),(41,Abf),(43,Q6),(42,Aau),(44,Aax),(13,Qg),(83,Vq),(174,Aoc),(188,K6),(175,U8),(121,Lh),(68,Dv),(125,Ir),(76,Aj),(153,Bc),(157,Dk),(74,Ea),(184,G5),(151,A8),(202,Tv),(216,X2),(220,Agl),(185,Fv),(152,Kw),(177,S2),(124,Bm),(217,Anx),(146,Fk),(201,Ct),(218,Af0),(178,Vn),(128,Ze),(84,U2),(85,U3),(86,Akm),(87,Ajx),(25,Aju),(26,Qb),(88,Pv),(212,Jh),(156,C6),(183,Yb),(179,Si),(180,Ln),(181,Xx),(129,Ko),(69,Br),(244,Og),(242,Akg),(243,Un),(236,Up),(219,Abh),(182,Ajq),(130,U5),(176,Mq),(122,Eu),(123,Jm),(70,Ib),(131,Rz),(197,F7),(187,Fs),(186,El),(132,Io),(133,Fj),(134,Ajv),(189,Ge),(135,I2),(136,Is),(99,Abk),(31,Ck),(29,Do),(233,Zx),(166,Aey),(167,Agq),(112,Aeh),(61,Nm),(232,Aj4),(208,Tt),(211,No),(234,Gi),(237,Yg),(221,I8),(190,Afd),(137,G2),(89,Oh),(139,Ls),(222,Jr),(223,Aci),(191,Acc),(192,S5),(193,Abl),(194,Za),(224,Yo),(195,Af4),(205,Ld),(225,Yu),(196,Abg),(140,Y0),(198,Sk),(228,Fl),(227,T6),(226,Nv),(199,Ajy),(240,Ji),(239,Abr),(238,Vp),(241,Aoi),(229,Ab4),(230,Qo),(200,Afi),(138,Zi),(141,F6),(90,Jl),(142,Abo),(143,Afg),(203,Aj9),(144,Ajo),(204,Aj0),(145,Qn),(147,Jp),(206,Kf),(148,Mk),(34,Fu),(231,Ad7),(207,Ab0),(209,H9),(149,Lq),(91,Kj),(27,Ix),(12,T0),(92,Zs),(93,Abz),(94,Aek),(210,Qc),(150,Ab5),(154,Qy),(155,Abt),(95,Afr),(158,Jk),(96,N5),(28,Vf),(9,L9),(32,Im),(33,Hk),(11,Gd),(8,Abj),(71,Kn),(72,Kl),(73,Kp),(75,Agh),(77,P9),(78,Yp),(23,Qs),(97,Ae0),(98,Mf),(30,Af2),(10,Ol),(235,Ql),(213,Sv),(165,Q5),(126,I0),(79,C1),(111,Gz),(109,Mg),(57,Eo),(59,Ec),(164,H8),(110,Mn),(58,Iy),(60,Iv),(16,Jn),(17,Pj),(18,Sq),(19,X9),(80,Ke),(127,Ew),(82,Ur),(81,Va),(24,Aoo),(20,Uz),(21,Aer),(5,Hj)]

def Cdk:List ((Nat×Nat)×List (Nat×Ez)):=[((159,0),[(1,Bv),(6,V29),(9,V3),(10,Bv),(11,V29),(56,Bv),(57,Bv)]),((38,0),[(0,V52),(4,J1),(5,J1)]),((170,0),[(2,V29),(3,V29),(5,Bv)]),((113,0),[(1,(.ptr V12)),(3,Bv)]),((171,0),[(2,V29),(3,V29),(4,V30),(5,V30),(6,J1),(8,Bv)]),((114,0),[(0,V46),(5,V46),(6,Bv),(7,Bv)]),((63,0),[(1,(.ptr V57)),(6,V46),(7,Bv),(8,Bv)]),((117,0),[(2,V29),(3,V29),(4,V29),(6,V29),(7,J1),(9,Bv)]),((64,0),[(0,V45),(3,(.ptr V33)),(14,V45),(15,Bv),(16,Bv)]),((64,2),[(0,V45),(3,(.ptr V33)),(8,V29),(45,V45),(46,Bv),(47,Bv)]),((64,4),[(0,V45),(3,(.ptr V33)),(8,V29),(62,V33),(63,Bv)]),((65,0),[(1,V59),(6,V44),(7,Bv),(8,Bv)]),((120,0),[(2,V30),(3,V29),(4,V30),(5,J1),(7,Bv)]),((119,0),[(2,V30),(3,V30),(6,V41),(7,Bv),(8,Bv)]),((66,0),[(1,V59),(3,V30),(12,V45),(13,Bv),(14,Bv)]),((66,2),[(1,V59),(3,V30),(24,V44),(25,Bv),(26,Bv)]),((67,0),[(1,V59),(3,(.mapm .u64 W5)),(10,V44),(11,Bv),(12,Bv)]),((67,2),[(1,V59),(3,(.mapm .u64 W5)),(34,V43),(35,Bv),(36,Bv)]),((13,0),[(2,(.ptr V20)),(4,(.ptr V52)),(5,J1),(6,(.ptr V20)),(21,Bv)]),((121,0),[(3,(.ptr (.ro true (.arr 12 .bool)))),(4,Bv)]),((125,0),[(0,(.bor (.int .i64))),(3,Bv)]),((76,0),[(1,V29),(3,V38),(4,Bv)]),((157,0),[(0,V4),(1,V4),(5,V38),(6,Bv)]),((157,2),[(0,V4),(1,V4),(5,V38),(6,Bv),(7,Bv),(8,Bv)]),((74,0),[(0,V4),(1,V4),(5,Bv)]),((184,0),[(0,V4),(1,V4),(5,V38),(6,Bv),(7,Bv)]),((151,0),[(0,V4),(2,V29),(3,V29),(4,Bv)]),((220,0),[(0,V4),(1,Bv),(6,V38),(7,Bv),(8,Bv)]),((185,0),[(0,V4),(1,V4),(6,V38),(7,V38),(8,Bv)]),((185,2),[(0,V4),(1,V4),(6,V38),(7,V38),(8,Bv),(9,Bv)]),((185,4),[(0,V4),(1,V4),(6,V38),(7,V38),(8,Bv),(9,Bv),(10,Bv),(11,Bv)]),((185,6),[(0,V4),(1,V4),(6,V38),(7,V38),(8,Bv),(9,Bv),(12,(.ro true W7)),(13,Bv)]),((124,0),[(0,V4),(1,V4),(5,V38),(6,Bv),(7,Bv)]),((217,0),[(0,J1),(6,V4),(7,Bv)]),((26,0),[(1,(.own true W92)),(2,J1)]),((26,2),[(1,(.own true W92)),(3,J1)]),((212,0),[(0,V47),(1,J1),(5,Bv)]),((244,0),[(0,V3),(1,Bv),(2,Bv),(7,Bv)]),((242,0),[(0,V3),(1,Bv),(6,Bv),(7,Bv),(8,Bv)]),((243,0),[(0,V37),(1,V3)]),((236,0),[(0,V3),(3,V37),(4,Bv),(5,Bv)]),((122,0),[(0,V46),(3,Bv)]),((70,0),[(1,(.ptr V57)),(3,Bv)]),((99,0),[(1,V29),(3,V32),(4,Bv)]),((112,0),[(1,V3),(2,V31),(4,V31),(5,(.ptr V6)),(6,(.ptr V6)),(7,Bv)]),((112,2),[(2,V31),(4,V31),(5,(.ptr V6)),(6,(.ptr V6)),(10,V31),(11,Bv)]),((112,4),[(2,V31),(4,V31),(10,V31),(16,Bv)]),((61,0),[(0,V3),(2,V28),(3,V32)]),((61,2),[(2,V28),(3,V32),(4,J1),(5,Bv)]),((61,4),[(2,V28),(3,V32),(6,V31),(7,Bv)]),((61,6),[(2,V28),(6,V31),(8,V28),(9,Bv)]),((211,0),[(0,V44),(1,Bv),(5,V1),(6,Bv)]),((234,0),[(0,Bv),(3,Bv)]),((222,0),[(0,V46),(1,J1),(5,Bv)]),((223,0),[(1,V29),(3,Bv),(4,Bv)]),((224,0),[(0,V46),(3,V16),(4,Bv)]),((224,2),[(0,V46),(3,V16),(4,Bv),(5,Bv)]),((195,0),[(6,V14),(7,V16),(8,(.ro true W7)),(9,Bv)]),((196,0),[(1,V43),(6,V16),(7,Bv)]),((140,0),[(0,V43),(2,V29),(4,V38),(5,Bv)]),((198,0),[(0,V46),(2,V29),(4,V38),(5,Bv)]),((90,0),[(0,V58),(4,(.ptr (.pair Bv V54))),(6,(.ptr (.pair J1 V50))),(8,(.ptr (.pair Bv V54))),(9,Bv)]),((144,0),[(6,(.ptr V12)),(8,(.ptr (.ro true (.arr 12 W4)))),(9,Bv)]),((204,0),[(0,V46),(1,J1),(6,V16),(7,V25),(8,Bv)]),((206,0),[(0,V47),(3,V38),(4,Bv)]),((206,2),[(0,V47),(3,V38),(5,Bv)]),((34,0),[(0,(.rp W50)),(1,J1),(5,Bv)]),((209,0),[(0,(.ptr V55)),(1,J1),(4,V29),(5,Bv)]),((149,0),[(0,(.ptr V55)),(3,(.ptr (.pair J1 (.pair J1 (.pair J1 (.pair (.ro true W4) (.pair V40 V26))))))),(8,V29),(9,Bv)]),((155,0),[(0,Bv),(2,V28),(3,V28),(4,Bv)]),((158,0),[(0,V4),(3,V32),(4,Bv)]),((158,5),[(0,V4),(3,V32),(4,Bv),(5,Bv),(6,Bv),(7,Bv)]),((158,7),[(0,V4),(3,V32),(4,Bv),(6,Bv),(8,Bv),(9,Bv)]),((158,3),[(0,V4),(3,V32),(4,Bv),(5,Bv),(6,Bv),(10,Bv)]),((9,0),[(0,V4),(1,V25),(7,V58),(8,(.own false W92)),(9,(.own false W79)),(10,Bv)]),((9,2),[(0,V4),(1,V25),(7,V58),(8,(.own false W92)),(9,(.own false W79)),(11,Bv)]),((32,0),[(0,(.rp W59)),(3,V15),(4,Bv)]),((32,2),[(0,(.rp W59)),(3,V15),(4,Bv),(5,(.ptr V10)),(6,Bv)]),((33,0),[(0,(.rp W50)),(3,V14),(4,Bv)]),((33,2),[(0,(.rp W50)),(3,V14),(4,Bv),(5,Bv)]),((11,0),[(0,V58),(2,V60),(3,V60),(4,Bv)]),((71,0),[(0,V45),(3,Bv)]),((72,0),[(0,V44),(3,Bv)]),((73,0),[(0,V43),(3,Bv)]),((75,0),[(1,V59),(3,V38),(4,Bv)]),((75,2),[(1,V59),(3,V38),(5,Bv)]),((75,4),[(1,V59),(3,V38),(6,Bv)]),((77,0),[(1,J1),(2,V59),(5,V38),(6,Bv)]),((78,0),[(0,V43),(1,J1),(4,V29),(5,Bv)]),((23,0),[(1,V59),(3,Bv)]),((23,2),[(1,V59),(4,Bv)]),((97,0),[(0,V3),(1,V5),(5,Bv)]),((10,0),[(1,V59),(4,V32),(5,Bv)]),((10,2),[(1,V59),(4,V32),(7,Bv)]),((10,4),[(1,V59),(4,V32),(9,Bv)]),((10,6),[(1,V59),(4,V32),(10,Bv)]),((10,8),[(1,V59),(4,V32),(12,Bv)]),((213,0),[(1,V29),(3,Bv)]),((165,0),[(1,V29),(4,V32),(5,Bv)]),((79,0),[(0,V39),(3,Bv),(9,V39),(10,Bv),(11,Bv)]),((79,2),[(6,V32),(25,V39),(26,Bv),(27,Bv)]),((57,0),[(0,V37),(7,V5),(8,Bv),(9,Bv)]),((59,0),[(0,V37),(7,V41),(8,Bv),(9,Bv)]),((16,0),[(1,V59),(4,V37),(28,V46),(29,Bv),(30,Bv)]),((16,2),[(1,V59),(4,V37),(62,V45),(63,Bv),(64,Bv)]),((16,4),[(1,V59),(4,V37),(93,V44),(94,Bv),(95,Bv)]),((16,6),[(4,V37),(130,V43),(131,Bv),(132,Bv)]),((19,1000031),[(3,V59),(5,V29),(6,V60),(7,Bv),(11,Bv)]),((19,1000034),[(3,V59),(5,V29),(6,V60),(8,Bv),(9,Bv),(10,Bv),(11,Bv),(29,Bv)]),((19,1000036),[(3,V59),(5,V29),(6,V60),(8,Bv),(11,Bv)]),((19,1000039),[(3,V59),(5,V29),(6,V60),(9,Bv),(10,Bv),(11,Bv),(29,Bv)]),((19,1000041),[(3,V59),(5,V29),(6,V60),(9,Bv),(11,Bv)]),((19,1000044),[(3,V59),(5,V29),(6,V60),(9,Bv),(10,Bv),(11,Bv),(29,Bv)]),((19,1000046),[(3,V59),(6,V60),(9,Bv),(11,Bv)]),((19,1000047),[(3,V59),(6,V60),(9,Bv),(11,Bv)]),((19,1000049),[(3,V59),(5,V29),(6,V60),(10,Bv),(11,Bv),(29,Bv)]),((19,1000051),[(3,V59),(5,V29),(6,V60),(10,Bv),(11,Bv)]),((19,1000054),[(3,V59),(5,V29),(6,V60),(10,Bv),(29,Bv)]),((19,1000061),[(3,V59),(6,V60)]),((82,0),[(0,V3),(2,(.ptr V6)),(3,(.ptr V6)),(10,Bv)]),((82,2),[(2,(.ptr V6)),(3,(.ptr V6)),(5,Bv)]),((81,0),[(3,V31),(4,(.ptr V6)),(5,(.ptr V6)),(6,V31),(7,V31),(18,Bv)]),((81,2),[(3,V31),(6,V31),(7,V31),(103,Bv)]),((24,0),[(2,V28),(3,J1),(4,V32)]),((24,2),[(2,V28),(3,J1),(4,V32),(5,Bv)]),((24,4),[(2,V28),(4,V32),(6,V31),(7,(.ptr V6)),(8,Bv)]),((24,6),[(2,V28),(6,V31),(9,V28),(55,Bv)]),((5,0),[(44,(.ro false (.arr 3 W96))),(45,Bv)])]

def Cin:List ((Nat×Nat)×List Ali):=[]

def Cbl:List (Nat×IntKind×Ty):=[(204,.u64,W5)]

abbrev gN:Ctx:=mkG Cju Ccl Cdk false Cin Cbl
abbrev gC:Ctx:=mkG Cju Ccl Cdk true Cin Cbl

theorem Dc:By6 prog Cju Ccl Cbl :=
 ⟨of_decide_eq_true (by kernel_rfl),by kernel_rfl,by kernel_rfl,by kernel_rfl,by kernel_rfl⟩

theorem Bfz(L:Ae)(C:Ap):∀ x,Ag L C gN 35 f35 (f35.body.getD .skip) Tc x=Aif L x.1:=by
 intro x;kernel_rfl
theorem Bf3:A6 prog 35 Tc Adb :=
 Bf Dc [] Af func35 (by kernel_rfl) (by kernel_rfl) (by rfl) (fun C _ x=>(Bfz Ac C x).trans (by exact rfl))

theorem Bie(L:Ae)(C:Ap):∀ x,Ag L C gN 159 f159 (f159.body.getD .skip) Mb x=Ak2 L x.1 x.2.1 x.2.2.1:=by
 intro x;kernel_rfl
theorem At2:A6 prog 159 Mb P4 :=
 Bf Dc [] Af func159 (by kernel_rfl) (by kernel_rfl) (by rfl) (fun C _ x=>(Bie Ac C x).trans (by exact rfl))

theorem Bcx(L:Ae)(C:Ap):∀ x,Ag L C gN 100 f100 (f100.body.getD .skip) Pr x=Af9 L (C 159 Mb) x.1 x.2.1:=by
 intro x;kernel_rfl
theorem Bcb:A6 prog 100 Pr Abe :=
 Bf Dc [⟨159,Mb,P4⟩] (Ab At2 Af) func100 (by kernel_rfl) (by kernel_rfl) (by rfl) (fun C ⟨h0,_⟩ x=>(Bcx Ac C x).trans (by rw[h0];exact rfl))

theorem Ak1(L:Ae)(C:Ap):∀ x,Ag L C gN 101 f101 (f101.body.getD .skip) Cp x=Mz L x.1 x.2.1 x.2.2.1:=by
 intro x;kernel_rfl
theorem L8:A6 prog 101 Cp De :=
 Bf Dc [] Af func101 (by kernel_rfl) (by kernel_rfl) (by rfl) (fun C _ x=>(Ak1 Ac C x).trans (by exact rfl))

theorem Al7(L:Ae)(C:Ap):∀ x,Ag L C gN 36 f36 (f36.body.getD .skip) Cu x=Ny L (C 100 Pr) (C 101 Cp) x.1:=by
 intro x;kernel_rfl
theorem M8:A6 prog 36 Cu Dj :=
 Bf Dc [⟨100,Pr,Abe⟩,⟨101,Cp,De⟩] (Ab Bcb (Ab L8 Af)) func36 (by kernel_rfl) (by kernel_rfl) (by rfl) (fun C ⟨h0,h1,_⟩ x=>(Al7 Ac C x).trans (by rw[h0,h1];exact rfl))

theorem Bbo(L:Ae)(C:Ap):∀ x,Ag L C gN 104 f104 (f104.body.getD .skip) Il x=Ac8 L (C 159 Mb) x.1 x.2.1:=by
 intro x;kernel_rfl
theorem Alw:A6 prog 104 Il Le :=
 Bf Dc [⟨159,Mb,P4⟩] (Ab At2 Af) func104 (by kernel_rfl) (by kernel_rfl) (by rfl) (fun C ⟨h0,_⟩ x=>(Bbo Ac C x).trans (by rw[h0];exact rfl))

theorem Akv(L:Ae)(C:Ap):∀ x,Ag L C gN 40 f40 (f40.body.getD .skip) Dt x=M7 L (C 104 Il) (C 101 Cp) x.1:=by
 intro x;kernel_rfl
theorem Uo:A6 prog 40 Dt Fi :=
 Bf Dc [⟨104,Il,Le⟩,⟨101,Cp,De⟩] (Ab Alw (Ab L8 Af)) func40 (by kernel_rfl) (by kernel_rfl) (by rfl) (fun C ⟨h0,h1,_⟩ x=>(Akv Ac C x).trans (by rw[h0,h1];exact rfl))

theorem Bkp(L:Ae)(C:Ap):∀ x,Ag L C gN 115 f115 (f115.body.getD .skip) Ju x=Afa L x.1:=by
 intro x;kernel_rfl
theorem Akt:A6 prog 115 Ju F8 :=
 Bf Dc [] Af func115 (by kernel_rfl) (by kernel_rfl) (by rfl) (fun C _ x=>(Bkp Ac C x).trans (by exact rfl))

theorem Bdf(L:Ae)(C:Ap):∀ x,Ag L C gN 160 f160 (f160.body.getD .skip) P2 x=Agn L (C 104 Il) (C 115 Ju) x.1 x.2.1:=by
 intro x;kernel_rfl
theorem Bcf:A6 prog 160 P2 Abc :=
 Bf Dc [⟨104,Il,Le⟩,⟨115,Ju,F8⟩] (Ab Alw (Ab Akt Af)) func160 (by kernel_rfl) (by kernel_rfl) (by rfl) (fun C ⟨h0,h1,_⟩ x=>(Bdf Ac C x).trans (by rw[h0,h1];exact rfl))

theorem Amz(L:Ae)(C:Ap):∀ x,Ag L C gN 102 f102 (f102.body.getD .skip) Gw x=Oe L (C 160 P2) (C 101 Cp) x.1:=by
 intro x;kernel_rfl
theorem Amp:A6 prog 102 Gw Mc :=
 Bf Dc [⟨160,P2,Abc⟩,⟨101,Cp,De⟩] (Ab Bcf (Ab L8 Af)) func102 (by kernel_rfl) (by kernel_rfl) (by rfl) (fun C ⟨h0,h1,_⟩ x=>(Amz Ac C x).trans (by rw[h0,h1];exact rfl))

theorem Avk(L:Ae)(C:Ap):∀ x,Ag L C gN 37 f37 (f37.body.getD .skip) Ka x=Wn L (C 36 Cu) (C 40 Dt) (C 102 Gw) x.1:=by
 intro x;kernel_rfl
theorem Av9:A6 prog 37 Ka Sy :=
 Bf Dc [⟨36,Cu,Dj⟩,⟨40,Dt,Fi⟩,⟨102,Gw,Mc⟩] (Ab M8 (Ab Uo (Ab Amp Af))) func37 (by kernel_rfl) (by kernel_rfl) (by rfl) (fun C ⟨h0,h1,h2,_⟩ x=>(Avk Ac C x).trans (by rw[h0,h1,h2];exact rfl))

theorem Ar1(L:Ae)(C:Ap):∀ x,Ag L C gN 103 f103 (f103.body.getD .skip) In x=Rv L x.1:=by
 intro x;kernel_rfl
theorem As1:A6 prog 103 In Pe :=
 Bf Dc [] Af func103 (by kernel_rfl) (by kernel_rfl) (by rfl) (fun C _ x=>(Ar1 Ac C x).trans (by exact rfl))

theorem Ayp(L:Ae)(C:Ap):∀ x,Ag L C gN 39 f39 (f39.body.getD .skip) Aa3 x=Alv L x.1 x.2.1:=by
 intro x;kernel_rfl
theorem Bx8:A6 prog 39 Aa3 Axl :=
 Bf Dc [] Af func39 (by kernel_rfl) (by kernel_rfl) (by rfl) (fun C _ x=>(Ayp Ac C x).trans (by exact rfl))

theorem Ayy(L:Ae)(C:Ap):∀ x,Ag L C gN 38 f38 (f38.body.getD .skip) Mh x=Aa6 L (C 36 Cu) (C 103 In) x.1 x.2.1:=by
 intro x;kernel_rfl
theorem Ayq:A6 prog 38 Mh Wd :=
 Bf Dc [⟨36,Cu,Dj⟩,⟨103,In,Pe⟩] (Ab M8 (Ab As1 Af)) func38 (by kernel_rfl) (by kernel_rfl) (by rfl) (fun C ⟨h0,h1,_⟩ x=>(Ayy Ac C x).trans (by rw[h0,h1];exact rfl))

theorem Aph(L:Ae)(C:Ap):∀ x,Ag L C gN 45 f45 (f45.body.getD .skip) H5 x=Q4 L x.1:=by
 intro x;kernel_rfl
theorem Apf:A6 prog 45 H5 N0 :=
 Bf Dc [] Af func45 (by kernel_rfl) (by kernel_rfl) (by rfl) (fun C _ x=>(Aph Ac C x).trans (by exact rfl))

theorem Aut(L:Ae)(C:Ap):∀ x,Ag L C gN 214 f214 (f214.body.getD .skip) Kg x=Wh L x.1 x.2.1:=by
 intro x;kernel_rfl
theorem Avh:A6 prog 214 Kg Rs :=
 Bf Dc [] Af func214 (by kernel_rfl) (by kernel_rfl) (by rfl) (fun C _ x=>(Aut Ac C x).trans (by exact rfl))

theorem Axi(L:Ae)(C:Ap):∀ x,Ag L C gN 215 f215 (f215.body.getD .skip) Lm x=Yi L x.1 x.2.1:=by
 intro x;kernel_rfl
theorem Axe:A6 prog 215 Lm Uf :=
 Bf Dc [] Af func215 (by kernel_rfl) (by kernel_rfl) (by rfl) (fun C _ x=>(Axi Ac C x).trans (by exact rfl))

theorem Axc(L:Ae)(C:Ap):∀ x,Ag L C gN 163 f163 (f163.body.getD .skip) Em x=Px L x.1:=by
 intro x;kernel_rfl
theorem Wk:A6 prog 163 Em Da :=
 Bf Dc [] Af func163 (by kernel_rfl) (by kernel_rfl) (by rfl) (fun C _ x=>(Axc Ac C x).trans (by exact rfl))

theorem Bq6(L:Ae)(C:Ap):∀ x,Ag L C gN 168 f168 (f168.body.getD .skip) Afl x=Avt L (C 214 Kg) (C 215 Lm) (C 163 Em) x.1 x.2.1:=by
 intro x;kernel_rfl
theorem Bsc:A6 prog 168 Afl Ae7 :=
 Bf Dc [⟨214,Kg,Rs⟩,⟨215,Lm,Uf⟩,⟨163,Em,Da⟩] (Ab Avh (Ab Axe (Ab Wk Af))) func168 (by kernel_rfl) (by kernel_rfl) (by rfl) (fun C ⟨h0,h1,h2,_⟩ x=>(Bq6 Ac C x).trans (by rw[h0,h1,h2];exact rfl))

theorem Bha(L:Ae)(C:Ap):∀ x,Ag L C gN 169 f169 (f169.body.getD .skip) Ut x=Ak9 L x.1 x.2.1:=by
 intro x;kernel_rfl
theorem Bgw:A6 prog 169 Ut W0 :=
 Bf Dc [] Af func169 (by kernel_rfl) (by kernel_rfl) (by rfl) (fun C _ x=>(Bha Ac C x).trans (by exact rfl))

theorem Bmu(L:Ae)(C:Ap):∀ x,Ag L C gN 170 f170 (f170.body.getD .skip) Acj x=Aja L x.1 x.2.1:=by
 intro x;kernel_rfl
theorem Bql:A6 prog 170 Acj U9 :=
 Bf Dc [] Af func170 (by kernel_rfl) (by kernel_rfl) (by rfl) (fun C _ x=>(Bmu Ac C x).trans (by exact rfl))

theorem Auz(L:Ae)(C:Ap):∀ x,Ag L C gN 113 f113 (f113.body.getD .skip) J9 x=Ou L (C 168 Afl) (C 169 Ut) (C 163 Em) (C 170 Acj) x.1:=by
 intro x;kernel_rfl
theorem Auq:A6 prog 113 J9 Iw :=
 Bf Dc [⟨168,Afl,Ae7⟩,⟨169,Ut,W0⟩,⟨163,Em,Da⟩,⟨170,Acj,U9⟩] (Ab Bsc (Ab Bgw (Ab Wk (Ab Bql Af)))) func113 (by kernel_rfl) (by kernel_rfl) (by rfl) (fun C ⟨h0,h1,h2,h3,_⟩ x=>(Auz Ac C x).trans (by rw[h0,h1,h2,h3];exact rfl))

theorem Bkn(L:Ae)(C:Ap):∀ x,Ag L C gN 62 f62 (f62.body.getD .skip) Zp x=Aej L (C 113 J9) x.1:=by
 intro x;kernel_rfl
theorem Bky:A6 prog 62 Zp S8 :=
 Bf Dc [⟨113,J9,Iw⟩] (Ab Auq Af) func62 (by kernel_rfl) (by kernel_rfl) (by rfl) (fun C ⟨h0,_⟩ x=>(Bkn Ac C x).trans (by rw[h0];exact rfl))

theorem Adn:A6 prog 173 Hs Ex :=
 Cjx (fn:=f173) func173 (by kernel_rfl) (by kernel_rfl) (by kernel_rfl) (by kernel_rfl)

theorem Bro(L:Ae)(C:Ap):∀ x,Ag L C gN 171 f171 (f171.body.getD .skip) Afy x=Amt L (C 173 Hs) x.1 x.2.1:=by
 intro x;kernel_rfl
theorem Brn:A6 prog 171 Afy X5 :=
 Bf Dc [⟨173,Hs,Ex⟩] (Ab Adn Af) func171 (by kernel_rfl) (by kernel_rfl) (by rfl) (fun C ⟨h0,_⟩ x=>(Bro Ac C x).trans (by rw[h0];exact rfl))

theorem Bhi(L:Ae)(C:Ap):∀ x,Ag L C gN 172 f172 (f172.body.getD .skip) Vs x=Ac4 L x.1:=by
 intro x;kernel_rfl
theorem Bho:A6 prog 172 Vs Jb :=
 Bf Dc [] Af func172 (by kernel_rfl) (by kernel_rfl) (by rfl) (fun C _ x=>(Bhi Ac C x).trans (by exact rfl))

theorem Bkr(L:Ae)(C:Ap):∀ x,Ag L C gN 114 f114 (f114.body.getD .skip) Zt x=Afo L (C 171 Afy) (C 172 Vs) x.1:=by
 intro x;kernel_rfl
theorem Bll:A6 prog 114 Zt Kt :=
 Bf Dc [⟨171,Afy,X5⟩,⟨172,Vs,Jb⟩] (Ab Brn (Ab Bho Af)) func114 (by kernel_rfl) (by kernel_rfl) (by rfl) (fun C ⟨h0,h1,_⟩ x=>(Bkr Ac C x).trans (by rw[h0,h1];exact rfl))

theorem Bk4(L:Ae)(C:Ap):∀ x,Ag L C gN 63 f63 (f63.body.getD .skip) Zv x=Af1 L (C 114 Zt) (C 115 Ju) x.1:=by
 intro x;kernel_rfl
theorem Blj:A6 prog 63 Zv S4 :=
 Bf Dc [⟨114,Zt,Kt⟩,⟨115,Ju,F8⟩] (Ab Bll (Ab Akt Af)) func63 (by kernel_rfl) (by kernel_rfl) (by rfl) (fun C ⟨h0,h1,_⟩ x=>(Bk4 Ac C x).trans (by rw[h0,h1];exact rfl))

theorem Be9(L:Ae)(C:Ap):∀ x,Ag L C gN 116 f116 (f116.body.getD .skip) Rm x=Aaf L x.1:=by
 intro x;kernel_rfl
theorem Ber:A6 prog 116 Rm N8 :=
 Bf Dc [] Af func116 (by kernel_rfl) (by kernel_rfl) (by rfl) (fun C _ x=>(Be9 Ac C x).trans (by exact rfl))

theorem Boi(L:Ae)(C:Ap):∀ x,Ag L C gN 117 f117 (f117.body.getD .skip) Abv x=Aiv L (C 173 Hs) x.1 x.2.1:=by
 intro x;kernel_rfl
theorem Bp2:A6 prog 117 Abv Fy :=
 Bf Dc [⟨173,Hs,Ex⟩] (Ab Adn Af) func117 (by kernel_rfl) (by kernel_rfl) (by rfl) (fun C ⟨h0,_⟩ x=>(Boi Ac C x).trans (by rw[h0];exact rfl))

theorem Xw(L:Ae)(C:Ap):∀ x,Ag L C gN 118 f118 (f118.body.getD .skip) Df x=Eg L x.1:=by
 intro x;kernel_rfl
theorem Xv:A6 prog 118 Df Bx :=
 Bf Dc [] Af func118 (by kernel_rfl) (by kernel_rfl) (by rfl) (fun C _ x=>(Xw Ac C x).trans (by exact rfl))

theorem Bp5(L:Ae)(C:Ap):∀ x,Ag L C gN 64 f64 (f64.body.getD .skip) Ab1 x=Aji L (C 116 Rm) (C 117 Abv) (C 118 Df) x.1 x.2.1:=by
 intro x;kernel_rfl
theorem Bpe:A6 prog 64 Ab1 Us :=
 Bf Dc [⟨116,Rm,N8⟩,⟨117,Abv,Fy⟩,⟨118,Df,Bx⟩] (Ab Ber (Ab Bp2 (Ab Xv Af))) func64 (by kernel_rfl) (by kernel_rfl) (by rfl) (fun C ⟨h0,h1,h2,_⟩ x=>(Bp5 Ac C x).trans (by rw[h0,h1,h2];exact rfl))

theorem Apk(L:Ae)(C:Ap):∀ x,Ag L C gN 65 f65 (f65.body.getD .skip) Hz x=La L x.1:=by
 intro x;kernel_rfl
theorem Apj:A6 prog 65 Hz G0 :=
 Bf Dc [] Af func65 (by kernel_rfl) (by kernel_rfl) (by rfl) (fun C _ x=>(Apk Ac C x).trans (by exact rfl))

theorem Bf4(L:Ae)(C:Ap):∀ x,Ag L C gN 120 f120 (f120.body.getD .skip) Hb x=Z3 L (C 173 Hs) x.1 x.2.1:=by
 intro x;kernel_rfl
theorem Aei:A6 prog 120 Hb Et :=
 Bf Dc [⟨173,Hs,Ex⟩] (Ab Adn Af) func120 (by kernel_rfl) (by kernel_rfl) (by rfl) (fun C ⟨h0,_⟩ x=>(Bf4 Ac C x).trans (by rw[h0];exact rfl))

theorem Bue(L:Ae)(C:Ap):∀ x,Ag L C gN 119 f119 (f119.body.getD .skip) Xy x=Ap8 L (C 120 Hb) x.1:=by
 intro x;kernel_rfl
theorem Bfl:A6 prog 119 Xy Lc :=
 Bf Dc [⟨120,Hb,Et⟩] (Ab Aei Af) func119 (by kernel_rfl) (by kernel_rfl) (by rfl) (fun C ⟨h0,_⟩ x=>(Bue Ac C x).trans (by rw[h0];exact rfl))

theorem Aps(L:Ae)(C:Ap):∀ x,Ag L C gN 66 f66 (f66.body.getD .skip) H3 x=Lb L (C 119 Xy) (C 120 Hb) x.1:=by
 intro x;kernel_rfl
theorem Apr:A6 prog 66 H3 Gu :=
 Bf Dc [⟨119,Xy,Lc⟩,⟨120,Hb,Et⟩] (Ab Bfl (Ab Aei Af)) func66 (by kernel_rfl) (by kernel_rfl) (by rfl) (fun C ⟨h0,h1,_⟩ x=>(Aps Ac C x).trans (by rw[h0,h1];exact rfl))

theorem Atu(L:Ae)(C:Ap):∀ x,Ag L C gN 67 f67 (f67.body.getD .skip) Ja x=My L (C 120 Hb) (C 119 Xy) x.1:=by
 intro x;kernel_rfl
theorem At8:A6 prog 67 Ja Ie :=
 Bf Dc [⟨120,Hb,Et⟩,⟨119,Xy,Lc⟩] (Ab Aei (Ab Bfl Af)) func67 (by kernel_rfl) (by kernel_rfl) (by rfl) (fun C ⟨h0,h1,_⟩ x=>(Atu Ac C x).trans (by rw[h0,h1];exact rfl))

theorem Bev(L:Ae)(C:Ap):∀ x,Ag L C gN 22 f22 (f22.body.getD .skip) Fc x=Zz L (C 62 Zp) (C 63 Zv) (C 64 Ab1) (C 65 Hz) (C 66 H3) (C 67 Ja) x.1:=by
 intro x;kernel_rfl
theorem Xt:A6 prog 22 Fc C4 :=
 Bf Dc [⟨62,Zp,S8⟩,⟨63,Zv,S4⟩,⟨64,Ab1,Us⟩,⟨65,Hz,G0⟩,⟨66,H3,Gu⟩,⟨67,Ja,Ie⟩] (Ab Bky (Ab Blj (Ab Bpe (Ab Apj (Ab Apr (Ab At8 Af)))))) func22 (by kernel_rfl) (by kernel_rfl) (by rfl) (fun C ⟨h0,h1,h2,h3,h4,h5,_⟩ x=>(Bev Ac C x).trans (by rw[h0,h1,h2,h3,h4,h5];exact rfl))

theorem Ay1(L:Ae)(C:Ap):∀ x,Ag L C gN 41 f41 (f41.body.getD .skip) Abf x=Als L x.1 x.2.1:=by
 intro x;kernel_rfl
theorem Byu:A6 prog 41 Abf Axk :=
 Bf Dc [] Af func41 (by kernel_rfl) (by kernel_rfl) (by rfl) (fun C _ x=>(Ay1 Ac C x).trans (by exact rfl))

theorem Ap0(L:Ae)(C:Ap):∀ x,Ag L C gN 43 f43 (f43.body.getD .skip) Q6 x=Acg L x.1:=by
 intro x;kernel_rfl
theorem Bqo:A6 prog 43 Q6 Ao1 :=
 Bf Dc [] Af func43 (by kernel_rfl) (by kernel_rfl) (by rfl) (fun C _ x=>(Ap0 Ac C x).trans (by exact rfl))

theorem Azo(L:Ae)(C:Ap):∀ x,Ag L C gN 42 f42 (f42.body.getD .skip) Aau x=All L x.1 x.2.1 x.2.2.1:=by
 intro x;kernel_rfl
theorem By1:A6 prog 42 Aau Axn :=
 Bf Dc [] Af func42 (by kernel_rfl) (by kernel_rfl) (by rfl) (fun C _ x=>(Azo Ac C x).trans (by exact rfl))

theorem Azz(L:Ae)(C:Ap):∀ x,Ag L C gN 44 f44 (f44.body.getD .skip) Aax x=Al0 L x.1 x.2.1:=by
 intro x;kernel_rfl
theorem Ca6:A6 prog 44 Aax Axg :=
 Bf Dc [] Af func44 (by kernel_rfl) (by kernel_rfl) (by rfl) (fun C _ x=>(Azz Ac C x).trans (by exact rfl))

theorem Bde(L:Ae)(C:Ap):∀ x,Ag L C gN 13 f13 (f13.body.getD .skip) Qg x=Aev L (C 35 Tc) (C 36 Cu) (C 37 Ka) (C 38 Mh) (C 40 Dt) (C 45 H5) (C 22 Fc) x.1:=by
 intro x;kernel_rfl
theorem Bb7:A6 prog 13 Qg Abd :=
 Bf Dc [⟨35,Tc,Adb⟩,⟨36,Cu,Dj⟩,⟨37,Ka,Sy⟩,⟨38,Mh,Wd⟩,⟨40,Dt,Fi⟩,⟨45,H5,N0⟩,⟨22,Fc,C4⟩] (Ab Bf3 (Ab M8 (Ab Av9 (Ab Ayq (Ab Uo (Ab Apf (Ab Xt Af))))))) func13 (by kernel_rfl) (by kernel_rfl) (by rfl) (fun C ⟨h0,h1,h2,h3,h4,h5,h6,_⟩ x=>(Bde Ac C x).trans (by rw[h0,h1,h2,h3,h4,h5,h6];exact rfl))

theorem Bi0(L:Ae)(C:Ap):∀ x,Ag L C gN 83 f83 (f83.body.getD .skip) Vq x=Alj L:=by
 intro x;kernel_rfl
theorem Bg9:A6 prog 83 Vq Xp :=
 Bf Dc [] Af func83 (by kernel_rfl) (by kernel_rfl) (by rfl) (fun C _ x=>(Bi0 Ac C x).trans (by exact rfl))

theorem Cag(L:Ae)(C:Ap):∀ x,Ag L C gN 174 f174 (f174.body.getD .skip) Aoc x=Awf L x.1 x.2.1 x.2.2.1:=by
 intro x;kernel_rfl
theorem Bys:A6 prog 174 Aoc Afk :=
 Bf Dc [] Af func174 (by kernel_rfl) (by kernel_rfl) (by rfl) (fun C _ x=>(Cag Ac C x).trans (by exact rfl))

theorem Bnu(L:Ae)(C:Ap):∀ x,Ag L C gN 188 f188 (f188.body.getD .skip) K6 x=Aiz L x.1:=by
 intro x;kernel_rfl
theorem Ane:A6 prog 188 K6 G6 :=
 Bf Dc [] Af func188 (by kernel_rfl) (by kernel_rfl) (by rfl) (fun C _ x=>(Bnu Ac C x).trans (by exact rfl))

theorem Bhp(L:Ae)(C:Ap):∀ x,Ag L C gN 175 f175 (f175.body.getD .skip) U8 x=Acm L (C 188 K6) x.1 x.2.1:=by
 intro x;kernel_rfl
theorem Bi1:A6 prog 175 U8 P8 :=
 Bf Dc [⟨188,K6,G6⟩] (Ab Ane Af) func175 (by kernel_rfl) (by kernel_rfl) (by rfl) (fun C ⟨h0,_⟩ x=>(Bhp Ac C x).trans (by rw[h0];exact rfl))

theorem Aw5(L:Ae)(C:Ap):∀ x,Ag L C gN 121 f121 (f121.body.getD .skip) Lh x=Qa L (C 174 Aoc) (C 175 U8) x.1:=by
 intro x;kernel_rfl
theorem Aw2:A6 prog 121 Lh Mx :=
 Bf Dc [⟨174,Aoc,Afk⟩,⟨175,U8,P8⟩] (Ab Bys (Ab Bi1 Af)) func121 (by kernel_rfl) (by kernel_rfl) (by rfl) (fun C ⟨h0,h1,_⟩ x=>(Aw5 Ac C x).trans (by rw[h0,h1];exact rfl))

theorem Bmy(L:Ae)(C:Ap):∀ x,Ag L C gN 68 f68 (f68.body.getD .skip) Dv x=Ajg L (C 121 Lh) x.1:=by
 intro x;kernel_rfl
theorem Of:A6 prog 68 Dv Cr :=
 Bf Dc [⟨121,Lh,Mx⟩] (Ab Aw2 Af) func68 (by kernel_rfl) (by kernel_rfl) (by rfl) (fun C ⟨h0,_⟩ x=>(Bmy Ac C x).trans (by rw[h0];exact rfl))

theorem Bu4(L:Ae)(C:Ap):∀ x,Ag L C gN 125 f125 (f125.body.getD .skip) Ir x=Aq2 L x.1:=by
 intro x;kernel_rfl
theorem Aff:A6 prog 125 Ir Ep :=
 Bf Dc [] Af func125 (by kernel_rfl) (by kernel_rfl) (by rfl) (fun C _ x=>(Bu4 Ac C x).trans (by exact rfl))

theorem Ba5(L:Ae)(C:Ap):∀ x,Ag L C gN 76 f76 (f76.body.getD .skip) Aj x=T4 L (C 125 Ir) x.1:=by
 intro x;kernel_rfl
theorem A4:A6 prog 76 Aj Ai :=
 Bf Dc [⟨125,Ir,Ep⟩] (Ab Aff Af) func76 (by kernel_rfl) (by kernel_rfl) (by rfl) (fun C ⟨h0,_⟩ x=>(Ba5 Ac C x).trans (by rw[h0];exact rfl))

theorem Bdk(L:Ae)(C:Ap):∀ x,Ag L C gN 153 f153 (f153.body.getD .skip) Bc x=Xn L (C 76 Aj) x.1:=by
 intro x;kernel_rfl
theorem C5:A6 prog 153 Bc A1 :=
 Bf Dc [⟨76,Aj,Ai⟩] (Ab A4 Af) func153 (by kernel_rfl) (by kernel_rfl) (by rfl) (fun C ⟨h0,_⟩ x=>(Bdk Ac C x).trans (by rw[h0];exact rfl))

theorem Bxr(L:Ae)(C:Ap):∀ x,Ag L C gN 157 f157 (f157.body.getD .skip) Dk x=Aur L (C 125 Ir) x.1 x.2.1:=by
 intro x;kernel_rfl
theorem Lr:A6 prog 157 Dk Ci :=
 Bf Dc [⟨125,Ir,Ep⟩] (Ab Aff Af) func157 (by kernel_rfl) (by kernel_rfl) (by rfl) (fun C ⟨h0,_⟩ x=>(Bxr Ac C x).trans (by rw[h0];exact rfl))

theorem Bzv(L:Ae)(C:Ap):∀ x,Ag L C gN 74 f74 (f74.body.getD .skip) Ea x=Awl L x.1 x.2.1:=by
 intro x;kernel_rfl
theorem Nc:A6 prog 74 Ea Ca :=
 Bf Dc [] Af func74 (by kernel_rfl) (by kernel_rfl) (by rfl) (fun C _ x=>(Bzv Ac C x).trans (by exact rfl))

theorem Cak(L:Ae)(C:Ap):∀ x,Ag L C gN 184 f184 (f184.body.getD .skip) G5 x=Aup L (C 125 Ir) x.1 x.2.1:=by
 intro x;kernel_rfl
theorem Yn:A6 prog 184 G5 Dr :=
 Bf Dc [⟨125,Ir,Ep⟩] (Ab Aff Af) func184 (by kernel_rfl) (by kernel_rfl) (by rfl) (fun C ⟨h0,_⟩ x=>(Cak Ac C x).trans (by rw[h0];exact rfl))

theorem Bfo(L:Ae)(C:Ap):∀ x,Ag L C gN 151 f151 (f151.body.getD .skip) A8 x=Z7 L x.1:=by
 intro x;kernel_rfl
theorem Cw:A6 prog 151 A8 Ay :=
 Bf Dc [] Af func151 (by kernel_rfl) (by kernel_rfl) (by rfl) (fun C _ x=>(Bfo Ac C x).trans (by exact rfl))

theorem Brj(L:Ae)(C:Ap):∀ x,Ag L C gN 202 f202 (f202.body.getD .skip) Tv x=Amh L (C 153 Bc) (C 157 Dk) (C 74 Ea) (C 184 G5) (C 151 A8) x.1 x.2.1 x.2.2.1:=by
 intro x;kernel_rfl
theorem Bbw:A6 prog 202 Tv N9 :=
 Bf Dc [⟨153,Bc,A1⟩,⟨157,Dk,Ci⟩,⟨74,Ea,Ca⟩,⟨184,G5,Dr⟩,⟨151,A8,Ay⟩] (Ab C5 (Ab Lr (Ab Nc (Ab Yn (Ab Cw Af))))) func202 (by kernel_rfl) (by kernel_rfl) (by rfl) (fun C ⟨h0,h1,h2,h3,h4,_⟩ x=>(Brj Ac C x).trans (by rw[h0,h1,h2,h3,h4];exact rfl))

theorem Bld(L:Ae)(C:Ap):∀ x,Ag L C gN 216 f216 (f216.body.getD .skip) X2 x=Aep L (C 202 Tv) x.1 x.2.1 x.2.2.1:=by
 intro x;kernel_rfl
theorem Bkk:A6 prog 216 X2 Sc :=
 Bf Dc [⟨202,Tv,N9⟩] (Ab Bbw Af) func216 (by kernel_rfl) (by kernel_rfl) (by rfl) (fun C ⟨h0,_⟩ x=>(Bld Ac C x).trans (by rw[h0];exact rfl))

theorem Bri(L:Ae)(C:Ap):∀ x,Ag L C gN 220 f220 (f220.body.getD .skip) Agl x=Amd L (C 125 Ir) x.1 x.2.1:=by
 intro x;kernel_rfl
theorem Bqr:A6 prog 220 Agl Yk :=
 Bf Dc [⟨125,Ir,Ep⟩] (Ab Aff Af) func220 (by kernel_rfl) (by kernel_rfl) (by rfl) (fun C ⟨h0,_⟩ x=>(Bri Ac C x).trans (by rw[h0];exact rfl))

theorem Cal(L:Ae)(C:Ap):∀ x,Ag L C gN 185 f185 (f185.body.getD .skip) Fv x=Awc L (C 220 Agl) (C 125 Ir) (C 74 Ea) (C 184 G5) x.1 x.2.1:=by
 intro x;kernel_rfl
theorem Tj:A6 prog 185 Fv Ds :=
 Bf Dc [⟨220,Agl,Yk⟩,⟨125,Ir,Ep⟩,⟨74,Ea,Ca⟩,⟨184,G5,Dr⟩] (Ab Bqr (Ab Aff (Ab Nc (Ab Yn Af)))) func185 (by kernel_rfl) (by kernel_rfl) (by rfl) (fun C ⟨h0,h1,h2,h3,_⟩ x=>(Cal Ac C x).trans (by rw[h0,h1,h2,h3];exact rfl))

theorem Ca8(L:Ae)(C:Ap):∀ x,Ag L C gN 152 f152 (f152.body.getD .skip) Kw x=Aus L (C 74 Ea) x.1 x.2.1:=by
 intro x;kernel_rfl
theorem Ajn:A6 prog 152 Kw G8 :=
 Bf Dc [⟨74,Ea,Ca⟩] (Ab Nc Af) func152 (by kernel_rfl) (by kernel_rfl) (by rfl) (fun C ⟨h0,_⟩ x=>(Ca8 Ac C x).trans (by rw[h0];exact rfl))

theorem Bff(L:Ae)(C:Ap):∀ x,Ag L C gN 177 f177 (f177.body.getD .skip) S2 x=Z8 L (C 68 Dv) (C 216 X2) (C 153 Bc) (C 157 Dk) (C 185 Fv) (C 152 Kw) (C 151 A8) x.1 x.2.1:=by
 intro x;kernel_rfl
theorem Bge:A6 prog 177 S2 Kr :=
 Bf Dc [⟨68,Dv,Cr⟩,⟨216,X2,Sc⟩,⟨153,Bc,A1⟩,⟨157,Dk,Ci⟩,⟨185,Fv,Ds⟩,⟨152,Kw,G8⟩,⟨151,A8,Ay⟩] (Ab Of (Ab Bkk (Ab C5 (Ab Lr (Ab Tj (Ab Ajn (Ab Cw Af))))))) func177 (by kernel_rfl) (by kernel_rfl) (by rfl) (fun C ⟨h0,h1,h2,h3,h4,h5,h6,_⟩ x=>(Bff Ac C x).trans (by rw[h0,h1,h2,h3,h4,h5,h6];exact rfl))

theorem Bya(L:Ae)(C:Ap):∀ x,Ag L C gN 124 f124 (f124.body.getD .skip) Bm x=Au0 L x.1 x.2.1:=by
 intro x;kernel_rfl
theorem Du:A6 prog 124 Bm A7 :=
 Bf Dc [] Af func124 (by kernel_rfl) (by kernel_rfl) (by rfl) (fun C _ x=>(Bya Ac C x).trans (by exact rfl))

theorem Cas(L:Ae)(C:Ap):∀ x,Ag L C gN 217 f217 (f217.body.getD .skip) Anx x=Avj L (C 153 Bc) (C 157 Dk) (C 185 Fv) (C 124 Bm) (C 151 A8) x.1 x.2.1:=by
 intro x;kernel_rfl
theorem Bxs:A6 prog 217 Anx Agj :=
 Bf Dc [⟨153,Bc,A1⟩,⟨157,Dk,Ci⟩,⟨185,Fv,Ds⟩,⟨124,Bm,A7⟩,⟨151,A8,Ay⟩] (Ab C5 (Ab Lr (Ab Tj (Ab Du (Ab Cw Af))))) func217 (by kernel_rfl) (by kernel_rfl) (by rfl) (fun C ⟨h0,h1,h2,h3,h4,_⟩ x=>(Cas Ac C x).trans (by rw[h0,h1,h2,h3,h4];exact rfl))

theorem Bwj(L:Ae)(C:Ap):∀ x,Ag L C gN 146 f146 (f146.body.getD .skip) Fk x=Ara L x.1:=by
 intro x;kernel_rfl
theorem T9:A6 prog 146 Fk Dx :=
 Bf Dc [] Af func146 (by kernel_rfl) (by kernel_rfl) (by rfl) (fun C _ x=>(Bwj Ac C x).trans (by exact rfl))

theorem Bkg(L:Ae)(C:Ap):∀ x,Ag L C gN 201 f201 (f201.body.getD .skip) Ct x=Aeo L (C 146 Fk) (C 151 A8) x.1:=by
 intro x;kernel_rfl
theorem J2:A6 prog 201 Ct B3 :=
 Bf Dc [⟨146,Fk,Dx⟩,⟨151,A8,Ay⟩] (Ab T9 (Ab Cw Af)) func201 (by kernel_rfl) (by kernel_rfl) (by rfl) (fun C ⟨h0,h1,_⟩ x=>(Bkg Ac C x).trans (by rw[h0,h1];exact rfl))

theorem Br3(L:Ae)(C:Ap):∀ x,Ag L C gN 218 f218 (f218.body.getD .skip) Af0 x=Ame L (C 76 Aj) (C 153 Bc) (C 157 Dk) (C 185 Fv) (C 201 Ct) x.1 x.2.1:=by
 intro x;kernel_rfl
theorem Bsa:A6 prog 218 Af0 Zl :=
 Bf Dc [⟨76,Aj,Ai⟩,⟨153,Bc,A1⟩,⟨157,Dk,Ci⟩,⟨185,Fv,Ds⟩,⟨201,Ct,B3⟩] (Ab A4 (Ab C5 (Ab Lr (Ab Tj (Ab J2 Af))))) func218 (by kernel_rfl) (by kernel_rfl) (by rfl) (fun C ⟨h0,h1,h2,h3,h4,_⟩ x=>(Br3 Ac C x).trans (by rw[h0,h1,h2,h3,h4];exact rfl))

theorem Bin(L:Ae)(C:Ap):∀ x,Ag L C gN 178 f178 (f178.body.getD .skip) Vn x=Acn L (C 217 Anx) (C 218 Af0) x.1 x.2.1 x.2.2.1:=by
 intro x;kernel_rfl
theorem Bhs:A6 prog 178 Vn Qe :=
 Bf Dc [⟨217,Anx,Agj⟩,⟨218,Af0,Zl⟩] (Ab Bxs (Ab Bsa Af)) func178 (by kernel_rfl) (by kernel_rfl) (by rfl) (fun C ⟨h0,h1,_⟩ x=>(Bin Ac C x).trans (by rw[h0,h1];exact rfl))

theorem Bvo(L:Ae)(C:Ap):∀ x,Ag L C gN 128 f128 (f128.body.getD .skip) Ze x=Aqo L (C 177 S2) (C 178 Vn) x.1 x.2.1:=by
 intro x;kernel_rfl
theorem Bei:A6 prog 128 Ze Nd :=
 Bf Dc [⟨177,S2,Kr⟩,⟨178,Vn,Qe⟩] (Ab Bge (Ab Bhs Af)) func128 (by kernel_rfl) (by kernel_rfl) (by rfl) (fun C ⟨h0,h1,_⟩ x=>(Bvo Ac C x).trans (by rw[h0,h1];exact rfl))

theorem Biq(L:Ae)(C:Ap):∀ x,Ag L C gN 84 f84 (f84.body.getD .skip) U2 x=Acz L (C 128 Ze) x.1:=by
 intro x;kernel_rfl
theorem Bi6:A6 prog 84 U2 P5 :=
 Bf Dc [⟨128,Ze,Nd⟩] (Ab Bei Af) func84 (by kernel_rfl) (by kernel_rfl) (by rfl) (fun C ⟨h0,_⟩ x=>(Biq Ac C x).trans (by rw[h0];exact rfl))

theorem Bij(L:Ae)(C:Ap):∀ x,Ag L C gN 85 f85 (f85.body.getD .skip) U3 x=Ak3 L:=by
 intro x;kernel_rfl
theorem Bh9:A6 prog 85 U3 Xb :=
 Bf Dc [] Af func85 (by kernel_rfl) (by kernel_rfl) (by rfl) (fun C _ x=>(Bij Ac C x).trans (by exact rfl))

theorem Bv2(L:Ae)(C:Ap):∀ x,Ag L C gN 86 f86 (f86.body.getD .skip) Akm x=Az3 L:=by
 intro x;kernel_rfl
theorem Bw8:A6 prog 86 Akm Ai0 :=
 Bf Dc [] Af func86 (by kernel_rfl) (by kernel_rfl) (by rfl) (fun C _ x=>(Bv2 Ac C x).trans (by exact rfl))

theorem Bvl(L:Ae)(C:Ap):∀ x,Ag L C gN 87 f87 (f87.body.getD .skip) Ajx x=Ay3 L:=by
 intro x;kernel_rfl
theorem Buc:A6 prog 87 Ajx Ajf :=
 Bf Dc [] Af func87 (by kernel_rfl) (by kernel_rfl) (by rfl) (fun C _ x=>(Bvl Ac C x).trans (by exact rfl))

theorem Bu9(L:Ae)(C:Ap):∀ x,Ag L C gN 25 f25 (f25.body.getD .skip) Aju x=Aq5 L (C 83 Vq) (C 84 U2) (C 85 U3) (C 86 Akm) (C 87 Ajx):=by
 intro x;kernel_rfl
theorem Bv7:A6 prog 25 Aju Ack :=
 Bf Dc [⟨83,Vq,Xp⟩,⟨84,U2,P5⟩,⟨85,U3,Xb⟩,⟨86,Akm,Ai0⟩,⟨87,Ajx,Ajf⟩] (Ab Bg9 (Ab Bi6 (Ab Bh9 (Ab Bw8 (Ab Buc Af))))) func25 (by kernel_rfl) (by kernel_rfl) (by rfl) (fun C ⟨h0,h1,h2,h3,h4,_⟩ x=>(Bu9 Ac C x).trans (by rw[h0,h1,h2,h3,h4];exact rfl))

theorem Bc8(L:Ae)(C:Ap):∀ x,Ag L C gN 26 f26 (f26.body.getD .skip) Qb x=Wu L:=by
 intro x;kernel_rfl
theorem Bd5:A6 prog 26 Qb Mj :=
 Bf Dc [] Af func26 (by kernel_rfl) (by kernel_rfl) (by rfl) (fun C _ x=>(Bc8 Ac C x).trans (by exact rfl))

theorem Bda(L:Ae)(C:Ap):∀ x,Ag L C gN 88 f88 (f88.body.getD .skip) Pv x=Xr L x.1:=by
 intro x;kernel_rfl
theorem Bd2:A6 prog 88 Pv Jx :=
 Bf Dc [] Af func88 (by kernel_rfl) (by kernel_rfl) (by rfl) (fun C _ x=>(Bda Ac C x).trans (by exact rfl))

theorem Bdg(L:Ae)(C:Ap):∀ x,Ag L C gN 212 f212 (f212.body.getD .skip) Jh x=Wv L x.1 x.2.1:=by
 intro x;kernel_rfl
theorem Apc:A6 prog 212 Jh Hq :=
 Bf Dc [] Af func212 (by kernel_rfl) (by kernel_rfl) (by rfl) (fun C _ x=>(Bdg Ac C x).trans (by exact rfl))

theorem Bbn(L:Ae)(C:Ap):∀ x,Ag L C gN 156 f156 (f156.body.getD .skip) C6 x=Tq L (C 212 Jh) x.1 x.2.1:=by
 intro x;kernel_rfl
theorem Mm:A6 prog 156 C6 Cm :=
 Bf Dc [⟨212,Jh,Hq⟩] (Ab Apc Af) func156 (by kernel_rfl) (by kernel_rfl) (by rfl) (fun C ⟨h0,_⟩ x=>(Bbn Ac C x).trans (by rw[h0];exact rfl))

theorem Bwp(L:Ae)(C:Ap):∀ x,Ag L C gN 183 f183 (f183.body.getD .skip) Yb x=Aqd L (C 76 Aj) (C 184 G5) (C 152 Kw) x.1 x.2.1:=by
 intro x;kernel_rfl
theorem Bey:A6 prog 183 Yb Qx :=
 Bf Dc [⟨76,Aj,Ai⟩,⟨184,G5,Dr⟩,⟨152,Kw,G8⟩] (Ab A4 (Ab Yn (Ab Ajn Af))) func183 (by kernel_rfl) (by kernel_rfl) (by rfl) (fun C ⟨h0,h1,h2,_⟩ x=>(Bwp Ac C x).trans (by rw[h0,h1,h2];exact rfl))

theorem Bel(L:Ae)(C:Ap):∀ x,Ag L C gN 179 f179 (f179.body.getD .skip) Si x=Aai L (C 76 Aj) (C 74 Ea) (C 183 Yb) (C 124 Bm) (C 201 Ct) x.1 x.2.1:=by
 intro x;kernel_rfl
theorem Be1:A6 prog 179 Si Nx :=
 Bf Dc [⟨76,Aj,Ai⟩,⟨74,Ea,Ca⟩,⟨183,Yb,Qx⟩,⟨124,Bm,A7⟩,⟨201,Ct,B3⟩] (Ab A4 (Ab Nc (Ab Bey (Ab Du (Ab J2 Af))))) func179 (by kernel_rfl) (by kernel_rfl) (by rfl) (fun C ⟨h0,h1,h2,h3,h4,_⟩ x=>(Bel Ac C x).trans (by rw[h0,h1,h2,h3,h4];exact rfl))

theorem Axa(L:Ae)(C:Ap):∀ x,Ag L C gN 180 f180 (f180.body.getD .skip) Ln x=Qj L x.1 x.2.1:=by
 intro x;kernel_rfl
theorem Aw1:A6 prog 180 Ln Jt :=
 Bf Dc [] Af func180 (by kernel_rfl) (by kernel_rfl) (by rfl) (fun C _ x=>(Axa Ac C x).trans (by exact rfl))

theorem Bko(L:Ae)(C:Ap):∀ x,Ag L C gN 181 f181 (f181.body.getD .skip) Xx x=Afj L (C 153 Bc) (C 76 Aj) (C 157 Dk) (C 124 Bm) (C 74 Ea) x.1 x.2.1 x.2.2.1:=by
 intro x;kernel_rfl
theorem Blf:A6 prog 181 Xx S6 :=
 Bf Dc [⟨153,Bc,A1⟩,⟨76,Aj,Ai⟩,⟨157,Dk,Ci⟩,⟨124,Bm,A7⟩,⟨74,Ea,Ca⟩] (Ab C5 (Ab A4 (Ab Lr (Ab Du (Ab Nc Af))))) func181 (by kernel_rfl) (by kernel_rfl) (by rfl) (fun C ⟨h0,h1,h2,h3,h4,_⟩ x=>(Bko Ac C x).trans (by rw[h0,h1,h2,h3,h4];exact rfl))

theorem Auu(L:Ae)(C:Ap):∀ x,Ag L C gN 129 f129 (f129.body.getD .skip) Ko x=Oy L (C 156 C6) (C 179 Si) (C 180 Ln) (C 181 Xx) x.1 x.2.1:=by
 intro x;kernel_rfl
theorem Au4:A6 prog 129 Ko Iz :=
 Bf Dc [⟨156,C6,Cm⟩,⟨179,Si,Nx⟩,⟨180,Ln,Jt⟩,⟨181,Xx,S6⟩] (Ab Mm (Ab Be1 (Ab Aw1 (Ab Blf Af)))) func129 (by kernel_rfl) (by kernel_rfl) (by rfl) (fun C ⟨h0,h1,h2,h3,_⟩ x=>(Auu Ac C x).trans (by rw[h0,h1,h2,h3];exact rfl))

theorem Bn8(L:Ae)(C:Ap):∀ x,Ag L C gN 69 f69 (f69.body.getD .skip) Br x=Air L x.1:=by
 intro x;kernel_rfl
theorem E9:A6 prog 69 Br Bd :=
 Bf Dc [] Af func69 (by kernel_rfl) (by kernel_rfl) (by rfl) (fun C _ x=>(Bn8 Ac C x).trans (by exact rfl))

theorem Ba1(L:Ae)(C:Ap):∀ x,Ag L C gN 244 f244 (f244.body.getD .skip) Og x=Tm L x.1 x.2.1 x.2.2.1:=by
 intro x;kernel_rfl
theorem Baz:A6 prog 244 Og Lo :=
 Bf Dc [] Af func244 (by kernel_rfl) (by kernel_rfl) (by rfl) (fun C _ x=>(Ba1 Ac C x).trans (by exact rfl))

theorem Bvd(L:Ae)(C:Ap):∀ x,Ag L C gN 242 f242 (f242.body.getD .skip) Akg x=Aqx L (C 244 Og) x.1 x.2.1:=by
 intro x;kernel_rfl
theorem Bus:A6 prog 242 Akg Aby :=
 Bf Dc [⟨244,Og,Lo⟩] (Ab Baz Af) func242 (by kernel_rfl) (by kernel_rfl) (by rfl) (fun C ⟨h0,_⟩ x=>(Bvd Ac C x).trans (by rw[h0];exact rfl))

theorem Bhd(L:Ae)(C:Ap):∀ x,Ag L C gN 243 f243 (f243.body.getD .skip) Un x=Ac5 L x.1 x.2.1:=by
 intro x;kernel_rfl
theorem Bif:A6 prog 243 Un Qk :=
 Bf Dc [] Af func243 (by kernel_rfl) (by kernel_rfl) (by rfl) (fun C _ x=>(Bhd Ac C x).trans (by exact rfl))

theorem Bic(L:Ae)(C:Ap):∀ x,Ag L C gN 236 f236 (f236.body.getD .skip) Up x=Acx L (C 242 Akg) (C 243 Un) x.1:=by
 intro x;kernel_rfl
theorem Bhg:A6 prog 236 Up P3 :=
 Bf Dc [⟨242,Akg,Aby⟩,⟨243,Un,Qk⟩] (Ab Bus (Ab Bif Af)) func236 (by kernel_rfl) (by kernel_rfl) (by rfl) (fun C ⟨h0,h1,_⟩ x=>(Bic Ac C x).trans (by rw[h0,h1];exact rfl))

theorem Bmv(L:Ae)(C:Ap):∀ x,Ag L C gN 219 f219 (f219.body.getD .skip) Abh x=Ai8 L (C 236 Up) x.1 x.2.1 x.2.2.1:=by
 intro x;kernel_rfl
theorem Bqa:A6 prog 219 Abh Vc :=
 Bf Dc [⟨236,Up,P3⟩] (Ab Bhg Af) func219 (by kernel_rfl) (by kernel_rfl) (by rfl) (fun C ⟨h0,_⟩ x=>(Bmv Ac C x).trans (by rw[h0];exact rfl))

theorem Bwu(L:Ae)(C:Ap):∀ x,Ag L C gN 182 f182 (f182.body.getD .skip) Ajq x=Aqa L (C 68 Dv) (C 69 Br) (C 76 Aj) (C 74 Ea) (C 219 Abh) (C 153 Bc) (C 157 Dk) (C 146 Fk) (C 185 Fv) (C 151 A8) x.1 x.2.1 x.2.2.1 x.2.2.2.1:=by
 intro x;kernel_rfl
theorem Bw0:A6 prog 182 Ajq Ab2 :=
 Bf Dc [⟨68,Dv,Cr⟩,⟨69,Br,Bd⟩,⟨76,Aj,Ai⟩,⟨74,Ea,Ca⟩,⟨219,Abh,Vc⟩,⟨153,Bc,A1⟩,⟨157,Dk,Ci⟩,⟨146,Fk,Dx⟩,⟨185,Fv,Ds⟩,⟨151,A8,Ay⟩] (Ab Of (Ab E9 (Ab A4 (Ab Nc (Ab Bqa (Ab C5 (Ab Lr (Ab T9 (Ab Tj (Ab Cw Af)))))))))) func182 (by kernel_rfl) (by kernel_rfl) (by rfl) (fun C ⟨h0,h1,h2,h3,h4,h5,h6,h7,h8,h9,_⟩ x=>(Bwu Ac C x).trans (by rw[h0,h1,h2,h3,h4,h5,h6,h7,h8,h9];exact rfl))

theorem Bik(L:Ae)(C:Ap):∀ x,Ag L C gN 130 f130 (f130.body.getD .skip) U5 x=Acy L (C 182 Ajq) (C 76 Aj) (C 183 Yb) (C 153 Bc) (C 157 Dk) (C 152 Kw) (C 184 G5) (C 185 Fv) (C 124 Bm) (C 146 Fk) (C 151 A8) x.1 x.2.1 x.2.2.1 x.2.2.2.1:=by
 intro x;kernel_rfl
theorem Bhb:A6 prog 130 U5 P1 :=
 Bf Dc [⟨182,Ajq,Ab2⟩,⟨76,Aj,Ai⟩,⟨183,Yb,Qx⟩,⟨153,Bc,A1⟩,⟨157,Dk,Ci⟩,⟨152,Kw,G8⟩,⟨184,G5,Dr⟩,⟨185,Fv,Ds⟩,⟨124,Bm,A7⟩,⟨146,Fk,Dx⟩,⟨151,A8,Ay⟩] (Ab Bw0 (Ab A4 (Ab Bey (Ab C5 (Ab Lr (Ab Ajn (Ab Yn (Ab Tj (Ab Du (Ab T9 (Ab Cw Af))))))))))) func130 (by kernel_rfl) (by kernel_rfl) (by rfl) (fun C ⟨h0,h1,h2,h3,h4,h5,h6,h7,h8,h9,h10,_⟩ x=>(Bik Ac C x).trans (by rw[h0,h1,h2,h3,h4,h5,h6,h7,h8,h9,h10];exact rfl))

theorem Ayo(L:Ae)(C:Ap):∀ x,Ag L C gN 176 f176 (f176.body.getD .skip) Mq x=Rf L (C 76 Aj) (C 124 Bm) (C 74 Ea) (C 69 Br) x.1:=by
 intro x;kernel_rfl
theorem Ax6:A6 prog 176 Mq Km :=
 Bf Dc [⟨76,Aj,Ai⟩,⟨124,Bm,A7⟩,⟨74,Ea,Ca⟩,⟨69,Br,Bd⟩] (Ab A4 (Ab Du (Ab Nc (Ab E9 Af)))) func176 (by kernel_rfl) (by kernel_rfl) (by rfl) (fun C ⟨h0,h1,h2,h3,_⟩ x=>(Ayo Ac C x).trans (by rw[h0,h1,h2,h3];exact rfl))

theorem Bp8(L:Ae)(C:Ap):∀ x,Ag L C gN 122 f122 (f122.body.getD .skip) Eu x=Aig L (C 176 Mq) x.1:=by
 intro x;kernel_rfl
theorem Sx:A6 prog 122 Eu Dl :=
 Bf Dc [⟨176,Mq,Km⟩] (Ab Ax6 Af) func122 (by kernel_rfl) (by kernel_rfl) (by rfl) (fun C ⟨h0,_⟩ x=>(Bp8 Ac C x).trans (by rw[h0];exact rfl))

theorem Bry(L:Ae)(C:Ap):∀ x,Ag L C gN 123 f123 (f123.body.getD .skip) Jm x=Amr L (C 69 Br) x.1:=by
 intro x;kernel_rfl
theorem Ajc:A6 prog 123 Jm Ek :=
 Bf Dc [⟨69,Br,Bd⟩] (Ab E9 Af) func123 (by kernel_rfl) (by kernel_rfl) (by rfl) (fun C ⟨h0,_⟩ x=>(Bry Ac C x).trans (by rw[h0];exact rfl))

theorem Bpf(L:Ae)(C:Ap):∀ x,Ag L C gN 70 f70 (f70.body.getD .skip) Ib x=Aii L (C 122 Eu) (C 123 Jm) x.1:=by
 intro x;kernel_rfl
theorem Aex:A6 prog 70 Ib E6 :=
 Bf Dc [⟨122,Eu,Dl⟩,⟨123,Jm,Ek⟩] (Ab Sx (Ab Ajc Af)) func70 (by kernel_rfl) (by kernel_rfl) (by rfl) (fun C ⟨h0,h1,_⟩ x=>(Bpf Ac C x).trans (by rw[h0,h1];exact rfl))

theorem Bfq(L:Ae)(C:Ap):∀ x,Ag L C gN 131 f131 (f131.body.getD .skip) Rz x=Aae L (C 70 Ib) x.1 x.2.1:=by
 intro x;kernel_rfl
theorem Bfi:A6 prog 131 Rz Om :=
 Bf Dc [⟨70,Ib,E6⟩] (Ab Aex Af) func131 (by kernel_rfl) (by kernel_rfl) (by rfl) (fun C ⟨h0,_⟩ x=>(Bfq Ac C x).trans (by rw[h0];exact rfl))

theorem Bmm(L:Ae)(C:Ap):∀ x,Ag L C gN 197 f197 (f197.body.getD .skip) F7 x=Ajk L (C 76 Aj) (C 74 Ea) (C 184 G5) (C 151 A8) x.1 x.2.1:=by
 intro x;kernel_rfl
theorem Zg:A6 prog 197 F7 Ee :=
 Bf Dc [⟨76,Aj,Ai⟩,⟨74,Ea,Ca⟩,⟨184,G5,Dr⟩,⟨151,A8,Ay⟩] (Ab A4 (Ab Nc (Ab Yn (Ab Cw Af)))) func197 (by kernel_rfl) (by kernel_rfl) (by rfl) (fun C ⟨h0,h1,h2,h3,_⟩ x=>(Bmm Ac C x).trans (by rw[h0,h1,h2,h3];exact rfl))

theorem Ba4(L:Ae)(C:Ap):∀ x,Ag L C gN 187 f187 (f187.body.getD .skip) Fs x=Uk L (C 212 Jh) x.1 x.2.1:=by
 intro x;kernel_rfl
theorem Aa2:A6 prog 187 Fs Eh :=
 Bf Dc [⟨212,Jh,Hq⟩] (Ab Apc Af) func187 (by kernel_rfl) (by kernel_rfl) (by rfl) (fun C ⟨h0,_⟩ x=>(Ba4 Ac C x).trans (by rw[h0];exact rfl))

theorem Aw4(L:Ae)(C:Ap):∀ x,Ag L C gN 186 f186 (f186.body.getD .skip) El x=Lp L (C 156 C6) (C 197 F7) (C 187 Fs) x.1 x.2.1 x.2.2.1:=by
 intro x;kernel_rfl
theorem V0:A6 prog 186 El Cv :=
 Bf Dc [⟨156,C6,Cm⟩,⟨197,F7,Ee⟩,⟨187,Fs,Eh⟩] (Ab Mm (Ab Zg (Ab Aa2 Af))) func186 (by kernel_rfl) (by kernel_rfl) (by rfl) (fun C ⟨h0,h1,h2,_⟩ x=>(Aw4 Ac C x).trans (by rw[h0,h1,h2];exact rfl))

theorem Asi(L:Ae)(C:Ap):∀ x,Ag L C gN 132 f132 (f132.body.getD .skip) Io x=L2 L (C 186 El) (C 76 Aj) (C 124 Bm) (C 151 A8) x.1 x.2.1 x.2.2.1 x.2.2.2.1:=by
 intro x;kernel_rfl
theorem Asp:A6 prog 132 Io Fo :=
 Bf Dc [⟨186,El,Cv⟩,⟨76,Aj,Ai⟩,⟨124,Bm,A7⟩,⟨151,A8,Ay⟩] (Ab V0 (Ab A4 (Ab Du (Ab Cw Af)))) func132 (by kernel_rfl) (by kernel_rfl) (by rfl) (fun C ⟨h0,h1,h2,h3,_⟩ x=>(Asi Ac C x).trans (by rw[h0,h1,h2,h3];exact rfl))

theorem Aia(L:Ae)(C:Ap):∀ x,Ag L C gN 133 f133 (f133.body.getD .skip) Fj x=Ht L (C 156 C6) (C 187 Fs) x.1 x.2.1:=by
 intro x;kernel_rfl
theorem Ahg:A6 prog 133 Fj Dp :=
 Bf Dc [⟨156,C6,Cm⟩,⟨187,Fs,Eh⟩] (Ab Mm (Ab Aa2 Af)) func133 (by kernel_rfl) (by kernel_rfl) (by rfl) (fun C ⟨h0,h1,_⟩ x=>(Aia Ac C x).trans (by rw[h0,h1];exact rfl))

theorem Bxe(L:Ae)(C:Ap):∀ x,Ag L C gN 134 f134 (f134.body.getD .skip) Ajv x=Ap3 L (C 153 Bc) (C 124 Bm) (C 151 A8) (C 188 K6) x.1 x.2.1:=by
 intro x;kernel_rfl
theorem Bww:A6 prog 134 Ajv Ach :=
 Bf Dc [⟨153,Bc,A1⟩,⟨124,Bm,A7⟩,⟨151,A8,Ay⟩,⟨188,K6,G6⟩] (Ab C5 (Ab Du (Ab Cw (Ab Ane Af)))) func134 (by kernel_rfl) (by kernel_rfl) (by rfl) (fun C ⟨h0,h1,h2,h3,_⟩ x=>(Bxe Ac C x).trans (by rw[h0,h1,h2,h3];exact rfl))

theorem Auo(L:Ae)(C:Ap):∀ x,Ag L C gN 189 f189 (f189.body.getD .skip) Ge x=Ot L (C 156 C6) (C 76 Aj) (C 124 Bm) (C 151 A8) (C 187 Fs) x.1 x.2.1 x.2.2.1:=by
 intro x;kernel_rfl
theorem Afw:A6 prog 189 Ge Fb :=
 Bf Dc [⟨156,C6,Cm⟩,⟨76,Aj,Ai⟩,⟨124,Bm,A7⟩,⟨151,A8,Ay⟩,⟨187,Fs,Eh⟩] (Ab Mm (Ab A4 (Ab Du (Ab Cw (Ab Aa2 Af))))) func189 (by kernel_rfl) (by kernel_rfl) (by rfl) (fun C ⟨h0,h1,h2,h3,h4,_⟩ x=>(Auo Ac C x).trans (by rw[h0,h1,h2,h3,h4];exact rfl))

theorem Asu(L:Ae)(C:Ap):∀ x,Ag L C gN 135 f135 (f135.body.getD .skip) I2 x=Lw L (C 186 El) (C 189 Ge) x.1 x.2.1 x.2.2.1 x.2.2.2.1:=by
 intro x;kernel_rfl
theorem Art:A6 prog 135 I2 Fm :=
 Bf Dc [⟨186,El,Cv⟩,⟨189,Ge,Fb⟩] (Ab V0 (Ab Afw Af)) func135 (by kernel_rfl) (by kernel_rfl) (by rfl) (fun C ⟨h0,h1,_⟩ x=>(Asu Ac C x).trans (by rw[h0,h1];exact rfl))

theorem Ar5(L:Ae)(C:Ap):∀ x,Ag L C gN 136 f136 (f136.body.getD .skip) Is x=L0 L (C 186 El) x.1 x.2.1 x.2.2.1:=by
 intro x;kernel_rfl
theorem Ask:A6 prog 136 Is Fq :=
 Bf Dc [⟨186,El,Cv⟩] (Ab V0 Af) func136 (by kernel_rfl) (by kernel_rfl) (by rfl) (fun C ⟨h0,_⟩ x=>(Ar5 Ac C x).trans (by rw[h0];exact rfl))

theorem Bnk(L:Ae)(C:Ap):∀ x,Ag L C gN 99 f99 (f99.body.getD .skip) Abk x=Ais L x.1:=by
 intro x;kernel_rfl
theorem Bmd:A6 prog 99 Abk Vg :=
 Bf Dc [] Af func99 (by kernel_rfl) (by kernel_rfl) (by rfl) (fun C _ x=>(Bnk Ac C x).trans (by exact rfl))

theorem Aw3(L:Ae)(C:Ap):∀ x,Ag L C gN 31 f31 (f31.body.getD .skip) Ck x=Qi L (C 99 Abk) x.1 x.2.1:=by
 intro x;kernel_rfl
theorem Kd:A6 prog 31 Ck Bl :=
 Bf Dc [⟨99,Abk,Vg⟩] (Ab Bmd Af) func31 (by kernel_rfl) (by kernel_rfl) (by rfl) (fun C ⟨h0,_⟩ x=>(Aw3 Ac C x).trans (by rw[h0];exact rfl))

theorem Ay8(L:Ae)(C:Ap):∀ x,Ag L C gN 29 f29 (f29.body.getD .skip) Do x=Ri L (C 31 Ck) x.1 x.2.1:=by
 intro x;kernel_rfl
theorem Pm:A6 prog 29 Do Bu :=
 Bf Dc [⟨31,Ck,Bl⟩] (Ab Kd Af) func29 (by kernel_rfl) (by kernel_rfl) (by rfl) (fun C ⟨h0,_⟩ x=>(Ay8 Ac C x).trans (by rw[h0];exact rfl))

theorem Bkt(L:Ae)(C:Ap):∀ x,Ag L C gN 233 f233 (f233.body.getD .skip) Zx x=Agg L (C 29 Do) (C 31 Ck) x.1:=by
 intro x;kernel_rfl
theorem Blm:A6 prog 233 Zx Sh :=
 Bf Dc [⟨29,Do,Bu⟩,⟨31,Ck,Bl⟩] (Ab Pm (Ab Kd Af)) func233 (by kernel_rfl) (by kernel_rfl) (by rfl) (fun C ⟨h0,h1,_⟩ x=>(Bkt Ac C x).trans (by rw[h0,h1];exact rfl))

theorem Bq9(L:Ae)(C:Ap):∀ x,Ag L C gN 166 f166 (f166.body.getD .skip) Aey x=Amf L:=by
 intro x;kernel_rfl
theorem Bqu:A6 prog 166 Aey Xz :=
 Bf Dc [] Af func166 (by kernel_rfl) (by kernel_rfl) (by rfl) (fun C _ x=>(Bq9 Ac C x).trans (by exact rfl))

theorem Br6(L:Ae)(C:Ap):∀ x,Ag L C gN 167 f167 (f167.body.getD .skip) Agq x=Am1 L x.1 x.2.1:=by
 intro x;kernel_rfl
theorem Br5:A6 prog 167 Agq Dm :=
 Bf Dc [] Af func167 (by kernel_rfl) (by kernel_rfl) (by rfl) (fun C _ x=>(Br6 Ac C x).trans (by exact rfl))

theorem Bq0(L:Ae)(C:Ap):∀ x,Ag L C gN 112 f112 (f112.body.getD .skip) Aeh x=Amj L (C 166 Aey) (C 167 Agq) x.1 x.2.1:=by
 intro x;kernel_rfl
theorem Bqy:A6 prog 112 Aeh Oq :=
 Bf Dc [⟨166,Aey,Xz⟩,⟨167,Agq,Dm⟩] (Ab Bqu (Ab Br5 Af)) func112 (by kernel_rfl) (by kernel_rfl) (by rfl) (fun C ⟨h0,h1,_⟩ x=>(Bq0 Ac C x).trans (by rw[h0,h1];exact rfl))

theorem Bzo(L:Ae)(C:Ap):∀ x,Ag L C gN 61 f61 (f61.body.getD .skip) Nm x=Aui L (C 112 Aeh) x.1:=by
 intro x;kernel_rfl
theorem Aqp:A6 prog 61 Nm Je :=
 Bf Dc [⟨112,Aeh,Oq⟩] (Ab Bqy Af) func61 (by kernel_rfl) (by kernel_rfl) (by rfl) (fun C ⟨h0,_⟩ x=>(Bzo Ac C x).trans (by rw[h0];exact rfl))

theorem Buk(L:Ae)(C:Ap):∀ x,Ag L C gN 232 f232 (f232.body.getD .skip) Aj4 x=Aql L (C 61 Nm) x.1:=by
 intro x;kernel_rfl
theorem Bv6:A6 prog 232 Aj4 Abq :=
 Bf Dc [⟨61,Nm,Je⟩] (Ab Aqp Af) func232 (by kernel_rfl) (by kernel_rfl) (by rfl) (fun C ⟨h0,_⟩ x=>(Buk Ac C x).trans (by rw[h0];exact rfl))

theorem Brm(L:Ae)(C:Ap):∀ x,Ag L C gN 208 f208 (f208.body.getD .skip) Tt x=Aml L (C 233 Zx) (C 232 Aj4) x.1:=by
 intro x;kernel_rfl
theorem Bb4:A6 prog 208 Tt Nn :=
 Bf Dc [⟨233,Zx,Sh⟩,⟨232,Aj4,Abq⟩] (Ab Blm (Ab Bv6 Af)) func208 (by kernel_rfl) (by kernel_rfl) (by rfl) (fun C ⟨h0,h1,_⟩ x=>(Brm Ac C x).trans (by rw[h0,h1];exact rfl))

theorem Blo(L:Ae)(C:Ap):∀ x,Ag L C gN 211 f211 (f211.body.getD .skip) No x=Aeg L (C 208 Tt) x.1 x.2.1:=by
 intro x;kernel_rfl
theorem Awy:A6 prog 211 No K1 :=
 Bf Dc [⟨208,Tt,Nn⟩] (Ab Bb4 Af) func211 (by kernel_rfl) (by kernel_rfl) (by rfl) (fun C ⟨h0,_⟩ x=>(Blo Ac C x).trans (by rw[h0];exact rfl))

theorem Bdv(L:Ae)(C:Ap):∀ x,Ag L C gN 234 f234 (f234.body.getD .skip) Gi x=Afu L x.1:=by
 intro x;kernel_rfl
theorem Adm:A6 prog 234 Gi E0 :=
 Bf Dc [] Af func234 (by kernel_rfl) (by kernel_rfl) (by rfl) (fun C _ x=>(Bdv Ac C x).trans (by exact rfl))

theorem Bun(L:Ae)(C:Ap):∀ x,Ag L C gN 237 f237 (f237.body.getD .skip) Yg x=Az4 L (C 61 Nm) x.1 x.2.1:=by
 intro x;kernel_rfl
theorem Bfs:A6 prog 237 Yg Q3 :=
 Bf Dc [⟨61,Nm,Je⟩] (Ab Aqp Af) func237 (by kernel_rfl) (by kernel_rfl) (by rfl) (fun C ⟨h0,_⟩ x=>(Bun Ac C x).trans (by rw[h0];exact rfl))

theorem Bn2(L:Ae)(C:Ap):∀ x,Ag L C gN 221 f221 (f221.body.getD .skip) I8 x=Ar9 L (C 61 Nm) (C 234 Gi) (C 221 I8) (C 237 Yg) x.1:=by
 intro x;kernel_rfl
theorem Blt(n:Nat):A6 prog 221 I8 (Ni n):=by
 induction n with
 | zero=>exact Bi8
 | succ n ih=>exact Bf Dc [⟨61,Nm,Je⟩,⟨234,Gi,E0⟩,⟨221,I8,Ni n⟩,⟨237,Yg,Q3⟩] (Ab Aqp (Ab Adm (Ab ih (Ab Bfs Af)))) func221 (by kernel_rfl) (by kernel_rfl) (by rfl) (fun C ⟨h0,h1,h2,h3,_⟩ x=>(Bn2 Ac C x).trans (by rw[h0,h1,h2,h3];exact rfl))
theorem Azh:A6 prog 221 I8 Md:=Blt Bks

theorem Bq2(L:Ae)(C:Ap):∀ x,Ag L C gN 190 f190 (f190.body.getD .skip) Afd x=Amn L (C 211 No) (C 221 I8) x.1 x.2.1:=by
 intro x;kernel_rfl
theorem Bq5:A6 prog 190 Afd Yl :=
 Bf Dc [⟨211,No,K1⟩,⟨221,I8,Md⟩] (Ab Awy (Ab Azh Af)) func190 (by kernel_rfl) (by kernel_rfl) (by rfl) (fun C ⟨h0,h1,_⟩ x=>(Bq2 Ac C x).trans (by rw[h0,h1];exact rfl))

theorem Aw6(L:Ae)(C:Ap):∀ x,Ag L C gN 137 f137 (f137.body.getD .skip) G2 x=P7 L (C 190 Afd) x.1 x.2.1 x.2.2.1:=by
 intro x;kernel_rfl
theorem Ag9:A6 prog 137 G2 Fr :=
 Bf Dc [⟨190,Afd,Yl⟩] (Ab Bq5 Af) func137 (by kernel_rfl) (by kernel_rfl) (by rfl) (fun C ⟨h0,_⟩ x=>(Aw6 Ac C x).trans (by rw[h0];exact rfl))

theorem Ba2(L:Ae)(C:Ap):∀ x,Ag L C gN 89 f89 (f89.body.getD .skip) Oh x=Tw L (C 129 Ko) (C 130 U5) (C 131 Rz) (C 132 Io) (C 133 Fj) (C 134 Ajv) (C 135 I2) (C 69 Br) (C 136 Is) (C 137 G2) x.1 x.2.1:=by
 intro x;kernel_rfl
theorem Bbh:A6 prog 89 Oh G1 :=
 Bf Dc [⟨129,Ko,Iz⟩,⟨130,U5,P1⟩,⟨131,Rz,Om⟩,⟨132,Io,Fo⟩,⟨133,Fj,Dp⟩,⟨134,Ajv,Ach⟩,⟨135,I2,Fm⟩,⟨69,Br,Bd⟩,⟨136,Is,Fq⟩,⟨137,G2,Fr⟩] (Ab Au4 (Ab Bhb (Ab Bfi (Ab Asp (Ab Ahg (Ab Bww (Ab Art (Ab E9 (Ab Ask (Ab Ag9 Af)))))))))) func89 (by kernel_rfl) (by kernel_rfl) (by rfl) (fun C ⟨h0,h1,h2,h3,h4,h5,h6,h7,h8,h9,_⟩ x=>(Ba2 Ac C x).trans (by rw[h0,h1,h2,h3,h4,h5,h6,h7,h8,h9];exact rfl))

theorem Aw8(L:Ae)(C:Ap):∀ x,Ag L C gN 139 f139 (f139.body.getD .skip) Ls x=Ps L x.1 x.2.1:=by
 intro x;kernel_rfl
theorem Axh:A6 prog 139 Ls Jw :=
 Bf Dc [] Af func139 (by kernel_rfl) (by kernel_rfl) (by rfl) (fun C _ x=>(Aw8 Ac C x).trans (by exact rfl))

theorem Br8(L:Ae)(C:Ap):∀ x,Ag L C gN 222 f222 (f222.body.getD .skip) Jr x=Am0 L x.1 x.2.1:=by
 intro x;kernel_rfl
theorem Ajj:A6 prog 222 Jr G4 :=
 Bf Dc [] Af func222 (by kernel_rfl) (by kernel_rfl) (by rfl) (fun C _ x=>(Br8 Ac C x).trans (by exact rfl))

theorem Boa(L:Ae)(C:Ap):∀ x,Ag L C gN 223 f223 (f223.body.getD .skip) Aci x=Aiq L x.1:=by
 intro x;kernel_rfl
theorem Bnj:A6 prog 223 Aci Vr :=
 Bf Dc [] Af func223 (by kernel_rfl) (by kernel_rfl) (by rfl) (fun C _ x=>(Boa Ac C x).trans (by exact rfl))

theorem Bnx(L:Ae)(C:Ap):∀ x,Ag L C gN 191 f191 (f191.body.getD .skip) Acc x=Aiw L (C 70 Ib) (C 68 Dv) (C 222 Jr) (C 223 Aci) x.1 x.2.1 x.2.2.1 x.2.2.2.1:=by
 intro x;kernel_rfl
theorem Bqd:A6 prog 191 Acc Vj :=
 Bf Dc [⟨70,Ib,E6⟩,⟨68,Dv,Cr⟩,⟨222,Jr,G4⟩,⟨223,Aci,Vr⟩] (Ab Aex (Ab Of (Ab Ajj (Ab Bnj Af)))) func191 (by kernel_rfl) (by kernel_rfl) (by rfl) (fun C ⟨h0,h1,h2,h3,_⟩ x=>(Bnx Ac C x).trans (by rw[h0,h1,h2,h3];exact rfl))

theorem Bez(L:Ae)(C:Ap):∀ x,Ag L C gN 192 f192 (f192.body.getD .skip) S5 x=Aac L (C 153 Bc) (C 157 Dk) (C 185 Fv) (C 151 A8) x.1 x.2.1 x.2.2.1 x.2.2.2.1:=by
 intro x;kernel_rfl
theorem Bem:A6 prog 192 S5 Nz :=
 Bf Dc [⟨153,Bc,A1⟩,⟨157,Dk,Ci⟩,⟨185,Fv,Ds⟩,⟨151,A8,Ay⟩] (Ab C5 (Ab Lr (Ab Tj (Ab Cw Af)))) func192 (by kernel_rfl) (by kernel_rfl) (by rfl) (fun C ⟨h0,h1,h2,h3,_⟩ x=>(Bez Ac C x).trans (by rw[h0,h1,h2,h3];exact rfl))

theorem Bmz(L:Ae)(C:Ap):∀ x,Ag L C gN 193 f193 (f193.body.getD .skip) Abl x=Aje L (C 76 Aj) (C 157 Dk) (C 201 Ct) x.1 x.2.1:=by
 intro x;kernel_rfl
theorem Bo6:A6 prog 193 Abl Vo :=
 Bf Dc [⟨76,Aj,Ai⟩,⟨157,Dk,Ci⟩,⟨201,Ct,B3⟩] (Ab A4 (Ab Lr (Ab J2 Af))) func193 (by kernel_rfl) (by kernel_rfl) (by rfl) (fun C ⟨h0,h1,h2,_⟩ x=>(Bmz Ac C x).trans (by rw[h0,h1,h2];exact rfl))

theorem Bk7(L:Ae)(C:Ap):∀ x,Ag L C gN 194 f194 (f194.body.getD .skip) Za x=Ta L (C 122 Eu) (C 222 Jr) (C 76 Aj) (C 124 Bm) (C 146 Fk) (C 69 Br) (C 151 A8) x.1 x.2.1 x.2.2.1 x.2.2.2.1 x.2.2.2.2.1:=by
 intro x;kernel_rfl
theorem Bkj:A6 prog 194 Za E8 :=
 Bf Dc [⟨122,Eu,Dl⟩,⟨222,Jr,G4⟩,⟨76,Aj,Ai⟩,⟨124,Bm,A7⟩,⟨146,Fk,Dx⟩,⟨69,Br,Bd⟩,⟨151,A8,Ay⟩] (Ab Sx (Ab Ajj (Ab A4 (Ab Du (Ab T9 (Ab E9 (Ab Cw Af))))))) func194 (by kernel_rfl) (by kernel_rfl) (by rfl) (fun C ⟨h0,h1,h2,h3,h4,h5,h6,_⟩ x=>(Bk7 Ac C x).trans (by rw[h0,h1,h2,h3,h4,h5,h6];exact rfl))

theorem Blg(L:Ae)(C:Ap):∀ x,Ag L C gC 224 f224 (f224.body.getD .skip) Yo x=Aes L x.1:=by
 intro x;kernel_rfl
theorem Bkm:A6 prog 224 Yo Rp :=
 Bf Dc [] Af func224 (by kernel_rfl) (by kernel_rfl) (by rfl) (fun C _ x=>(Blg Ac C x).trans (by exact rfl))

theorem Bse(L:Ae)(C:Ap):∀ x,Ag L C gN 195 f195 (f195.body.getD .skip) Af4 x=Am3 L (C 122 Eu) (C 224 Yo) (C 76 Aj) (C 152 Kw) (C 151 A8) (C 184 G5) x.1 x.2.1:=by
 intro x;kernel_rfl
theorem Bq7:A6 prog 195 Af4 X4 :=
 Bf Dc [⟨122,Eu,Dl⟩,⟨224,Yo,Rp⟩,⟨76,Aj,Ai⟩,⟨152,Kw,G8⟩,⟨151,A8,Ay⟩,⟨184,G5,Dr⟩] (Ab Sx (Ab Bkm (Ab A4 (Ab Ajn (Ab Cw (Ab Yn Af)))))) func195 (by kernel_rfl) (by kernel_rfl) (by rfl) (fun C ⟨h0,h1,h2,h3,h4,h5,_⟩ x=>(Bse Ac C x).trans (by rw[h0,h1,h2,h3,h4,h5];exact rfl))

theorem Bmc(L:Ae)(C:Ap):∀ x,Ag L C gN 205 f205 (f205.body.getD .skip) Ld x=Ai4 L (C 76 Aj) (C 124 Bm) (C 201 Ct) x.1 x.2.1:=by
 intro x;kernel_rfl
theorem Ao4:A6 prog 205 Ld Ii :=
 Bf Dc [⟨76,Aj,Ai⟩,⟨124,Bm,A7⟩,⟨201,Ct,B3⟩] (Ab A4 (Ab Du (Ab J2 Af))) func205 (by kernel_rfl) (by kernel_rfl) (by rfl) (fun C ⟨h0,h1,h2,_⟩ x=>(Bmc Ac C x).trans (by rw[h0,h1,h2];exact rfl))

theorem Bla(L:Ae)(C:Ap):∀ x,Ag L C gN 225 f225 (f225.body.getD .skip) Yu x=Li L (C 122 Eu) (C 222 Jr) (C 197 F7) (C 205 Ld) (C 69 Br) x.1 x.2.1 x.2.2.1:=by
 intro x;kernel_rfl
theorem Bkb:A6 prog 225 Yu F9 :=
 Bf Dc [⟨122,Eu,Dl⟩,⟨222,Jr,G4⟩,⟨197,F7,Ee⟩,⟨205,Ld,Ii⟩,⟨69,Br,Bd⟩] (Ab Sx (Ab Ajj (Ab Zg (Ab Ao4 (Ab E9 Af))))) func225 (by kernel_rfl) (by kernel_rfl) (by rfl) (fun C ⟨h0,h1,h2,h3,h4,_⟩ x=>(Bla Ac C x).trans (by rw[h0,h1,h2,h3,h4];exact rfl))

theorem Bo3(L:Ae)(C:Ap):∀ x,Ag L C gN 196 f196 (f196.body.getD .skip) Abg x=Ail L (C 225 Yu) x.1 x.2.1:=by
 intro x;kernel_rfl
theorem Bpq:A6 prog 196 Abg Uw :=
 Bf Dc [⟨225,Yu,F9⟩] (Ab Bkb Af) func196 (by kernel_rfl) (by kernel_rfl) (by rfl) (fun C ⟨h0,_⟩ x=>(Bo3 Ac C x).trans (by rw[h0];exact rfl))

theorem Buz(L:Ae)(C:Ap):∀ x,Ag L C gN 140 f140 (f140.body.getD .skip) Y0 x=Aqi L (C 76 Aj) (C 124 Bm) (C 201 Ct) x.1:=by
 intro x;kernel_rfl
theorem Be3:A6 prog 140 Y0 Q1 :=
 Bf Dc [⟨76,Aj,Ai⟩,⟨124,Bm,A7⟩,⟨201,Ct,B3⟩] (Ab A4 (Ab Du (Ab J2 Af))) func140 (by kernel_rfl) (by kernel_rfl) (by rfl) (fun C ⟨h0,h1,h2,_⟩ x=>(Buz Ac C x).trans (by rw[h0,h1,h2];exact rfl))

theorem Bd9(L:Ae)(C:Ap):∀ x,Ag L C gN 198 f198 (f198.body.getD .skip) Sk x=Aaj L (C 122 Eu) (C 76 Aj) (C 124 Bm) (C 201 Ct) x.1:=by
 intro x;kernel_rfl
theorem Bgc:A6 prog 198 Sk N7 :=
 Bf Dc [⟨122,Eu,Dl⟩,⟨76,Aj,Ai⟩,⟨124,Bm,A7⟩,⟨201,Ct,B3⟩] (Ab Sx (Ab A4 (Ab Du (Ab J2 Af)))) func198 (by kernel_rfl) (by kernel_rfl) (by rfl) (fun C ⟨h0,h1,h2,h3,_⟩ x=>(Bd9 Ac C x).trans (by rw[h0,h1,h2,h3];exact rfl))

theorem Bvt(L:Ae)(C:Ap):∀ x,Ag L C gN 228 f228 (f228.body.getD .skip) Fl x=Aqz L x.1 x.2.1:=by
 intro x;kernel_rfl
theorem Tx:A6 prog 228 Fl Dz :=
 Bf Dc [] Af func228 (by kernel_rfl) (by kernel_rfl) (by rfl) (fun C _ x=>(Bvt Ac C x).trans (by exact rfl))

theorem By9(L:Ae)(C:Ap):∀ x,Ag L C gN 227 f227 (f227.body.getD .skip) T6 x=Awe L (C 124 Bm) (C 228 Fl) (C 74 Ea) (C 184 G5) x.1 x.2.1:=by
 intro x;kernel_rfl
theorem Ayv:A6 prog 227 T6 Mv :=
 Bf Dc [⟨124,Bm,A7⟩,⟨228,Fl,Dz⟩,⟨74,Ea,Ca⟩,⟨184,G5,Dr⟩] (Ab Du (Ab Tx (Ab Nc (Ab Yn Af)))) func227 (by kernel_rfl) (by kernel_rfl) (by rfl) (fun C ⟨h0,h1,h2,h3,_⟩ x=>(By9 Ac C x).trans (by rw[h0,h1,h2,h3];exact rfl))

theorem Blr(L:Ae)(C:Ap):∀ x,Ag L C gN 226 f226 (f226.body.getD .skip) Nv x=Aft L (C 201 Ct) x.1:=by
 intro x;kernel_rfl
theorem Awu:A6 prog 226 Nv K0 :=
 Bf Dc [⟨201,Ct,B3⟩] (Ab J2 Af) func226 (by kernel_rfl) (by kernel_rfl) (by rfl) (fun C ⟨h0,_⟩ x=>(Blr Ac C x).trans (by rw[h0];exact rfl))

theorem Buv(L:Ae)(C:Ap):∀ x,Ag L C gN 199 f199 (f199.body.getD .skip) Ajy x=Aqh L (C 76 Aj) (C 228 Fl) (C 227 T6) (C 226 Nv) x.1 x.2.1:=by
 intro x;kernel_rfl
theorem Bu7:A6 prog 199 Ajy Acd :=
 Bf Dc [⟨76,Aj,Ai⟩,⟨228,Fl,Dz⟩,⟨227,T6,Mv⟩,⟨226,Nv,K0⟩] (Ab A4 (Ab Tx (Ab Ayv (Ab Awu Af)))) func199 (by kernel_rfl) (by kernel_rfl) (by rfl) (fun C ⟨h0,h1,h2,h3,_⟩ x=>(Buv Ac C x).trans (by rw[h0,h1,h2,h3];exact rfl))

theorem Bc5(L:Ae)(C:Ap):∀ x,Ag L C gN 240 f240 (f240.body.getD .skip) Ji x=Wz L (C 76 Aj) (C 228 Fl) x.1:=by
 intro x;kernel_rfl
theorem Ao5:A6 prog 240 Ji Hm :=
 Bf Dc [⟨76,Aj,Ai⟩,⟨228,Fl,Dz⟩] (Ab A4 (Ab Tx Af)) func240 (by kernel_rfl) (by kernel_rfl) (by rfl) (fun C ⟨h0,h1,_⟩ x=>(Bc5 Ac C x).trans (by rw[h0,h1];exact rfl))

theorem Bpm(L:Ae)(C:Ap):∀ x,Ag L C gN 239 f239 (f239.body.getD .skip) Abr x=Aip L (C 228 Fl) x.1:=by
 intro x;kernel_rfl
theorem Bpv:A6 prog 239 Abr Vk :=
 Bf Dc [⟨228,Fl,Dz⟩] (Ab Tx Af) func239 (by kernel_rfl) (by kernel_rfl) (by rfl) (fun C ⟨h0,_⟩ x=>(Bpm Ac C x).trans (by rw[h0];exact rfl))

theorem Bh5(L:Ae)(C:Ap):∀ x,Ag L C gN 238 f238 (f238.body.getD .skip) Vp x=Ac7 L (C 185 Fv) (C 153 Bc) (C 124 Bm) (C 228 Fl) x.1 x.2.1:=by
 intro x;kernel_rfl
theorem Bgx:A6 prog 238 Vp Pq :=
 Bf Dc [⟨185,Fv,Ds⟩,⟨153,Bc,A1⟩,⟨124,Bm,A7⟩,⟨228,Fl,Dz⟩] (Ab Tj (Ab C5 (Ab Du (Ab Tx Af)))) func238 (by kernel_rfl) (by kernel_rfl) (by rfl) (fun C ⟨h0,h1,h2,h3,_⟩ x=>(Bh5 Ac C x).trans (by rw[h0,h1,h2,h3];exact rfl))

theorem Bz2(L:Ae)(C:Ap):∀ x,Ag L C gN 241 f241 (f241.body.getD .skip) Aoi x=Au5 L (C 157 Dk) (C 228 Fl) x.1 x.2.1:=by
 intro x;kernel_rfl
theorem Bx2:A6 prog 241 Aoi Aeq :=
 Bf Dc [⟨157,Dk,Ci⟩,⟨228,Fl,Dz⟩] (Ab Lr (Ab Tx Af)) func241 (by kernel_rfl) (by kernel_rfl) (by rfl) (fun C ⟨h0,h1,_⟩ x=>(Bz2 Ac C x).trans (by rw[h0,h1];exact rfl))

theorem Bmi(L:Ae)(C:Ap):∀ x,Ag L C gN 229 f229 (f229.body.getD .skip) Ab4 x=Ain L (C 68 Dv) (C 123 Jm) (C 240 Ji) (C 239 Abr) (C 153 Bc) (C 238 Vp) (C 227 T6) (C 241 Aoi) (C 146 Fk) (C 185 Fv) (C 124 Bm) (C 226 Nv) x.1 x.2.1 x.2.2.1 x.2.2.2.1:=by
 intro x;kernel_rfl
theorem Bow:A6 prog 229 Ab4 Ve :=
 Bf Dc [⟨68,Dv,Cr⟩,⟨123,Jm,Ek⟩,⟨240,Ji,Hm⟩,⟨239,Abr,Vk⟩,⟨153,Bc,A1⟩,⟨238,Vp,Pq⟩,⟨227,T6,Mv⟩,⟨241,Aoi,Aeq⟩,⟨146,Fk,Dx⟩,⟨185,Fv,Ds⟩,⟨124,Bm,A7⟩,⟨226,Nv,K0⟩] (Ab Of (Ab Ajc (Ab Ao5 (Ab Bpv (Ab C5 (Ab Bgx (Ab Ayv (Ab Bx2 (Ab T9 (Ab Tj (Ab Du (Ab Awu Af)))))))))))) func229 (by kernel_rfl) (by kernel_rfl) (by rfl) (fun C ⟨h0,h1,h2,h3,h4,h5,h6,h7,h8,h9,h10,h11,_⟩ x=>(Bmi Ac C x).trans (by rw[h0,h1,h2,h3,h4,h5,h6,h7,h8,h9,h10,h11];exact rfl))

theorem Bc3(L:Ae)(C:Ap):∀ x,Ag L C gN 230 f230 (f230.body.getD .skip) Qo x=Xk L (C 123 Jm) (C 76 Aj) (C 228 Fl) (C 240 Ji) (C 227 T6) (C 201 Ct) x.1 x.2.1:=by
 intro x;kernel_rfl
theorem Bb6:A6 prog 230 Qo Mo :=
 Bf Dc [⟨123,Jm,Ek⟩,⟨76,Aj,Ai⟩,⟨228,Fl,Dz⟩,⟨240,Ji,Hm⟩,⟨227,T6,Mv⟩,⟨201,Ct,B3⟩] (Ab Ajc (Ab A4 (Ab Tx (Ab Ao5 (Ab Ayv (Ab J2 Af)))))) func230 (by kernel_rfl) (by kernel_rfl) (by rfl) (fun C ⟨h0,h1,h2,h3,h4,h5,_⟩ x=>(Bc3 Ac C x).trans (by rw[h0,h1,h2,h3,h4,h5];exact rfl))

theorem Bsg(L:Ae)(C:Ap):∀ x,Ag L C gN 200 f200 (f200.body.getD .skip) Afi x=Amu L (C 68 Dv) (C 123 Jm) (C 229 Ab4) (C 230 Qo) x.1 x.2.1 x.2.2.1 x.2.2.2.1 x.2.2.2.2.1:=by
 intro x;kernel_rfl
theorem Bsf:A6 prog 200 Afi Ya :=
 Bf Dc [⟨68,Dv,Cr⟩,⟨123,Jm,Ek⟩,⟨229,Ab4,Ve⟩,⟨230,Qo,Mo⟩] (Ab Of (Ab Ajc (Ab Bow (Ab Bb6 Af)))) func200 (by kernel_rfl) (by kernel_rfl) (by rfl) (fun C ⟨h0,h1,h2,h3,_⟩ x=>(Bsg Ac C x).trans (by rw[h0,h1,h2,h3];exact rfl))

theorem Bkl(L:Ae)(C:Ap):∀ x,Ag L C gN 138 f138 (f138.body.getD .skip) Zi x=Ae8 L (C 191 Acc) (C 192 S5) (C 193 Abl) (C 194 Za) (C 195 Af4) (C 196 Abg) (C 140 Y0) (C 197 F7) (C 198 Sk) (C 199 Ajy) (C 200 Afi) x.1 x.2.1 x.2.2.1 x.2.2.2.1 x.2.2.2.2.1:=by
 intro x;kernel_rfl
theorem Bk5:A6 prog 138 Zi Sr :=
 Bf Dc [⟨191,Acc,Vj⟩,⟨192,S5,Nz⟩,⟨193,Abl,Vo⟩,⟨194,Za,E8⟩,⟨195,Af4,X4⟩,⟨196,Abg,Uw⟩,⟨140,Y0,Q1⟩,⟨197,F7,Ee⟩,⟨198,Sk,N7⟩,⟨199,Ajy,Acd⟩,⟨200,Afi,Ya⟩] (Ab Bqd (Ab Bem (Ab Bo6 (Ab Bkj (Ab Bq7 (Ab Bpq (Ab Be3 (Ab Zg (Ab Bgc (Ab Bu7 (Ab Bsf Af))))))))))) func138 (by kernel_rfl) (by kernel_rfl) (by rfl) (fun C ⟨h0,h1,h2,h3,h4,h5,h6,h7,h8,h9,h10,_⟩ x=>(Bkl Ac C x).trans (by rw[h0,h1,h2,h3,h4,h5,h6,h7,h8,h9,h10];exact rfl))

theorem Akh(L:Ae)(C:Ap):∀ x,Ag L C gN 141 f141 (f141.body.getD .skip) F6 x=Ig L (C 197 F7) x.1 x.2.1 x.2.2.1:=by
 intro x;kernel_rfl
theorem Ajr:A6 prog 141 F6 D8 :=
 Bf Dc [⟨197,F7,Ee⟩] (Ab Zg Af) func141 (by kernel_rfl) (by kernel_rfl) (by rfl) (fun C ⟨h0,_⟩ x=>(Akh Ac C x).trans (by rw[h0];exact rfl))

theorem As5(L:Ae)(C:Ap):∀ x,Ag L C gN 90 f90 (f90.body.getD .skip) Jl x=M5 L (C 139 Ls) (C 138 Zi) (C 140 Y0) (C 141 F6) (C 137 G2) x.1 x.2.1:=by
 intro x;kernel_rfl
theorem Ata:A6 prog 90 Jl Es :=
 Bf Dc [⟨139,Ls,Jw⟩,⟨138,Zi,Sr⟩,⟨140,Y0,Q1⟩,⟨141,F6,D8⟩,⟨137,G2,Fr⟩] (Ab Axh (Ab Bk5 (Ab Be3 (Ab Ajr (Ab Ag9 Af))))) func90 (by kernel_rfl) (by kernel_rfl) (by rfl) (fun C ⟨h0,h1,h2,h3,h4,_⟩ x=>(As5 Ac C x).trans (by rw[h0,h1,h2,h3,h4];exact rfl))

theorem Bmh(L:Ae)(C:Ap):∀ x,Ag L C gN 142 f142 (f142.body.getD .skip) Abo x=Ai5 L (C 202 Tv) x.1 x.2.1 x.2.2.1:=by
 intro x;kernel_rfl
theorem Bn5:A6 prog 142 Abo Uq :=
 Bf Dc [⟨202,Tv,N9⟩] (Ab Bbw Af) func142 (by kernel_rfl) (by kernel_rfl) (by rfl) (fun C ⟨h0,_⟩ x=>(Bmh Ac C x).trans (by rw[h0];exact rfl))

theorem Bru(L:Ae)(C:Ap):∀ x,Ag L C gN 143 f143 (f143.body.getD .skip) Afg x=Ami L (C 128 Ze) x.1 x.2.1 x.2.2.1 x.2.2.2.1:=by
 intro x;kernel_rfl
theorem Br1:A6 prog 143 Afg Zm :=
 Bf Dc [⟨128,Ze,Nd⟩] (Ab Bei Af) func143 (by kernel_rfl) (by kernel_rfl) (by rfl) (fun C ⟨h0,_⟩ x=>(Bru Ac C x).trans (by rw[h0];exact rfl))

theorem Bvn(L:Ae)(C:Ap):∀ x,Ag L C gN 203 f203 (f203.body.getD .skip) Aj9 x=Aqr L x.1:=by
 intro x;kernel_rfl
theorem Bwa:A6 prog 203 Aj9 Aiy :=
 Bf Dc [] Af func203 (by kernel_rfl) (by kernel_rfl) (by rfl) (fun C _ x=>(Bvn Ac C x).trans (by exact rfl))

theorem Bw9(L:Ae)(C:Ap):∀ x,Ag L C gN 144 f144 (f144.body.getD .skip) Ajo x=Aq3 L (C 68 Dv) (C 203 Aj9) (C 188 K6) x.1 x.2.1 x.2.2.1:=by
 intro x;kernel_rfl
theorem Bvq:A6 prog 144 Ajo Ab9 :=
 Bf Dc [⟨68,Dv,Cr⟩,⟨203,Aj9,Aiy⟩,⟨188,K6,G6⟩] (Ab Of (Ab Bwa (Ab Ane Af))) func144 (by kernel_rfl) (by kernel_rfl) (by rfl) (fun C ⟨h0,h1,h2,_⟩ x=>(Bw9 Ac C x).trans (by rw[h0,h1,h2];exact rfl))

theorem Bwf(L:Ae)(C:Ap):∀ x,Ag L C gN 204 f204 (f204.body.getD .skip) Aj0 x=Ard L (C 122 Eu) (C 222 Jr) x.1 x.2.1:=by
 intro x;kernel_rfl
theorem Bwi:A6 prog 204 Aj0 Acf :=
 Bf Dc [⟨122,Eu,Dl⟩,⟨222,Jr,G4⟩] (Ab Sx (Ab Ajj Af)) func204 (by kernel_rfl) (by kernel_rfl) (by rfl) (fun C ⟨h0,h1,_⟩ x=>(Bwf Ac C x).trans (by rw[h0,h1];exact rfl))

theorem Bc7(L:Ae)(C:Ap):∀ x,Ag L C gN 145 f145 (f145.body.getD .skip) Qn x=Xq L (C 70 Ib) (C 204 Aj0) x.1 x.2.1:=by
 intro x;kernel_rfl
theorem Bdt:A6 prog 145 Qn Mp :=
 Bf Dc [⟨70,Ib,E6⟩,⟨204,Aj0,Acf⟩] (Ab Aex (Ab Bwi Af)) func145 (by kernel_rfl) (by kernel_rfl) (by rfl) (fun C ⟨h0,h1,_⟩ x=>(Bc7 Ac C x).trans (by rw[h0,h1];exact rfl))

theorem As8(L:Ae)(C:Ap):∀ x,Ag L C gN 147 f147 (f147.body.getD .skip) Jp x=Mu L (C 69 Br) (C 205 Ld) x.1 x.2.1:=by
 intro x;kernel_rfl
theorem Aud:A6 prog 147 Jp Ic :=
 Bf Dc [⟨69,Br,Bd⟩,⟨205,Ld,Ii⟩] (Ab E9 (Ab Ao4 Af)) func147 (by kernel_rfl) (by kernel_rfl) (by rfl) (fun C ⟨h0,h1,_⟩ x=>(As8 Ac C x).trans (by rw[h0,h1];exact rfl))

theorem Au2(L:Ae)(C:Ap):∀ x,Ag L C gN 206 f206 (f206.body.getD .skip) Kf x=Or L (C 76 Aj) (C 124 Bm) x.1:=by
 intro x;kernel_rfl
theorem Avx:A6 prog 206 Kf Gr :=
 Bf Dc [⟨76,Aj,Ai⟩,⟨124,Bm,A7⟩] (Ab A4 (Ab Du Af)) func206 (by kernel_rfl) (by kernel_rfl) (by rfl) (fun C ⟨h0,h1,_⟩ x=>(Au2 Ac C x).trans (by rw[h0,h1];exact rfl))

theorem Ayf(L:Ae)(C:Ap):∀ x,Ag L C gN 148 f148 (f148.body.getD .skip) Mk x=Rk L (C 206 Kf) (C 76 Aj) (C 124 Bm) (C 146 Fk) (C 189 Ge) x.1 x.2.1 x.2.2.1:=by
 intro x;kernel_rfl
theorem Ax1:A6 prog 148 Mk Hx :=
 Bf Dc [⟨206,Kf,Gr⟩,⟨76,Aj,Ai⟩,⟨124,Bm,A7⟩,⟨146,Fk,Dx⟩,⟨189,Ge,Fb⟩] (Ab Avx (Ab A4 (Ab Du (Ab T9 (Ab Afw Af))))) func148 (by kernel_rfl) (by kernel_rfl) (by rfl) (fun C ⟨h0,h1,h2,h3,h4,_⟩ x=>(Ayf Ac C x).trans (by rw[h0,h1,h2,h3,h4];exact rfl))

theorem Atb(L:Ae)(C:Ap):∀ x,Ag L C gN 34 f34 (f34.body.getD .skip) Fu x=Mw L x.1 x.2.1:=by
 intro x;kernel_rfl
theorem Ad3:A6 prog 34 Fu Er :=
 Bf Dc [] Af func34 (by kernel_rfl) (by kernel_rfl) (by rfl) (fun C _ x=>(Atb Ac C x).trans (by exact rfl))

theorem Cch(L:Ae)(C:Ap):∀ x,Ag L C gN 231 f231 (f231.body.getD .skip) Ad7 x=Bg6 L (C 234 Gi) (C 231 Ad7) (C 237 Yg) x.1 x.2.1 x.2.2.1 x.2.2.2.1:=by
 intro x;kernel_rfl
theorem Bzz(n:Nat):A6 prog 231 Ad7 (Aah n):=by
 induction n with
 | zero=>exact Bi8
 | succ n ih=>exact Bf Dc [⟨234,Gi,E0⟩,⟨231,Ad7,Aah n⟩,⟨237,Yg,Q3⟩] (Ab Adm (Ab ih (Ab Bfs Af))) func231 (by kernel_rfl) (by kernel_rfl) (by rfl) (fun C ⟨h0,h1,h2,_⟩ x=>(Cch Ac C x).trans (by rw[h0,h1,h2];exact rfl))
theorem Cb4:A6 prog 231 Ad7 Ajt:=Bzz Bks

theorem Bnq(L:Ae)(C:Ap):∀ x,Ag L C gN 207 f207 (f207.body.getD .skip) Ab0 x=Aik L (C 231 Ad7) x.1 x.2.1 x.2.2.1 x.2.2.2.1 x.2.2.2.2.1:=by
 intro x;kernel_rfl
theorem Bpr:A6 prog 207 Ab0 Ph :=
 Bf Dc [⟨231,Ad7,Ajt⟩] (Ab Cb4 Af) func207 (by kernel_rfl) (by kernel_rfl) (by rfl) (fun C ⟨h0,_⟩ x=>(Bnq Ac C x).trans (by rw[h0];exact rfl))

theorem Apo(L:Ae)(C:Ap):∀ x,Ag L C gN 209 f209 (f209.body.getD .skip) H9 x=K8 L x.1 x.2.1:=by
 intro x;kernel_rfl
theorem App:A6 prog 209 H9 Gv :=
 Bf Dc [] Af func209 (by kernel_rfl) (by kernel_rfl) (by rfl) (fun C _ x=>(Apo Ac C x).trans (by exact rfl))

theorem Axm(L:Ae)(C:Ap):∀ x,Ag L C gN 149 f149 (f149.body.getD .skip) Lq x=Qp L (C 69 Br) (C 34 Fu) (C 208 Tt) (C 207 Ab0) (C 197 F7) (C 209 H9) (C 205 Ld) x.1 x.2.1:=by
 intro x;kernel_rfl
theorem Axf:A6 prog 149 Lq Jv :=
 Bf Dc [⟨69,Br,Bd⟩,⟨34,Fu,Er⟩,⟨208,Tt,Nn⟩,⟨207,Ab0,Ph⟩,⟨197,F7,Ee⟩,⟨209,H9,Gv⟩,⟨205,Ld,Ii⟩] (Ab E9 (Ab Ad3 (Ab Bb4 (Ab Bpr (Ab Zg (Ab App (Ab Ao4 Af))))))) func149 (by kernel_rfl) (by kernel_rfl) (by rfl) (fun C ⟨h0,h1,h2,h3,h4,h5,h6,_⟩ x=>(Axm Ac C x).trans (by rw[h0,h1,h2,h3,h4,h5,h6];exact rfl))

theorem Avs(L:Ae)(C:Ap):∀ x,Ag L C gN 91 f91 (f91.body.getD .skip) Kj x=O0 L (C 142 Abo) (C 143 Afg) (C 144 Ajo) (C 145 Qn) (C 69 Br) (C 76 Aj) (C 124 Bm) (C 146 Fk) (C 147 Jp) (C 148 Mk) (C 149 Lq) x.1 x.2.1:=by
 intro x;kernel_rfl
theorem Auv:A6 prog 91 Kj Fd :=
 Bf Dc [⟨142,Abo,Uq⟩,⟨143,Afg,Zm⟩,⟨144,Ajo,Ab9⟩,⟨145,Qn,Mp⟩,⟨69,Br,Bd⟩,⟨76,Aj,Ai⟩,⟨124,Bm,A7⟩,⟨146,Fk,Dx⟩,⟨147,Jp,Ic⟩,⟨148,Mk,Hx⟩,⟨149,Lq,Jv⟩] (Ab Bn5 (Ab Br1 (Ab Bvq (Ab Bdt (Ab E9 (Ab A4 (Ab Du (Ab T9 (Ab Aud (Ab Ax1 (Ab Axf Af))))))))))) func91 (by kernel_rfl) (by kernel_rfl) (by rfl) (fun C ⟨h0,h1,h2,h3,h4,h5,h6,h7,h8,h9,h10,_⟩ x=>(Avs Ac C x).trans (by rw[h0,h1,h2,h3,h4,h5,h6,h7,h8,h9,h10];exact rfl))

theorem Ar3(L:Ae)(C:Ap):∀ x,Ag L C gN 27 f27 (f27.body.getD .skip) Ix x=Lx L (C 88 Pv) (C 89 Oh) (C 90 Jl) (C 91 Kj) x.1 x.2.1:=by
 intro x;kernel_rfl
theorem Arx:A6 prog 27 Ix Fp :=
 Bf Dc [⟨88,Pv,Jx⟩,⟨89,Oh,G1⟩,⟨90,Jl,Es⟩,⟨91,Kj,Fd⟩] (Ab Bd2 (Ab Bbh (Ab Ata (Ab Auv Af)))) func27 (by kernel_rfl) (by kernel_rfl) (by rfl) (fun C ⟨h0,h1,h2,h3,_⟩ x=>(Ar3 Ac C x).trans (by rw[h0,h1,h2,h3];exact rfl))

theorem By8(L:Ae)(C:Ap):∀ x,Ag L C gN 12 f12 (f12.body.getD .skip) T0 x=Au9 L x.1 x.2.1:=by
 intro x;kernel_rfl
theorem Axx:A6 prog 12 T0 M6 :=
 Bf Dc [] Af func12 (by kernel_rfl) (by kernel_rfl) (by rfl) (fun C _ x=>(By8 Ac C x).trans (by exact rfl))

theorem Blc(L:Ae)(C:Ap):∀ x,Ag L C gN 92 f92 (f92.body.getD .skip) Zs x=Afs L x.1 x.2.1 x.2.2.1:=by
 intro x;kernel_rfl
theorem Blk:A6 prog 92 Zs K3 :=
 Bf Dc [] Af func92 (by kernel_rfl) (by kernel_rfl) (by rfl) (fun C _ x=>(Blc Ac C x).trans (by exact rfl))

theorem Bpa(L:Ae)(C:Ap):∀ x,Ag L C gN 93 f93 (f93.body.getD .skip) Abz x=Aio L x.1 x.2.1:=by
 intro x;kernel_rfl
theorem Bon:A6 prog 93 Abz L4 :=
 Bf Dc [] Af func93 (by kernel_rfl) (by kernel_rfl) (by rfl) (fun C _ x=>(Bpa Ac C x).trans (by exact rfl))

theorem Bra(L:Ae)(C:Ap):∀ x,Ag L C gN 94 f94 (f94.body.getD .skip) Aek x=Am2 L x.1:=by
 intro x;kernel_rfl
theorem Brc:A6 prog 94 Aek Ns :=
 Bf Dc [] Af func94 (by kernel_rfl) (by kernel_rfl) (by rfl) (fun C _ x=>(Bra Ac C x).trans (by exact rfl))

theorem Brp(L:Ae)(C:Ap):∀ x,Ag L C gN 210 f210 (f210.body.getD .skip) Qc x=Auj L (C 234 Gi) (C 210 Qc) (C 221 I8) x.1 x.2.1:=by
 intro x;kernel_rfl
theorem Bm4(n:Nat):A6 prog 210 Qc (Pg n):=by
 induction n with
 | zero=>exact Bi8
 | succ n ih=>exact Bf Dc [⟨234,Gi,E0⟩,⟨210,Qc,Pg n⟩,⟨221,I8,Md⟩] (Ab Adm (Ab ih (Ab Azh Af))) func210 (by kernel_rfl) (by kernel_rfl) (by rfl) (fun C ⟨h0,h1,h2,_⟩ x=>(Brp Ac C x).trans (by rw[h0,h1,h2];exact rfl))
theorem Brq:A6 prog 210 Qc Yj:=Bm4 Bks

theorem Bqj(L:Ae)(C:Ap):∀ x,Ag L C gN 150 f150 (f150.body.getD .skip) Ab5 x=Aix L (C 211 No) (C 210 Qc) x.1 x.2.1 x.2.2.1:=by
 intro x;kernel_rfl
theorem Boy:A6 prog 150 Ab5 Ux :=
 Bf Dc [⟨211,No,K1⟩,⟨210,Qc,Yj⟩] (Ab Awy (Ab Brq Af)) func150 (by kernel_rfl) (by kernel_rfl) (by rfl) (fun C ⟨h0,h1,_⟩ x=>(Bqj Ac C x).trans (by rw[h0,h1];exact rfl))

theorem Bp0(L:Ae)(C:Ap):∀ x,Ag L C gN 154 f154 (f154.body.getD .skip) Qy x=Aih L:=by
 intro x;kernel_rfl
theorem Ax0:A6 prog 154 Qy Me :=
 Bf Dc [] Af func154 (by kernel_rfl) (by kernel_rfl) (by rfl) (fun C _ x=>(Bp0 Ac C x).trans (by exact rfl))

theorem Bmw(L:Ae)(C:Ap):∀ x,Ag L C gN 155 f155 (f155.body.getD .skip) Abt x=Ai3 L x.1:=by
 intro x;kernel_rfl
theorem Bmx:A6 prog 155 Abt Uu :=
 Bf Dc [] Af func155 (by kernel_rfl) (by kernel_rfl) (by rfl) (fun C _ x=>(Bmw Ac C x).trans (by exact rfl))

theorem Bqq(L:Ae)(C:Ap):∀ x,Ag L C gN 95 f95 (f95.body.getD .skip) Afr x=Amo L (C 150 Ab5) (C 76 Aj) (C 153 Bc) (C 124 Bm) (C 154 Qy) (C 152 Kw) (C 151 A8) (C 155 Abt) x.1 x.2.1:=by
 intro x;kernel_rfl
theorem Brs:A6 prog 95 Afr On :=
 Bf Dc [⟨150,Ab5,Ux⟩,⟨76,Aj,Ai⟩,⟨153,Bc,A1⟩,⟨124,Bm,A7⟩,⟨154,Qy,Me⟩,⟨152,Kw,G8⟩,⟨151,A8,Ay⟩,⟨155,Abt,Uu⟩] (Ab Boy (Ab A4 (Ab C5 (Ab Du (Ab Ax0 (Ab Ajn (Ab Cw (Ab Bmx Af)))))))) func95 (by kernel_rfl) (by kernel_rfl) (by rfl) (fun C ⟨h0,h1,h2,h3,h4,h5,h6,h7,_⟩ x=>(Bqq Ac C x).trans (by rw[h0,h1,h2,h3,h4,h5,h6,h7];exact rfl))

theorem Att(L:Ae)(C:Ap):∀ x,Ag L C gN 158 f158 (f158.body.getD .skip) Jk x=Ms L (C 12 T0) x.1:=by
 intro x;kernel_rfl
theorem Atf:A6 prog 158 Jk H1 :=
 Bf Dc [⟨12,T0,M6⟩] (Ab Axx Af) func158 (by kernel_rfl) (by kernel_rfl) (by rfl) (fun C ⟨h0,_⟩ x=>(Att Ac C x).trans (by rw[h0];exact rfl))

theorem Ba0(L:Ae)(C:Ap):∀ x,Ag L C gN 96 f96 (f96.body.getD .skip) N5 x=T7 L (C 156 C6) (C 76 Aj) (C 153 Bc) (C 157 Dk) (C 151 A8) (C 158 Jk) (C 154 Qy) x.1 x.2.1 x.2.2.1:=by
 intro x;kernel_rfl
theorem Bbi:A6 prog 96 N5 G3 :=
 Bf Dc [⟨156,C6,Cm⟩,⟨76,Aj,Ai⟩,⟨153,Bc,A1⟩,⟨157,Dk,Ci⟩,⟨151,A8,Ay⟩,⟨158,Jk,H1⟩,⟨154,Qy,Me⟩] (Ab Mm (Ab A4 (Ab C5 (Ab Lr (Ab Cw (Ab Atf (Ab Ax0 Af))))))) func96 (by kernel_rfl) (by kernel_rfl) (by rfl) (fun C ⟨h0,h1,h2,h3,h4,h5,h6,_⟩ x=>(Ba0 Ac C x).trans (by rw[h0,h1,h2,h3,h4,h5,h6];exact rfl))

theorem Bhm(L:Ae)(C:Ap):∀ x,Ag L C gN 28 f28 (f28.body.getD .skip) Vf x=Ac6 L (C 12 T0) (C 92 Zs) (C 93 Abz) (C 94 Aek) (C 95 Afr) (C 96 N5) x.1 x.2.1 x.2.2.1:=by
 intro x;kernel_rfl
theorem Bia:A6 prog 28 Vf L3 :=
 Bf Dc [⟨12,T0,M6⟩,⟨92,Zs,K3⟩,⟨93,Abz,L4⟩,⟨94,Aek,Ns⟩,⟨95,Afr,On⟩,⟨96,N5,G3⟩] (Ab Axx (Ab Blk (Ab Bon (Ab Brc (Ab Brs (Ab Bbi Af)))))) func28 (by kernel_rfl) (by kernel_rfl) (by rfl) (fun C ⟨h0,h1,h2,h3,h4,h5,_⟩ x=>(Bhm Ac C x).trans (by rw[h0,h1,h2,h3,h4,h5];exact rfl))

theorem Bh6(L:Ae)(C:Ap):∀ x,Ag L C gN 9 f9 (f9.body.getD .skip) L9 x=Acq L (C 25 Aju) (C 26 Qb) (C 27 Ix) (C 28 Vf) x.1 x.2.1:=by
 intro x;kernel_rfl
theorem Aty:A6 prog 9 L9 Jj :=
 Bf Dc [⟨25,Aju,Ack⟩,⟨26,Qb,Mj⟩,⟨27,Ix,Fp⟩,⟨28,Vf,L3⟩] (Ab Bv7 (Ab Bd5 (Ab Arx (Ab Bia Af)))) func9 (by kernel_rfl) (by kernel_rfl) (by rfl) (fun C ⟨h0,h1,h2,h3,_⟩ x=>(Bh6 Ac C x).trans (by rw[h0,h1,h2,h3];exact rfl))

theorem Aru(L:Ae)(C:Ap):∀ x,Ag L C gC 32 f32 (f32.body.getD .skip) Im x=Ly L (C 69 Br) x.1:=by
 intro x;kernel_rfl
theorem Asl:A6 prog 32 Im Hf :=
 Bf Dc [⟨69,Br,Bd⟩] (Ab E9 Af) func32 (by kernel_rfl) (by kernel_rfl) (by rfl) (fun C ⟨h0,_⟩ x=>(Aru Ac C x).trans (by rw[h0];exact rfl))

theorem Aok(L:Ae)(C:Ap):∀ x,Ag L C gC 33 f33 (f33.body.getD .skip) Hk x=J6 L x.1:=by
 intro x;kernel_rfl
theorem Anv:A6 prog 33 Hk Gh :=
 Bf Dc [] Af func33 (by kernel_rfl) (by kernel_rfl) (by rfl) (fun C _ x=>(Aok Ac C x).trans (by exact rfl))

theorem Avb(L:Ae)(C:Ap):∀ x,Ag L C gN 11 f11 (f11.body.getD .skip) Gd x=Oz L (C 32 Im) (C 33 Hk) (C 34 Fu) x.1:=by
 intro x;kernel_rfl
theorem Aew:A6 prog 11 Gd Fe :=
 Bf Dc [⟨32,Im,Hf⟩,⟨33,Hk,Gh⟩,⟨34,Fu,Er⟩] (Ab Asl (Ab Anv (Ab Ad3 Af))) func11 (by kernel_rfl) (by kernel_rfl) (by rfl) (fun C ⟨h0,h1,h2,_⟩ x=>(Avb Ac C x).trans (by rw[h0,h1,h2];exact rfl))

theorem Bqn(L:Ae)(C:Ap):∀ x,Ag L C gN 8 f8 (f8.body.getD .skip) Abj x=Arv L (C 13 Qg) (C 9 L9) (C 22 Fc) (C 11 Gd):=by
 intro x;kernel_rfl
theorem Bou:A6 prog 8 Abj Pi :=
 Bf Dc [⟨13,Qg,Abd⟩,⟨9,L9,Jj⟩,⟨22,Fc,C4⟩,⟨11,Gd,Fe⟩] (Ab Bb7 (Ab Aty (Ab Xt (Ab Aew Af)))) func8 (by kernel_rfl) (by kernel_rfl) (by rfl) (fun C ⟨h0,h1,h2,h3,_⟩ x=>(Bqn Ac C x).trans (by rw[h0,h1,h2,h3];exact rfl))

theorem Avy(L:Ae)(C:Ap):∀ x,Ag L C gN 71 f71 (f71.body.getD .skip) Kn x=Wf L (C 69 Br) x.1:=by
 intro x;kernel_rfl
theorem Avo:A6 prog 71 Kn Iu :=
 Bf Dc [⟨69,Br,Bd⟩] (Ab E9 Af) func71 (by kernel_rfl) (by kernel_rfl) (by rfl) (fun C ⟨h0,_⟩ x=>(Avy Ac C x).trans (by rw[h0];exact rfl))

theorem Awg(L:Ae)(C:Ap):∀ x,Ag L C gN 72 f72 (f72.body.getD .skip) Kl x=Wi L x.1:=by
 intro x;kernel_rfl
theorem Avz:A6 prog 72 Kl I3 :=
 Bf Dc [] Af func72 (by kernel_rfl) (by kernel_rfl) (by rfl) (fun C _ x=>(Awg Ac C x).trans (by exact rfl))

theorem Av4(L:Ae)(C:Ap):∀ x,Ag L C gN 73 f73 (f73.body.getD .skip) Kp x=Wo L (C 69 Br) x.1:=by
 intro x;kernel_rfl
theorem Au1:A6 prog 73 Kp Iq :=
 Bf Dc [⟨69,Br,Bd⟩] (Ab E9 Af) func73 (by kernel_rfl) (by kernel_rfl) (by rfl) (fun C ⟨h0,_⟩ x=>(Av4 Ac C x).trans (by rw[h0];exact rfl))

theorem Brg(L:Ae)(C:Ap):∀ x,Ag L C gN 75 f75 (f75.body.getD .skip) Agh x=Aun L (C 76 Aj) (C 124 Bm) x.1:=by
 intro x;kernel_rfl
theorem Bsd:A6 prog 75 Agh Ys :=
 Bf Dc [⟨76,Aj,Ai⟩,⟨124,Bm,A7⟩] (Ab A4 (Ab Du Af)) func75 (by kernel_rfl) (by kernel_rfl) (by rfl) (fun C ⟨h0,h1,_⟩ x=>(Brg Ac C x).trans (by rw[h0,h1];exact rfl))

theorem Bcd(L:Ae)(C:Ap):∀ x,Ag L C gN 77 f77 (f77.body.getD .skip) P9 x=Af6 L (C 76 Aj) (C 124 Bm) x.1 x.2.1:=by
 intro x;kernel_rfl
theorem Bdz:A6 prog 77 P9 Jy :=
 Bf Dc [⟨76,Aj,Ai⟩,⟨124,Bm,A7⟩] (Ab A4 (Ab Du Af)) func77 (by kernel_rfl) (by kernel_rfl) (by rfl) (fun C ⟨h0,h1,_⟩ x=>(Bcd Ac C x).trans (by rw[h0,h1];exact rfl))

theorem Bk8(L:Ae)(C:Ap):∀ x,Ag L C gN 78 f78 (f78.body.getD .skip) Yp x=Ant L x.1 x.2.1:=by
 intro x;kernel_rfl
theorem Ble:A6 prog 78 Yp K2 :=
 Bf Dc [] Af func78 (by kernel_rfl) (by kernel_rfl) (by rfl) (fun C _ x=>(Bk8 Ac C x).trans (by exact rfl))

theorem Bna(L:Ae)(C:Ap):∀ x,Ag L C gN 23 f23 (f23.body.getD .skip) Qs x=Ash L (C 68 Dv) (C 69 Br) (C 70 Ib) (C 71 Kn) (C 72 Kl) (C 73 Kp) (C 75 Agh) (C 76 Aj) (C 74 Ea) (C 77 P9) (C 78 Yp) x.1:=by
 intro x;kernel_rfl
theorem Ax3:A6 prog 23 Qs Ij :=
 Bf Dc [⟨68,Dv,Cr⟩,⟨69,Br,Bd⟩,⟨70,Ib,E6⟩,⟨71,Kn,Iu⟩,⟨72,Kl,I3⟩,⟨73,Kp,Iq⟩,⟨75,Agh,Ys⟩,⟨76,Aj,Ai⟩,⟨74,Ea,Ca⟩,⟨77,P9,Jy⟩,⟨78,Yp,K2⟩] (Ab Of (Ab E9 (Ab Aex (Ab Avo (Ab Avz (Ab Au1 (Ab Bsd (Ab A4 (Ab Nc (Ab Bdz (Ab Ble Af))))))))))) func23 (by kernel_rfl) (by kernel_rfl) (by rfl) (fun C ⟨h0,h1,h2,h3,h4,h5,h6,h7,h8,h9,h10,_⟩ x=>(Bna Ac C x).trans (by rw[h0,h1,h2,h3,h4,h5,h6,h7,h8,h9,h10];exact rfl))

theorem Brx(L:Ae)(C:Ap):∀ x,Ag L C gN 97 f97 (f97.body.getD .skip) Ae0 x=Auy L (C 29 Do) x.1 x.2.1:=by
 intro x;kernel_rfl
theorem Br0:A6 prog 97 Ae0 X8 :=
 Bf Dc [⟨29,Do,Bu⟩] (Ab Pm Af) func97 (by kernel_rfl) (by kernel_rfl) (by rfl) (fun C ⟨h0,_⟩ x=>(Brx Ac C x).trans (by rw[h0];exact rfl))

theorem Ayj(L:Ae)(C:Ap):∀ x,Ag L C gN 98 f98 (f98.body.getD .skip) Mf x=Aba L (C 31 Ck) x.1 x.2.1:=by
 intro x;kernel_rfl
theorem Ax5:A6 prog 98 Mf Kq :=
 Bf Dc [⟨31,Ck,Bl⟩] (Ab Kd Af) func98 (by kernel_rfl) (by kernel_rfl) (by rfl) (fun C ⟨h0,_⟩ x=>(Ayj Ac C x).trans (by rw[h0];exact rfl))

theorem Bqv(L:Ae)(C:Ap):∀ x,Ag L C gN 30 f30 (f30.body.getD .skip) Af2 x=Avf L (C 97 Ae0) (C 31 Ck) (C 29 Do) (C 98 Mf) x.1:=by
 intro x;kernel_rfl
theorem Bqp:A6 prog 30 Af2 Yx :=
 Bf Dc [⟨97,Ae0,X8⟩,⟨31,Ck,Bl⟩,⟨29,Do,Bu⟩,⟨98,Mf,Kq⟩] (Ab Br0 (Ab Kd (Ab Pm (Ab Ax5 Af)))) func30 (by kernel_rfl) (by kernel_rfl) (by rfl) (fun C ⟨h0,h1,h2,h3,_⟩ x=>(Bqv Ac C x).trans (by rw[h0,h1,h2,h3];exact rfl))

theorem Bki(L:Ae)(C:Ap):∀ x,Ag L C gN 10 f10 (f10.body.getD .skip) Ol x=Ao3 L (C 23 Qs) (C 30 Af2) (C 29 Do) (C 31 Ck) x.1:=by
 intro x;kernel_rfl
theorem Awq:A6 prog 10 Ol Ha :=
 Bf Dc [⟨23,Qs,Ij⟩,⟨30,Af2,Yx⟩,⟨29,Do,Bu⟩,⟨31,Ck,Bl⟩] (Ab Ax3 (Ab Bqp (Ab Pm (Ab Kd Af)))) func10 (by kernel_rfl) (by kernel_rfl) (by rfl) (fun C ⟨h0,h1,h2,h3,_⟩ x=>(Bki Ac C x).trans (by rw[h0,h1,h2,h3];exact rfl))

theorem Bds(L:Ae)(C:Ap):∀ x,Ag L C gN 235 f235 (f235.body.getD .skip) Ql x=Agb L x.1:=by
 intro x;kernel_rfl
theorem Bc2:A6 prog 235 Ql Ml :=
 Bf Dc [] Af func235 (by kernel_rfl) (by kernel_rfl) (by rfl) (fun C _ x=>(Bds Ac C x).trans (by exact rfl))

theorem Be6(L:Ae)(C:Ap):∀ x,Ag L C gN 213 f213 (f213.body.getD .skip) Sv x=Ahh L (C 235 Ql) x.1:=by
 intro x;kernel_rfl
theorem Bfb:A6 prog 213 Sv Oo :=
 Bf Dc [⟨235,Ql,Ml⟩] (Ab Bc2 Af) func213 (by kernel_rfl) (by kernel_rfl) (by rfl) (fun C ⟨h0,_⟩ x=>(Be6 Ac C x).trans (by rw[h0];exact rfl))

theorem Bmo(L:Ae)(C:Ap):∀ x,Ag L C gN 165 f165 (f165.body.getD .skip) Q5 x=Ar4 L (C 213 Sv) x.1:=by
 intro x;kernel_rfl
theorem Ax7:A6 prog 165 Q5 L7 :=
 Bf Dc [⟨213,Sv,Oo⟩] (Ab Bfb Af) func165 (by kernel_rfl) (by kernel_rfl) (by rfl) (fun C ⟨h0,_⟩ x=>(Bmo Ac C x).trans (by rw[h0];exact rfl))

theorem Ass(L:Ae)(C:Ap):∀ x,Ag L C gC 126 f126 (f126.body.getD .skip) I0 x=Sz L x.1 x.2.1:=by
 intro x;kernel_rfl
theorem Arm:A6 prog 126 I0 Hg :=
 Bf Dc [] Af func126 (by kernel_rfl) (by kernel_rfl) (by rfl) (fun C _ x=>(Ass Ac C x).trans (by exact rfl))

theorem Ao8(L:Ae)(C:Ap):∀ x,Ag L C gN 79 f79 (f79.body.getD .skip) C1 x=Pb L (C 126 I0) x.1:=by
 intro x;kernel_rfl
theorem Oi:A6 prog 79 C1 B6 :=
 Bf Dc [⟨126,I0,Hg⟩] (Ab Arm Af) func79 (by kernel_rfl) (by kernel_rfl) (by rfl) (fun C ⟨h0,_⟩ x=>(Ao8 Ac C x).trans (by rw[h0];exact rfl))

theorem Axd(L:Ae)(C:Ap):∀ x,Ag L C gN 111 f111 (f111.body.getD .skip) Gz x=Zr L (C 165 Q5) (C 79 C1) x.1 x.2.1:=by
 intro x;kernel_rfl
theorem Ag2:A6 prog 111 Gz Fw :=
 Bf Dc [⟨165,Q5,L7⟩,⟨79,C1,B6⟩] (Ab Ax7 (Ab Oi Af)) func111 (by kernel_rfl) (by kernel_rfl) (by rfl) (fun C ⟨h0,h1,_⟩ x=>(Axd Ac C x).trans (by rw[h0,h1];exact rfl))

theorem Axq(L:Ae)(C:Ap):∀ x,Ag L C gN 109 f109 (f109.body.getD .skip) Mg x=Aat L (C 163 Em) (C 111 Gz) x.1 x.2.1:=by
 intro x;kernel_rfl
theorem Ay7:A6 prog 109 Mg J8 :=
 Bf Dc [⟨163,Em,Da⟩,⟨111,Gz,Fw⟩] (Ab Wk (Ab Ag2 Af)) func109 (by kernel_rfl) (by kernel_rfl) (by rfl) (fun C ⟨h0,h1,_⟩ x=>(Axq Ac C x).trans (by rw[h0,h1];exact rfl))

theorem Apl(L:Ae)(C:Ap):∀ x,Ag L C gN 57 f57 (f57.body.getD .skip) Eo x=Qu L (C 109 Mg) x.1 x.2.1:=by
 intro x;kernel_rfl
theorem Aam:A6 prog 57 Eo Bw :=
 Bf Dc [⟨109,Mg,J8⟩] (Ab Ay7 Af) func57 (by kernel_rfl) (by kernel_rfl) (by rfl) (fun C ⟨h0,_⟩ x=>(Apl Ac C x).trans (by rw[h0];exact rfl))

theorem Ao2(L:Ae)(C:Ap):∀ x,Ag L C gN 59 f59 (f59.body.getD .skip) Ec x=O5 L (C 111 Gz) x.1 x.2.1:=by
 intro x;kernel_rfl
theorem Zd:A6 prog 59 Ec Bs :=
 Bf Dc [⟨111,Gz,Fw⟩] (Ab Ag2 Af) func59 (by kernel_rfl) (by kernel_rfl) (by rfl) (fun C ⟨h0,_⟩ x=>(Ao2 Ac C x).trans (by rw[h0];exact rfl))

theorem Apn(L:Ae)(C:Ap):∀ x,Ag L C gN 164 f164 (f164.body.getD .skip) H8 x=Q2 L x.1:=by
 intro x;kernel_rfl
theorem Apd:A6 prog 164 H8 Gy :=
 Bf Dc [] Af func164 (by kernel_rfl) (by kernel_rfl) (by rfl) (fun C _ x=>(Apn Ac C x).trans (by exact rfl))

theorem Ax2(L:Ae)(C:Ap):∀ x,Ag L C gN 110 f110 (f110.body.getD .skip) Mn x=Abb L (C 115 Ju) (C 164 H8) (C 165 Q5) (C 79 C1) x.1 x.2.1:=by
 intro x;kernel_rfl
theorem Azn:A6 prog 110 Mn Kc :=
 Bf Dc [⟨115,Ju,F8⟩,⟨164,H8,Gy⟩,⟨165,Q5,L7⟩,⟨79,C1,B6⟩] (Ab Akt (Ab Apd (Ab Ax7 (Ab Oi Af)))) func110 (by kernel_rfl) (by kernel_rfl) (by rfl) (fun C ⟨h0,h1,h2,h3,_⟩ x=>(Ax2 Ac C x).trans (by rw[h0,h1,h2,h3];exact rfl))

theorem Ar0(L:Ae)(C:Ap):∀ x,Ag L C gN 58 f58 (f58.body.getD .skip) Iy x=Sw L (C 57 Eo) (C 59 Ec) (C 110 Mn) x.1 x.2.1:=by
 intro x;kernel_rfl
theorem Asg:A6 prog 58 Iy He :=
 Bf Dc [⟨57,Eo,Bw⟩,⟨59,Ec,Bs⟩,⟨110,Mn,Kc⟩] (Ab Aam (Ab Zd (Ab Azn Af))) func58 (by kernel_rfl) (by kernel_rfl) (by rfl) (fun C ⟨h0,h1,h2,_⟩ x=>(Ar0 Ac C x).trans (by rw[h0,h1,h2];exact rfl))

theorem Asn(L:Ae)(C:Ap):∀ x,Ag L C gC 60 f60 (f60.body.getD .skip) Iv x=Se L x.1:=by
 intro x;kernel_rfl
theorem Arp:A6 prog 60 Iv C2 :=
 Bf Dc [] Af func60 (by kernel_rfl) (by kernel_rfl) (by rfl) (fun C _ x=>(Asn Ac C x).trans (by exact rfl))

theorem Bcw(L:Ae)(C:Ap):∀ x,Ag L C gN 16 f16 (f16.body.getD .skip) Jn x=Afv L (C 22 Fc) (C 58 Iy) (C 57 Eo) (C 59 Ec) (C 60 Iv) x.1:=by
 intro x;kernel_rfl
theorem Aoh:A6 prog 16 Jn Ey :=
 Bf Dc [⟨22,Fc,C4⟩,⟨58,Iy,He⟩,⟨57,Eo,Bw⟩,⟨59,Ec,Bs⟩,⟨60,Iv,C2⟩] (Ab Xt (Ab Asg (Ab Aam (Ab Zd (Ab Arp Af))))) func16 (by kernel_rfl) (by kernel_rfl) (by rfl) (fun C ⟨h0,h1,h2,h3,h4,_⟩ x=>(Bcw Ac C x).trans (by rw[h0,h1,h2,h3,h4];exact rfl))

theorem Bdw(L:Ae)(C:Ap):∀ x,Ag L C gN 17 f17 (f17.body.getD .skip) Pj x=Af3 L x.1 x.2.1:=by
 intro x;kernel_rfl
theorem Bc6:A6 prog 17 Pj Jz :=
 Bf Dc [] Af func17 (by kernel_rfl) (by kernel_rfl) (by rfl) (fun C _ x=>(Bdw Ac C x).trans (by exact rfl))

theorem Bf2(L:Ae)(C:Ap):∀ x,Ag L C gN 18 f18 (f18.body.getD .skip) Sq x=Ahk L x.1:=by
 intro x;kernel_rfl
theorem Bfg:A6 prog 18 Sq Od :=
 Bf Dc [] Af func18 (by kernel_rfl) (by kernel_rfl) (by rfl) (fun C _ x=>(Bf2 Ac C x).trans (by exact rfl))

theorem Bk3(L:Ae)(C:Ap):∀ x,Ag L C gN 19 f19 (f19.body.getD .skip) X9 x=Aov L (C 12 T0) x.1 x.2.1 x.2.2.1:=by
 intro x;kernel_rfl
theorem Blp:A6 prog 19 X9 Sf :=
 Bf Dc [⟨12,T0,M6⟩] (Ab Axx Af) func19 (by kernel_rfl) (by kernel_rfl) (by rfl) (fun C ⟨h0,_⟩ x=>(Bk3 Ac C x).trans (by rw[h0];exact rfl))

theorem Au3(L:Ae)(C:Ap):∀ x,Ag L C gN 80 f80 (f80.body.getD .skip) Ke x=Vz L:=by
 intro x;kernel_rfl
theorem Avv:A6 prog 80 Ke Gm :=
 Bf Dc [] Af func80 (by kernel_rfl) (by kernel_rfl) (by rfl) (fun C _ x=>(Au3 Ac C x).trans (by exact rfl))

theorem Apm(L:Ae)(C:Ap):∀ x,Ag L C gN 127 f127 (f127.body.getD .skip) Ew x=Q8 L x.1 x.2.1:=by
 intro x;kernel_rfl
theorem Aan:A6 prog 127 Ew Bb :=
 Bf Dc [] Af func127 (by kernel_rfl) (by kernel_rfl) (by rfl) (fun C _ x=>(Apm Ac C x).trans (by exact rfl))

theorem Bja(L:Ae)(C:Ap):∀ x,Ag L C gN 82 f82 (f82.body.getD .skip) Ur x=Alf L (C 127 Ew) x.1:=by
 intro x;kernel_rfl
theorem Bhq:A6 prog 82 Ur Jq :=
 Bf Dc [⟨127,Ew,Bb⟩] (Ab Aan Af) func82 (by kernel_rfl) (by kernel_rfl) (by rfl) (fun C ⟨h0,_⟩ x=>(Bja Ac C x).trans (by rw[h0];exact rfl))

theorem Bih(L:Ae)(C:Ap):∀ x,Ag L C gN 81 f81 (f81.body.getD .skip) Va x=Ak7 L (C 127 Ew) x.1 x.2.1 x.2.2.1:=by
 intro x;kernel_rfl
theorem Bh1:A6 prog 81 Va Jd :=
 Bf Dc [⟨127,Ew,Bb⟩] (Ab Aan Af) func81 (by kernel_rfl) (by kernel_rfl) (by rfl) (fun C ⟨h0,_⟩ x=>(Bih Ac C x).trans (by rw[h0];exact rfl))

theorem Byx(L:Ae)(C:Ap):∀ x,Ag L C gN 24 f24 (f24.body.getD .skip) Aoo x=Bc1 L (C 79 C1) (C 80 Ke) (C 82 Ur) (C 81 Va) x.1:=by
 intro x;kernel_rfl
theorem Bx4:A6 prog 24 Aoo Z1 :=
 Bf Dc [⟨79,C1,B6⟩,⟨80,Ke,Gm⟩,⟨82,Ur,Jq⟩,⟨81,Va,Jd⟩] (Ab Oi (Ab Avv (Ab Bhq (Ab Bh1 Af)))) func24 (by kernel_rfl) (by kernel_rfl) (by rfl) (fun C ⟨h0,h1,h2,h3,_⟩ x=>(Byx Ac C x).trans (by rw[h0,h1,h2,h3];exact rfl))

theorem Bir(L:Ae)(C:Ap):∀ x,Ag L C gN 20 f20 (f20.body.getD .skip) Uz x=Akx L (C 16 Jn) (C 24 Aoo) x.1:=by
 intro x;kernel_rfl
theorem Bg2:A6 prog 20 Uz L1 :=
 Bf Dc [⟨16,Jn,Ey⟩,⟨24,Aoo,Z1⟩] (Ab Aoh (Ab Bx4 Af)) func20 (by kernel_rfl) (by kernel_rfl) (by rfl) (fun C ⟨h0,h1,_⟩ x=>(Bir Ac C x).trans (by rw[h0,h1];exact rfl))

theorem Bqs(L:Ae)(C:Ap):∀ x,Ag L C gN 21 f21 (f21.body.getD .skip) Aer x=Avn L (C 10 Ol) (C 61 Nm) x.1:=by
 intro x;kernel_rfl
theorem Brh:A6 prog 21 Aer Sb :=
 Bf Dc [⟨10,Ol,Ha⟩,⟨61,Nm,Je⟩] (Ab Awq (Ab Aqp Af)) func21 (by kernel_rfl) (by kernel_rfl) (by rfl) (fun C ⟨h0,h1,_⟩ x=>(Bqs Ac C x).trans (by rw[h0,h1];exact rfl))

theorem Anr(L:Ae)(C:Ap):∀ x,Ag L C gN 5 f5 (f5.body.getD .skip) Hj x=O8 L (C 8 Abj) (C 18 Sq) (C 9 L9) (C 11 Gd) (C 19 X9) (C 16 Jn) (C 10 Ol) (C 20 Uz) (C 21 Aer) (C 22 Fc) (C 23 Qs) (C 17 Pj) x.1 x.2.1 x.2.2.1 x.2.2.2.1:=by
 intro x;kernel_rfl
theorem ok_law27_SnapshotReference:A6 prog 5 Hj Gg :=
 Bf Dc [⟨8,Abj,Pi⟩,⟨18,Sq,Od⟩,⟨9,L9,Jj⟩,⟨11,Gd,Fe⟩,⟨19,X9,Sf⟩,⟨16,Jn,Ey⟩,⟨10,Ol,Ha⟩,⟨20,Uz,L1⟩,⟨21,Aer,Sb⟩,⟨22,Fc,C4⟩,⟨23,Qs,Ij⟩,⟨17,Pj,Jz⟩] (Ab Bou (Ab Bfg (Ab Aty (Ab Aew (Ab Blp (Ab Aoh (Ab Awq (Ab Bg2 (Ab Brh (Ab Xt (Ab Ax3 (Ab Bc6 Af)))))))))))) func5 (by kernel_rfl) (by kernel_rfl) (by rfl) (fun C ⟨h0,h1,h2,h3,h4,h5,h6,h7,h8,h9,h10,h11,_⟩ x=>(Anr Ac C x).trans (by rw[h0,h1,h2,h3,h4,h5,h6,h7,h8,h9,h10,h11];exact rfl))

end Go.Pon.YtjbkeldlldpddaaGreat
