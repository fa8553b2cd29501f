/-
  The functions of the groups are the program's own: checked by the kernel, function by function.
-/
import Derived.Test.YtfnglkabkfmjcaaGreatProg
import Derived.KernelRfl
import Derived.Test.YtfnglkabkfmjcaaGreatB3
import Derived.Test.YtfnglkabkfmjcaaGreatB4
import Derived.Test.YtfnglkabkfmjcaaGreatB5
set_option linter.unusedSimpArgs false
set_option linter.unusedVariables false
set_option linter.unnecessarySimpa false
namespace Go.Proofs.YtfnglkabkfmjcaaGreat
open Go.c9
def num:Nat->Nat
 | 58=>200
 | 59=>201
 | 60=>175
 | 61=>176
 | 62=>205
 | 63=>216
 | 64=>209
 | 65=>174
 | 66=>181
 | 67=>124
 | 68=>172
 | 69=>173
 | 70=>128
 | 71=>210
 | 72=>212
 | 73=>211
 | 74=>202
 | 75=>177
 | 76=>204
 | 77=>217
 | 78=>214
 | 79=>213
 | 80=>215
 | 81=>203
 | 82=>179
 | 83=>171
 | 84=>178
 | 85=>132
 | 86=>156
 | 87=>123
 | 88=>126
 | 89=>121
 | 90=>180
 | 91=>127
 | 92=>122
 | 93=>157
 | 94=>125
 | 95=>79
 | 96=>63
 | 97=>94
 | 98=>53
 | 99=>54
 | 100=>146
 | 101=>112
 | 102=>118
 | 103=>117
 | 104=>119
 | 105=>116
 | 106=>198
 | 107=>199
 | 108=>197
 | 109=>170
 | 110=>169
 | 111=>115
 | 112=>77
 | 113=>65
 | 114=>111
 | 115=>50
 | 116=>120
 | 117=>51
 | 118=>49
 | 119=>114
 | 120=>113
 | 121=>48
 | 122=>47
 | 123=>110
 | 124=>30
 | 125=>39
 | 126=>16
 | 127=>17
 | 128=>15
 | 130=>61
 | 131=>62
 | 132=>133
 | 133=>64
 | 134=>22
 | 136=>129
 | 137=>23
 | 138=>60
 | 149=>140
 | 150=>76
 | 169=>185
 | 152=>46
 | 153=>44
 | 154=>99
 | 155=>24
 | 197=>186
 | 198=>139
 | 199=>75
 | 200=>138
 | 201=>71
 | 204=>72
 | 205=>73
 | 206=>74
 | 207=>29
 | 256=>208
 | 294=>192
 | 295=>162
 | 296=>163
 | 297=>194
 | 299=>165
 | 300=>193
 | 302=>164
 | 303=>101
 | 306=>40
 | 308=>195
 | 309=>166
 | 310=>105
 | 311=>106
 | 313=>107
 | 314=>42
 | 227=>206
 | 228=>187
 | 229=>141
 | 231=>144
 | 900=>207
 | 233=>188
 | 234=>189
 | 235=>143
 | 237=>104
 | 239=>108
 | 276=>196
 | 277=>167
 | 901=>168
 | 278=>109
 | 34=>9
 | 35=>67
 | 141=>85
 | 316=>38
 | 317=>10
 | 321=>102
 | 322=>103
 | 323=>41
 | 324=>11
 | 325=>43
 | 326=>12
 | 327=>45
 | 328=>52
 | 329=>55
 | 330=>56
 | 331=>18
 | 332=>20
 | 333=>57
 | 334=>21
 | 336=>13
 | 338=>5
 | _=>0
theorem ok {p:Nat × AFn->Prop} {a:Nat × AFn} {l:List (Nat × AFn)} (h:p a) (t : ∀ x∈l,p x) : ∀ x∈a::l,p x:=List.forall_mem_cons.2 ⟨h,t⟩
def yG:List (Nat × AFn):=[(58,F.O0),(59,F.O1),(60,F.OY),(61,F.OZ),(62,F.HZ),(63,F.PP),(64,F.PO),(65,F.FS),(66,F.PW),(67,F.PS),(68,F.PR),(69,F.PV),(70,F.PU),(71,F.KA),(72,F.P1),(73,F.F3),(74,F.PZ),(75,F.PT),(76,F.P3),(77,F.IX),(78,F.P0),(79,F.PX),(80,F.PY),(81,F.P2),(82,F.GV),(83,F.DK),(84,F.PD),(85,F.PB),(86,F.PC),(87,F.O8)]
set_option maxRecDepth 100000 in
theorem Ajx : ∀ x∈yG,OkF Tryz.prog num x :=
 ok ⟨Tryz.f200,Tryz.func200,by kernel_rfl,by kernel_rfl⟩ (
 ok ⟨Tryz.f201,Tryz.func201,by kernel_rfl,by kernel_rfl⟩ (
 ok ⟨Tryz.f175,Tryz.func175,by kernel_rfl,by kernel_rfl⟩ (
 ok ⟨Tryz.f176,Tryz.func176,by kernel_rfl,by kernel_rfl⟩ (
 ok ⟨Tryz.f205,Tryz.func205,by kernel_rfl,by kernel_rfl⟩ (
 ok ⟨Tryz.f216,Tryz.func216,by kernel_rfl,by kernel_rfl⟩ (
 ok ⟨Tryz.f209,Tryz.func209,by kernel_rfl,by kernel_rfl⟩ (
 ok ⟨Tryz.f174,Tryz.func174,by kernel_rfl,by kernel_rfl⟩ (
 ok ⟨Tryz.f181,Tryz.func181,by kernel_rfl,by kernel_rfl⟩ (
 ok ⟨Tryz.f124,Tryz.func124,by kernel_rfl,by kernel_rfl⟩ (
 ok ⟨Tryz.f172,Tryz.func172,by kernel_rfl,by kernel_rfl⟩ (
 ok ⟨Tryz.f173,Tryz.func173,by kernel_rfl,by kernel_rfl⟩ (
 ok ⟨Tryz.f128,Tryz.func128,by kernel_rfl,by kernel_rfl⟩ (
 ok ⟨Tryz.f210,Tryz.func210,by kernel_rfl,by kernel_rfl⟩ (
 ok ⟨Tryz.f212,Tryz.func212,by kernel_rfl,by kernel_rfl⟩ (
 ok ⟨Tryz.f211,Tryz.func211,by kernel_rfl,by kernel_rfl⟩ (
 ok ⟨Tryz.f202,Tryz.func202,by kernel_rfl,by kernel_rfl⟩ (
 ok ⟨Tryz.f177,Tryz.func177,by kernel_rfl,by kernel_rfl⟩ (
 ok ⟨Tryz.f204,Tryz.func204,by kernel_rfl,by kernel_rfl⟩ (
 ok ⟨Tryz.f217,Tryz.func217,by kernel_rfl,by kernel_rfl⟩ (
 ok ⟨Tryz.f214,Tryz.func214,by kernel_rfl,by kernel_rfl⟩ (
 ok ⟨Tryz.f213,Tryz.func213,by kernel_rfl,by kernel_rfl⟩ (
 ok ⟨Tryz.f215,Tryz.func215,by kernel_rfl,by kernel_rfl⟩ (
 ok ⟨Tryz.f203,Tryz.func203,by kernel_rfl,by kernel_rfl⟩ (
 ok ⟨Tryz.f179,Tryz.func179,by kernel_rfl,by kernel_rfl⟩ (
 ok ⟨Tryz.f171,Tryz.func171,by kernel_rfl,by kernel_rfl⟩ (
 ok ⟨Tryz.f178,Tryz.func178,by kernel_rfl,by kernel_rfl⟩ (
 ok ⟨Tryz.f132,Tryz.func132,by kernel_rfl,by kernel_rfl⟩ (
 ok ⟨Tryz.f156,Tryz.func156,by kernel_rfl,by kernel_rfl⟩ (
 ok ⟨Tryz.f123,Tryz.func123,by kernel_rfl,by kernel_rfl⟩ (
 List.forall_mem_nil _))))))))))))))))))))))))))))))
def yH:List (Nat × AFn):=[(88,F.PA),(89,F.I4),(90,F.Q2),(91,F.Q3),(92,F.HW),(93,F.Q5),(94,F.Q4),(95,F.Q0),(96,F.QX),(97,F.QY),(98,F.I3),(99,F.KM),(100,F.QV),(101,F.HX),(102,F.Q8),(103,F.Q6),(104,F.JU),(105,F.RA),(106,F.Q7),(107,F.I5),(108,F.RB),(109,F.DU),(110,F.Q9),(111,F.RM),(112,F.RJ),(113,F.RK),(114,F.RI),(115,F.RD),(116,F.RL),(117,F.RE)]
set_option maxRecDepth 100000 in
theorem Ajy : ∀ x∈yH,OkF Tryz.prog num x :=
 ok ⟨Tryz.f126,Tryz.func126,by kernel_rfl,by kernel_rfl⟩ (
 ok ⟨Tryz.f121,Tryz.func121,by kernel_rfl,by kernel_rfl⟩ (
 ok ⟨Tryz.f180,Tryz.func180,by kernel_rfl,by kernel_rfl⟩ (
 ok ⟨Tryz.f127,Tryz.func127,by kernel_rfl,by kernel_rfl⟩ (
 ok ⟨Tryz.f122,Tryz.func122,by kernel_rfl,by kernel_rfl⟩ (
 ok ⟨Tryz.f157,Tryz.func157,by kernel_rfl,by kernel_rfl⟩ (
 ok ⟨Tryz.f125,Tryz.func125,by kernel_rfl,by kernel_rfl⟩ (
 ok ⟨Tryz.f79,Tryz.func79,by kernel_rfl,by kernel_rfl⟩ (
 ok ⟨Tryz.f63,Tryz.func63,by kernel_rfl,by kernel_rfl⟩ (
 ok ⟨Tryz.f94,Tryz.func94,by kernel_rfl,by kernel_rfl⟩ (
 ok ⟨Tryz.f53,Tryz.func53,by kernel_rfl,by kernel_rfl⟩ (
 ok ⟨Tryz.f54,Tryz.func54,by kernel_rfl,by kernel_rfl⟩ (
 ok ⟨Tryz.f146,Tryz.func146,by kernel_rfl,by kernel_rfl⟩ (
 ok ⟨Tryz.f112,Tryz.func112,by kernel_rfl,by kernel_rfl⟩ (
 ok ⟨Tryz.f118,Tryz.func118,by kernel_rfl,by kernel_rfl⟩ (
 ok ⟨Tryz.f117,Tryz.func117,by kernel_rfl,by kernel_rfl⟩ (
 ok ⟨Tryz.f119,Tryz.func119,by kernel_rfl,by kernel_rfl⟩ (
 ok ⟨Tryz.f116,Tryz.func116,by kernel_rfl,by kernel_rfl⟩ (
 ok ⟨Tryz.f198,Tryz.func198,by kernel_rfl,by kernel_rfl⟩ (
 ok ⟨Tryz.f199,Tryz.func199,by kernel_rfl,by kernel_rfl⟩ (
 ok ⟨Tryz.f197,Tryz.func197,by kernel_rfl,by kernel_rfl⟩ (
 ok ⟨Tryz.f170,Tryz.func170,by kernel_rfl,by kernel_rfl⟩ (
 ok ⟨Tryz.f169,Tryz.func169,by kernel_rfl,by kernel_rfl⟩ (
 ok ⟨Tryz.f115,Tryz.func115,by kernel_rfl,by kernel_rfl⟩ (
 ok ⟨Tryz.f77,Tryz.func77,by kernel_rfl,by kernel_rfl⟩ (
 ok ⟨Tryz.f65,Tryz.func65,by kernel_rfl,by kernel_rfl⟩ (
 ok ⟨Tryz.f111,Tryz.func111,by kernel_rfl,by kernel_rfl⟩ (
 ok ⟨Tryz.f50,Tryz.func50,by kernel_rfl,by kernel_rfl⟩ (
 ok ⟨Tryz.f120,Tryz.func120,by kernel_rfl,by kernel_rfl⟩ (
 ok ⟨Tryz.f51,Tryz.func51,by kernel_rfl,by kernel_rfl⟩ (
 List.forall_mem_nil _))))))))))))))))))))))))))))))
def yI:List (Nat × AFn):=[(118,F.RH),(119,F.RF),(120,F.RG),(121,F.I6),(122,F.KP),(123,F.RW),(124,F.RU),(125,F.RR),(126,F.RO),(127,F.RP),(128,F.RS),(130,F.P6),(131,F.KB),(132,F.P7),(133,F.P5),(134,F.P4),(136,F.R6),(137,F.R5),(138,F.R7),(149,F.Q1),(150,F.QZ),(169,F.QS),(152,F.RT),(153,F.KO),(154,F.RQ),(155,F.KN),(197,F.O9),(198,F.KG),(199,F.QW),(200,F.QR)]
set_option maxRecDepth 100000 in
theorem Ajz : ∀ x∈yI,OkF Tryz.prog num x :=
 ok ⟨Tryz.f49,Tryz.func49,by kernel_rfl,by kernel_rfl⟩ (
 ok ⟨Tryz.f114,Tryz.func114,by kernel_rfl,by kernel_rfl⟩ (
 ok ⟨Tryz.f113,Tryz.func113,by kernel_rfl,by kernel_rfl⟩ (
 ok ⟨Tryz.f48,Tryz.func48,by kernel_rfl,by kernel_rfl⟩ (
 ok ⟨Tryz.f47,Tryz.func47,by kernel_rfl,by kernel_rfl⟩ (
 ok ⟨Tryz.f110,Tryz.func110,by kernel_rfl,by kernel_rfl⟩ (
 ok ⟨Tryz.f30,Tryz.func30,by kernel_rfl,by kernel_rfl⟩ (
 ok ⟨Tryz.f39,Tryz.func39,by kernel_rfl,by kernel_rfl⟩ (
 ok ⟨Tryz.f16,Tryz.func16,by kernel_rfl,by kernel_rfl⟩ (
 ok ⟨Tryz.f17,Tryz.func17,by kernel_rfl,by kernel_rfl⟩ (
 ok ⟨Tryz.f15,Tryz.func15,by kernel_rfl,by kernel_rfl⟩ (
 ok ⟨Tryz.f61,Tryz.func61,by kernel_rfl,by kernel_rfl⟩ (
 ok ⟨Tryz.f62,Tryz.func62,by kernel_rfl,by kernel_rfl⟩ (
 ok ⟨Tryz.f133,Tryz.func133,by kernel_rfl,by kernel_rfl⟩ (
 ok ⟨Tryz.f64,Tryz.func64,by kernel_rfl,by kernel_rfl⟩ (
 ok ⟨Tryz.f22,Tryz.func22,by kernel_rfl,by kernel_rfl⟩ (
 ok ⟨Tryz.f129,Tryz.func129,by kernel_rfl,by kernel_rfl⟩ (
 ok ⟨Tryz.f23,Tryz.func23,by kernel_rfl,by kernel_rfl⟩ (
 ok ⟨Tryz.f60,Tryz.func60,by kernel_rfl,by kernel_rfl⟩ (
 ok ⟨Tryz.f140,Tryz.func140,by kernel_rfl,by kernel_rfl⟩ (
 ok ⟨Tryz.f76,Tryz.func76,by kernel_rfl,by kernel_rfl⟩ (
 ok ⟨Tryz.f185,Tryz.func185,by kernel_rfl,by kernel_rfl⟩ (
 ok ⟨Tryz.f46,Tryz.func46,by kernel_rfl,by kernel_rfl⟩ (
 ok ⟨Tryz.f44,Tryz.func44,by kernel_rfl,by kernel_rfl⟩ (
 ok ⟨Tryz.f99,Tryz.func99,by kernel_rfl,by kernel_rfl⟩ (
 ok ⟨Tryz.f24,Tryz.func24,by kernel_rfl,by kernel_rfl⟩ (
 ok ⟨Tryz.f186,Tryz.func186,by kernel_rfl,by kernel_rfl⟩ (
 ok ⟨Tryz.f139,Tryz.func139,by kernel_rfl,by kernel_rfl⟩ (
 ok ⟨Tryz.f75,Tryz.func75,by kernel_rfl,by kernel_rfl⟩ (
 ok ⟨Tryz.f138,Tryz.func138,by kernel_rfl,by kernel_rfl⟩ (
 List.forall_mem_nil _))))))))))))))))))))))))))))))
def yJ:List (Nat × AFn):=[(201,F.SE),(204,F.SM),(205,F.SL),(206,F.SN),(207,F.K8),(256,F.QU),(294,F.QL),(295,F.QJ),(296,F.QP),(297,F.QM),(299,F.QN),(300,F.QQ),(302,F.QK),(303,F.QO),(306,F.QI),(308,F.RC),(309,F.RN),(310,F.SA),(311,F.R9),(313,F.SB),(314,F.R8),(227,F.SK),(228,F.SJ),(229,F.PH),(231,F.OJ),(900,F.PK),(233,F.OI),(234,F.PI),(235,F.PJ),(237,F.PG)]
set_option maxRecDepth 100000 in
theorem AjA : ∀ x∈yJ,OkF Tryz.prog num x :=
 ok ⟨Tryz.f71,Tryz.func71,by kernel_rfl,by kernel_rfl⟩ (
 ok ⟨Tryz.f72,Tryz.func72,by kernel_rfl,by kernel_rfl⟩ (
 ok ⟨Tryz.f73,Tryz.func73,by kernel_rfl,by kernel_rfl⟩ (
 ok ⟨Tryz.f74,Tryz.func74,by kernel_rfl,by kernel_rfl⟩ (
 ok ⟨Tryz.f29,Tryz.func29,by kernel_rfl,by kernel_rfl⟩ (
 ok ⟨Tryz.f208,Tryz.func208,by kernel_rfl,by kernel_rfl⟩ (
 ok ⟨Tryz.f192,Tryz.func192,by kernel_rfl,by kernel_rfl⟩ (
 ok ⟨Tryz.f162,Tryz.func162,by kernel_rfl,by kernel_rfl⟩ (
 ok ⟨Tryz.f163,Tryz.func163,by kernel_rfl,by kernel_rfl⟩ (
 ok ⟨Tryz.f194,Tryz.func194,by kernel_rfl,by kernel_rfl⟩ (
 ok ⟨Tryz.f165,Tryz.func165,by kernel_rfl,by kernel_rfl⟩ (
 ok ⟨Tryz.f193,Tryz.func193,by kernel_rfl,by kernel_rfl⟩ (
 ok ⟨Tryz.f164,Tryz.func164,by kernel_rfl,by kernel_rfl⟩ (
 ok ⟨Tryz.f101,Tryz.func101,by kernel_rfl,by kernel_rfl⟩ (
 ok ⟨Tryz.f40,Tryz.func40,by kernel_rfl,by kernel_rfl⟩ (
 ok ⟨Tryz.f195,Tryz.func195,by kernel_rfl,by kernel_rfl⟩ (
 ok ⟨Tryz.f166,Tryz.func166,by kernel_rfl,by kernel_rfl⟩ (
 ok ⟨Tryz.f105,Tryz.func105,by kernel_rfl,by kernel_rfl⟩ (
 ok ⟨Tryz.f106,Tryz.func106,by kernel_rfl,by kernel_rfl⟩ (
 ok ⟨Tryz.f107,Tryz.func107,by kernel_rfl,by kernel_rfl⟩ (
 ok ⟨Tryz.f42,Tryz.func42,by kernel_rfl,by kernel_rfl⟩ (
 ok ⟨Tryz.f206,Tryz.func206,by kernel_rfl,by kernel_rfl⟩ (
 ok ⟨Tryz.f187,Tryz.func187,by kernel_rfl,by kernel_rfl⟩ (
 ok ⟨Tryz.f141,Tryz.func141,by kernel_rfl,by kernel_rfl⟩ (
 ok ⟨Tryz.f144,Tryz.func144,by kernel_rfl,by kernel_rfl⟩ (
 ok ⟨Tryz.f207,Tryz.func207,by kernel_rfl,by kernel_rfl⟩ (
 ok ⟨Tryz.f188,Tryz.func188,by kernel_rfl,by kernel_rfl⟩ (
 ok ⟨Tryz.f189,Tryz.func189,by kernel_rfl,by kernel_rfl⟩ (
 ok ⟨Tryz.f143,Tryz.func143,by kernel_rfl,by kernel_rfl⟩ (
 ok ⟨Tryz.f104,Tryz.func104,by kernel_rfl,by kernel_rfl⟩ (
 List.forall_mem_nil _))))))))))))))))))))))))))))))
def yK:List (Nat × AFn):=[(239,F.RZ),(276,F.RV),(277,F.R4),(901,F.GX),(278,F.R3),(34,F.SU),(35,F.SS),(141,F.ST),(316,F.H2),(317,F.H1),(321,F.QC),(322,F.QB),(323,F.QD),(324,F.P8),(325,F.I7),(326,F.SC),(327,F.RY),(328,F.QE),(329,F.QA),(330,F.P9),(331,F.IY),(332,F.KC),(333,F.SD),(334,F.KQ),(336,F.PF),(338,F.PE)]
set_option maxRecDepth 100000 in
theorem AjB : ∀ x∈yK,OkF Tryz.prog num x :=
 ok ⟨Tryz.f108,Tryz.func108,by kernel_rfl,by kernel_rfl⟩ (
 ok ⟨Tryz.f196,Tryz.func196,by kernel_rfl,by kernel_rfl⟩ (
 ok ⟨Tryz.f167,Tryz.func167,by kernel_rfl,by kernel_rfl⟩ (
 ok ⟨Tryz.f168,Tryz.func168,by kernel_rfl,by kernel_rfl⟩ (
 ok ⟨Tryz.f109,Tryz.func109,by kernel_rfl,by kernel_rfl⟩ (
 ok ⟨Tryz.f9,Tryz.func9,by kernel_rfl,by kernel_rfl⟩ (
 ok ⟨Tryz.f67,Tryz.func67,by kernel_rfl,by kernel_rfl⟩ (
 ok ⟨Tryz.f85,Tryz.func85,by kernel_rfl,by kernel_rfl⟩ (
 ok ⟨Tryz.f38,Tryz.func38,by kernel_rfl,by kernel_rfl⟩ (
 ok ⟨Tryz.f10,Tryz.func10,by kernel_rfl,by kernel_rfl⟩ (
 ok ⟨Tryz.f102,Tryz.func102,by kernel_rfl,by kernel_rfl⟩ (
 ok ⟨Tryz.f103,Tryz.func103,by kernel_rfl,by kernel_rfl⟩ (
 ok ⟨Tryz.f41,Tryz.func41,by kernel_rfl,by kernel_rfl⟩ (
 ok ⟨Tryz.f11,Tryz.func11,by kernel_rfl,by kernel_rfl⟩ (
 ok ⟨Tryz.f43,Tryz.func43,by kernel_rfl,by kernel_rfl⟩ (
 ok ⟨Tryz.f12,Tryz.func12,by kernel_rfl,by kernel_rfl⟩ (
 ok ⟨Tryz.f45,Tryz.func45,by kernel_rfl,by kernel_rfl⟩ (
 ok ⟨Tryz.f52,Tryz.func52,by kernel_rfl,by kernel_rfl⟩ (
 ok ⟨Tryz.f55,Tryz.func55,by kernel_rfl,by kernel_rfl⟩ (
 ok ⟨Tryz.f56,Tryz.func56,by kernel_rfl,by kernel_rfl⟩ (
 ok ⟨Tryz.f18,Tryz.func18,by kernel_rfl,by kernel_rfl⟩ (
 ok ⟨Tryz.f20,Tryz.func20,by kernel_rfl,by kernel_rfl⟩ (
 ok ⟨Tryz.f57,Tryz.func57,by kernel_rfl,by kernel_rfl⟩ (
 ok ⟨Tryz.f21,Tryz.func21,by kernel_rfl,by kernel_rfl⟩ (
 ok ⟨Tryz.f13,Tryz.func13,by kernel_rfl,by kernel_rfl⟩ (
 ok ⟨Tryz.f5,Tryz.func5,by kernel_rfl,by kernel_rfl⟩ (
 List.forall_mem_nil _))))))))))))))))))))))))))
def Wy:List (Nat × AFn):=yG++(yH++(yI++(yJ++(yK))))
def L:Lib:=⟨λ f=>Wy.lookup f,num⟩
theorem AjO:ProgOK Tryz.prog num L:=AjP Wy (List.forall_mem_append.2 ⟨Ajx,(List.forall_mem_append.2 ⟨Ajy,(List.forall_mem_append.2 ⟨Ajz,(List.forall_mem_append.2 ⟨AjA,AjB⟩)⟩)⟩)⟩)
theorem Ah1:F.g6 L:={ O0:=rfl,O1:=rfl,OY:=rfl,OZ:=rfl,HZ:=rfl,PP:=rfl,PO:=rfl,FS:=rfl,PW:=rfl,PS:=rfl,PR:=rfl,PV:=rfl,PU:=rfl,KA:=rfl,P1:=rfl,F3:=rfl,PZ:=rfl,PT:=rfl,P3:=rfl,IX:=rfl,P0:=rfl,PX:=rfl,PY:=rfl,P2:=rfl,GV:=rfl }
theorem lV:F.a6 L:={ Ah1 with DK:=rfl,PD:=rfl,PB:=rfl,PC:=rfl,O8:=rfl,PA:=rfl,I4:=rfl,Q2:=rfl,Q3:=rfl,HW:=rfl,Q5:=rfl,Q4:=rfl,Q0:=rfl,QX:=rfl,QY:=rfl,I3:=rfl,KM:=rfl,QV:=rfl }
theorem lW:F.b8 L:={ HX:=rfl,Q8:=rfl,Q6:=rfl,JU:=rfl,RA:=rfl,Q7:=rfl,I5:=rfl,RB:=rfl,DU:=rfl,Q9:=rfl,RM:=rfl,RJ:=rfl,RK:=rfl,RI:=rfl,RD:=rfl,RL:=rfl,RE:=rfl,RH:=rfl,RF:=rfl,RG:=rfl,I6:=rfl,KP:=rfl,RW:=rfl,RU:=rfl,RR:=rfl,RO:=rfl,RP:=rfl,RS:=rfl }
theorem Aia:F.o6 L:={ lV,lW with P6:=rfl,KB:=rfl,P7:=rfl,P5:=rfl,P4:=rfl,R6:=rfl,R5:=rfl,R7:=rfl }
theorem xN:F.jj L:={  }
theorem Ah2:F.ur L:={ xN with  }
theorem AhZ:F.qw L:={ Aia,Ah2 with  }
theorem xO:F.y8 L:={ lV with Q1:=rfl,QZ:=rfl }
theorem Ah5:F.nb L:={ lV with QS:=rfl }
theorem xP:F.o0 L:={ lW with RT:=rfl,KO:=rfl,RQ:=rfl,KN:=rfl }
theorem Ah6:F.qy L:={ xP with  }
theorem Aib:F.uv L:={ AhZ,xO,Ah5,Ah6 with  }
theorem lX:F.o8 L:={ Aib with O9:=rfl,KG:=rfl,QW:=rfl,QR:=rfl,SE:=rfl,SM:=rfl,SL:=rfl,SN:=rfl,K8:=rfl }
theorem Ah4:F.di L:={ lX with QU:=rfl }
theorem Ah3:F.w3 L:={ Ah4 with QL:=rfl,QJ:=rfl,QP:=rfl,QM:=rfl,QN:=rfl,QQ:=rfl,QK:=rfl,QO:=rfl,QI:=rfl }
theorem Ah8:F.de L:={ lX with RC:=rfl,RN:=rfl,SA:=rfl,R9:=rfl,SB:=rfl,R8:=rfl }
theorem Ah0:F.w7 L:={ xO,lX with SK:=rfl,SJ:=rfl,PH:=rfl,OJ:=rfl,PK:=rfl,OI:=rfl,PI:=rfl,PJ:=rfl,PG:=rfl }
theorem Ah7:F.iz L:={ xP with RZ:=rfl }
theorem AhX:F.br L:={ Ah7 with RV:=rfl,R4:=rfl,GX:=rfl,R3:=rfl }
theorem Aic:F.y9 L:={ xN with SU:=rfl,SS:=rfl }
theorem Ah9:F.df L:={ Aic,lW with ST:=rfl }
theorem AhU:F.dc L:={ Ah9 with H2:=rfl,H1:=rfl }
theorem AhW:F.v7 L:={ Ah3,Ah8,Ah0,AhX,AhU with QC:=rfl,QB:=rfl,QD:=rfl,P8:=rfl,I7:=rfl,SC:=rfl,RY:=rfl }
theorem AhV:F.l8 L:={ AhW with QE:=rfl,QA:=rfl,P9:=rfl,IY:=rfl,KC:=rfl,SD:=rfl,KQ:=rfl }
theorem AhY:F.iy L:={ AhV with PF:=rfl,PE:=rfl }
end Go.Proofs.YtfnglkabkfmjcaaGreat
