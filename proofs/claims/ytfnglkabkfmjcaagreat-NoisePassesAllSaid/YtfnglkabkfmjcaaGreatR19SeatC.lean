/-
  The functions of the groups are the program's own: checked by the kernel, function by function.
-/
import Derived.Test.YtfnglkabkfmjcaaGreatProg
import Derived.KernelRfl
import Derived.Test.YtfnglkabkfmjcaaGreatB3
import Derived.Test.YtfnglkabkfmjcaaGreatB4
import Derived.Test.YtfnglkabkfmjcaaGreatB5
set_option linter.unusedSimpArgs false
set_option linter.unusedVariables false
set_option linter.unnecessarySimpa false
namespace Go.Proofs.YtfnglkabkfmjcaaGreat
open Go.e8
def num:Nat->Nat
 | 58=>200
 | 59=>201
 | 60=>175
 | 61=>176
 | 62=>205
 | 63=>216
 | 64=>209
 | 65=>174
 | 66=>181
 | 67=>124
 | 68=>172
 | 69=>173
 | 70=>128
 | 71=>210
 | 72=>212
 | 73=>211
 | 74=>202
 | 75=>177
 | 76=>204
 | 77=>217
 | 78=>214
 | 79=>213
 | 80=>215
 | 81=>203
 | 82=>179
 | 83=>171
 | 84=>178
 | 85=>132
 | 86=>156
 | 87=>123
 | 88=>126
 | 89=>121
 | 90=>180
 | 91=>127
 | 92=>122
 | 93=>157
 | 94=>125
 | 95=>79
 | 96=>63
 | 97=>94
 | 98=>53
 | 99=>54
 | 100=>146
 | 101=>112
 | 102=>118
 | 103=>117
 | 104=>119
 | 105=>116
 | 106=>198
 | 107=>199
 | 108=>197
 | 109=>170
 | 110=>169
 | 111=>115
 | 112=>77
 | 113=>65
 | 114=>111
 | 115=>50
 | 116=>120
 | 117=>51
 | 118=>49
 | 119=>114
 | 120=>113
 | 121=>48
 | 122=>47
 | 123=>110
 | 124=>30
 | 125=>39
 | 126=>16
 | 127=>17
 | 128=>15
 | 130=>61
 | 136=>129
 | 137=>23
 | 138=>60
 | 1=>182
 | 2=>134
 | 3=>183
 | 4=>184
 | 5=>135
 | 149=>140
 | 150=>76
 | 151=>95
 | 169=>185
 | 170=>137
 | 152=>46
 | 153=>44
 | 154=>99
 | 155=>24
 | 197=>186
 | 198=>139
 | 199=>75
 | 200=>138
 | 201=>71
 | 204=>72
 | 205=>73
 | 206=>74
 | 207=>29
 | 256=>208
 | 294=>192
 | 295=>162
 | 296=>163
 | 297=>194
 | 299=>165
 | 300=>193
 | 302=>164
 | 303=>101
 | 306=>40
 | 308=>195
 | 309=>166
 | 310=>105
 | 311=>106
 | 313=>107
 | 314=>42
 | 227=>206
 | 228=>187
 | 229=>141
 | 231=>144
 | 900=>207
 | 233=>188
 | 234=>189
 | 235=>143
 | 237=>104
 | 239=>108
 | 276=>196
 | 277=>167
 | 901=>168
 | 278=>109
 | 34=>9
 | 35=>67
 | 36=>66
 | 38=>25
 | 40=>26
 | 41=>27
 | 321=>102
 | 322=>103
 | 323=>41
 | 324=>11
 | 325=>43
 | 326=>12
 | 327=>45
 | 328=>52
 | 329=>55
 | 330=>56
 | 331=>18
 | 332=>20
 | 333=>57
 | 334=>21
 | 336=>13
 | 175=>136
 | 339=>68
 | 340=>69
 | 341=>70
 | 342=>28
 | 343=>6
 | _=>0
theorem ok {p:Nat × AFn->Prop} {a:Nat × AFn} {l:List (Nat × AFn)} (h:p a) (t : ∀ x∈l,p x) : ∀ x∈a::l,p x:=List.forall_mem_cons.2 ⟨h,t⟩
def Tq:List (Nat × AFn):=[(58,F.SX),(59,F.SY),(60,F.SV),(61,F.SW),(62,F.H5),(63,F.TV),(64,F.TU),(65,F.FQ),(66,F.T6),(67,F.TZ),(68,F.TY),(69,F.T5),(70,F.T4),(71,F.LZ),(72,F.UB),(73,F.FZ),(74,F.T9),(75,F.T3),(76,F.UD),(77,F.I8),(78,F.UA),(79,F.T7),(80,F.T8),(81,F.UC),(82,F.GY),(83,F.DL),(84,F.TJ),(85,F.TH),(86,F.TI),(87,F.TE)]
set_option maxRecDepth 100000 in
theorem Al4 : ∀ x∈Tq,OkF Tryz.prog num x :=
 ok ⟨Tryz.f200,Tryz.func200,by kernel_rfl,by kernel_rfl⟩ (
 ok ⟨Tryz.f201,Tryz.func201,by kernel_rfl,by kernel_rfl⟩ (
 ok ⟨Tryz.f175,Tryz.func175,by kernel_rfl,by kernel_rfl⟩ (
 ok ⟨Tryz.f176,Tryz.func176,by kernel_rfl,by kernel_rfl⟩ (
 ok ⟨Tryz.f205,Tryz.func205,by kernel_rfl,by kernel_rfl⟩ (
 ok ⟨Tryz.f216,Tryz.func216,by kernel_rfl,by kernel_rfl⟩ (
 ok ⟨Tryz.f209,Tryz.func209,by kernel_rfl,by kernel_rfl⟩ (
 ok ⟨Tryz.f174,Tryz.func174,by kernel_rfl,by kernel_rfl⟩ (
 ok ⟨Tryz.f181,Tryz.func181,by kernel_rfl,by kernel_rfl⟩ (
 ok ⟨Tryz.f124,Tryz.func124,by kernel_rfl,by kernel_rfl⟩ (
 ok ⟨Tryz.f172,Tryz.func172,by kernel_rfl,by kernel_rfl⟩ (
 ok ⟨Tryz.f173,Tryz.func173,by kernel_rfl,by kernel_rfl⟩ (
 ok ⟨Tryz.f128,Tryz.func128,by kernel_rfl,by kernel_rfl⟩ (
 ok ⟨Tryz.f210,Tryz.func210,by kernel_rfl,by kernel_rfl⟩ (
 ok ⟨Tryz.f212,Tryz.func212,by kernel_rfl,by kernel_rfl⟩ (
 ok ⟨Tryz.f211,Tryz.func211,by kernel_rfl,by kernel_rfl⟩ (
 ok ⟨Tryz.f202,Tryz.func202,by kernel_rfl,by kernel_rfl⟩ (
 ok ⟨Tryz.f177,Tryz.func177,by kernel_rfl,by kernel_rfl⟩ (
 ok ⟨Tryz.f204,Tryz.func204,by kernel_rfl,by kernel_rfl⟩ (
 ok ⟨Tryz.f217,Tryz.func217,by kernel_rfl,by kernel_rfl⟩ (
 ok ⟨Tryz.f214,Tryz.func214,by kernel_rfl,by kernel_rfl⟩ (
 ok ⟨Tryz.f213,Tryz.func213,by kernel_rfl,by kernel_rfl⟩ (
 ok ⟨Tryz.f215,Tryz.func215,by kernel_rfl,by kernel_rfl⟩ (
 ok ⟨Tryz.f203,Tryz.func203,by kernel_rfl,by kernel_rfl⟩ (
 ok ⟨Tryz.f179,Tryz.func179,by kernel_rfl,by kernel_rfl⟩ (
 ok ⟨Tryz.f171,Tryz.func171,by kernel_rfl,by kernel_rfl⟩ (
 ok ⟨Tryz.f178,Tryz.func178,by kernel_rfl,by kernel_rfl⟩ (
 ok ⟨Tryz.f132,Tryz.func132,by kernel_rfl,by kernel_rfl⟩ (
 ok ⟨Tryz.f156,Tryz.func156,by kernel_rfl,by kernel_rfl⟩ (
 ok ⟨Tryz.f123,Tryz.func123,by kernel_rfl,by kernel_rfl⟩ (
 List.forall_mem_nil _))))))))))))))))))))))))))))))
def Tr:List (Nat × AFn):=[(88,F.TG),(89,F.JN),(90,F.VD),(91,F.VE),(92,F.HV),(93,F.N6),(94,F.VF),(95,F.VB),(96,F.U7),(97,F.U8),(98,F.JM),(99,F.N0),(100,F.U4),(101,F.HY),(102,F.VI),(103,F.VG),(104,F.J5),(105,F.VK),(106,F.VH),(107,F.JO),(108,F.VM),(109,F.DT),(110,F.VJ),(111,F.VX),(112,F.VU),(113,F.VV),(114,F.VT),(115,F.VO),(116,F.VW),(117,F.VP)]
set_option maxRecDepth 100000 in
theorem Al5 : ∀ x∈Tr,OkF Tryz.prog num x :=
 ok ⟨Tryz.f126,Tryz.func126,by kernel_rfl,by kernel_rfl⟩ (
 ok ⟨Tryz.f121,Tryz.func121,by kernel_rfl,by kernel_rfl⟩ (
 ok ⟨Tryz.f180,Tryz.func180,by kernel_rfl,by kernel_rfl⟩ (
 ok ⟨Tryz.f127,Tryz.func127,by kernel_rfl,by kernel_rfl⟩ (
 ok ⟨Tryz.f122,Tryz.func122,by kernel_rfl,by kernel_rfl⟩ (
 ok ⟨Tryz.f157,Tryz.func157,by kernel_rfl,by kernel_rfl⟩ (
 ok ⟨Tryz.f125,Tryz.func125,by kernel_rfl,by kernel_rfl⟩ (
 ok ⟨Tryz.f79,Tryz.func79,by kernel_rfl,by kernel_rfl⟩ (
 ok ⟨Tryz.f63,Tryz.func63,by kernel_rfl,by kernel_rfl⟩ (
 ok ⟨Tryz.f94,Tryz.func94,by kernel_rfl,by kernel_rfl⟩ (
 ok ⟨Tryz.f53,Tryz.func53,by kernel_rfl,by kernel_rfl⟩ (
 ok ⟨Tryz.f54,Tryz.func54,by kernel_rfl,by kernel_rfl⟩ (
 ok ⟨Tryz.f146,Tryz.func146,by kernel_rfl,by kernel_rfl⟩ (
 ok ⟨Tryz.f112,Tryz.func112,by kernel_rfl,by kernel_rfl⟩ (
 ok ⟨Tryz.f118,Tryz.func118,by kernel_rfl,by kernel_rfl⟩ (
 ok ⟨Tryz.f117,Tryz.func117,by kernel_rfl,by kernel_rfl⟩ (
 ok ⟨Tryz.f119,Tryz.func119,by kernel_rfl,by kernel_rfl⟩ (
 ok ⟨Tryz.f116,Tryz.func116,by kernel_rfl,by kernel_rfl⟩ (
 ok ⟨Tryz.f198,Tryz.func198,by kernel_rfl,by kernel_rfl⟩ (
 ok ⟨Tryz.f199,Tryz.func199,by kernel_rfl,by kernel_rfl⟩ (
 ok ⟨Tryz.f197,Tryz.func197,by kernel_rfl,by kernel_rfl⟩ (
 ok ⟨Tryz.f170,Tryz.func170,by kernel_rfl,by kernel_rfl⟩ (
 ok ⟨Tryz.f169,Tryz.func169,by kernel_rfl,by kernel_rfl⟩ (
 ok ⟨Tryz.f115,Tryz.func115,by kernel_rfl,by kernel_rfl⟩ (
 ok ⟨Tryz.f77,Tryz.func77,by kernel_rfl,by kernel_rfl⟩ (
 ok ⟨Tryz.f65,Tryz.func65,by kernel_rfl,by kernel_rfl⟩ (
 ok ⟨Tryz.f111,Tryz.func111,by kernel_rfl,by kernel_rfl⟩ (
 ok ⟨Tryz.f50,Tryz.func50,by kernel_rfl,by kernel_rfl⟩ (
 ok ⟨Tryz.f120,Tryz.func120,by kernel_rfl,by kernel_rfl⟩ (
 ok ⟨Tryz.f51,Tryz.func51,by kernel_rfl,by kernel_rfl⟩ (
 List.forall_mem_nil _))))))))))))))))))))))))))))))
def Ts:List (Nat × AFn):=[(118,F.VS),(119,F.VQ),(120,F.VR),(121,F.JP),(122,F.OC),(123,F.V8),(124,F.V5),(125,F.V2),(126,F.VZ),(127,F.V0),(128,F.V3),(130,F.UE),(136,F.WD),(137,F.YY),(138,F.YZ),(1,F.TC),(2,F.TA),(3,F.S9),(4,F.S8),(5,F.S7),(149,F.VC),(150,F.U9),(151,F.U5),(169,F.NX),(170,F.U0),(152,F.V4),(153,F.N7),(154,F.V1),(155,F.V7),(197,F.TF)]
set_option maxRecDepth 100000 in
theorem Al6 : ∀ x∈Ts,OkF Tryz.prog num x :=
 ok ⟨Tryz.f49,Tryz.func49,by kernel_rfl,by kernel_rfl⟩ (
 ok ⟨Tryz.f114,Tryz.func114,by kernel_rfl,by kernel_rfl⟩ (
 ok ⟨Tryz.f113,Tryz.func113,by kernel_rfl,by kernel_rfl⟩ (
 ok ⟨Tryz.f48,Tryz.func48,by kernel_rfl,by kernel_rfl⟩ (
 ok ⟨Tryz.f47,Tryz.func47,by kernel_rfl,by kernel_rfl⟩ (
 ok ⟨Tryz.f110,Tryz.func110,by kernel_rfl,by kernel_rfl⟩ (
 ok ⟨Tryz.f30,Tryz.func30,by kernel_rfl,by kernel_rfl⟩ (
 ok ⟨Tryz.f39,Tryz.func39,by kernel_rfl,by kernel_rfl⟩ (
 ok ⟨Tryz.f16,Tryz.func16,by kernel_rfl,by kernel_rfl⟩ (
 ok ⟨Tryz.f17,Tryz.func17,by kernel_rfl,by kernel_rfl⟩ (
 ok ⟨Tryz.f15,Tryz.func15,by kernel_rfl,by kernel_rfl⟩ (
 ok ⟨Tryz.f61,Tryz.func61,by kernel_rfl,by kernel_rfl⟩ (
 ok ⟨Tryz.f129,Tryz.func129,by kernel_rfl,by kernel_rfl⟩ (
 ok ⟨Tryz.f23,Tryz.func23,by kernel_rfl,by kernel_rfl⟩ (
 ok ⟨Tryz.f60,Tryz.func60,by kernel_rfl,by kernel_rfl⟩ (
 ok ⟨Tryz.f182,Tryz.func182,by kernel_rfl,by kernel_rfl⟩ (
 ok ⟨Tryz.f134,Tryz.func134,by kernel_rfl,by kernel_rfl⟩ (
 ok ⟨Tryz.f183,Tryz.func183,by kernel_rfl,by kernel_rfl⟩ (
 ok ⟨Tryz.f184,Tryz.func184,by kernel_rfl,by kernel_rfl⟩ (
 ok ⟨Tryz.f135,Tryz.func135,by kernel_rfl,by kernel_rfl⟩ (
 ok ⟨Tryz.f140,Tryz.func140,by kernel_rfl,by kernel_rfl⟩ (
 ok ⟨Tryz.f76,Tryz.func76,by kernel_rfl,by kernel_rfl⟩ (
 ok ⟨Tryz.f95,Tryz.func95,by kernel_rfl,by kernel_rfl⟩ (
 ok ⟨Tryz.f185,Tryz.func185,by kernel_rfl,by kernel_rfl⟩ (
 ok ⟨Tryz.f137,Tryz.func137,by kernel_rfl,by kernel_rfl⟩ (
 ok ⟨Tryz.f46,Tryz.func46,by kernel_rfl,by kernel_rfl⟩ (
 ok ⟨Tryz.f44,Tryz.func44,by kernel_rfl,by kernel_rfl⟩ (
 ok ⟨Tryz.f99,Tryz.func99,by kernel_rfl,by kernel_rfl⟩ (
 ok ⟨Tryz.f24,Tryz.func24,by kernel_rfl,by kernel_rfl⟩ (
 ok ⟨Tryz.f186,Tryz.func186,by kernel_rfl,by kernel_rfl⟩ (
 List.forall_mem_nil _))))))))))))))))))))))))))))))
def Tt:List (Nat × AFn):=[(198,F.NZ),(199,F.U6),(200,F.UZ),(201,F.WL),(204,F.WS),(205,F.WR),(206,F.WT),(207,F.OH),(256,F.U3),(294,F.UT),(295,F.UR),(296,F.UX),(297,F.UU),(299,F.UV),(300,F.UY),(302,F.US),(303,F.UW),(306,F.UQ),(308,F.VN),(309,F.VY),(310,F.WG),(311,F.WF),(313,F.WH),(314,F.WE),(227,F.WQ),(228,F.WP),(229,F.TM),(231,F.O7),(900,F.TQ),(233,F.O6)]
set_option maxRecDepth 100000 in
theorem Al7 : ∀ x∈Tt,OkF Tryz.prog num x :=
 ok ⟨Tryz.f139,Tryz.func139,by kernel_rfl,by kernel_rfl⟩ (
 ok ⟨Tryz.f75,Tryz.func75,by kernel_rfl,by kernel_rfl⟩ (
 ok ⟨Tryz.f138,Tryz.func138,by kernel_rfl,by kernel_rfl⟩ (
 ok ⟨Tryz.f71,Tryz.func71,by kernel_rfl,by kernel_rfl⟩ (
 ok ⟨Tryz.f72,Tryz.func72,by kernel_rfl,by kernel_rfl⟩ (
 ok ⟨Tryz.f73,Tryz.func73,by kernel_rfl,by kernel_rfl⟩ (
 ok ⟨Tryz.f74,Tryz.func74,by kernel_rfl,by kernel_rfl⟩ (
 ok ⟨Tryz.f29,Tryz.func29,by kernel_rfl,by kernel_rfl⟩ (
 ok ⟨Tryz.f208,Tryz.func208,by kernel_rfl,by kernel_rfl⟩ (
 ok ⟨Tryz.f192,Tryz.func192,by kernel_rfl,by kernel_rfl⟩ (
 ok ⟨Tryz.f162,Tryz.func162,by kernel_rfl,by kernel_rfl⟩ (
 ok ⟨Tryz.f163,Tryz.func163,by kernel_rfl,by kernel_rfl⟩ (
 ok ⟨Tryz.f194,Tryz.func194,by kernel_rfl,by kernel_rfl⟩ (
 ok ⟨Tryz.f165,Tryz.func165,by kernel_rfl,by kernel_rfl⟩ (
 ok ⟨Tryz.f193,Tryz.func193,by kernel_rfl,by kernel_rfl⟩ (
 ok ⟨Tryz.f164,Tryz.func164,by kernel_rfl,by kernel_rfl⟩ (
 ok ⟨Tryz.f101,Tryz.func101,by kernel_rfl,by kernel_rfl⟩ (
 ok ⟨Tryz.f40,Tryz.func40,by kernel_rfl,by kernel_rfl⟩ (
 ok ⟨Tryz.f195,Tryz.func195,by kernel_rfl,by kernel_rfl⟩ (
 ok ⟨Tryz.f166,Tryz.func166,by kernel_rfl,by kernel_rfl⟩ (
 ok ⟨Tryz.f105,Tryz.func105,by kernel_rfl,by kernel_rfl⟩ (
 ok ⟨Tryz.f106,Tryz.func106,by kernel_rfl,by kernel_rfl⟩ (
 ok ⟨Tryz.f107,Tryz.func107,by kernel_rfl,by kernel_rfl⟩ (
 ok ⟨Tryz.f42,Tryz.func42,by kernel_rfl,by kernel_rfl⟩ (
 ok ⟨Tryz.f206,Tryz.func206,by kernel_rfl,by kernel_rfl⟩ (
 ok ⟨Tryz.f187,Tryz.func187,by kernel_rfl,by kernel_rfl⟩ (
 ok ⟨Tryz.f141,Tryz.func141,by kernel_rfl,by kernel_rfl⟩ (
 ok ⟨Tryz.f144,Tryz.func144,by kernel_rfl,by kernel_rfl⟩ (
 ok ⟨Tryz.f207,Tryz.func207,by kernel_rfl,by kernel_rfl⟩ (
 ok ⟨Tryz.f188,Tryz.func188,by kernel_rfl,by kernel_rfl⟩ (
 List.forall_mem_nil _))))))))))))))))))))))))))))))
def Tu:List (Nat × AFn):=[(234,F.TN),(235,F.TP),(237,F.TL),(239,F.WA),(276,F.V6),(277,F.WC),(901,F.G1),(278,F.WB),(34,F.W6),(35,F.W2),(36,F.W7),(38,F.W4),(40,F.W3),(41,F.W5),(321,F.UJ),(322,F.UI),(323,F.UK),(324,F.UF),(325,F.JQ),(326,F.WJ),(327,F.V9),(328,F.UM),(329,F.UH),(330,F.UG),(331,F.JB),(332,F.L0),(333,F.WK),(334,F.WI),(336,F.TK),(175,F.TB)]
set_option maxRecDepth 100000 in
theorem Al8 : ∀ x∈Tu,OkF Tryz.prog num x :=
 ok ⟨Tryz.f189,Tryz.func189,by kernel_rfl,by kernel_rfl⟩ (
 ok ⟨Tryz.f143,Tryz.func143,by kernel_rfl,by kernel_rfl⟩ (
 ok ⟨Tryz.f104,Tryz.func104,by kernel_rfl,by kernel_rfl⟩ (
 ok ⟨Tryz.f108,Tryz.func108,by kernel_rfl,by kernel_rfl⟩ (
 ok ⟨Tryz.f196,Tryz.func196,by kernel_rfl,by kernel_rfl⟩ (
 ok ⟨Tryz.f167,Tryz.func167,by kernel_rfl,by kernel_rfl⟩ (
 ok ⟨Tryz.f168,Tryz.func168,by kernel_rfl,by kernel_rfl⟩ (
 ok ⟨Tryz.f109,Tryz.func109,by kernel_rfl,by kernel_rfl⟩ (
 ok ⟨Tryz.f9,Tryz.func9,by kernel_rfl,by kernel_rfl⟩ (
 ok ⟨Tryz.f67,Tryz.func67,by kernel_rfl,by kernel_rfl⟩ (
 ok ⟨Tryz.f66,Tryz.func66,by kernel_rfl,by kernel_rfl⟩ (
 ok ⟨Tryz.f25,Tryz.func25,by kernel_rfl,by kernel_rfl⟩ (
 ok ⟨Tryz.f26,Tryz.func26,by kernel_rfl,by kernel_rfl⟩ (
 ok ⟨Tryz.f27,Tryz.func27,by kernel_rfl,by kernel_rfl⟩ (
 ok ⟨Tryz.f102,Tryz.func102,by kernel_rfl,by kernel_rfl⟩ (
 ok ⟨Tryz.f103,Tryz.func103,by kernel_rfl,by kernel_rfl⟩ (
 ok ⟨Tryz.f41,Tryz.func41,by kernel_rfl,by kernel_rfl⟩ (
 ok ⟨Tryz.f11,Tryz.func11,by kernel_rfl,by kernel_rfl⟩ (
 ok ⟨Tryz.f43,Tryz.func43,by kernel_rfl,by kernel_rfl⟩ (
 ok ⟨Tryz.f12,Tryz.func12,by kernel_rfl,by kernel_rfl⟩ (
 ok ⟨Tryz.f45,Tryz.func45,by kernel_rfl,by kernel_rfl⟩ (
 ok ⟨Tryz.f52,Tryz.func52,by kernel_rfl,by kernel_rfl⟩ (
 ok ⟨Tryz.f55,Tryz.func55,by kernel_rfl,by kernel_rfl⟩ (
 ok ⟨Tryz.f56,Tryz.func56,by kernel_rfl,by kernel_rfl⟩ (
 ok ⟨Tryz.f18,Tryz.func18,by kernel_rfl,by kernel_rfl⟩ (
 ok ⟨Tryz.f20,Tryz.func20,by kernel_rfl,by kernel_rfl⟩ (
 ok ⟨Tryz.f57,Tryz.func57,by kernel_rfl,by kernel_rfl⟩ (
 ok ⟨Tryz.f21,Tryz.func21,by kernel_rfl,by kernel_rfl⟩ (
 ok ⟨Tryz.f13,Tryz.func13,by kernel_rfl,by kernel_rfl⟩ (
 ok ⟨Tryz.f136,Tryz.func136,by kernel_rfl,by kernel_rfl⟩ (
 List.forall_mem_nil _))))))))))))))))))))))))))))))
def Tv:List (Nat × AFn):=[(339,F.WZ),(340,F.WY),(341,F.OP),(342,F.WX),(343,F.LC)]
set_option maxRecDepth 100000 in
theorem Al9 : ∀ x∈Tv,OkF Tryz.prog num x :=
 ok ⟨Tryz.f68,Tryz.func68,by kernel_rfl,by kernel_rfl⟩ (
 ok ⟨Tryz.f69,Tryz.func69,by kernel_rfl,by kernel_rfl⟩ (
 ok ⟨Tryz.f70,Tryz.func70,by kernel_rfl,by kernel_rfl⟩ (
 ok ⟨Tryz.f28,Tryz.func28,by kernel_rfl,by kernel_rfl⟩ (
 ok ⟨Tryz.f6,Tryz.func6,by kernel_rfl,by kernel_rfl⟩ (
 List.forall_mem_nil _)))))
def lib:List (Nat × AFn):=Tq++(Tr++(Ts++(Tt++(Tu++(Tv)))))
def L:Lib:=⟨λ f=>lib.lookup f,num⟩
theorem Amn:ProgOK Tryz.prog num L:=Amo lib (List.forall_mem_append.2 ⟨Al4,(List.forall_mem_append.2 ⟨Al5,(List.forall_mem_append.2 ⟨Al6,(List.forall_mem_append.2 ⟨Al7,(List.forall_mem_append.2 ⟨Al8,Al9⟩)⟩)⟩)⟩)⟩)
theorem AkF:F.j4 L:={ SX:=rfl,SY:=rfl,SV:=rfl,SW:=rfl,H5:=rfl,TV:=rfl,TU:=rfl,FQ:=rfl,T6:=rfl,TZ:=rfl,TY:=rfl,T5:=rfl,T4:=rfl,LZ:=rfl,UB:=rfl,FZ:=rfl,T9:=rfl,T3:=rfl,UD:=rfl,I8:=rfl,UA:=rfl,T7:=rfl,T8:=rfl,UC:=rfl,GY:=rfl }
theorem sA:F.b7 L:={ AkF with DL:=rfl,TJ:=rfl,TH:=rfl,TI:=rfl,TE:=rfl,TG:=rfl,JN:=rfl,VD:=rfl,VE:=rfl,HV:=rfl,N6:=rfl,VF:=rfl,VB:=rfl,U7:=rfl,U8:=rfl,JM:=rfl,N0:=rfl,U4:=rfl }
theorem sC:F.c4 L:={ HY:=rfl,VI:=rfl,VG:=rfl,J5:=rfl,VK:=rfl,VH:=rfl,JO:=rfl,VM:=rfl,DT:=rfl,VJ:=rfl,VX:=rfl,VU:=rfl,VV:=rfl,VT:=rfl,VO:=rfl,VW:=rfl,VP:=rfl,VS:=rfl,VQ:=rfl,VR:=rfl,JP:=rfl,OC:=rfl,V8:=rfl,V5:=rfl,V2:=rfl,VZ:=rfl,V0:=rfl,V3:=rfl }
theorem AkN:F.fb L:={ sA,sC with UE:=rfl,WD:=rfl,YY:=rfl,YZ:=rfl }
theorem rY:F.o5 L:={ TC:=rfl,TA:=rfl,S9:=rfl,S8:=rfl,S7:=rfl }
theorem Ux:F.qu L:={ rY with  }
theorem AkD:F.su L:={ AkN,Ux with  }
theorem sB:F.w6 L:={ sA with VC:=rfl,U9:=rfl,U5:=rfl }
theorem Uy:F.au L:={ sA with NX:=rfl,U0:=rfl }
theorem Va:F.u9 L:={ sC with V4:=rfl,N7:=rfl,V1:=rfl,V7:=rfl }
theorem Uz:F.nh L:={ Va with  }
theorem AkO:F.vz L:={ AkD,sB,Uy,Uz with  }
theorem sD:F.q7 L:={ AkO with TF:=rfl,NZ:=rfl,U6:=rfl,UZ:=rfl,WL:=rfl,WS:=rfl,WR:=rfl,WT:=rfl,OH:=rfl }
theorem AkI:F.ew L:={ sD with U3:=rfl }
theorem AkG:F.ae L:={ AkI with UT:=rfl,UR:=rfl,UX:=rfl,UU:=rfl,UV:=rfl,UY:=rfl,US:=rfl,UW:=rfl,UQ:=rfl }
theorem AkK:F.eo L:={ sD with VN:=rfl,VY:=rfl,WG:=rfl,WF:=rfl,WH:=rfl,WE:=rfl }
theorem AkE:F.ah L:={ sB,sD with WQ:=rfl,WP:=rfl,TM:=rfl,O7:=rfl,TQ:=rfl,O6:=rfl,TN:=rfl,TP:=rfl,TL:=rfl }
theorem AkJ:F.jv L:={ Va with WA:=rfl }
theorem AkA:F.dj L:={ AkJ with V6:=rfl,WC:=rfl,G1:=rfl,WB:=rfl }
theorem sE:F.v3 L:={ rY with W6:=rfl,W2:=rfl,W7:=rfl,W4:=rfl,W3:=rfl,W5:=rfl }
theorem AkL:F.om L:={ sE,sC with  }
theorem Akx:F.oi L:={ AkL with  }
theorem Akz:F.z8 L:={ AkG,AkK,AkE,AkA,Akx with UJ:=rfl,UI:=rfl,UK:=rfl,UF:=rfl,JQ:=rfl,WJ:=rfl,V9:=rfl }
theorem Uw:F.q5 L:={ Akz with UM:=rfl,UH:=rfl,UG:=rfl,JB:=rfl,L0:=rfl,WK:=rfl,WI:=rfl }
theorem AkB:F.gd L:={ Uw with TK:=rfl }
theorem AkM:F.sv L:={ Ux,sE with  }
theorem Aky:F.kf L:={ AkM with  }
theorem Akw:F.er L:={ Aky,sB,Uy,Uz with TB:=rfl }
theorem AkH:F.z9 L:={ Uw,Akw,sE with WZ:=rfl,WY:=rfl,OP:=rfl,WX:=rfl }
theorem AkC:F.kg L:={ AkH,AkB with LC:=rfl }
end Go.Proofs.YtfnglkabkfmjcaaGreat
