/-
  The functions of the groups are the program's own: checked by the kernel, function by function.
-/
import Derived.Test.YtfnglkabkfmjcaaGreatProg
import Derived.KernelRfl
import Derived.Test.YtfnglkabkfmjcaaGreatB3
import Derived.Test.YtfnglkabkfmjcaaGreatB4
import Derived.Test.YtfnglkabkfmjcaaGreatB5
set_option linter.unusedSimpArgs false
set_option linter.unusedVariables false
set_option linter.unnecessarySimpa false
namespace Go.Proofs.YtfnglkabkfmjcaaGreat
open Go.c5
def num:Nat->Nat
 | 58=>200
 | 59=>201
 | 60=>175
 | 61=>176
 | 62=>205
 | 63=>216
 | 64=>209
 | 65=>174
 | 66=>181
 | 67=>124
 | 68=>172
 | 69=>173
 | 70=>128
 | 71=>210
 | 72=>212
 | 73=>211
 | 74=>202
 | 75=>177
 | 76=>204
 | 77=>217
 | 78=>214
 | 79=>213
 | 80=>215
 | 81=>203
 | 82=>179
 | 83=>171
 | 84=>178
 | 85=>132
 | 86=>156
 | 87=>123
 | 88=>126
 | 89=>121
 | 90=>180
 | 91=>127
 | 92=>122
 | 93=>157
 | 94=>125
 | 95=>79
 | 96=>63
 | 97=>94
 | 98=>53
 | 99=>54
 | 100=>146
 | 101=>112
 | 102=>118
 | 103=>117
 | 104=>119
 | 105=>116
 | 106=>198
 | 107=>199
 | 108=>197
 | 109=>170
 | 110=>169
 | 111=>115
 | 112=>77
 | 113=>65
 | 114=>111
 | 115=>50
 | 116=>120
 | 117=>51
 | 118=>49
 | 119=>114
 | 120=>113
 | 121=>48
 | 122=>47
 | 123=>110
 | 124=>30
 | 125=>39
 | 126=>16
 | 127=>17
 | 128=>15
 | 129=>14
 | 130=>61
 | 149=>140
 | 150=>76
 | 169=>185
 | 152=>46
 | 153=>44
 | 154=>99
 | 155=>24
 | 197=>186
 | 198=>139
 | 199=>75
 | 200=>138
 | 201=>71
 | 204=>72
 | 205=>73
 | 206=>74
 | 207=>29
 | 256=>208
 | 294=>192
 | 295=>162
 | 296=>163
 | 297=>194
 | 299=>165
 | 300=>193
 | 302=>164
 | 303=>101
 | 306=>40
 | 308=>195
 | 309=>166
 | 310=>105
 | 311=>106
 | 313=>107
 | 314=>42
 | 227=>206
 | 228=>187
 | 229=>141
 | 231=>144
 | 900=>207
 | 233=>188
 | 234=>189
 | 235=>143
 | 237=>104
 | 239=>108
 | 276=>196
 | 277=>167
 | 901=>168
 | 278=>109
 | 34=>9
 | 35=>67
 | 141=>85
 | 316=>38
 | 317=>10
 | 321=>102
 | 322=>103
 | 323=>41
 | 324=>11
 | 325=>43
 | 326=>12
 | 327=>45
 | 328=>52
 | 329=>55
 | 330=>56
 | 331=>18
 | 332=>20
 | 336=>13
 | 337=>3
 | _=>0
theorem ok {p:Nat × AFn->Prop} {a:Nat × AFn} {l:List (Nat × AFn)} (h:p a) (t : ∀ x∈l,p x) : ∀ x∈a::l,p x:=List.forall_mem_cons.2 ⟨h,t⟩
def pR:List (Nat × AFn):=[(58,F.KJ),(59,F.KL),(60,F.KH),(61,F.KI),(62,F.HH),(63,F.LA),(64,F.K9),(65,F.FI),(66,F.LI),(67,F.LE),(68,F.LD),(69,F.LH),(70,F.LG),(71,F.I9),(72,F.LN),(73,F.FO),(74,F.LL),(75,F.LF),(76,F.LP),(77,F.H3),(78,F.LM),(79,F.LJ),(80,F.LK),(81,F.LO),(82,F.GL),(83,F.DF),(84,F.KX),(85,F.KV),(86,F.KW),(87,F.KS)]
set_option maxRecDepth 100000 in
theorem Afl : ∀ x∈pR,OkF Tryz.prog num x :=
 ok ⟨Tryz.f200,Tryz.func200,by kernel_rfl,by kernel_rfl⟩ (
 ok ⟨Tryz.f201,Tryz.func201,by kernel_rfl,by kernel_rfl⟩ (
 ok ⟨Tryz.f175,Tryz.func175,by kernel_rfl,by kernel_rfl⟩ (
 ok ⟨Tryz.f176,Tryz.func176,by kernel_rfl,by kernel_rfl⟩ (
 ok ⟨Tryz.f205,Tryz.func205,by kernel_rfl,by kernel_rfl⟩ (
 ok ⟨Tryz.f216,Tryz.func216,by kernel_rfl,by kernel_rfl⟩ (
 ok ⟨Tryz.f209,Tryz.func209,by kernel_rfl,by kernel_rfl⟩ (
 ok ⟨Tryz.f174,Tryz.func174,by kernel_rfl,by kernel_rfl⟩ (
 ok ⟨Tryz.f181,Tryz.func181,by kernel_rfl,by kernel_rfl⟩ (
 ok ⟨Tryz.f124,Tryz.func124,by kernel_rfl,by kernel_rfl⟩ (
 ok ⟨Tryz.f172,Tryz.func172,by kernel_rfl,by kernel_rfl⟩ (
 ok ⟨Tryz.f173,Tryz.func173,by kernel_rfl,by kernel_rfl⟩ (
 ok ⟨Tryz.f128,Tryz.func128,by kernel_rfl,by kernel_rfl⟩ (
 ok ⟨Tryz.f210,Tryz.func210,by kernel_rfl,by kernel_rfl⟩ (
 ok ⟨Tryz.f212,Tryz.func212,by kernel_rfl,by kernel_rfl⟩ (
 ok ⟨Tryz.f211,Tryz.func211,by kernel_rfl,by kernel_rfl⟩ (
 ok ⟨Tryz.f202,Tryz.func202,by kernel_rfl,by kernel_rfl⟩ (
 ok ⟨Tryz.f177,Tryz.func177,by kernel_rfl,by kernel_rfl⟩ (
 ok ⟨Tryz.f204,Tryz.func204,by kernel_rfl,by kernel_rfl⟩ (
 ok ⟨Tryz.f217,Tryz.func217,by kernel_rfl,by kernel_rfl⟩ (
 ok ⟨Tryz.f214,Tryz.func214,by kernel_rfl,by kernel_rfl⟩ (
 ok ⟨Tryz.f213,Tryz.func213,by kernel_rfl,by kernel_rfl⟩ (
 ok ⟨Tryz.f215,Tryz.func215,by kernel_rfl,by kernel_rfl⟩ (
 ok ⟨Tryz.f203,Tryz.func203,by kernel_rfl,by kernel_rfl⟩ (
 ok ⟨Tryz.f179,Tryz.func179,by kernel_rfl,by kernel_rfl⟩ (
 ok ⟨Tryz.f171,Tryz.func171,by kernel_rfl,by kernel_rfl⟩ (
 ok ⟨Tryz.f178,Tryz.func178,by kernel_rfl,by kernel_rfl⟩ (
 ok ⟨Tryz.f132,Tryz.func132,by kernel_rfl,by kernel_rfl⟩ (
 ok ⟨Tryz.f156,Tryz.func156,by kernel_rfl,by kernel_rfl⟩ (
 ok ⟨Tryz.f123,Tryz.func123,by kernel_rfl,by kernel_rfl⟩ (
 List.forall_mem_nil _))))))))))))))))))))))))))))))
def pS:List (Nat × AFn):=[(88,F.KU),(89,F.IA),(90,F.ML),(91,F.MM),(92,F.HF),(93,F.MO),(94,F.MN),(95,F.MJ),(96,F.MG),(97,F.MH),(98,F.H9),(99,F.JF),(100,F.ME),(101,F.HG),(102,F.MR),(103,F.MP),(104,F.IP),(105,F.MT),(106,F.MQ),(107,F.IB),(108,F.MU),(109,F.DS),(110,F.MS),(111,F.M8),(112,F.M5),(113,F.M6),(114,F.M4),(115,F.MW),(116,F.M7),(117,F.MX)]
set_option maxRecDepth 100000 in
theorem Afm : ∀ x∈pS,OkF Tryz.prog num x :=
 ok ⟨Tryz.f126,Tryz.func126,by kernel_rfl,by kernel_rfl⟩ (
 ok ⟨Tryz.f121,Tryz.func121,by kernel_rfl,by kernel_rfl⟩ (
 ok ⟨Tryz.f180,Tryz.func180,by kernel_rfl,by kernel_rfl⟩ (
 ok ⟨Tryz.f127,Tryz.func127,by kernel_rfl,by kernel_rfl⟩ (
 ok ⟨Tryz.f122,Tryz.func122,by kernel_rfl,by kernel_rfl⟩ (
 ok ⟨Tryz.f157,Tryz.func157,by kernel_rfl,by kernel_rfl⟩ (
 ok ⟨Tryz.f125,Tryz.func125,by kernel_rfl,by kernel_rfl⟩ (
 ok ⟨Tryz.f79,Tryz.func79,by kernel_rfl,by kernel_rfl⟩ (
 ok ⟨Tryz.f63,Tryz.func63,by kernel_rfl,by kernel_rfl⟩ (
 ok ⟨Tryz.f94,Tryz.func94,by kernel_rfl,by kernel_rfl⟩ (
 ok ⟨Tryz.f53,Tryz.func53,by kernel_rfl,by kernel_rfl⟩ (
 ok ⟨Tryz.f54,Tryz.func54,by kernel_rfl,by kernel_rfl⟩ (
 ok ⟨Tryz.f146,Tryz.func146,by kernel_rfl,by kernel_rfl⟩ (
 ok ⟨Tryz.f112,Tryz.func112,by kernel_rfl,by kernel_rfl⟩ (
 ok ⟨Tryz.f118,Tryz.func118,by kernel_rfl,by kernel_rfl⟩ (
 ok ⟨Tryz.f117,Tryz.func117,by kernel_rfl,by kernel_rfl⟩ (
 ok ⟨Tryz.f119,Tryz.func119,by kernel_rfl,by kernel_rfl⟩ (
 ok ⟨Tryz.f116,Tryz.func116,by kernel_rfl,by kernel_rfl⟩ (
 ok ⟨Tryz.f198,Tryz.func198,by kernel_rfl,by kernel_rfl⟩ (
 ok ⟨Tryz.f199,Tryz.func199,by kernel_rfl,by kernel_rfl⟩ (
 ok ⟨Tryz.f197,Tryz.func197,by kernel_rfl,by kernel_rfl⟩ (
 ok ⟨Tryz.f170,Tryz.func170,by kernel_rfl,by kernel_rfl⟩ (
 ok ⟨Tryz.f169,Tryz.func169,by kernel_rfl,by kernel_rfl⟩ (
 ok ⟨Tryz.f115,Tryz.func115,by kernel_rfl,by kernel_rfl⟩ (
 ok ⟨Tryz.f77,Tryz.func77,by kernel_rfl,by kernel_rfl⟩ (
 ok ⟨Tryz.f65,Tryz.func65,by kernel_rfl,by kernel_rfl⟩ (
 ok ⟨Tryz.f111,Tryz.func111,by kernel_rfl,by kernel_rfl⟩ (
 ok ⟨Tryz.f50,Tryz.func50,by kernel_rfl,by kernel_rfl⟩ (
 ok ⟨Tryz.f120,Tryz.func120,by kernel_rfl,by kernel_rfl⟩ (
 ok ⟨Tryz.f51,Tryz.func51,by kernel_rfl,by kernel_rfl⟩ (
 List.forall_mem_nil _))))))))))))))))))))))))))))))
def pT:List (Nat × AFn):=[(118,F.M3),(119,F.MY),(120,F.MZ),(121,F.IC),(122,F.JH),(123,F.NJ),(124,F.NG),(125,F.ND),(126,F.NA),(127,F.NB),(128,F.NE),(129,F.NP),(130,F.LQ),(149,F.MK),(150,F.MI),(169,F.MC),(152,F.NF),(153,F.JG),(154,F.NC),(155,F.NI),(197,F.KT),(198,F.JE),(199,F.MF),(200,F.MB),(201,F.NW),(204,F.N4),(205,F.N3),(206,F.N5),(207,F.JK),(256,F.MD)]
set_option maxRecDepth 100000 in
theorem Afn : ∀ x∈pT,OkF Tryz.prog num x :=
 ok ⟨Tryz.f49,Tryz.func49,by kernel_rfl,by kernel_rfl⟩ (
 ok ⟨Tryz.f114,Tryz.func114,by kernel_rfl,by kernel_rfl⟩ (
 ok ⟨Tryz.f113,Tryz.func113,by kernel_rfl,by kernel_rfl⟩ (
 ok ⟨Tryz.f48,Tryz.func48,by kernel_rfl,by kernel_rfl⟩ (
 ok ⟨Tryz.f47,Tryz.func47,by kernel_rfl,by kernel_rfl⟩ (
 ok ⟨Tryz.f110,Tryz.func110,by kernel_rfl,by kernel_rfl⟩ (
 ok ⟨Tryz.f30,Tryz.func30,by kernel_rfl,by kernel_rfl⟩ (
 ok ⟨Tryz.f39,Tryz.func39,by kernel_rfl,by kernel_rfl⟩ (
 ok ⟨Tryz.f16,Tryz.func16,by kernel_rfl,by kernel_rfl⟩ (
 ok ⟨Tryz.f17,Tryz.func17,by kernel_rfl,by kernel_rfl⟩ (
 ok ⟨Tryz.f15,Tryz.func15,by kernel_rfl,by kernel_rfl⟩ (
 ok ⟨Tryz.f14,Tryz.func14,by kernel_rfl,by kernel_rfl⟩ (
 ok ⟨Tryz.f61,Tryz.func61,by kernel_rfl,by kernel_rfl⟩ (
 ok ⟨Tryz.f140,Tryz.func140,by kernel_rfl,by kernel_rfl⟩ (
 ok ⟨Tryz.f76,Tryz.func76,by kernel_rfl,by kernel_rfl⟩ (
 ok ⟨Tryz.f185,Tryz.func185,by kernel_rfl,by kernel_rfl⟩ (
 ok ⟨Tryz.f46,Tryz.func46,by kernel_rfl,by kernel_rfl⟩ (
 ok ⟨Tryz.f44,Tryz.func44,by kernel_rfl,by kernel_rfl⟩ (
 ok ⟨Tryz.f99,Tryz.func99,by kernel_rfl,by kernel_rfl⟩ (
 ok ⟨Tryz.f24,Tryz.func24,by kernel_rfl,by kernel_rfl⟩ (
 ok ⟨Tryz.f186,Tryz.func186,by kernel_rfl,by kernel_rfl⟩ (
 ok ⟨Tryz.f139,Tryz.func139,by kernel_rfl,by kernel_rfl⟩ (
 ok ⟨Tryz.f75,Tryz.func75,by kernel_rfl,by kernel_rfl⟩ (
 ok ⟨Tryz.f138,Tryz.func138,by kernel_rfl,by kernel_rfl⟩ (
 ok ⟨Tryz.f71,Tryz.func71,by kernel_rfl,by kernel_rfl⟩ (
 ok ⟨Tryz.f72,Tryz.func72,by kernel_rfl,by kernel_rfl⟩ (
 ok ⟨Tryz.f73,Tryz.func73,by kernel_rfl,by kernel_rfl⟩ (
 ok ⟨Tryz.f74,Tryz.func74,by kernel_rfl,by kernel_rfl⟩ (
 ok ⟨Tryz.f29,Tryz.func29,by kernel_rfl,by kernel_rfl⟩ (
 ok ⟨Tryz.f208,Tryz.func208,by kernel_rfl,by kernel_rfl⟩ (
 List.forall_mem_nil _))))))))))))))))))))))))))))))
def pU:List (Nat × AFn):=[(294,F.L5),(295,F.L3),(296,F.L9),(297,F.L6),(299,F.L7),(300,F.MA),(302,F.L4),(303,F.L8),(306,F.L2),(308,F.MV),(309,F.M9),(310,F.NT),(311,F.NR),(313,F.NU),(314,F.NQ),(227,F.N2),(228,F.N1),(229,F.K2),(231,F.J2),(900,F.K5),(233,F.J1),(234,F.K3),(235,F.K4),(237,F.K1),(239,F.NL),(276,F.NH),(277,F.NN),(901,F.GN),(278,F.NM),(34,F.OA)]
set_option maxRecDepth 100000 in
theorem Afo : ∀ x∈pU,OkF Tryz.prog num x :=
 ok ⟨Tryz.f192,Tryz.func192,by kernel_rfl,by kernel_rfl⟩ (
 ok ⟨Tryz.f162,Tryz.func162,by kernel_rfl,by kernel_rfl⟩ (
 ok ⟨Tryz.f163,Tryz.func163,by kernel_rfl,by kernel_rfl⟩ (
 ok ⟨Tryz.f194,Tryz.func194,by kernel_rfl,by kernel_rfl⟩ (
 ok ⟨Tryz.f165,Tryz.func165,by kernel_rfl,by kernel_rfl⟩ (
 ok ⟨Tryz.f193,Tryz.func193,by kernel_rfl,by kernel_rfl⟩ (
 ok ⟨Tryz.f164,Tryz.func164,by kernel_rfl,by kernel_rfl⟩ (
 ok ⟨Tryz.f101,Tryz.func101,by kernel_rfl,by kernel_rfl⟩ (
 ok ⟨Tryz.f40,Tryz.func40,by kernel_rfl,by kernel_rfl⟩ (
 ok ⟨Tryz.f195,Tryz.func195,by kernel_rfl,by kernel_rfl⟩ (
 ok ⟨Tryz.f166,Tryz.func166,by kernel_rfl,by kernel_rfl⟩ (
 ok ⟨Tryz.f105,Tryz.func105,by kernel_rfl,by kernel_rfl⟩ (
 ok ⟨Tryz.f106,Tryz.func106,by kernel_rfl,by kernel_rfl⟩ (
 ok ⟨Tryz.f107,Tryz.func107,by kernel_rfl,by kernel_rfl⟩ (
 ok ⟨Tryz.f42,Tryz.func42,by kernel_rfl,by kernel_rfl⟩ (
 ok ⟨Tryz.f206,Tryz.func206,by kernel_rfl,by kernel_rfl⟩ (
 ok ⟨Tryz.f187,Tryz.func187,by kernel_rfl,by kernel_rfl⟩ (
 ok ⟨Tryz.f141,Tryz.func141,by kernel_rfl,by kernel_rfl⟩ (
 ok ⟨Tryz.f144,Tryz.func144,by kernel_rfl,by kernel_rfl⟩ (
 ok ⟨Tryz.f207,Tryz.func207,by kernel_rfl,by kernel_rfl⟩ (
 ok ⟨Tryz.f188,Tryz.func188,by kernel_rfl,by kernel_rfl⟩ (
 ok ⟨Tryz.f189,Tryz.func189,by kernel_rfl,by kernel_rfl⟩ (
 ok ⟨Tryz.f143,Tryz.func143,by kernel_rfl,by kernel_rfl⟩ (
 ok ⟨Tryz.f104,Tryz.func104,by kernel_rfl,by kernel_rfl⟩ (
 ok ⟨Tryz.f108,Tryz.func108,by kernel_rfl,by kernel_rfl⟩ (
 ok ⟨Tryz.f196,Tryz.func196,by kernel_rfl,by kernel_rfl⟩ (
 ok ⟨Tryz.f167,Tryz.func167,by kernel_rfl,by kernel_rfl⟩ (
 ok ⟨Tryz.f168,Tryz.func168,by kernel_rfl,by kernel_rfl⟩ (
 ok ⟨Tryz.f109,Tryz.func109,by kernel_rfl,by kernel_rfl⟩ (
 ok ⟨Tryz.f9,Tryz.func9,by kernel_rfl,by kernel_rfl⟩ (
 List.forall_mem_nil _))))))))))))))))))))))))))))))
def pV:List (Nat × AFn):=[(35,F.N8),(141,F.N9),(316,F.HJ),(317,F.HI),(321,F.LW),(322,F.LV),(323,F.LX),(324,F.LS),(325,F.ID),(326,F.NV),(327,F.NK),(328,F.LY),(329,F.LU),(330,F.LT),(331,F.JA),(332,F.LR),(336,F.KZ),(337,F.KY)]
set_option maxRecDepth 100000 in
theorem Afp : ∀ x∈pV,OkF Tryz.prog num x :=
 ok ⟨Tryz.f67,Tryz.func67,by kernel_rfl,by kernel_rfl⟩ (
 ok ⟨Tryz.f85,Tryz.func85,by kernel_rfl,by kernel_rfl⟩ (
 ok ⟨Tryz.f38,Tryz.func38,by kernel_rfl,by kernel_rfl⟩ (
 ok ⟨Tryz.f10,Tryz.func10,by kernel_rfl,by kernel_rfl⟩ (
 ok ⟨Tryz.f102,Tryz.func102,by kernel_rfl,by kernel_rfl⟩ (
 ok ⟨Tryz.f103,Tryz.func103,by kernel_rfl,by kernel_rfl⟩ (
 ok ⟨Tryz.f41,Tryz.func41,by kernel_rfl,by kernel_rfl⟩ (
 ok ⟨Tryz.f11,Tryz.func11,by kernel_rfl,by kernel_rfl⟩ (
 ok ⟨Tryz.f43,Tryz.func43,by kernel_rfl,by kernel_rfl⟩ (
 ok ⟨Tryz.f12,Tryz.func12,by kernel_rfl,by kernel_rfl⟩ (
 ok ⟨Tryz.f45,Tryz.func45,by kernel_rfl,by kernel_rfl⟩ (
 ok ⟨Tryz.f52,Tryz.func52,by kernel_rfl,by kernel_rfl⟩ (
 ok ⟨Tryz.f55,Tryz.func55,by kernel_rfl,by kernel_rfl⟩ (
 ok ⟨Tryz.f56,Tryz.func56,by kernel_rfl,by kernel_rfl⟩ (
 ok ⟨Tryz.f18,Tryz.func18,by kernel_rfl,by kernel_rfl⟩ (
 ok ⟨Tryz.f20,Tryz.func20,by kernel_rfl,by kernel_rfl⟩ (
 ok ⟨Tryz.f13,Tryz.func13,by kernel_rfl,by kernel_rfl⟩ (
 ok ⟨Tryz.f3,Tryz.func3,by kernel_rfl,by kernel_rfl⟩ (
 List.forall_mem_nil _))))))))))))))))))
def Qw:List (Nat × AFn):=pR++(pS++(pT++(pU++(pV))))
def L:Lib:=⟨λ f=>Qw.lookup f,num⟩
theorem AfB:ProgOK Tryz.prog num L:=AfC Qw (List.forall_mem_append.2 ⟨Afl,(List.forall_mem_append.2 ⟨Afm,(List.forall_mem_append.2 ⟨Afn,(List.forall_mem_append.2 ⟨Afo,Afp⟩)⟩)⟩)⟩)
theorem AdR:F.c8 L:={ KJ:=rfl,KL:=rfl,KH:=rfl,KI:=rfl,HH:=rfl,LA:=rfl,K9:=rfl,FI:=rfl,LI:=rfl,LE:=rfl,LD:=rfl,LH:=rfl,LG:=rfl,I9:=rfl,LN:=rfl,FO:=rfl,LL:=rfl,LF:=rfl,LP:=rfl,H3:=rfl,LM:=rfl,LJ:=rfl,LK:=rfl,LO:=rfl,GL:=rfl }
theorem cZ:F.a8 L:={ AdR with DF:=rfl,KX:=rfl,KV:=rfl,KW:=rfl,KS:=rfl,KU:=rfl,IA:=rfl,ML:=rfl,MM:=rfl,HF:=rfl,MO:=rfl,MN:=rfl,MJ:=rfl,MG:=rfl,MH:=rfl,H9:=rfl,JF:=rfl,ME:=rfl }
theorem dA:F.a9 L:={ HG:=rfl,MR:=rfl,MP:=rfl,IP:=rfl,MT:=rfl,MQ:=rfl,IB:=rfl,MU:=rfl,DS:=rfl,MS:=rfl,M8:=rfl,M5:=rfl,M6:=rfl,M4:=rfl,MW:=rfl,M7:=rfl,MX:=rfl,M3:=rfl,MY:=rfl,MZ:=rfl,IC:=rfl,JH:=rfl,NJ:=rfl,NG:=rfl,ND:=rfl,NA:=rfl,NB:=rfl,NE:=rfl,NP:=rfl }
theorem Zd:F.gu L:={ cZ,dA with LQ:=rfl }
theorem oY:F.im L:={  }
theorem AdS:F.sz L:={ oY with  }
theorem AdP:F.pg L:={ Zd,AdS with  }
theorem oZ:F.v5 L:={ cZ with MK:=rfl,MI:=rfl }
theorem AdV:F.lz L:={ cZ with MC:=rfl }
theorem pA:F.o3 L:={ dA with NF:=rfl,JG:=rfl,NC:=rfl,NI:=rfl }
theorem AdW:F.pk L:={ pA with  }
theorem Ze:F.ta L:={ AdP,oZ,AdV,AdW with  }
theorem dB:F.n9 L:={ Ze with KT:=rfl,JE:=rfl,MF:=rfl,MB:=rfl,NW:=rfl,N4:=rfl,N3:=rfl,N5:=rfl,JK:=rfl }
theorem AdU:F.cq L:={ dB with MD:=rfl }
theorem AdT:F.q9 L:={ AdU with L5:=rfl,L3:=rfl,L9:=rfl,L6:=rfl,L7:=rfl,MA:=rfl,L4:=rfl,L8:=rfl,L2:=rfl }
theorem AdY:F.cf L:={ dB with MV:=rfl,M9:=rfl,NT:=rfl,NR:=rfl,NU:=rfl,NQ:=rfl }
theorem AdQ:F.u4 L:={ oZ,dB with N2:=rfl,N1:=rfl,K2:=rfl,J2:=rfl,K5:=rfl,J1:=rfl,K3:=rfl,K4:=rfl,K1:=rfl }
theorem AdX:F.gq L:={ pA with NL:=rfl }
theorem AdN:F.aq L:={ AdX with NH:=rfl,NN:=rfl,GN:=rfl,NM:=rfl }
theorem Zf:F.v8 L:={ oY with OA:=rfl,N8:=rfl }
theorem AdZ:F.cg L:={ Zf,dA with N9:=rfl }
theorem Zx:F.bz L:={ AdZ with HJ:=rfl,HI:=rfl }
theorem Zz:F.q8 L:={ AdT,AdY,AdQ,AdN,Zx with LW:=rfl,LV:=rfl,LX:=rfl,LS:=rfl,ID:=rfl,NV:=rfl,NK:=rfl }
theorem Zy:F.w5 L:={ Zz with LY:=rfl,LU:=rfl,LT:=rfl,JA:=rfl,LR:=rfl }
theorem AdO:F.ki L:={ Zy with KZ:=rfl,KY:=rfl }
end Go.Proofs.YtfnglkabkfmjcaaGreat
