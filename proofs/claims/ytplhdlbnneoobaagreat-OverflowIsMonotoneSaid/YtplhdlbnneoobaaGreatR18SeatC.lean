/-
  The functions of the groups are the program's own: checked by the kernel, function by function.
-/
import Derived.Test.YtplhdlbnneoobaaGreatProg
import Derived.KernelRfl
import Derived.Test.YtplhdlbnneoobaaGreatB3
import Derived.Test.YtplhdlbnneoobaaGreatB4
set_option linter.unusedSimpArgs false
set_option linter.unusedVariables false
set_option linter.unnecessarySimpa false
namespace Go.Proofs.YtplhdlbnneoobaaGreat
open Go.b7
def num:Nat->Nat
 | 58=>179
 | 59=>180
 | 60=>159
 | 61=>160
 | 62=>178
 | 63=>194
 | 64=>186
 | 65=>156
 | 66=>155
 | 67=>116
 | 68=>157
 | 69=>158
 | 70=>114
 | 71=>187
 | 72=>189
 | 73=>188
 | 74=>175
 | 75=>151
 | 76=>177
 | 77=>195
 | 78=>191
 | 79=>190
 | 80=>192
 | 81=>176
 | 82=>153
 | 83=>150
 | 84=>152
 | 85=>122
 | 86=>108
 | 87=>115
 | 88=>109
 | 89=>107
 | 90=>154
 | 91=>110
 | 92=>113
 | 93=>111
 | 94=>112
 | 95=>90
 | 96=>59
 | 97=>134
 | 98=>48
 | 99=>47
 | 100=>46
 | 101=>118
 | 102=>162
 | 103=>161
 | 104=>163
 | 105=>121
 | 106=>184
 | 107=>185
 | 108=>183
 | 109=>173
 | 110=>172
 | 111=>120
 | 112=>87
 | 113=>91
 | 114=>101
 | 115=>117
 | 116=>119
 | 117=>56
 | 118=>57
 | 119=>147
 | 120=>146
 | 121=>92
 | 122=>55
 | 123=>85
 | 124=>29
 | 125=>35
 | 127=>16
 | 130=>41
 | 1=>164
 | 2=>129
 | 3=>169
 | 4=>71
 | 5=>143
 | 10=>138
 | 11=>74
 | 13=>21
 | 21=>81
 | 149=>149
 | 150=>100
 | 151=>165
 | 169=>174
 | 152=>40
 | 197=>137
 | 198=>72
 | 199=>99
 | 200=>148
 | 201=>95
 | 204=>96
 | 205=>97
 | 206=>98
 | 207=>39
 | 256=>49
 | 294=>102
 | 295=>42
 | 296=>44
 | 297=>103
 | 298=>105
 | 299=>94
 | 300=>104
 | 301=>106
 | 302=>93
 | 303=>36
 | 304=>45
 | 305=>43
 | 307=>14
 | 34=>8
 | 35=>80
 | 36=>124
 | 37=>61
 | 38=>62
 | 40=>24
 | 41=>67
 | 46=>125
 | 47=>127
 | 48=>126
 | 49=>128
 | 50=>64
 | 51=>65
 | 52=>66
 | 345=>130
 | 346=>68
 | 347=>63
 | 348=>19
 | 318=>13
 | 349=>69
 | 350=>133
 | 351=>131
 | 352=>132
 | 353=>73
 | 354=>136
 | 355=>135
 | 356=>70
 | 357=>22
 | 358=>20
 | 359=>5
 | _=>0
theorem ok {p:Nat × AFn->Prop} {a:Nat × AFn} {l:List (Nat × AFn)} (h:p a) (t : ∀ x∈l,p x) : ∀ x∈a::l,p x:=List.forall_mem_cons.2 ⟨h,t⟩
def pV:List (Nat × AFn):=[(58,F.KV),(59,F.KW),(60,F.KT),(61,F.KU),(62,F.HX),(63,F.LP),(64,F.LO),(65,F.FR),(66,F.LW),(67,F.LS),(68,F.LR),(69,F.LV),(70,F.LU),(71,F.JT),(72,F.L1),(73,F.F4),(74,F.LZ),(75,F.LT),(76,F.L3),(77,F.IR),(78,F.L0),(79,F.LX),(80,F.LY),(81,F.L2),(82,F.GZ),(83,F.DD),(84,F.LH),(85,F.LF),(86,F.LG),(87,F.LC)]
set_option maxRecDepth 100000 in
theorem Ye : ∀ x∈pV,OkF Tryz.prog num x :=
 ok ⟨Tryz.f179,Tryz.func179,by kernel_rfl,by kernel_rfl⟩ (
 ok ⟨Tryz.f180,Tryz.func180,by kernel_rfl,by kernel_rfl⟩ (
 ok ⟨Tryz.f159,Tryz.func159,by kernel_rfl,by kernel_rfl⟩ (
 ok ⟨Tryz.f160,Tryz.func160,by kernel_rfl,by kernel_rfl⟩ (
 ok ⟨Tryz.f178,Tryz.func178,by kernel_rfl,by kernel_rfl⟩ (
 ok ⟨Tryz.f194,Tryz.func194,by kernel_rfl,by kernel_rfl⟩ (
 ok ⟨Tryz.f186,Tryz.func186,by kernel_rfl,by kernel_rfl⟩ (
 ok ⟨Tryz.f156,Tryz.func156,by kernel_rfl,by kernel_rfl⟩ (
 ok ⟨Tryz.f155,Tryz.func155,by kernel_rfl,by kernel_rfl⟩ (
 ok ⟨Tryz.f116,Tryz.func116,by kernel_rfl,by kernel_rfl⟩ (
 ok ⟨Tryz.f157,Tryz.func157,by kernel_rfl,by kernel_rfl⟩ (
 ok ⟨Tryz.f158,Tryz.func158,by kernel_rfl,by kernel_rfl⟩ (
 ok ⟨Tryz.f114,Tryz.func114,by kernel_rfl,by kernel_rfl⟩ (
 ok ⟨Tryz.f187,Tryz.func187,by kernel_rfl,by kernel_rfl⟩ (
 ok ⟨Tryz.f189,Tryz.func189,by kernel_rfl,by kernel_rfl⟩ (
 ok ⟨Tryz.f188,Tryz.func188,by kernel_rfl,by kernel_rfl⟩ (
 ok ⟨Tryz.f175,Tryz.func175,by kernel_rfl,by kernel_rfl⟩ (
 ok ⟨Tryz.f151,Tryz.func151,by kernel_rfl,by kernel_rfl⟩ (
 ok ⟨Tryz.f177,Tryz.func177,by kernel_rfl,by kernel_rfl⟩ (
 ok ⟨Tryz.f195,Tryz.func195,by kernel_rfl,by kernel_rfl⟩ (
 ok ⟨Tryz.f191,Tryz.func191,by kernel_rfl,by kernel_rfl⟩ (
 ok ⟨Tryz.f190,Tryz.func190,by kernel_rfl,by kernel_rfl⟩ (
 ok ⟨Tryz.f192,Tryz.func192,by kernel_rfl,by kernel_rfl⟩ (
 ok ⟨Tryz.f176,Tryz.func176,by kernel_rfl,by kernel_rfl⟩ (
 ok ⟨Tryz.f153,Tryz.func153,by kernel_rfl,by kernel_rfl⟩ (
 ok ⟨Tryz.f150,Tryz.func150,by kernel_rfl,by kernel_rfl⟩ (
 ok ⟨Tryz.f152,Tryz.func152,by kernel_rfl,by kernel_rfl⟩ (
 ok ⟨Tryz.f122,Tryz.func122,by kernel_rfl,by kernel_rfl⟩ (
 ok ⟨Tryz.f108,Tryz.func108,by kernel_rfl,by kernel_rfl⟩ (
 ok ⟨Tryz.f115,Tryz.func115,by kernel_rfl,by kernel_rfl⟩ (
 List.forall_mem_nil _))))))))))))))))))))))))))))))
def pW:List (Nat × AFn):=[(88,F.LE),(89,F.IY),(90,F.M8),(91,F.M9),(92,F.HU),(93,F.JZ),(94,F.NA),(95,F.M6),(96,F.M3),(97,F.M4),(98,F.IX),(99,F.JY),(100,F.MX),(101,F.HV),(102,F.ND),(103,F.NB),(104,F.JJ),(105,F.NF),(106,F.NC),(107,F.IZ),(108,F.NG),(109,F.DN),(110,F.NE),(111,F.NR),(112,F.NN),(113,F.NP),(114,F.NM),(115,F.NH),(116,F.NQ),(117,F.NI)]
set_option maxRecDepth 100000 in
theorem Yf : ∀ x∈pW,OkF Tryz.prog num x :=
 ok ⟨Tryz.f109,Tryz.func109,by kernel_rfl,by kernel_rfl⟩ (
 ok ⟨Tryz.f107,Tryz.func107,by kernel_rfl,by kernel_rfl⟩ (
 ok ⟨Tryz.f154,Tryz.func154,by kernel_rfl,by kernel_rfl⟩ (
 ok ⟨Tryz.f110,Tryz.func110,by kernel_rfl,by kernel_rfl⟩ (
 ok ⟨Tryz.f113,Tryz.func113,by kernel_rfl,by kernel_rfl⟩ (
 ok ⟨Tryz.f111,Tryz.func111,by kernel_rfl,by kernel_rfl⟩ (
 ok ⟨Tryz.f112,Tryz.func112,by kernel_rfl,by kernel_rfl⟩ (
 ok ⟨Tryz.f90,Tryz.func90,by kernel_rfl,by kernel_rfl⟩ (
 ok ⟨Tryz.f59,Tryz.func59,by kernel_rfl,by kernel_rfl⟩ (
 ok ⟨Tryz.f134,Tryz.func134,by kernel_rfl,by kernel_rfl⟩ (
 ok ⟨Tryz.f48,Tryz.func48,by kernel_rfl,by kernel_rfl⟩ (
 ok ⟨Tryz.f47,Tryz.func47,by kernel_rfl,by kernel_rfl⟩ (
 ok ⟨Tryz.f46,Tryz.func46,by kernel_rfl,by kernel_rfl⟩ (
 ok ⟨Tryz.f118,Tryz.func118,by kernel_rfl,by kernel_rfl⟩ (
 ok ⟨Tryz.f162,Tryz.func162,by kernel_rfl,by kernel_rfl⟩ (
 ok ⟨Tryz.f161,Tryz.func161,by kernel_rfl,by kernel_rfl⟩ (
 ok ⟨Tryz.f163,Tryz.func163,by kernel_rfl,by kernel_rfl⟩ (
 ok ⟨Tryz.f121,Tryz.func121,by kernel_rfl,by kernel_rfl⟩ (
 ok ⟨Tryz.f184,Tryz.func184,by kernel_rfl,by kernel_rfl⟩ (
 ok ⟨Tryz.f185,Tryz.func185,by kernel_rfl,by kernel_rfl⟩ (
 ok ⟨Tryz.f183,Tryz.func183,by kernel_rfl,by kernel_rfl⟩ (
 ok ⟨Tryz.f173,Tryz.func173,by kernel_rfl,by kernel_rfl⟩ (
 ok ⟨Tryz.f172,Tryz.func172,by kernel_rfl,by kernel_rfl⟩ (
 ok ⟨Tryz.f120,Tryz.func120,by kernel_rfl,by kernel_rfl⟩ (
 ok ⟨Tryz.f87,Tryz.func87,by kernel_rfl,by kernel_rfl⟩ (
 ok ⟨Tryz.f91,Tryz.func91,by kernel_rfl,by kernel_rfl⟩ (
 ok ⟨Tryz.f101,Tryz.func101,by kernel_rfl,by kernel_rfl⟩ (
 ok ⟨Tryz.f117,Tryz.func117,by kernel_rfl,by kernel_rfl⟩ (
 ok ⟨Tryz.f119,Tryz.func119,by kernel_rfl,by kernel_rfl⟩ (
 ok ⟨Tryz.f56,Tryz.func56,by kernel_rfl,by kernel_rfl⟩ (
 List.forall_mem_nil _))))))))))))))))))))))))))))))
def pX:List (Nat × AFn):=[(118,F.NL),(119,F.NJ),(120,F.NK),(121,F.I0),(122,F.J0),(123,F.NW),(124,F.NV),(125,F.NT),(127,F.NS),(130,F.L4),(1,F.LA),(2,F.K9),(3,F.K8),(4,F.K7),(5,F.K6),(10,F.NY),(11,F.NZ),(13,F.NX),(21,F.L5),(149,F.M7),(150,F.M5),(151,F.MY),(169,F.MV),(152,F.NU),(197,F.LD),(198,F.JX),(199,F.MZ),(200,F.MU),(201,F.N0),(204,F.N7)]
set_option maxRecDepth 100000 in
theorem Yg : ∀ x∈pX,OkF Tryz.prog num x :=
 ok ⟨Tryz.f57,Tryz.func57,by kernel_rfl,by kernel_rfl⟩ (
 ok ⟨Tryz.f147,Tryz.func147,by kernel_rfl,by kernel_rfl⟩ (
 ok ⟨Tryz.f146,Tryz.func146,by kernel_rfl,by kernel_rfl⟩ (
 ok ⟨Tryz.f92,Tryz.func92,by kernel_rfl,by kernel_rfl⟩ (
 ok ⟨Tryz.f55,Tryz.func55,by kernel_rfl,by kernel_rfl⟩ (
 ok ⟨Tryz.f85,Tryz.func85,by kernel_rfl,by kernel_rfl⟩ (
 ok ⟨Tryz.f29,Tryz.func29,by kernel_rfl,by kernel_rfl⟩ (
 ok ⟨Tryz.f35,Tryz.func35,by kernel_rfl,by kernel_rfl⟩ (
 ok ⟨Tryz.f16,Tryz.func16,by kernel_rfl,by kernel_rfl⟩ (
 ok ⟨Tryz.f41,Tryz.func41,by kernel_rfl,by kernel_rfl⟩ (
 ok ⟨Tryz.f164,Tryz.func164,by kernel_rfl,by kernel_rfl⟩ (
 ok ⟨Tryz.f129,Tryz.func129,by kernel_rfl,by kernel_rfl⟩ (
 ok ⟨Tryz.f169,Tryz.func169,by kernel_rfl,by kernel_rfl⟩ (
 ok ⟨Tryz.f71,Tryz.func71,by kernel_rfl,by kernel_rfl⟩ (
 ok ⟨Tryz.f143,Tryz.func143,by kernel_rfl,by kernel_rfl⟩ (
 ok ⟨Tryz.f138,Tryz.func138,by kernel_rfl,by kernel_rfl⟩ (
 ok ⟨Tryz.f74,Tryz.func74,by kernel_rfl,by kernel_rfl⟩ (
 ok ⟨Tryz.f21,Tryz.func21,by kernel_rfl,by kernel_rfl⟩ (
 ok ⟨Tryz.f81,Tryz.func81,by kernel_rfl,by kernel_rfl⟩ (
 ok ⟨Tryz.f149,Tryz.func149,by kernel_rfl,by kernel_rfl⟩ (
 ok ⟨Tryz.f100,Tryz.func100,by kernel_rfl,by kernel_rfl⟩ (
 ok ⟨Tryz.f165,Tryz.func165,by kernel_rfl,by kernel_rfl⟩ (
 ok ⟨Tryz.f174,Tryz.func174,by kernel_rfl,by kernel_rfl⟩ (
 ok ⟨Tryz.f40,Tryz.func40,by kernel_rfl,by kernel_rfl⟩ (
 ok ⟨Tryz.f137,Tryz.func137,by kernel_rfl,by kernel_rfl⟩ (
 ok ⟨Tryz.f72,Tryz.func72,by kernel_rfl,by kernel_rfl⟩ (
 ok ⟨Tryz.f99,Tryz.func99,by kernel_rfl,by kernel_rfl⟩ (
 ok ⟨Tryz.f148,Tryz.func148,by kernel_rfl,by kernel_rfl⟩ (
 ok ⟨Tryz.f95,Tryz.func95,by kernel_rfl,by kernel_rfl⟩ (
 ok ⟨Tryz.f96,Tryz.func96,by kernel_rfl,by kernel_rfl⟩ (
 List.forall_mem_nil _))))))))))))))))))))))))))))))
def pY:List (Nat × AFn):=[(205,F.N6),(206,F.N8),(207,F.J4),(256,F.MW),(294,F.MH),(295,F.MF),(296,F.MR),(297,F.MI),(298,F.MB),(299,F.MP),(300,F.MS),(301,F.MM),(302,F.MG),(303,F.MQ),(304,F.MK),(305,F.MJ),(307,F.MA),(34,F.OH),(35,F.OA),(36,F.OI),(37,F.OD),(38,F.OC),(40,F.OB),(41,F.OG),(46,F.K4),(47,F.K3),(48,F.K2),(49,F.IP),(50,F.KY),(51,F.KZ)]
set_option maxRecDepth 100000 in
theorem Yh : ∀ x∈pY,OkF Tryz.prog num x :=
 ok ⟨Tryz.f97,Tryz.func97,by kernel_rfl,by kernel_rfl⟩ (
 ok ⟨Tryz.f98,Tryz.func98,by kernel_rfl,by kernel_rfl⟩ (
 ok ⟨Tryz.f39,Tryz.func39,by kernel_rfl,by kernel_rfl⟩ (
 ok ⟨Tryz.f49,Tryz.func49,by kernel_rfl,by kernel_rfl⟩ (
 ok ⟨Tryz.f102,Tryz.func102,by kernel_rfl,by kernel_rfl⟩ (
 ok ⟨Tryz.f42,Tryz.func42,by kernel_rfl,by kernel_rfl⟩ (
 ok ⟨Tryz.f44,Tryz.func44,by kernel_rfl,by kernel_rfl⟩ (
 ok ⟨Tryz.f103,Tryz.func103,by kernel_rfl,by kernel_rfl⟩ (
 ok ⟨Tryz.f105,Tryz.func105,by kernel_rfl,by kernel_rfl⟩ (
 ok ⟨Tryz.f94,Tryz.func94,by kernel_rfl,by kernel_rfl⟩ (
 ok ⟨Tryz.f104,Tryz.func104,by kernel_rfl,by kernel_rfl⟩ (
 ok ⟨Tryz.f106,Tryz.func106,by kernel_rfl,by kernel_rfl⟩ (
 ok ⟨Tryz.f93,Tryz.func93,by kernel_rfl,by kernel_rfl⟩ (
 ok ⟨Tryz.f36,Tryz.func36,by kernel_rfl,by kernel_rfl⟩ (
 ok ⟨Tryz.f45,Tryz.func45,by kernel_rfl,by kernel_rfl⟩ (
 ok ⟨Tryz.f43,Tryz.func43,by kernel_rfl,by kernel_rfl⟩ (
 ok ⟨Tryz.f14,Tryz.func14,by kernel_rfl,by kernel_rfl⟩ (
 ok ⟨Tryz.f8,Tryz.func8,by kernel_rfl,by kernel_rfl⟩ (
 ok ⟨Tryz.f80,Tryz.func80,by kernel_rfl,by kernel_rfl⟩ (
 ok ⟨Tryz.f124,Tryz.func124,by kernel_rfl,by kernel_rfl⟩ (
 ok ⟨Tryz.f61,Tryz.func61,by kernel_rfl,by kernel_rfl⟩ (
 ok ⟨Tryz.f62,Tryz.func62,by kernel_rfl,by kernel_rfl⟩ (
 ok ⟨Tryz.f24,Tryz.func24,by kernel_rfl,by kernel_rfl⟩ (
 ok ⟨Tryz.f67,Tryz.func67,by kernel_rfl,by kernel_rfl⟩ (
 ok ⟨Tryz.f125,Tryz.func125,by kernel_rfl,by kernel_rfl⟩ (
 ok ⟨Tryz.f127,Tryz.func127,by kernel_rfl,by kernel_rfl⟩ (
 ok ⟨Tryz.f126,Tryz.func126,by kernel_rfl,by kernel_rfl⟩ (
 ok ⟨Tryz.f128,Tryz.func128,by kernel_rfl,by kernel_rfl⟩ (
 ok ⟨Tryz.f64,Tryz.func64,by kernel_rfl,by kernel_rfl⟩ (
 ok ⟨Tryz.f65,Tryz.func65,by kernel_rfl,by kernel_rfl⟩ (
 List.forall_mem_nil _))))))))))))))))))))))))))))))
def pZ:List (Nat × AFn):=[(52,F.K0),(345,F.LJ),(346,F.LI),(347,F.OE),(348,F.HQ),(318,F.LL),(349,F.MT),(350,F.MN),(351,F.JU),(352,F.MO),(353,F.MC),(354,F.ME),(355,F.ML),(356,F.MD),(357,F.L9),(358,F.L8),(359,F.LK)]
set_option maxRecDepth 100000 in
theorem Yi : ∀ x∈pZ,OkF Tryz.prog num x :=
 ok ⟨Tryz.f66,Tryz.func66,by kernel_rfl,by kernel_rfl⟩ (
 ok ⟨Tryz.f130,Tryz.func130,by kernel_rfl,by kernel_rfl⟩ (
 ok ⟨Tryz.f68,Tryz.func68,by kernel_rfl,by kernel_rfl⟩ (
 ok ⟨Tryz.f63,Tryz.func63,by kernel_rfl,by kernel_rfl⟩ (
 ok ⟨Tryz.f19,Tryz.func19,by kernel_rfl,by kernel_rfl⟩ (
 ok ⟨Tryz.f13,Tryz.func13,by kernel_rfl,by kernel_rfl⟩ (
 ok ⟨Tryz.f69,Tryz.func69,by kernel_rfl,by kernel_rfl⟩ (
 ok ⟨Tryz.f133,Tryz.func133,by kernel_rfl,by kernel_rfl⟩ (
 ok ⟨Tryz.f131,Tryz.func131,by kernel_rfl,by kernel_rfl⟩ (
 ok ⟨Tryz.f132,Tryz.func132,by kernel_rfl,by kernel_rfl⟩ (
 ok ⟨Tryz.f73,Tryz.func73,by kernel_rfl,by kernel_rfl⟩ (
 ok ⟨Tryz.f136,Tryz.func136,by kernel_rfl,by kernel_rfl⟩ (
 ok ⟨Tryz.f135,Tryz.func135,by kernel_rfl,by kernel_rfl⟩ (
 ok ⟨Tryz.f70,Tryz.func70,by kernel_rfl,by kernel_rfl⟩ (
 ok ⟨Tryz.f22,Tryz.func22,by kernel_rfl,by kernel_rfl⟩ (
 ok ⟨Tryz.f20,Tryz.func20,by kernel_rfl,by kernel_rfl⟩ (
 ok ⟨Tryz.f5,Tryz.func5,by kernel_rfl,by kernel_rfl⟩ (
 List.forall_mem_nil _)))))))))))))))))
def Me:List (Nat × AFn):=pV++(pW++(pX++(pY++(pZ))))
def L:Lib:=⟨λ f=>Me.lookup f,num⟩
theorem Xl:ProgOK Tryz.prog num L:=Xm Me (List.forall_mem_append.2 ⟨Ye,(List.forall_mem_append.2 ⟨Yf,(List.forall_mem_append.2 ⟨Yg,(List.forall_mem_append.2 ⟨Yh,Yi⟩)⟩)⟩)⟩)
theorem Xd:F.c6 L:={ KV:=rfl,KW:=rfl,KT:=rfl,KU:=rfl,HX:=rfl,LP:=rfl,LO:=rfl,FR:=rfl,LW:=rfl,LS:=rfl,LR:=rfl,LV:=rfl,LU:=rfl,JT:=rfl,L1:=rfl,F4:=rfl,LZ:=rfl,LT:=rfl,L3:=rfl,IR:=rfl,L0:=rfl,LX:=rfl,LY:=rfl,L2:=rfl,GZ:=rfl }
theorem dC:F.a6 L:={ Xd with DD:=rfl,LH:=rfl,LF:=rfl,LG:=rfl,LC:=rfl,LE:=rfl,IY:=rfl,M8:=rfl,M9:=rfl,HU:=rfl,JZ:=rfl,NA:=rfl,M6:=rfl,M3:=rfl,M4:=rfl,IX:=rfl,JY:=rfl,MX:=rfl }
theorem oZ:F.c8 L:={ HV:=rfl,ND:=rfl,NB:=rfl,JJ:=rfl,NF:=rfl,NC:=rfl,IZ:=rfl,NG:=rfl,DN:=rfl,NE:=rfl,NR:=rfl,NN:=rfl,NP:=rfl,NM:=rfl,NH:=rfl,NQ:=rfl,NI:=rfl,NL:=rfl,NJ:=rfl,NK:=rfl,I0:=rfl,J0:=rfl,NW:=rfl,NV:=rfl,NT:=rfl,NS:=rfl }
theorem Vl:F.dt L:={ dC,oZ with L4:=rfl }
theorem dB:F.j4 L:={ LA:=rfl,K9:=rfl,K8:=rfl,K7:=rfl,K6:=rfl,NY:=rfl,NZ:=rfl,NX:=rfl }
theorem oX:F.ef L:={ dB with L5:=rfl }
theorem Xc:F.me L:={ Vl,oX with  }
theorem Vg:F.v3 L:={ dC with M7:=rfl,M5:=rfl,MY:=rfl }
theorem Ve:F.jb L:={ dC with MV:=rfl }
theorem Vh:F.dp L:={ oZ with NU:=rfl }
theorem Vf:F.mf L:={ Vh with  }
theorem Vm:F.oi L:={ Xc,Vg,Ve,Vf with  }
theorem Vk:F.o4 L:={ Vm with LD:=rfl,JX:=rfl,MZ:=rfl,MU:=rfl,N0:=rfl,N7:=rfl,N6:=rfl,N8:=rfl,J4:=rfl }
theorem Xf:F.v9 L:={ Vk with MW:=rfl }
theorem oY:F.l7 L:={ Xf with MH:=rfl,MF:=rfl,MR:=rfl,MI:=rfl,MB:=rfl,MP:=rfl,MS:=rfl,MM:=rfl,MG:=rfl,MQ:=rfl,MK:=rfl,MJ:=rfl,MA:=rfl }
theorem pA:F.o5 L:={ dB with OH:=rfl,OA:=rfl,OI:=rfl,OD:=rfl,OC:=rfl,OB:=rfl,OG:=rfl }
theorem Vj:F.mg L:={ oX,pA with  }
theorem Wz:F.m4 L:={ Vj with K4:=rfl,K3:=rfl,K2:=rfl,IP:=rfl,KY:=rfl,KZ:=rfl,K0:=rfl }
theorem Xe:F.y7 L:={ Wz with LJ:=rfl,LI:=rfl,OE:=rfl,HQ:=rfl }
theorem Xa:F.dn L:={ oY with LL:=rfl }
theorem Wy:F.o0 L:={ oY with MT:=rfl,MN:=rfl,JU:=rfl,MO:=rfl,MC:=rfl,ME:=rfl,ML:=rfl,MD:=rfl,L9:=rfl,L8:=rfl }
theorem Xb:F.ja L:={ Xa,Wy,Xe with LK:=rfl }
end Go.Proofs.YtplhdlbnneoobaaGreat
