/-
  The functions of the groups are the program's own: checked by the kernel, function by function.
-/
import Derived.Test.YtfnglkabkfmjcaaGreatProg
import Derived.KernelRfl
import Derived.Test.YtfnglkabkfmjcaaGreatB3
import Derived.Test.YtfnglkabkfmjcaaGreatB4
set_option linter.unusedSimpArgs false
set_option linter.unusedVariables false
set_option linter.unnecessarySimpa false
namespace Go.Proofs.YtfnglkabkfmjcaaGreat
open Go.e9
def num:Nat->Nat
 | 58=>200
 | 59=>201
 | 60=>175
 | 61=>176
 | 62=>205
 | 63=>216
 | 64=>209
 | 65=>174
 | 66=>181
 | 67=>124
 | 68=>172
 | 69=>173
 | 70=>128
 | 71=>210
 | 72=>212
 | 73=>211
 | 74=>202
 | 75=>177
 | 76=>204
 | 77=>217
 | 78=>214
 | 79=>213
 | 80=>215
 | 81=>203
 | 82=>179
 | 83=>171
 | 84=>178
 | 85=>132
 | 86=>156
 | 87=>123
 | 88=>126
 | 89=>121
 | 90=>180
 | 91=>127
 | 92=>122
 | 93=>157
 | 94=>125
 | 95=>79
 | 96=>63
 | 97=>94
 | 98=>53
 | 99=>54
 | 100=>146
 | 101=>112
 | 102=>118
 | 103=>117
 | 104=>119
 | 105=>116
 | 106=>198
 | 107=>199
 | 108=>197
 | 109=>170
 | 110=>169
 | 111=>115
 | 112=>77
 | 113=>65
 | 114=>111
 | 115=>50
 | 116=>120
 | 117=>51
 | 118=>49
 | 119=>114
 | 120=>113
 | 121=>48
 | 122=>47
 | 123=>110
 | 124=>30
 | 125=>39
 | 127=>17
 | 128=>15
 | 130=>61
 | 149=>140
 | 150=>76
 | 169=>185
 | 152=>46
 | 197=>186
 | 198=>139
 | 199=>75
 | 200=>138
 | 201=>71
 | 204=>72
 | 205=>73
 | 206=>74
 | 207=>29
 | 256=>208
 | 294=>192
 | 295=>162
 | 296=>163
 | 297=>194
 | 299=>165
 | 300=>193
 | 302=>164
 | 303=>101
 | 306=>40
 | 227=>206
 | 228=>187
 | 229=>141
 | 230=>142
 | 231=>144
 | 900=>207
 | 233=>188
 | 234=>189
 | 235=>143
 | 237=>104
 | 238=>80
 | 34=>9
 | 35=>67
 | 141=>85
 | 316=>38
 | 317=>10
 | 280=>32
 | 281=>78
 | 246=>145
 | 248=>81
 | 287=>84
 | 288=>83
 | 289=>148
 | 290=>147
 | 291=>82
 | 292=>31
 | 321=>102
 | 322=>103
 | 323=>41
 | 324=>11
 | 328=>52
 | 329=>55
 | 330=>56
 | 331=>18
 | 332=>20
 | 336=>13
 | 344=>7
 | _=>0
theorem ok {p:Nat × AFn->Prop} {a:Nat × AFn} {l:List (Nat × AFn)} (h:p a) (t : ∀ x∈l,p x) : ∀ x∈a::l,p x:=List.forall_mem_cons.2 ⟨h,t⟩
def Ael:List (Nat × AFn):=[(58,F.XL),(59,F.XM),(60,F.XH),(61,F.XJ),(62,F.IR),(63,F.YH),(64,F.YG),(65,F.F6),(66,F.YO),(67,F.YK),(68,F.YJ),(69,F.YN),(70,F.YM),(71,F.QF),(72,F.YT),(73,F.GC),(74,F.YR),(75,F.YL),(76,F.YV),(77,F.J6),(78,F.YS),(79,F.YP),(80,F.YQ),(81,F.YU),(82,F.G3),(83,F.DJ),(84,F.XY),(85,F.XW),(86,F.XX),(87,F.XT)]
set_option maxRecDepth 100000 in
theorem AoO : ∀ x∈Ael,OkF Tryz.prog num x :=
 ok ⟨Tryz.f200,Tryz.func200,by kernel_rfl,by kernel_rfl⟩ (
 ok ⟨Tryz.f201,Tryz.func201,by kernel_rfl,by kernel_rfl⟩ (
 ok ⟨Tryz.f175,Tryz.func175,by kernel_rfl,by kernel_rfl⟩ (
 ok ⟨Tryz.f176,Tryz.func176,by kernel_rfl,by kernel_rfl⟩ (
 ok ⟨Tryz.f205,Tryz.func205,by kernel_rfl,by kernel_rfl⟩ (
 ok ⟨Tryz.f216,Tryz.func216,by kernel_rfl,by kernel_rfl⟩ (
 ok ⟨Tryz.f209,Tryz.func209,by kernel_rfl,by kernel_rfl⟩ (
 ok ⟨Tryz.f174,Tryz.func174,by kernel_rfl,by kernel_rfl⟩ (
 ok ⟨Tryz.f181,Tryz.func181,by kernel_rfl,by kernel_rfl⟩ (
 ok ⟨Tryz.f124,Tryz.func124,by kernel_rfl,by kernel_rfl⟩ (
 ok ⟨Tryz.f172,Tryz.func172,by kernel_rfl,by kernel_rfl⟩ (
 ok ⟨Tryz.f173,Tryz.func173,by kernel_rfl,by kernel_rfl⟩ (
 ok ⟨Tryz.f128,Tryz.func128,by kernel_rfl,by kernel_rfl⟩ (
 ok ⟨Tryz.f210,Tryz.func210,by kernel_rfl,by kernel_rfl⟩ (
 ok ⟨Tryz.f212,Tryz.func212,by kernel_rfl,by kernel_rfl⟩ (
 ok ⟨Tryz.f211,Tryz.func211,by kernel_rfl,by kernel_rfl⟩ (
 ok ⟨Tryz.f202,Tryz.func202,by kernel_rfl,by kernel_rfl⟩ (
 ok ⟨Tryz.f177,Tryz.func177,by kernel_rfl,by kernel_rfl⟩ (
 ok ⟨Tryz.f204,Tryz.func204,by kernel_rfl,by kernel_rfl⟩ (
 ok ⟨Tryz.f217,Tryz.func217,by kernel_rfl,by kernel_rfl⟩ (
 ok ⟨Tryz.f214,Tryz.func214,by kernel_rfl,by kernel_rfl⟩ (
 ok ⟨Tryz.f213,Tryz.func213,by kernel_rfl,by kernel_rfl⟩ (
 ok ⟨Tryz.f215,Tryz.func215,by kernel_rfl,by kernel_rfl⟩ (
 ok ⟨Tryz.f203,Tryz.func203,by kernel_rfl,by kernel_rfl⟩ (
 ok ⟨Tryz.f179,Tryz.func179,by kernel_rfl,by kernel_rfl⟩ (
 ok ⟨Tryz.f171,Tryz.func171,by kernel_rfl,by kernel_rfl⟩ (
 ok ⟨Tryz.f178,Tryz.func178,by kernel_rfl,by kernel_rfl⟩ (
 ok ⟨Tryz.f132,Tryz.func132,by kernel_rfl,by kernel_rfl⟩ (
 ok ⟨Tryz.f156,Tryz.func156,by kernel_rfl,by kernel_rfl⟩ (
 ok ⟨Tryz.f123,Tryz.func123,by kernel_rfl,by kernel_rfl⟩ (
 List.forall_mem_nil _))))))))))))))))))))))))))))))
def Aem:List (Nat × AFn):=[(88,F.XV),(89,F.KF),(90,F.ZS),(91,F.ZT),(92,F.IM),(93,F.ZV),(94,F.ZU),(95,F.ZQ),(96,F.ZN),(97,F.ZO),(98,F.KE),(99,F.R1),(100,F.ZL),(101,F.IO),(102,F.ZY),(103,F.ZW),(104,F.OT),(105,F.Z0),(106,F.ZX),(107,F.KR),(108,F.Z1),(109,F.D5),(110,F.ZZ),(111,F.aB),(112,F.Z8),(113,F.Z9),(114,F.Z7),(115,F.Z2),(116,F.aA),(117,F.Z3)]
set_option maxRecDepth 100000 in
theorem AoP : ∀ x∈Aem,OkF Tryz.prog num x :=
 ok ⟨Tryz.f126,Tryz.func126,by kernel_rfl,by kernel_rfl⟩ (
 ok ⟨Tryz.f121,Tryz.func121,by kernel_rfl,by kernel_rfl⟩ (
 ok ⟨Tryz.f180,Tryz.func180,by kernel_rfl,by kernel_rfl⟩ (
 ok ⟨Tryz.f127,Tryz.func127,by kernel_rfl,by kernel_rfl⟩ (
 ok ⟨Tryz.f122,Tryz.func122,by kernel_rfl,by kernel_rfl⟩ (
 ok ⟨Tryz.f157,Tryz.func157,by kernel_rfl,by kernel_rfl⟩ (
 ok ⟨Tryz.f125,Tryz.func125,by kernel_rfl,by kernel_rfl⟩ (
 ok ⟨Tryz.f79,Tryz.func79,by kernel_rfl,by kernel_rfl⟩ (
 ok ⟨Tryz.f63,Tryz.func63,by kernel_rfl,by kernel_rfl⟩ (
 ok ⟨Tryz.f94,Tryz.func94,by kernel_rfl,by kernel_rfl⟩ (
 ok ⟨Tryz.f53,Tryz.func53,by kernel_rfl,by kernel_rfl⟩ (
 ok ⟨Tryz.f54,Tryz.func54,by kernel_rfl,by kernel_rfl⟩ (
 ok ⟨Tryz.f146,Tryz.func146,by kernel_rfl,by kernel_rfl⟩ (
 ok ⟨Tryz.f112,Tryz.func112,by kernel_rfl,by kernel_rfl⟩ (
 ok ⟨Tryz.f118,Tryz.func118,by kernel_rfl,by kernel_rfl⟩ (
 ok ⟨Tryz.f117,Tryz.func117,by kernel_rfl,by kernel_rfl⟩ (
 ok ⟨Tryz.f119,Tryz.func119,by kernel_rfl,by kernel_rfl⟩ (
 ok ⟨Tryz.f116,Tryz.func116,by kernel_rfl,by kernel_rfl⟩ (
 ok ⟨Tryz.f198,Tryz.func198,by kernel_rfl,by kernel_rfl⟩ (
 ok ⟨Tryz.f199,Tryz.func199,by kernel_rfl,by kernel_rfl⟩ (
 ok ⟨Tryz.f197,Tryz.func197,by kernel_rfl,by kernel_rfl⟩ (
 ok ⟨Tryz.f170,Tryz.func170,by kernel_rfl,by kernel_rfl⟩ (
 ok ⟨Tryz.f169,Tryz.func169,by kernel_rfl,by kernel_rfl⟩ (
 ok ⟨Tryz.f115,Tryz.func115,by kernel_rfl,by kernel_rfl⟩ (
 ok ⟨Tryz.f77,Tryz.func77,by kernel_rfl,by kernel_rfl⟩ (
 ok ⟨Tryz.f65,Tryz.func65,by kernel_rfl,by kernel_rfl⟩ (
 ok ⟨Tryz.f111,Tryz.func111,by kernel_rfl,by kernel_rfl⟩ (
 ok ⟨Tryz.f50,Tryz.func50,by kernel_rfl,by kernel_rfl⟩ (
 ok ⟨Tryz.f120,Tryz.func120,by kernel_rfl,by kernel_rfl⟩ (
 ok ⟨Tryz.f51,Tryz.func51,by kernel_rfl,by kernel_rfl⟩ (
 List.forall_mem_nil _))))))))))))))))))))))))))))))
def Aen:List (Nat × AFn):=[(118,F.Z6),(119,F.Z4),(120,F.Z5),(121,F.K6),(122,F.SF),(123,F.aH),(124,F.aG),(125,F.aD),(127,F.aC),(128,F.aE),(130,F.YW),(149,F.ZR),(150,F.ZP),(169,F.ZJ),(152,F.aF),(197,F.XU),(198,F.QT),(199,F.ZM),(200,F.ZI),(201,F.aI),(204,F.aU),(205,F.aR),(206,F.aY),(207,F.SR),(256,F.ZK),(294,F.ZC),(295,F.ZA),(296,F.ZG),(297,F.ZD),(299,F.ZE)]
set_option maxRecDepth 100000 in
theorem AoQ : ∀ x∈Aen,OkF Tryz.prog num x :=
 ok ⟨Tryz.f49,Tryz.func49,by kernel_rfl,by kernel_rfl⟩ (
 ok ⟨Tryz.f114,Tryz.func114,by kernel_rfl,by kernel_rfl⟩ (
 ok ⟨Tryz.f113,Tryz.func113,by kernel_rfl,by kernel_rfl⟩ (
 ok ⟨Tryz.f48,Tryz.func48,by kernel_rfl,by kernel_rfl⟩ (
 ok ⟨Tryz.f47,Tryz.func47,by kernel_rfl,by kernel_rfl⟩ (
 ok ⟨Tryz.f110,Tryz.func110,by kernel_rfl,by kernel_rfl⟩ (
 ok ⟨Tryz.f30,Tryz.func30,by kernel_rfl,by kernel_rfl⟩ (
 ok ⟨Tryz.f39,Tryz.func39,by kernel_rfl,by kernel_rfl⟩ (
 ok ⟨Tryz.f17,Tryz.func17,by kernel_rfl,by kernel_rfl⟩ (
 ok ⟨Tryz.f15,Tryz.func15,by kernel_rfl,by kernel_rfl⟩ (
 ok ⟨Tryz.f61,Tryz.func61,by kernel_rfl,by kernel_rfl⟩ (
 ok ⟨Tryz.f140,Tryz.func140,by kernel_rfl,by kernel_rfl⟩ (
 ok ⟨Tryz.f76,Tryz.func76,by kernel_rfl,by kernel_rfl⟩ (
 ok ⟨Tryz.f185,Tryz.func185,by kernel_rfl,by kernel_rfl⟩ (
 ok ⟨Tryz.f46,Tryz.func46,by kernel_rfl,by kernel_rfl⟩ (
 ok ⟨Tryz.f186,Tryz.func186,by kernel_rfl,by kernel_rfl⟩ (
 ok ⟨Tryz.f139,Tryz.func139,by kernel_rfl,by kernel_rfl⟩ (
 ok ⟨Tryz.f75,Tryz.func75,by kernel_rfl,by kernel_rfl⟩ (
 ok ⟨Tryz.f138,Tryz.func138,by kernel_rfl,by kernel_rfl⟩ (
 ok ⟨Tryz.f71,Tryz.func71,by kernel_rfl,by kernel_rfl⟩ (
 ok ⟨Tryz.f72,Tryz.func72,by kernel_rfl,by kernel_rfl⟩ (
 ok ⟨Tryz.f73,Tryz.func73,by kernel_rfl,by kernel_rfl⟩ (
 ok ⟨Tryz.f74,Tryz.func74,by kernel_rfl,by kernel_rfl⟩ (
 ok ⟨Tryz.f29,Tryz.func29,by kernel_rfl,by kernel_rfl⟩ (
 ok ⟨Tryz.f208,Tryz.func208,by kernel_rfl,by kernel_rfl⟩ (
 ok ⟨Tryz.f192,Tryz.func192,by kernel_rfl,by kernel_rfl⟩ (
 ok ⟨Tryz.f162,Tryz.func162,by kernel_rfl,by kernel_rfl⟩ (
 ok ⟨Tryz.f163,Tryz.func163,by kernel_rfl,by kernel_rfl⟩ (
 ok ⟨Tryz.f194,Tryz.func194,by kernel_rfl,by kernel_rfl⟩ (
 ok ⟨Tryz.f165,Tryz.func165,by kernel_rfl,by kernel_rfl⟩ (
 List.forall_mem_nil _))))))))))))))))))))))))))))))
def Aeo:List (Nat × AFn):=[(300,F.ZH),(302,F.ZB),(303,F.ZF),(306,F.Y9),(227,F.aO),(228,F.aN),(229,F.X7),(230,F.X3),(231,F.HN),(900,F.YA),(233,F.U2),(234,F.X8),(235,F.X9),(237,F.X5),(238,F.X4),(34,F.bF),(35,F.bD),(141,F.TD),(316,F.IV),(317,F.IU),(280,F.bE),(281,F.aX),(246,F.YB),(248,F.X6),(287,F.aQ),(288,F.aV),(289,F.aT),(290,F.aW),(291,F.aS),(292,F.aP)]
set_option maxRecDepth 100000 in
theorem AoR : ∀ x∈Aeo,OkF Tryz.prog num x :=
 ok ⟨Tryz.f193,Tryz.func193,by kernel_rfl,by kernel_rfl⟩ (
 ok ⟨Tryz.f164,Tryz.func164,by kernel_rfl,by kernel_rfl⟩ (
 ok ⟨Tryz.f101,Tryz.func101,by kernel_rfl,by kernel_rfl⟩ (
 ok ⟨Tryz.f40,Tryz.func40,by kernel_rfl,by kernel_rfl⟩ (
 ok ⟨Tryz.f206,Tryz.func206,by kernel_rfl,by kernel_rfl⟩ (
 ok ⟨Tryz.f187,Tryz.func187,by kernel_rfl,by kernel_rfl⟩ (
 ok ⟨Tryz.f141,Tryz.func141,by kernel_rfl,by kernel_rfl⟩ (
 ok ⟨Tryz.f142,Tryz.func142,by kernel_rfl,by kernel_rfl⟩ (
 ok ⟨Tryz.f144,Tryz.func144,by kernel_rfl,by kernel_rfl⟩ (
 ok ⟨Tryz.f207,Tryz.func207,by kernel_rfl,by kernel_rfl⟩ (
 ok ⟨Tryz.f188,Tryz.func188,by kernel_rfl,by kernel_rfl⟩ (
 ok ⟨Tryz.f189,Tryz.func189,by kernel_rfl,by kernel_rfl⟩ (
 ok ⟨Tryz.f143,Tryz.func143,by kernel_rfl,by kernel_rfl⟩ (
 ok ⟨Tryz.f104,Tryz.func104,by kernel_rfl,by kernel_rfl⟩ (
 ok ⟨Tryz.f80,Tryz.func80,by kernel_rfl,by kernel_rfl⟩ (
 ok ⟨Tryz.f9,Tryz.func9,by kernel_rfl,by kernel_rfl⟩ (
 ok ⟨Tryz.f67,Tryz.func67,by kernel_rfl,by kernel_rfl⟩ (
 ok ⟨Tryz.f85,Tryz.func85,by kernel_rfl,by kernel_rfl⟩ (
 ok ⟨Tryz.f38,Tryz.func38,by kernel_rfl,by kernel_rfl⟩ (
 ok ⟨Tryz.f10,Tryz.func10,by kernel_rfl,by kernel_rfl⟩ (
 ok ⟨Tryz.f32,Tryz.func32,by kernel_rfl,by kernel_rfl⟩ (
 ok ⟨Tryz.f78,Tryz.func78,by kernel_rfl,by kernel_rfl⟩ (
 ok ⟨Tryz.f145,Tryz.func145,by kernel_rfl,by kernel_rfl⟩ (
 ok ⟨Tryz.f81,Tryz.func81,by kernel_rfl,by kernel_rfl⟩ (
 ok ⟨Tryz.f84,Tryz.func84,by kernel_rfl,by kernel_rfl⟩ (
 ok ⟨Tryz.f83,Tryz.func83,by kernel_rfl,by kernel_rfl⟩ (
 ok ⟨Tryz.f148,Tryz.func148,by kernel_rfl,by kernel_rfl⟩ (
 ok ⟨Tryz.f147,Tryz.func147,by kernel_rfl,by kernel_rfl⟩ (
 ok ⟨Tryz.f82,Tryz.func82,by kernel_rfl,by kernel_rfl⟩ (
 ok ⟨Tryz.f31,Tryz.func31,by kernel_rfl,by kernel_rfl⟩ (
 List.forall_mem_nil _))))))))))))))))))))))))))))))
def Aep:List (Nat × AFn):=[(321,F.Y3),(322,F.Y2),(323,F.Y4),(324,F.YX),(328,F.Y5),(329,F.Y1),(330,F.Y0),(331,F.J7),(332,F.QG),(336,F.X0),(344,F.XZ)]
set_option maxRecDepth 100000 in
theorem AoS : ∀ x∈Aep,OkF Tryz.prog num x :=
 ok ⟨Tryz.f102,Tryz.func102,by kernel_rfl,by kernel_rfl⟩ (
 ok ⟨Tryz.f103,Tryz.func103,by kernel_rfl,by kernel_rfl⟩ (
 ok ⟨Tryz.f41,Tryz.func41,by kernel_rfl,by kernel_rfl⟩ (
 ok ⟨Tryz.f11,Tryz.func11,by kernel_rfl,by kernel_rfl⟩ (
 ok ⟨Tryz.f52,Tryz.func52,by kernel_rfl,by kernel_rfl⟩ (
 ok ⟨Tryz.f55,Tryz.func55,by kernel_rfl,by kernel_rfl⟩ (
 ok ⟨Tryz.f56,Tryz.func56,by kernel_rfl,by kernel_rfl⟩ (
 ok ⟨Tryz.f18,Tryz.func18,by kernel_rfl,by kernel_rfl⟩ (
 ok ⟨Tryz.f20,Tryz.func20,by kernel_rfl,by kernel_rfl⟩ (
 ok ⟨Tryz.f13,Tryz.func13,by kernel_rfl,by kernel_rfl⟩ (
 ok ⟨Tryz.f7,Tryz.func7,by kernel_rfl,by kernel_rfl⟩ (
 List.forall_mem_nil _)))))))))))
def lib:List (Nat × AFn):=Ael++(Aem++(Aen++(Aeo++(Aep))))
def L:Lib:=⟨λ f=>lib.lookup f,num⟩
theorem Ao6:ProgOK Tryz.prog num L:=Ao7 lib (List.forall_mem_append.2 ⟨AoO,(List.forall_mem_append.2 ⟨AoP,(List.forall_mem_append.2 ⟨AoQ,(List.forall_mem_append.2 ⟨AoR,AoS⟩)⟩)⟩)⟩)
theorem Anb:F.l9 L:={ XL:=rfl,XM:=rfl,XH:=rfl,XJ:=rfl,IR:=rfl,YH:=rfl,YG:=rfl,F6:=rfl,YO:=rfl,YK:=rfl,YJ:=rfl,YN:=rfl,YM:=rfl,QF:=rfl,YT:=rfl,GC:=rfl,YR:=rfl,YL:=rfl,YV:=rfl,J6:=rfl,YS:=rfl,YP:=rfl,YQ:=rfl,YU:=rfl,G3:=rfl }
theorem yB:F.a5 L:={ Anb with DJ:=rfl,XY:=rfl,XW:=rfl,XX:=rfl,XT:=rfl,XV:=rfl,KF:=rfl,ZS:=rfl,ZT:=rfl,IM:=rfl,ZV:=rfl,ZU:=rfl,ZQ:=rfl,ZN:=rfl,ZO:=rfl,KE:=rfl,R1:=rfl,ZL:=rfl }
theorem yD:F.l7 L:={ IO:=rfl,ZY:=rfl,ZW:=rfl,OT:=rfl,Z0:=rfl,ZX:=rfl,KR:=rfl,Z1:=rfl,D5:=rfl,ZZ:=rfl,aB:=rfl,Z8:=rfl,Z9:=rfl,Z7:=rfl,Z2:=rfl,aA:=rfl,Z3:=rfl,Z6:=rfl,Z4:=rfl,Z5:=rfl,K6:=rfl,SF:=rfl,aH:=rfl,aG:=rfl,aD:=rfl,aC:=rfl,aE:=rfl }
theorem Ani:F.jt L:={ yB,yD with YW:=rfl }
theorem AdF:F.mu L:={  }
theorem AdJ:F.tn L:={ AdF with  }
theorem AdH:F.pc L:={ Ani,AdJ with  }
theorem rI:F.cp L:={ yB with ZR:=rfl,ZP:=rfl }
theorem AdL:F.mw L:={ yB with ZJ:=rfl }
theorem yE:F.ic L:={ yD with aF:=rfl }
theorem AdM:F.pd L:={ yE with  }
theorem Anj:F.yg L:={ AdH,rI,AdL,AdM with  }
theorem nC:F.al L:={ Anj with XU:=rfl,QT:=rfl,ZM:=rfl,ZI:=rfl,aI:=rfl,aU:=rfl,aR:=rfl,aY:=rfl,SR:=rfl }
theorem AdK:F.ga L:={ nC with ZK:=rfl }
theorem Anc:F.cu L:={ AdK with ZC:=rfl,ZA:=rfl,ZG:=rfl,ZD:=rfl,ZE:=rfl,ZH:=rfl,ZB:=rfl,ZF:=rfl,Y9:=rfl }
theorem Anf:F.yf L:={ nC with  }
theorem AdI:F.u5 L:={ rI,nC with aO:=rfl,aN:=rfl,X7:=rfl,X3:=rfl,HN:=rfl,YA:=rfl,U2:=rfl,X8:=rfl,X9:=rfl,X5:=rfl,X4:=rfl }
theorem Ane:F.va L:={ yE with  }
theorem AdG:F.oz L:={ Ane with  }
theorem Ad0:F.bh L:={ AdF with bF:=rfl,bD:=rfl }
theorem yC:F.dm L:={ Ad0,yD with TD:=rfl }
theorem Am1:F.ia L:={ yC with IV:=rfl,IU:=rfl }
theorem Ang:F.vb L:={ AdJ,Ad0 with  }
theorem Am2:F.mr L:={ Ang with  }
theorem Am0:F.uw L:={ Am2,rI,AdL,AdM with  }
theorem Ana:F.uy L:={ AdH,rI,yE with  }
theorem Am6:F.ux L:={ nC,Ana,Am0,yC with  }
theorem And:F.uz L:={ AdK with  }
theorem Ank:F.mj L:={ yC with bE:=rfl }
theorem Am4:F.mi L:={ And,AdG,Ank,nC,Am6 with aX:=rfl }
theorem Am9:F.fi L:={ AdI with YB:=rfl,X6:=rfl }
theorem Anh:F.ig L:={ Am4,Am9 with aQ:=rfl,aV:=rfl,aT:=rfl,aW:=rfl,aS:=rfl,aP:=rfl }
theorem Am5:F.dw L:={ Anc,Anf,AdI,AdG,Am1 with Y3:=rfl,Y2:=rfl,Y4:=rfl,YX:=rfl }
theorem Am3:F.aj L:={ Am5 with Y5:=rfl,Y1:=rfl,Y0:=rfl,J7:=rfl,QG:=rfl }
theorem Am7:F.cn L:={ Am3 with X0:=rfl }
theorem Am8:F.qi L:={ Anh,Am7 with XZ:=rfl }
end Go.Proofs.YtfnglkabkfmjcaaGreat
