/-
  The functions of the groups are the program's own: checked by the kernel, function by function.
-/
import Derived.Test.YtplhdlbnneoobaaGreatProg
import Derived.KernelRfl
import Derived.Test.YtplhdlbnneoobaaGreatB3
import Derived.Test.YtplhdlbnneoobaaGreatB4
set_option linter.unusedSimpArgs false
set_option linter.unusedVariables false
set_option linter.unnecessarySimpa false
namespace Go.Proofs.YtplhdlbnneoobaaGreat
open Go.c4
def num:Nat->Nat
 | 58=>179
 | 59=>180
 | 60=>159
 | 61=>160
 | 62=>178
 | 63=>194
 | 64=>186
 | 65=>156
 | 66=>155
 | 67=>116
 | 68=>157
 | 69=>158
 | 70=>114
 | 71=>187
 | 72=>189
 | 73=>188
 | 74=>175
 | 75=>151
 | 76=>177
 | 77=>195
 | 78=>191
 | 79=>190
 | 80=>192
 | 81=>176
 | 82=>153
 | 83=>150
 | 84=>152
 | 85=>122
 | 86=>108
 | 87=>115
 | 88=>109
 | 89=>107
 | 90=>154
 | 91=>110
 | 92=>113
 | 93=>111
 | 94=>112
 | 95=>90
 | 96=>59
 | 97=>134
 | 98=>48
 | 99=>47
 | 100=>46
 | 101=>118
 | 102=>162
 | 103=>161
 | 104=>163
 | 105=>121
 | 106=>184
 | 107=>185
 | 108=>183
 | 109=>173
 | 110=>172
 | 111=>120
 | 112=>87
 | 113=>91
 | 114=>101
 | 115=>117
 | 116=>119
 | 117=>56
 | 118=>57
 | 119=>147
 | 120=>146
 | 121=>92
 | 122=>55
 | 123=>85
 | 124=>29
 | 125=>35
 | 126=>51
 | 127=>16
 | 128=>34
 | 130=>41
 | 149=>149
 | 150=>100
 | 169=>174
 | 152=>40
 | 197=>137
 | 198=>72
 | 199=>99
 | 200=>148
 | 201=>95
 | 204=>96
 | 205=>97
 | 206=>98
 | 207=>39
 | 256=>49
 | 294=>102
 | 295=>42
 | 296=>44
 | 297=>103
 | 298=>105
 | 299=>94
 | 300=>104
 | 301=>106
 | 302=>93
 | 303=>36
 | 304=>45
 | 305=>43
 | 306=>11
 | 307=>14
 | 308=>86
 | 309=>28
 | 310=>37
 | 311=>18
 | 313=>38
 | 314=>12
 | 34=>8
 | 35=>80
 | 141=>33
 | 142=>9
 | 316=>9
 | 317=>10
 | 318=>13
 | 319=>3
 | _=>0
def Hq:List (Nat × AFn):=[(58,F.I7),(59,F.I8),(60,F.I5),(61,F.I6),(62,F.GS),(63,F.JO),(64,F.JN),(65,F.E0),(66,F.JW),(67,F.JS),(68,F.JR),(69,F.JV),(70,F.JU),(71,F.H8),(72,F.J1),(73,F.E5),(74,F.JZ),(75,F.JT),(76,F.J3),(77,F.HE),(78,F.J0),(79,F.JX),(80,F.JY),(81,F.J2),(82,F.FU),(83,F.C2),(84,F.JI),(85,F.JG),(86,F.JH),(87,F.JD),(88,F.JF),(89,F.HI),(90,F.KX),(91,F.KY),(92,F.GP),(93,F.K0),(94,F.KZ),(95,F.KV),(96,F.KS),(97,F.KT),(98,F.HH),(99,F.IA),(100,F.KQ),(101,F.GQ),(102,F.K3),(103,F.K1),(104,F.HW),(105,F.K5),(106,F.K2),(107,F.HJ),(108,F.K6),(109,F.DD),(110,F.K4),(111,F.LH),(112,F.LE),(113,F.LF),(114,F.LD),(115,F.K8),(116,F.LG),(117,F.K9),(118,F.LC),(119,F.LA),(120,F.LB),(121,F.HK),(122,F.IB),(123,F.LP),(124,F.LO),(125,F.LL),(126,F.LJ),(127,F.LK),(128,F.LM),(130,F.J4),(149,F.KW),(150,F.KU),(169,F.KO),(152,F.LN),(197,F.JE),(198,F.H9),(199,F.KR),(200,F.KN),(201,F.LU),(204,F.LZ),(205,F.LY),(206,F.L0),(207,F.IE),(256,F.KP),(294,F.KD),(295,F.KB),(296,F.KL),(297,F.KE),(298,F.KA),(299,F.KI),(300,F.KM),(301,F.KH),(302,F.KC),(303,F.KJ),(304,F.KG),(305,F.KF),(306,F.J8),(307,F.J9),(308,F.K7),(309,F.LI),(310,F.LS),(311,F.LR),(313,F.LT),(314,F.LQ),(34,F.L4),(35,F.L2),(141,F.IK),(142,F.L3),(316,F.GU),(317,F.GT),(318,F.JK),(319,F.JJ)]
def L:Lib:=⟨λ f=>Hq.lookup f,num⟩
theorem ok {p:Nat × AFn->Prop} {a:Nat × AFn} {l:List (Nat × AFn)} (h:p a) (t : ∀ x∈l,p x) : ∀ x∈a::l,p x:=List.forall_mem_cons.2 ⟨h,t⟩
set_option maxRecDepth 100000 in
theorem Mr:ProgOK Tryz.prog num L:=progOK_of Hq (
 ok ⟨Tryz.f179,Tryz.func179,by kernel_rfl,by kernel_rfl⟩ (
 ok ⟨Tryz.f180,Tryz.func180,by kernel_rfl,by kernel_rfl⟩ (
 ok ⟨Tryz.f159,Tryz.func159,by kernel_rfl,by kernel_rfl⟩ (
 ok ⟨Tryz.f160,Tryz.func160,by kernel_rfl,by kernel_rfl⟩ (
 ok ⟨Tryz.f178,Tryz.func178,by kernel_rfl,by kernel_rfl⟩ (
 ok ⟨Tryz.f194,Tryz.func194,by kernel_rfl,by kernel_rfl⟩ (
 ok ⟨Tryz.f186,Tryz.func186,by kernel_rfl,by kernel_rfl⟩ (
 ok ⟨Tryz.f156,Tryz.func156,by kernel_rfl,by kernel_rfl⟩ (
 ok ⟨Tryz.f155,Tryz.func155,by kernel_rfl,by kernel_rfl⟩ (
 ok ⟨Tryz.f116,Tryz.func116,by kernel_rfl,by kernel_rfl⟩ (
 ok ⟨Tryz.f157,Tryz.func157,by kernel_rfl,by kernel_rfl⟩ (
 ok ⟨Tryz.f158,Tryz.func158,by kernel_rfl,by kernel_rfl⟩ (
 ok ⟨Tryz.f114,Tryz.func114,by kernel_rfl,by kernel_rfl⟩ (
 ok ⟨Tryz.f187,Tryz.func187,by kernel_rfl,by kernel_rfl⟩ (
 ok ⟨Tryz.f189,Tryz.func189,by kernel_rfl,by kernel_rfl⟩ (
 ok ⟨Tryz.f188,Tryz.func188,by kernel_rfl,by kernel_rfl⟩ (
 ok ⟨Tryz.f175,Tryz.func175,by kernel_rfl,by kernel_rfl⟩ (
 ok ⟨Tryz.f151,Tryz.func151,by kernel_rfl,by kernel_rfl⟩ (
 ok ⟨Tryz.f177,Tryz.func177,by kernel_rfl,by kernel_rfl⟩ (
 ok ⟨Tryz.f195,Tryz.func195,by kernel_rfl,by kernel_rfl⟩ (
 ok ⟨Tryz.f191,Tryz.func191,by kernel_rfl,by kernel_rfl⟩ (
 ok ⟨Tryz.f190,Tryz.func190,by kernel_rfl,by kernel_rfl⟩ (
 ok ⟨Tryz.f192,Tryz.func192,by kernel_rfl,by kernel_rfl⟩ (
 ok ⟨Tryz.f176,Tryz.func176,by kernel_rfl,by kernel_rfl⟩ (
 ok ⟨Tryz.f153,Tryz.func153,by kernel_rfl,by kernel_rfl⟩ (
 ok ⟨Tryz.f150,Tryz.func150,by kernel_rfl,by kernel_rfl⟩ (
 ok ⟨Tryz.f152,Tryz.func152,by kernel_rfl,by kernel_rfl⟩ (
 ok ⟨Tryz.f122,Tryz.func122,by kernel_rfl,by kernel_rfl⟩ (
 ok ⟨Tryz.f108,Tryz.func108,by kernel_rfl,by kernel_rfl⟩ (
 ok ⟨Tryz.f115,Tryz.func115,by kernel_rfl,by kernel_rfl⟩ (
 ok ⟨Tryz.f109,Tryz.func109,by kernel_rfl,by kernel_rfl⟩ (
 ok ⟨Tryz.f107,Tryz.func107,by kernel_rfl,by kernel_rfl⟩ (
 ok ⟨Tryz.f154,Tryz.func154,by kernel_rfl,by kernel_rfl⟩ (
 ok ⟨Tryz.f110,Tryz.func110,by kernel_rfl,by kernel_rfl⟩ (
 ok ⟨Tryz.f113,Tryz.func113,by kernel_rfl,by kernel_rfl⟩ (
 ok ⟨Tryz.f111,Tryz.func111,by kernel_rfl,by kernel_rfl⟩ (
 ok ⟨Tryz.f112,Tryz.func112,by kernel_rfl,by kernel_rfl⟩ (
 ok ⟨Tryz.f90,Tryz.func90,by kernel_rfl,by kernel_rfl⟩ (
 ok ⟨Tryz.f59,Tryz.func59,by kernel_rfl,by kernel_rfl⟩ (
 ok ⟨Tryz.f134,Tryz.func134,by kernel_rfl,by kernel_rfl⟩ (
 ok ⟨Tryz.f48,Tryz.func48,by kernel_rfl,by kernel_rfl⟩ (
 ok ⟨Tryz.f47,Tryz.func47,by kernel_rfl,by kernel_rfl⟩ (
 ok ⟨Tryz.f46,Tryz.func46,by kernel_rfl,by kernel_rfl⟩ (
 ok ⟨Tryz.f118,Tryz.func118,by kernel_rfl,by kernel_rfl⟩ (
 ok ⟨Tryz.f162,Tryz.func162,by kernel_rfl,by kernel_rfl⟩ (
 ok ⟨Tryz.f161,Tryz.func161,by kernel_rfl,by kernel_rfl⟩ (
 ok ⟨Tryz.f163,Tryz.func163,by kernel_rfl,by kernel_rfl⟩ (
 ok ⟨Tryz.f121,Tryz.func121,by kernel_rfl,by kernel_rfl⟩ (
 ok ⟨Tryz.f184,Tryz.func184,by kernel_rfl,by kernel_rfl⟩ (
 ok ⟨Tryz.f185,Tryz.func185,by kernel_rfl,by kernel_rfl⟩ (
 ok ⟨Tryz.f183,Tryz.func183,by kernel_rfl,by kernel_rfl⟩ (
 ok ⟨Tryz.f173,Tryz.func173,by kernel_rfl,by kernel_rfl⟩ (
 ok ⟨Tryz.f172,Tryz.func172,by kernel_rfl,by kernel_rfl⟩ (
 ok ⟨Tryz.f120,Tryz.func120,by kernel_rfl,by kernel_rfl⟩ (
 ok ⟨Tryz.f87,Tryz.func87,by kernel_rfl,by kernel_rfl⟩ (
 ok ⟨Tryz.f91,Tryz.func91,by kernel_rfl,by kernel_rfl⟩ (
 ok ⟨Tryz.f101,Tryz.func101,by kernel_rfl,by kernel_rfl⟩ (
 ok ⟨Tryz.f117,Tryz.func117,by kernel_rfl,by kernel_rfl⟩ (
 ok ⟨Tryz.f119,Tryz.func119,by kernel_rfl,by kernel_rfl⟩ (
 ok ⟨Tryz.f56,Tryz.func56,by kernel_rfl,by kernel_rfl⟩ (
 ok ⟨Tryz.f57,Tryz.func57,by kernel_rfl,by kernel_rfl⟩ (
 ok ⟨Tryz.f147,Tryz.func147,by kernel_rfl,by kernel_rfl⟩ (
 ok ⟨Tryz.f146,Tryz.func146,by kernel_rfl,by kernel_rfl⟩ (
 ok ⟨Tryz.f92,Tryz.func92,by kernel_rfl,by kernel_rfl⟩ (
 ok ⟨Tryz.f55,Tryz.func55,by kernel_rfl,by kernel_rfl⟩ (
 ok ⟨Tryz.f85,Tryz.func85,by kernel_rfl,by kernel_rfl⟩ (
 ok ⟨Tryz.f29,Tryz.func29,by kernel_rfl,by kernel_rfl⟩ (
 ok ⟨Tryz.f35,Tryz.func35,by kernel_rfl,by kernel_rfl⟩ (
 ok ⟨Tryz.f51,Tryz.func51,by kernel_rfl,by kernel_rfl⟩ (
 ok ⟨Tryz.f16,Tryz.func16,by kernel_rfl,by kernel_rfl⟩ (
 ok ⟨Tryz.f34,Tryz.func34,by kernel_rfl,by kernel_rfl⟩ (
 ok ⟨Tryz.f41,Tryz.func41,by kernel_rfl,by kernel_rfl⟩ (
 ok ⟨Tryz.f149,Tryz.func149,by kernel_rfl,by kernel_rfl⟩ (
 ok ⟨Tryz.f100,Tryz.func100,by kernel_rfl,by kernel_rfl⟩ (
 ok ⟨Tryz.f174,Tryz.func174,by kernel_rfl,by kernel_rfl⟩ (
 ok ⟨Tryz.f40,Tryz.func40,by kernel_rfl,by kernel_rfl⟩ (
 ok ⟨Tryz.f137,Tryz.func137,by kernel_rfl,by kernel_rfl⟩ (
 ok ⟨Tryz.f72,Tryz.func72,by kernel_rfl,by kernel_rfl⟩ (
 ok ⟨Tryz.f99,Tryz.func99,by kernel_rfl,by kernel_rfl⟩ (
 ok ⟨Tryz.f148,Tryz.func148,by kernel_rfl,by kernel_rfl⟩ (
 ok ⟨Tryz.f95,Tryz.func95,by kernel_rfl,by kernel_rfl⟩ (
 ok ⟨Tryz.f96,Tryz.func96,by kernel_rfl,by kernel_rfl⟩ (
 ok ⟨Tryz.f97,Tryz.func97,by kernel_rfl,by kernel_rfl⟩ (
 ok ⟨Tryz.f98,Tryz.func98,by kernel_rfl,by kernel_rfl⟩ (
 ok ⟨Tryz.f39,Tryz.func39,by kernel_rfl,by kernel_rfl⟩ (
 ok ⟨Tryz.f49,Tryz.func49,by kernel_rfl,by kernel_rfl⟩ (
 ok ⟨Tryz.f102,Tryz.func102,by kernel_rfl,by kernel_rfl⟩ (
 ok ⟨Tryz.f42,Tryz.func42,by kernel_rfl,by kernel_rfl⟩ (
 ok ⟨Tryz.f44,Tryz.func44,by kernel_rfl,by kernel_rfl⟩ (
 ok ⟨Tryz.f103,Tryz.func103,by kernel_rfl,by kernel_rfl⟩ (
 ok ⟨Tryz.f105,Tryz.func105,by kernel_rfl,by kernel_rfl⟩ (
 ok ⟨Tryz.f94,Tryz.func94,by kernel_rfl,by kernel_rfl⟩ (
 ok ⟨Tryz.f104,Tryz.func104,by kernel_rfl,by kernel_rfl⟩ (
 ok ⟨Tryz.f106,Tryz.func106,by kernel_rfl,by kernel_rfl⟩ (
 ok ⟨Tryz.f93,Tryz.func93,by kernel_rfl,by kernel_rfl⟩ (
 ok ⟨Tryz.f36,Tryz.func36,by kernel_rfl,by kernel_rfl⟩ (
 ok ⟨Tryz.f45,Tryz.func45,by kernel_rfl,by kernel_rfl⟩ (
 ok ⟨Tryz.f43,Tryz.func43,by kernel_rfl,by kernel_rfl⟩ (
 ok ⟨Tryz.f11,Tryz.func11,by kernel_rfl,by kernel_rfl⟩ (
 ok ⟨Tryz.f14,Tryz.func14,by kernel_rfl,by kernel_rfl⟩ (
 ok ⟨Tryz.f86,Tryz.func86,by kernel_rfl,by kernel_rfl⟩ (
 ok ⟨Tryz.f28,Tryz.func28,by kernel_rfl,by kernel_rfl⟩ (
 ok ⟨Tryz.f37,Tryz.func37,by kernel_rfl,by kernel_rfl⟩ (
 ok ⟨Tryz.f18,Tryz.func18,by kernel_rfl,by kernel_rfl⟩ (
 ok ⟨Tryz.f38,Tryz.func38,by kernel_rfl,by kernel_rfl⟩ (
 ok ⟨Tryz.f12,Tryz.func12,by kernel_rfl,by kernel_rfl⟩ (
 ok ⟨Tryz.f8,Tryz.func8,by kernel_rfl,by kernel_rfl⟩ (
 ok ⟨Tryz.f80,Tryz.func80,by kernel_rfl,by kernel_rfl⟩ (
 ok ⟨Tryz.f33,Tryz.func33,by kernel_rfl,by kernel_rfl⟩ (
 ok ⟨Tryz.f9,Tryz.func9,by kernel_rfl,by kernel_rfl⟩ (
 ok ⟨Tryz.f9,Tryz.func9,by kernel_rfl,by kernel_rfl⟩ (
 ok ⟨Tryz.f10,Tryz.func10,by kernel_rfl,by kernel_rfl⟩ (
 ok ⟨Tryz.f13,Tryz.func13,by kernel_rfl,by kernel_rfl⟩ (
 ok ⟨Tryz.f3,Tryz.func3,by kernel_rfl,by kernel_rfl⟩ (
 List.forall_mem_nil _)))))))))))))))))))))))))))))))))))))))))))))))))))))))))))))))))))))))))))))))))))))))))))))))))))))))))))))))))))
theorem zB:F.c5 L:={ I7:=rfl,I8:=rfl,I5:=rfl,I6:=rfl,GS:=rfl,JO:=rfl,JN:=rfl,E0:=rfl,JW:=rfl,JS:=rfl,JR:=rfl,JV:=rfl,JU:=rfl,H8:=rfl,J1:=rfl,E5:=rfl,JZ:=rfl,JT:=rfl,J3:=rfl,HE:=rfl,J0:=rfl,JX:=rfl,JY:=rfl,J2:=rfl,FU:=rfl }
theorem YH:F.a7 L:={ zB with C2:=rfl,JI:=rfl,JG:=rfl,JH:=rfl,JD:=rfl,JF:=rfl,HI:=rfl,KX:=rfl,KY:=rfl,GP:=rfl,K0:=rfl,KZ:=rfl,KV:=rfl,KS:=rfl,KT:=rfl,HH:=rfl,IA:=rfl,KQ:=rfl }
theorem YI:F.a9 L:={ GQ:=rfl,K3:=rfl,K1:=rfl,HW:=rfl,K5:=rfl,K2:=rfl,HJ:=rfl,K6:=rfl,DD:=rfl,K4:=rfl,LH:=rfl,LE:=rfl,LF:=rfl,LD:=rfl,K8:=rfl,LG:=rfl,K9:=rfl,LC:=rfl,LA:=rfl,LB:=rfl,HK:=rfl,IB:=rfl,LP:=rfl,LO:=rfl,LL:=rfl,LJ:=rfl,LK:=rfl,LM:=rfl }
theorem zN:F.de L:={ YH,YI with J4:=rfl }
theorem iG:F.dm L:={  }
theorem zC:F.nb L:={ iG with  }
theorem zA:F.jz L:={ zN,zC with  }
theorem zJ:F.z9 L:={ YH with KW:=rfl,KU:=rfl }
theorem zG:F.gl L:={ YH with KO:=rfl }
theorem zL:F.dd L:={ YI with LN:=rfl }
theorem zH:F.ka L:={ zL with  }
theorem zO:F.nc L:={ zA,zJ,zG,zH with  }
theorem iH:F.o0 L:={ zO with JE:=rfl,H9:=rfl,KR:=rfl,KN:=rfl,LU:=rfl,LZ:=rfl,LY:=rfl,L0:=rfl,IE:=rfl }
theorem zF:F.v5 L:={ iH with KP:=rfl }
theorem zD:F.n7 L:={ zF with KD:=rfl,KB:=rfl,KL:=rfl,KE:=rfl,KA:=rfl,KI:=rfl,KM:=rfl,KH:=rfl,KC:=rfl,KJ:=rfl,KG:=rfl,KF:=rfl,J8:=rfl,J9:=rfl }
theorem zI:F.z7 L:={ iH with K7:=rfl,LI:=rfl,LS:=rfl,LR:=rfl,LT:=rfl,LQ:=rfl }
theorem zP:F.o4 L:={ iG with L4:=rfl,L2:=rfl }
theorem zK:F.q7 L:={ zP,YI with IK:=rfl,L3:=rfl }
theorem yY:F.z0 L:={ zK with GU:=rfl,GT:=rfl }
theorem yZ:F.dc L:={ zD,zI,yY with JK:=rfl,JJ:=rfl }
end Go.Proofs.YtplhdlbnneoobaaGreat
