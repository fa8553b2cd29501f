/-
  The functions of the groups are the program's own: checked by the kernel, function by function.
-/
import Derived.Test.YtplhdlbnneoobaaGreatProg
import Derived.KernelRfl
import Derived.Test.YtplhdlbnneoobaaGreatB3
import Derived.Test.YtplhdlbnneoobaaGreatB4
set_option linter.unusedSimpArgs false
set_option linter.unusedVariables false
set_option linter.unnecessarySimpa false
namespace Go.Proofs.YtplhdlbnneoobaaGreat
open Go.c4
def num:Nat->Nat
 | 58=>179
 | 59=>180
 | 60=>159
 | 61=>160
 | 62=>178
 | 63=>194
 | 64=>186
 | 65=>156
 | 66=>155
 | 67=>116
 | 68=>157
 | 69=>158
 | 70=>114
 | 71=>187
 | 72=>189
 | 73=>188
 | 74=>175
 | 75=>151
 | 76=>177
 | 77=>195
 | 78=>191
 | 79=>190
 | 80=>192
 | 81=>176
 | 82=>153
 | 83=>150
 | 84=>152
 | 85=>122
 | 86=>108
 | 87=>115
 | 88=>109
 | 89=>107
 | 90=>154
 | 91=>110
 | 92=>113
 | 93=>111
 | 94=>112
 | 95=>90
 | 96=>59
 | 97=>134
 | 98=>48
 | 99=>47
 | 100=>46
 | 101=>118
 | 102=>162
 | 103=>161
 | 104=>163
 | 105=>121
 | 106=>184
 | 107=>185
 | 108=>183
 | 109=>173
 | 110=>172
 | 111=>120
 | 112=>87
 | 113=>91
 | 114=>101
 | 115=>117
 | 116=>119
 | 117=>56
 | 118=>57
 | 119=>147
 | 120=>146
 | 121=>92
 | 122=>55
 | 123=>85
 | 124=>29
 | 125=>35
 | 126=>51
 | 127=>16
 | 128=>34
 | 130=>41
 | 131=>58
 | 132=>123
 | 133=>60
 | 134=>17
 | 136=>50
 | 137=>52
 | 138=>54
 | 149=>149
 | 150=>100
 | 169=>174
 | 152=>40
 | 197=>137
 | 198=>72
 | 199=>99
 | 200=>148
 | 201=>95
 | 204=>96
 | 205=>97
 | 206=>98
 | 207=>39
 | 256=>49
 | 294=>102
 | 295=>42
 | 296=>44
 | 297=>103
 | 298=>105
 | 299=>94
 | 300=>104
 | 301=>106
 | 302=>93
 | 303=>36
 | 304=>45
 | 305=>43
 | 307=>14
 | 308=>86
 | 309=>28
 | 310=>37
 | 311=>18
 | 312=>53
 | 313=>38
 | 314=>12
 | 315=>15
 | 34=>8
 | 35=>80
 | 141=>33
 | 316=>9
 | 317=>10
 | 318=>13
 | 320=>4
 | _=>0
def Ja:List (Nat × AFn):=[(58,F.JJ),(59,F.JK),(60,F.JH),(61,F.JI),(62,F.GW),(63,F.JX),(64,F.JW),(65,F.E6),(66,F.J5),(67,F.J1),(68,F.J0),(69,F.J4),(70,F.J3),(71,F.IM),(72,F.KA),(73,F.FD),(74,F.J8),(75,F.J2),(76,F.KC),(77,F.HM),(78,F.J9),(79,F.J6),(80,F.J7),(81,F.KB),(82,F.F3),(83,F.C5),(84,F.JS),(85,F.JQ),(86,F.JR),(87,F.JN),(88,F.JP),(89,F.HQ),(90,F.K8),(91,F.K9),(92,F.GT),(93,F.LB),(94,F.LA),(95,F.K6),(96,F.K3),(97,F.K4),(98,F.HP),(99,F.IQ),(100,F.K1),(101,F.GU),(102,F.LE),(103,F.LC),(104,F.H7),(105,F.LG),(106,F.LD),(107,F.HR),(108,F.LH),(109,F.DI),(110,F.LF),(111,F.LS),(112,F.LP),(113,F.LQ),(114,F.LO),(115,F.LJ),(116,F.LR),(117,F.LK),(118,F.LN),(119,F.LL),(120,F.LM),(121,F.HS),(122,F.IR),(123,F.L0),(124,F.LZ),(125,F.LW),(126,F.LU),(127,F.LV),(128,F.LX),(130,F.KF),(131,F.IO),(132,F.KG),(133,F.KE),(134,F.KD),(136,F.L2),(137,F.L1),(138,F.L3),(149,F.K7),(150,F.K5),(169,F.KZ),(152,F.LY),(197,F.JO),(198,F.IP),(199,F.K2),(200,F.KY),(201,F.MA),(204,F.MF),(205,F.ME),(206,F.MG),(207,F.IV),(256,F.K0),(294,F.KP),(295,F.KN),(296,F.KW),(297,F.KQ),(298,F.KM),(299,F.KU),(300,F.KX),(301,F.KT),(302,F.KO),(303,F.KV),(304,F.KS),(305,F.KR),(307,F.KL),(308,F.LI),(309,F.LT),(310,F.L8),(311,F.L6),(312,F.L4),(313,F.L9),(314,F.L5),(315,F.L7),(34,F.MK),(35,F.MI),(141,F.MJ),(316,F.GY),(317,F.GX),(318,F.JT),(320,F.IJ)]
def L:Lib:=⟨λ f=>Ja.lookup f,num⟩
theorem ok {p:Nat × AFn->Prop} {a:Nat × AFn} {l:List (Nat × AFn)} (h:p a) (t : ∀ x∈l,p x) : ∀ x∈a::l,p x:=List.forall_mem_cons.2 ⟨h,t⟩
set_option maxRecDepth 100000 in
theorem Qu:ProgOK Tryz.prog num L:=progOK_of Ja (
 ok ⟨Tryz.f179,Tryz.func179,by kernel_rfl,by kernel_rfl⟩ (
 ok ⟨Tryz.f180,Tryz.func180,by kernel_rfl,by kernel_rfl⟩ (
 ok ⟨Tryz.f159,Tryz.func159,by kernel_rfl,by kernel_rfl⟩ (
 ok ⟨Tryz.f160,Tryz.func160,by kernel_rfl,by kernel_rfl⟩ (
 ok ⟨Tryz.f178,Tryz.func178,by kernel_rfl,by kernel_rfl⟩ (
 ok ⟨Tryz.f194,Tryz.func194,by kernel_rfl,by kernel_rfl⟩ (
 ok ⟨Tryz.f186,Tryz.func186,by kernel_rfl,by kernel_rfl⟩ (
 ok ⟨Tryz.f156,Tryz.func156,by kernel_rfl,by kernel_rfl⟩ (
 ok ⟨Tryz.f155,Tryz.func155,by kernel_rfl,by kernel_rfl⟩ (
 ok ⟨Tryz.f116,Tryz.func116,by kernel_rfl,by kernel_rfl⟩ (
 ok ⟨Tryz.f157,Tryz.func157,by kernel_rfl,by kernel_rfl⟩ (
 ok ⟨Tryz.f158,Tryz.func158,by kernel_rfl,by kernel_rfl⟩ (
 ok ⟨Tryz.f114,Tryz.func114,by kernel_rfl,by kernel_rfl⟩ (
 ok ⟨Tryz.f187,Tryz.func187,by kernel_rfl,by kernel_rfl⟩ (
 ok ⟨Tryz.f189,Tryz.func189,by kernel_rfl,by kernel_rfl⟩ (
 ok ⟨Tryz.f188,Tryz.func188,by kernel_rfl,by kernel_rfl⟩ (
 ok ⟨Tryz.f175,Tryz.func175,by kernel_rfl,by kernel_rfl⟩ (
 ok ⟨Tryz.f151,Tryz.func151,by kernel_rfl,by kernel_rfl⟩ (
 ok ⟨Tryz.f177,Tryz.func177,by kernel_rfl,by kernel_rfl⟩ (
 ok ⟨Tryz.f195,Tryz.func195,by kernel_rfl,by kernel_rfl⟩ (
 ok ⟨Tryz.f191,Tryz.func191,by kernel_rfl,by kernel_rfl⟩ (
 ok ⟨Tryz.f190,Tryz.func190,by kernel_rfl,by kernel_rfl⟩ (
 ok ⟨Tryz.f192,Tryz.func192,by kernel_rfl,by kernel_rfl⟩ (
 ok ⟨Tryz.f176,Tryz.func176,by kernel_rfl,by kernel_rfl⟩ (
 ok ⟨Tryz.f153,Tryz.func153,by kernel_rfl,by kernel_rfl⟩ (
 ok ⟨Tryz.f150,Tryz.func150,by kernel_rfl,by kernel_rfl⟩ (
 ok ⟨Tryz.f152,Tryz.func152,by kernel_rfl,by kernel_rfl⟩ (
 ok ⟨Tryz.f122,Tryz.func122,by kernel_rfl,by kernel_rfl⟩ (
 ok ⟨Tryz.f108,Tryz.func108,by kernel_rfl,by kernel_rfl⟩ (
 ok ⟨Tryz.f115,Tryz.func115,by kernel_rfl,by kernel_rfl⟩ (
 ok ⟨Tryz.f109,Tryz.func109,by kernel_rfl,by kernel_rfl⟩ (
 ok ⟨Tryz.f107,Tryz.func107,by kernel_rfl,by kernel_rfl⟩ (
 ok ⟨Tryz.f154,Tryz.func154,by kernel_rfl,by kernel_rfl⟩ (
 ok ⟨Tryz.f110,Tryz.func110,by kernel_rfl,by kernel_rfl⟩ (
 ok ⟨Tryz.f113,Tryz.func113,by kernel_rfl,by kernel_rfl⟩ (
 ok ⟨Tryz.f111,Tryz.func111,by kernel_rfl,by kernel_rfl⟩ (
 ok ⟨Tryz.f112,Tryz.func112,by kernel_rfl,by kernel_rfl⟩ (
 ok ⟨Tryz.f90,Tryz.func90,by kernel_rfl,by kernel_rfl⟩ (
 ok ⟨Tryz.f59,Tryz.func59,by kernel_rfl,by kernel_rfl⟩ (
 ok ⟨Tryz.f134,Tryz.func134,by kernel_rfl,by kernel_rfl⟩ (
 ok ⟨Tryz.f48,Tryz.func48,by kernel_rfl,by kernel_rfl⟩ (
 ok ⟨Tryz.f47,Tryz.func47,by kernel_rfl,by kernel_rfl⟩ (
 ok ⟨Tryz.f46,Tryz.func46,by kernel_rfl,by kernel_rfl⟩ (
 ok ⟨Tryz.f118,Tryz.func118,by kernel_rfl,by kernel_rfl⟩ (
 ok ⟨Tryz.f162,Tryz.func162,by kernel_rfl,by kernel_rfl⟩ (
 ok ⟨Tryz.f161,Tryz.func161,by kernel_rfl,by kernel_rfl⟩ (
 ok ⟨Tryz.f163,Tryz.func163,by kernel_rfl,by kernel_rfl⟩ (
 ok ⟨Tryz.f121,Tryz.func121,by kernel_rfl,by kernel_rfl⟩ (
 ok ⟨Tryz.f184,Tryz.func184,by kernel_rfl,by kernel_rfl⟩ (
 ok ⟨Tryz.f185,Tryz.func185,by kernel_rfl,by kernel_rfl⟩ (
 ok ⟨Tryz.f183,Tryz.func183,by kernel_rfl,by kernel_rfl⟩ (
 ok ⟨Tryz.f173,Tryz.func173,by kernel_rfl,by kernel_rfl⟩ (
 ok ⟨Tryz.f172,Tryz.func172,by kernel_rfl,by kernel_rfl⟩ (
 ok ⟨Tryz.f120,Tryz.func120,by kernel_rfl,by kernel_rfl⟩ (
 ok ⟨Tryz.f87,Tryz.func87,by kernel_rfl,by kernel_rfl⟩ (
 ok ⟨Tryz.f91,Tryz.func91,by kernel_rfl,by kernel_rfl⟩ (
 ok ⟨Tryz.f101,Tryz.func101,by kernel_rfl,by kernel_rfl⟩ (
 ok ⟨Tryz.f117,Tryz.func117,by kernel_rfl,by kernel_rfl⟩ (
 ok ⟨Tryz.f119,Tryz.func119,by kernel_rfl,by kernel_rfl⟩ (
 ok ⟨Tryz.f56,Tryz.func56,by kernel_rfl,by kernel_rfl⟩ (
 ok ⟨Tryz.f57,Tryz.func57,by kernel_rfl,by kernel_rfl⟩ (
 ok ⟨Tryz.f147,Tryz.func147,by kernel_rfl,by kernel_rfl⟩ (
 ok ⟨Tryz.f146,Tryz.func146,by kernel_rfl,by kernel_rfl⟩ (
 ok ⟨Tryz.f92,Tryz.func92,by kernel_rfl,by kernel_rfl⟩ (
 ok ⟨Tryz.f55,Tryz.func55,by kernel_rfl,by kernel_rfl⟩ (
 ok ⟨Tryz.f85,Tryz.func85,by kernel_rfl,by kernel_rfl⟩ (
 ok ⟨Tryz.f29,Tryz.func29,by kernel_rfl,by kernel_rfl⟩ (
 ok ⟨Tryz.f35,Tryz.func35,by kernel_rfl,by kernel_rfl⟩ (
 ok ⟨Tryz.f51,Tryz.func51,by kernel_rfl,by kernel_rfl⟩ (
 ok ⟨Tryz.f16,Tryz.func16,by kernel_rfl,by kernel_rfl⟩ (
 ok ⟨Tryz.f34,Tryz.func34,by kernel_rfl,by kernel_rfl⟩ (
 ok ⟨Tryz.f41,Tryz.func41,by kernel_rfl,by kernel_rfl⟩ (
 ok ⟨Tryz.f58,Tryz.func58,by kernel_rfl,by kernel_rfl⟩ (
 ok ⟨Tryz.f123,Tryz.func123,by kernel_rfl,by kernel_rfl⟩ (
 ok ⟨Tryz.f60,Tryz.func60,by kernel_rfl,by kernel_rfl⟩ (
 ok ⟨Tryz.f17,Tryz.func17,by kernel_rfl,by kernel_rfl⟩ (
 ok ⟨Tryz.f50,Tryz.func50,by kernel_rfl,by kernel_rfl⟩ (
 ok ⟨Tryz.f52,Tryz.func52,by kernel_rfl,by kernel_rfl⟩ (
 ok ⟨Tryz.f54,Tryz.func54,by kernel_rfl,by kernel_rfl⟩ (
 ok ⟨Tryz.f149,Tryz.func149,by kernel_rfl,by kernel_rfl⟩ (
 ok ⟨Tryz.f100,Tryz.func100,by kernel_rfl,by kernel_rfl⟩ (
 ok ⟨Tryz.f174,Tryz.func174,by kernel_rfl,by kernel_rfl⟩ (
 ok ⟨Tryz.f40,Tryz.func40,by kernel_rfl,by kernel_rfl⟩ (
 ok ⟨Tryz.f137,Tryz.func137,by kernel_rfl,by kernel_rfl⟩ (
 ok ⟨Tryz.f72,Tryz.func72,by kernel_rfl,by kernel_rfl⟩ (
 ok ⟨Tryz.f99,Tryz.func99,by kernel_rfl,by kernel_rfl⟩ (
 ok ⟨Tryz.f148,Tryz.func148,by kernel_rfl,by kernel_rfl⟩ (
 ok ⟨Tryz.f95,Tryz.func95,by kernel_rfl,by kernel_rfl⟩ (
 ok ⟨Tryz.f96,Tryz.func96,by kernel_rfl,by kernel_rfl⟩ (
 ok ⟨Tryz.f97,Tryz.func97,by kernel_rfl,by kernel_rfl⟩ (
 ok ⟨Tryz.f98,Tryz.func98,by kernel_rfl,by kernel_rfl⟩ (
 ok ⟨Tryz.f39,Tryz.func39,by kernel_rfl,by kernel_rfl⟩ (
 ok ⟨Tryz.f49,Tryz.func49,by kernel_rfl,by kernel_rfl⟩ (
 ok ⟨Tryz.f102,Tryz.func102,by kernel_rfl,by kernel_rfl⟩ (
 ok ⟨Tryz.f42,Tryz.func42,by kernel_rfl,by kernel_rfl⟩ (
 ok ⟨Tryz.f44,Tryz.func44,by kernel_rfl,by kernel_rfl⟩ (
 ok ⟨Tryz.f103,Tryz.func103,by kernel_rfl,by kernel_rfl⟩ (
 ok ⟨Tryz.f105,Tryz.func105,by kernel_rfl,by kernel_rfl⟩ (
 ok ⟨Tryz.f94,Tryz.func94,by kernel_rfl,by kernel_rfl⟩ (
 ok ⟨Tryz.f104,Tryz.func104,by kernel_rfl,by kernel_rfl⟩ (
 ok ⟨Tryz.f106,Tryz.func106,by kernel_rfl,by kernel_rfl⟩ (
 ok ⟨Tryz.f93,Tryz.func93,by kernel_rfl,by kernel_rfl⟩ (
 ok ⟨Tryz.f36,Tryz.func36,by kernel_rfl,by kernel_rfl⟩ (
 ok ⟨Tryz.f45,Tryz.func45,by kernel_rfl,by kernel_rfl⟩ (
 ok ⟨Tryz.f43,Tryz.func43,by kernel_rfl,by kernel_rfl⟩ (
 ok ⟨Tryz.f14,Tryz.func14,by kernel_rfl,by kernel_rfl⟩ (
 ok ⟨Tryz.f86,Tryz.func86,by kernel_rfl,by kernel_rfl⟩ (
 ok ⟨Tryz.f28,Tryz.func28,by kernel_rfl,by kernel_rfl⟩ (
 ok ⟨Tryz.f37,Tryz.func37,by kernel_rfl,by kernel_rfl⟩ (
 ok ⟨Tryz.f18,Tryz.func18,by kernel_rfl,by kernel_rfl⟩ (
 ok ⟨Tryz.f53,Tryz.func53,by kernel_rfl,by kernel_rfl⟩ (
 ok ⟨Tryz.f38,Tryz.func38,by kernel_rfl,by kernel_rfl⟩ (
 ok ⟨Tryz.f12,Tryz.func12,by kernel_rfl,by kernel_rfl⟩ (
 ok ⟨Tryz.f15,Tryz.func15,by kernel_rfl,by kernel_rfl⟩ (
 ok ⟨Tryz.f8,Tryz.func8,by kernel_rfl,by kernel_rfl⟩ (
 ok ⟨Tryz.f80,Tryz.func80,by kernel_rfl,by kernel_rfl⟩ (
 ok ⟨Tryz.f33,Tryz.func33,by kernel_rfl,by kernel_rfl⟩ (
 ok ⟨Tryz.f9,Tryz.func9,by kernel_rfl,by kernel_rfl⟩ (
 ok ⟨Tryz.f10,Tryz.func10,by kernel_rfl,by kernel_rfl⟩ (
 ok ⟨Tryz.f13,Tryz.func13,by kernel_rfl,by kernel_rfl⟩ (
 ok ⟨Tryz.f4,Tryz.func4,by kernel_rfl,by kernel_rfl⟩ (
 List.forall_mem_nil _))))))))))))))))))))))))))))))))))))))))))))))))))))))))))))))))))))))))))))))))))))))))))))))))))))))))))))))))))))))))))
theorem Kw:F.c5 L:={ JJ:=rfl,JK:=rfl,JH:=rfl,JI:=rfl,GW:=rfl,JX:=rfl,JW:=rfl,E6:=rfl,J5:=rfl,J1:=rfl,J0:=rfl,J4:=rfl,J3:=rfl,IM:=rfl,KA:=rfl,FD:=rfl,J8:=rfl,J2:=rfl,KC:=rfl,HM:=rfl,J9:=rfl,J6:=rfl,J7:=rfl,KB:=rfl,F3:=rfl }
theorem ZD:F.a7 L:={ Kw with C5:=rfl,JS:=rfl,JQ:=rfl,JR:=rfl,JN:=rfl,JP:=rfl,HQ:=rfl,K8:=rfl,K9:=rfl,GT:=rfl,LB:=rfl,LA:=rfl,K6:=rfl,K3:=rfl,K4:=rfl,HP:=rfl,IQ:=rfl,K1:=rfl }
theorem ZE:F.a8 L:={ GU:=rfl,LE:=rfl,LC:=rfl,H7:=rfl,LG:=rfl,LD:=rfl,HR:=rfl,LH:=rfl,DI:=rfl,LF:=rfl,LS:=rfl,LP:=rfl,LQ:=rfl,LO:=rfl,LJ:=rfl,LR:=rfl,LK:=rfl,LN:=rfl,LL:=rfl,LM:=rfl,HS:=rfl,IR:=rfl,L0:=rfl,LZ:=rfl,LW:=rfl,LU:=rfl,LV:=rfl,LX:=rfl }
theorem Jw:F.o4 L:={ ZD,ZE with KF:=rfl,IO:=rfl,KG:=rfl,KE:=rfl,KD:=rfl,L2:=rfl,L1:=rfl,L3:=rfl }
theorem kE:F.dv L:={  }
theorem Kx:F.ns L:={ kE with  }
theorem Kv:F.km L:={ Jw,Kx with  }
theorem Ld:F.af L:={ ZD with K7:=rfl,K5:=rfl }
theorem La:F.gx L:={ ZD with KZ:=rfl }
theorem Jv:F.di L:={ ZE with LY:=rfl }
theorem Lb:F.kn L:={ Jv with  }
theorem Jx:F.nt L:={ Kv,Ld,La,Lb with  }
theorem kF:F.o0 L:={ Jx with JO:=rfl,IP:=rfl,K2:=rfl,KY:=rfl,MA:=rfl,MF:=rfl,ME:=rfl,MG:=rfl,IV:=rfl }
theorem Kz:F.u5 L:={ kF with K0:=rfl }
theorem Ky:F.n7 L:={ Kz with KP:=rfl,KN:=rfl,KW:=rfl,KQ:=rfl,KM:=rfl,KU:=rfl,KX:=rfl,KT:=rfl,KO:=rfl,KV:=rfl,KS:=rfl,KR:=rfl,KL:=rfl }
theorem Lc:F.v3 L:={ kF with LI:=rfl,LT:=rfl,L8:=rfl,L6:=rfl,L4:=rfl,L9:=rfl,L5:=rfl,L7:=rfl }
theorem Jy:F.s8 L:={ kE with MK:=rfl,MI:=rfl }
theorem Ju:F.z8 L:={ Jy,ZE with MJ:=rfl }
theorem Kt:F.z7 L:={ Ju with GY:=rfl,GX:=rfl }
theorem Ku:F.fy L:={ Ky,Lc,Kt with JT:=rfl,IJ:=rfl }
end Go.Proofs.YtplhdlbnneoobaaGreat
