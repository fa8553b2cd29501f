/-
  The functions of the groups are the program's own: checked by the kernel, function by function.
-/
import Derived.Test.YtgdojcofnobpeaaGreatProg
import Derived.KernelRfl
import Derived.Test.YtgdojcofnobpeaaGreatB3
import Derived.Test.YtgdojcofnobpeaaGreatB4
import Derived.Test.YtgdojcofnobpeaaGreatB5
set_option linter.unusedSimpArgs false
set_option linter.unusedVariables false
set_option linter.unnecessarySimpa false
namespace Go.Proofs.YtgdojcofnobpeaaGreat
open Go.Eng
def num:Nat->Nat
 | 58=>132
 | 59=>133
 | 60=>114
 | 61=>115
 | 62=>121
 | 63=>148
 | 64=>135
 | 65=>113
 | 66=>92
 | 67=>80
 | 68=>111
 | 69=>112
 | 70=>83
 | 71=>136
 | 72=>138
 | 73=>137
 | 74=>118
 | 75=>88
 | 76=>120
 | 77=>149
 | 78=>140
 | 79=>139
 | 80=>141
 | 81=>119
 | 82=>90
 | 83=>110
 | 84=>89
 | 85=>76
 | 86=>96
 | 87=>79
 | 88=>81
 | 89=>46
 | 90=>91
 | 91=>82
 | 92=>75
 | 93=>84
 | 94=>47
 | 95=>15
 | 96=>34
 | 97=>78
 | 98=>38
 | 99=>39
 | 100=>53
 | 101=>97
 | 102=>130
 | 103=>126
 | 104=>127
 | 105=>106
 | 106=>143
 | 107=>144
 | 108=>142
 | 109=>125
 | 110=>124
 | 111=>105
 | 112=>67
 | 113=>98
 | 114=>74
 | 115=>103
 | 116=>104
 | 117=>65
 | 118=>66
 | 119=>100
 | 120=>99
 | 121=>58
 | 122=>57
 | 123=>22
 | 124=>29
 | 125=>30
 | 126=>62
 | 127=>28
 | 128=>63
 | 129=>27
 | 130=>33
 | 131=>77
 | 132=>36
 | 136=>56
 | 137=>64
 | 138=>25
 | 145=>35
 | 149=>109
 | 150=>73
 | 151=>40
 | 169=>85
 | 170=>43
 | 152=>32
 | 153=>129
 | 154=>145
 | 155=>117
 | 156=>147
 | 157=>146
 | 158=>134
 | 159=>116
 | 171=>87
 | 172=>86
 | 173=>44
 | 188=>37
 | 189=>11
 | 191=>41
 | 190=>42
 | 197=>131
 | 198=>108
 | 199=>72
 | 200=>107
 | 201=>68
 | 204=>69
 | 205=>70
 | 206=>71
 | 207=>31
 | 212=>26
 | 239=>59
 | 240=>60
 | 241=>24
 | 276=>128
 | 277=>101
 | 901=>102
 | 278=>61
 | 279=>23
 | 34=>4
 | 35=>45
 | 141=>13
 | 142=>5
 | 280=>6
 | 167=>9
 | 176=>12
 | 215=>10
 | 281=>14
 | 284=>21
 | 285=>8
 | 227=>122
 | 228=>93
 | 229=>48
 | 230=>49
 | 231=>51
 | 900=>123
 | 233=>94
 | 234=>95
 | 235=>50
 | 238=>16
 | 246=>52
 | 248=>17
 | 287=>20
 | 288=>19
 | 289=>55
 | 290=>54
 | 291=>18
 | 292=>7
 | 293=>3
 | _=>0
def Jv:List (Nat × AFn):=[(58,F.OS),(59,F.OU),(60,F.OP),(61,F.OR),(62,F.KW),(63,F.PJ),(64,F.PI),(65,F.IM),(66,F.PU),(67,F.PO),(68,F.PN),(69,F.PS),(70,F.PR),(71,F.M3),(72,F.PZ),(73,F.IV),(74,F.PX),(75,F.PP),(76,F.P1),(77,F.LL),(78,F.PY),(79,F.PV),(80,F.PW),(81,F.P0),(82,F.JO),(83,F.FU),(84,F.O4),(85,F.O2),(86,F.O3),(87,F.OY),(88,F.O1),(89,F.LR),(90,F.QU),(91,F.QV),(92,F.KS),(93,F.M7),(94,F.QW),(95,F.QS),(96,F.QP),(97,F.QQ),(98,F.LQ),(99,F.M6),(100,F.QK),(101,F.KU),(102,F.QZ),(103,F.QX),(104,F.MF),(105,F.Q2),(106,F.QY),(107,F.LS),(108,F.Q4),(109,F.GG),(110,F.Q1),(111,F.RF),(112,F.RB),(113,F.RD),(114,F.RA),(115,F.Q5),(116,F.RE),(117,F.Q6),(118,F.Q9),(119,F.Q7),(120,F.Q8),(121,F.LT),(122,F.M8),(123,F.R3),(124,F.RO),(125,F.RK),(126,F.RH),(127,F.RI),(128,F.RM),(129,F.SC),(130,F.P2),(131,F.P9),(132,F.P5),(136,F.SF),(137,F.SD),(138,F.SG),(145,F.P8),(149,F.QT),(150,F.QR),(151,F.QM),(169,F.KR),(170,F.QI),(152,F.RN),(153,F.RZ),(154,F.RJ),(155,F.RS),(156,F.Q3),(157,F.RC),(158,F.RQ),(159,F.RR),(171,F.R6),(172,F.R4),(173,F.R5),(188,F.P6),(189,F.P4),(191,F.QE),(190,F.QH),(197,F.O0),(198,F.M4),(199,F.QN),(200,F.QF),(201,F.SM),(204,F.S6),(205,F.S2),(206,F.TB),(207,F.ND),(212,F.SL),(239,F.R9),(240,F.R7),(241,F.R8),(276,F.RP),(277,F.SB),(901,F.JP),(278,F.SA),(279,F.M9),(34,F.TL),(35,F.TG),(141,F.TJ),(142,F.TK),(280,F.TI),(167,F.NA),(176,F.SE),(215,F.O5),(281,F.S9),(284,F.SJ),(285,F.SH),(227,F.SW),(228,F.SV),(229,F.O9),(230,F.O6),(231,F.J9),(900,F.PF),(233,F.N5),(234,F.PB),(235,F.PE),(238,F.O7),(246,F.PG),(248,F.O8),(287,F.SZ),(288,F.S7),(289,F.S5),(290,F.S8),(291,F.S4),(292,F.SY),(293,F.MY)]
def L:Lib:=⟨λ f=>Jv.lookup f,num⟩
theorem ok {p:Nat × AFn->Prop} {a:Nat × AFn} {l:List (Nat × AFn)} (h:p a) (t : ∀ x∈l,p x) : ∀ x∈a::l,p x:=List.forall_mem_cons.2 ⟨h,t⟩
set_option maxRecDepth 100000 in
theorem Aka:ProgOK Tryz.prog num L:=progOK_of Jv (
 ok ⟨Tryz.f132,Tryz.func132,by kernel_rfl,by kernel_rfl⟩ (
 ok ⟨Tryz.f133,Tryz.func133,by kernel_rfl,by kernel_rfl⟩ (
 ok ⟨Tryz.f114,Tryz.func114,by kernel_rfl,by kernel_rfl⟩ (
 ok ⟨Tryz.f115,Tryz.func115,by kernel_rfl,by kernel_rfl⟩ (
 ok ⟨Tryz.f121,Tryz.func121,by kernel_rfl,by kernel_rfl⟩ (
 ok ⟨Tryz.f148,Tryz.func148,by kernel_rfl,by kernel_rfl⟩ (
 ok ⟨Tryz.f135,Tryz.func135,by kernel_rfl,by kernel_rfl⟩ (
 ok ⟨Tryz.f113,Tryz.func113,by kernel_rfl,by kernel_rfl⟩ (
 ok ⟨Tryz.f92,Tryz.func92,by kernel_rfl,by kernel_rfl⟩ (
 ok ⟨Tryz.f80,Tryz.func80,by kernel_rfl,by kernel_rfl⟩ (
 ok ⟨Tryz.f111,Tryz.func111,by kernel_rfl,by kernel_rfl⟩ (
 ok ⟨Tryz.f112,Tryz.func112,by kernel_rfl,by kernel_rfl⟩ (
 ok ⟨Tryz.f83,Tryz.func83,by kernel_rfl,by kernel_rfl⟩ (
 ok ⟨Tryz.f136,Tryz.func136,by kernel_rfl,by kernel_rfl⟩ (
 ok ⟨Tryz.f138,Tryz.func138,by kernel_rfl,by kernel_rfl⟩ (
 ok ⟨Tryz.f137,Tryz.func137,by kernel_rfl,by kernel_rfl⟩ (
 ok ⟨Tryz.f118,Tryz.func118,by kernel_rfl,by kernel_rfl⟩ (
 ok ⟨Tryz.f88,Tryz.func88,by kernel_rfl,by kernel_rfl⟩ (
 ok ⟨Tryz.f120,Tryz.func120,by kernel_rfl,by kernel_rfl⟩ (
 ok ⟨Tryz.f149,Tryz.func149,by kernel_rfl,by kernel_rfl⟩ (
 ok ⟨Tryz.f140,Tryz.func140,by kernel_rfl,by kernel_rfl⟩ (
 ok ⟨Tryz.f139,Tryz.func139,by kernel_rfl,by kernel_rfl⟩ (
 ok ⟨Tryz.f141,Tryz.func141,by kernel_rfl,by kernel_rfl⟩ (
 ok ⟨Tryz.f119,Tryz.func119,by kernel_rfl,by kernel_rfl⟩ (
 ok ⟨Tryz.f90,Tryz.func90,by kernel_rfl,by kernel_rfl⟩ (
 ok ⟨Tryz.f110,Tryz.func110,by kernel_rfl,by kernel_rfl⟩ (
 ok ⟨Tryz.f89,Tryz.func89,by kernel_rfl,by kernel_rfl⟩ (
 ok ⟨Tryz.f76,Tryz.func76,by kernel_rfl,by kernel_rfl⟩ (
 ok ⟨Tryz.f96,Tryz.func96,by kernel_rfl,by kernel_rfl⟩ (
 ok ⟨Tryz.f79,Tryz.func79,by kernel_rfl,by kernel_rfl⟩ (
 ok ⟨Tryz.f81,Tryz.func81,by kernel_rfl,by kernel_rfl⟩ (
 ok ⟨Tryz.f46,Tryz.func46,by kernel_rfl,by kernel_rfl⟩ (
 ok ⟨Tryz.f91,Tryz.func91,by kernel_rfl,by kernel_rfl⟩ (
 ok ⟨Tryz.f82,Tryz.func82,by kernel_rfl,by kernel_rfl⟩ (
 ok ⟨Tryz.f75,Tryz.func75,by kernel_rfl,by kernel_rfl⟩ (
 ok ⟨Tryz.f84,Tryz.func84,by kernel_rfl,by kernel_rfl⟩ (
 ok ⟨Tryz.f47,Tryz.func47,by kernel_rfl,by kernel_rfl⟩ (
 ok ⟨Tryz.f15,Tryz.func15,by kernel_rfl,by kernel_rfl⟩ (
 ok ⟨Tryz.f34,Tryz.func34,by kernel_rfl,by kernel_rfl⟩ (
 ok ⟨Tryz.f78,Tryz.func78,by kernel_rfl,by kernel_rfl⟩ (
 ok ⟨Tryz.f38,Tryz.func38,by kernel_rfl,by kernel_rfl⟩ (
 ok ⟨Tryz.f39,Tryz.func39,by kernel_rfl,by kernel_rfl⟩ (
 ok ⟨Tryz.f53,Tryz.func53,by kernel_rfl,by kernel_rfl⟩ (
 ok ⟨Tryz.f97,Tryz.func97,by kernel_rfl,by kernel_rfl⟩ (
 ok ⟨Tryz.f130,Tryz.func130,by kernel_rfl,by kernel_rfl⟩ (
 ok ⟨Tryz.f126,Tryz.func126,by kernel_rfl,by kernel_rfl⟩ (
 ok ⟨Tryz.f127,Tryz.func127,by kernel_rfl,by kernel_rfl⟩ (
 ok ⟨Tryz.f106,Tryz.func106,by kernel_rfl,by kernel_rfl⟩ (
 ok ⟨Tryz.f143,Tryz.func143,by kernel_rfl,by kernel_rfl⟩ (
 ok ⟨Tryz.f144,Tryz.func144,by kernel_rfl,by kernel_rfl⟩ (
 ok ⟨Tryz.f142,Tryz.func142,by kernel_rfl,by kernel_rfl⟩ (
 ok ⟨Tryz.f125,Tryz.func125,by kernel_rfl,by kernel_rfl⟩ (
 ok ⟨Tryz.f124,Tryz.func124,by kernel_rfl,by kernel_rfl⟩ (
 ok ⟨Tryz.f105,Tryz.func105,by kernel_rfl,by kernel_rfl⟩ (
 ok ⟨Tryz.f67,Tryz.func67,by kernel_rfl,by kernel_rfl⟩ (
 ok ⟨Tryz.f98,Tryz.func98,by kernel_rfl,by kernel_rfl⟩ (
 ok ⟨Tryz.f74,Tryz.func74,by kernel_rfl,by kernel_rfl⟩ (
 ok ⟨Tryz.f103,Tryz.func103,by kernel_rfl,by kernel_rfl⟩ (
 ok ⟨Tryz.f104,Tryz.func104,by kernel_rfl,by kernel_rfl⟩ (
 ok ⟨Tryz.f65,Tryz.func65,by kernel_rfl,by kernel_rfl⟩ (
 ok ⟨Tryz.f66,Tryz.func66,by kernel_rfl,by kernel_rfl⟩ (
 ok ⟨Tryz.f100,Tryz.func100,by kernel_rfl,by kernel_rfl⟩ (
 ok ⟨Tryz.f99,Tryz.func99,by kernel_rfl,by kernel_rfl⟩ (
 ok ⟨Tryz.f58,Tryz.func58,by kernel_rfl,by kernel_rfl⟩ (
 ok ⟨Tryz.f57,Tryz.func57,by kernel_rfl,by kernel_rfl⟩ (
 ok ⟨Tryz.f22,Tryz.func22,by kernel_rfl,by kernel_rfl⟩ (
 ok ⟨Tryz.f29,Tryz.func29,by kernel_rfl,by kernel_rfl⟩ (
 ok ⟨Tryz.f30,Tryz.func30,by kernel_rfl,by kernel_rfl⟩ (
 ok ⟨Tryz.f62,Tryz.func62,by kernel_rfl,by kernel_rfl⟩ (
 ok ⟨Tryz.f28,Tryz.func28,by kernel_rfl,by kernel_rfl⟩ (
 ok ⟨Tryz.f63,Tryz.func63,by kernel_rfl,by kernel_rfl⟩ (
 ok ⟨Tryz.f27,Tryz.func27,by kernel_rfl,by kernel_rfl⟩ (
 ok ⟨Tryz.f33,Tryz.func33,by kernel_rfl,by kernel_rfl⟩ (
 ok ⟨Tryz.f77,Tryz.func77,by kernel_rfl,by kernel_rfl⟩ (
 ok ⟨Tryz.f36,Tryz.func36,by kernel_rfl,by kernel_rfl⟩ (
 ok ⟨Tryz.f56,Tryz.func56,by kernel_rfl,by kernel_rfl⟩ (
 ok ⟨Tryz.f64,Tryz.func64,by kernel_rfl,by kernel_rfl⟩ (
 ok ⟨Tryz.f25,Tryz.func25,by kernel_rfl,by kernel_rfl⟩ (
 ok ⟨Tryz.f35,Tryz.func35,by kernel_rfl,by kernel_rfl⟩ (
 ok ⟨Tryz.f109,Tryz.func109,by kernel_rfl,by kernel_rfl⟩ (
 ok ⟨Tryz.f73,Tryz.func73,by kernel_rfl,by kernel_rfl⟩ (
 ok ⟨Tryz.f40,Tryz.func40,by kernel_rfl,by kernel_rfl⟩ (
 ok ⟨Tryz.f85,Tryz.func85,by kernel_rfl,by kernel_rfl⟩ (
 ok ⟨Tryz.f43,Tryz.func43,by kernel_rfl,by kernel_rfl⟩ (
 ok ⟨Tryz.f32,Tryz.func32,by kernel_rfl,by kernel_rfl⟩ (
 ok ⟨Tryz.f129,Tryz.func129,by kernel_rfl,by kernel_rfl⟩ (
 ok ⟨Tryz.f145,Tryz.func145,by kernel_rfl,by kernel_rfl⟩ (
 ok ⟨Tryz.f117,Tryz.func117,by kernel_rfl,by kernel_rfl⟩ (
 ok ⟨Tryz.f147,Tryz.func147,by kernel_rfl,by kernel_rfl⟩ (
 ok ⟨Tryz.f146,Tryz.func146,by kernel_rfl,by kernel_rfl⟩ (
 ok ⟨Tryz.f134,Tryz.func134,by kernel_rfl,by kernel_rfl⟩ (
 ok ⟨Tryz.f116,Tryz.func116,by kernel_rfl,by kernel_rfl⟩ (
 ok ⟨Tryz.f87,Tryz.func87,by kernel_rfl,by kernel_rfl⟩ (
 ok ⟨Tryz.f86,Tryz.func86,by kernel_rfl,by kernel_rfl⟩ (
 ok ⟨Tryz.f44,Tryz.func44,by kernel_rfl,by kernel_rfl⟩ (
 ok ⟨Tryz.f37,Tryz.func37,by kernel_rfl,by kernel_rfl⟩ (
 ok ⟨Tryz.f11,Tryz.func11,by kernel_rfl,by kernel_rfl⟩ (
 ok ⟨Tryz.f41,Tryz.func41,by kernel_rfl,by kernel_rfl⟩ (
 ok ⟨Tryz.f42,Tryz.func42,by kernel_rfl,by kernel_rfl⟩ (
 ok ⟨Tryz.f131,Tryz.func131,by kernel_rfl,by kernel_rfl⟩ (
 ok ⟨Tryz.f108,Tryz.func108,by kernel_rfl,by kernel_rfl⟩ (
 ok ⟨Tryz.f72,Tryz.func72,by kernel_rfl,by kernel_rfl⟩ (
 ok ⟨Tryz.f107,Tryz.func107,by kernel_rfl,by kernel_rfl⟩ (
 ok ⟨Tryz.f68,Tryz.func68,by kernel_rfl,by kernel_rfl⟩ (
 ok ⟨Tryz.f69,Tryz.func69,by kernel_rfl,by kernel_rfl⟩ (
 ok ⟨Tryz.f70,Tryz.func70,by kernel_rfl,by kernel_rfl⟩ (
 ok ⟨Tryz.f71,Tryz.func71,by kernel_rfl,by kernel_rfl⟩ (
 ok ⟨Tryz.f31,Tryz.func31,by kernel_rfl,by kernel_rfl⟩ (
 ok ⟨Tryz.f26,Tryz.func26,by kernel_rfl,by kernel_rfl⟩ (
 ok ⟨Tryz.f59,Tryz.func59,by kernel_rfl,by kernel_rfl⟩ (
 ok ⟨Tryz.f60,Tryz.func60,by kernel_rfl,by kernel_rfl⟩ (
 ok ⟨Tryz.f24,Tryz.func24,by kernel_rfl,by kernel_rfl⟩ (
 ok ⟨Tryz.f128,Tryz.func128,by kernel_rfl,by kernel_rfl⟩ (
 ok ⟨Tryz.f101,Tryz.func101,by kernel_rfl,by kernel_rfl⟩ (
 ok ⟨Tryz.f102,Tryz.func102,by kernel_rfl,by kernel_rfl⟩ (
 ok ⟨Tryz.f61,Tryz.func61,by kernel_rfl,by kernel_rfl⟩ (
 ok ⟨Tryz.f23,Tryz.func23,by kernel_rfl,by kernel_rfl⟩ (
 ok ⟨Tryz.f4,Tryz.func4,by kernel_rfl,by kernel_rfl⟩ (
 ok ⟨Tryz.f45,Tryz.func45,by kernel_rfl,by kernel_rfl⟩ (
 ok ⟨Tryz.f13,Tryz.func13,by kernel_rfl,by kernel_rfl⟩ (
 ok ⟨Tryz.f5,Tryz.func5,by kernel_rfl,by kernel_rfl⟩ (
 ok ⟨Tryz.f6,Tryz.func6,by kernel_rfl,by kernel_rfl⟩ (
 ok ⟨Tryz.f9,Tryz.func9,by kernel_rfl,by kernel_rfl⟩ (
 ok ⟨Tryz.f12,Tryz.func12,by kernel_rfl,by kernel_rfl⟩ (
 ok ⟨Tryz.f10,Tryz.func10,by kernel_rfl,by kernel_rfl⟩ (
 ok ⟨Tryz.f14,Tryz.func14,by kernel_rfl,by kernel_rfl⟩ (
 ok ⟨Tryz.f21,Tryz.func21,by kernel_rfl,by kernel_rfl⟩ (
 ok ⟨Tryz.f8,Tryz.func8,by kernel_rfl,by kernel_rfl⟩ (
 ok ⟨Tryz.f122,Tryz.func122,by kernel_rfl,by kernel_rfl⟩ (
 ok ⟨Tryz.f93,Tryz.func93,by kernel_rfl,by kernel_rfl⟩ (
 ok ⟨Tryz.f48,Tryz.func48,by kernel_rfl,by kernel_rfl⟩ (
 ok ⟨Tryz.f49,Tryz.func49,by kernel_rfl,by kernel_rfl⟩ (
 ok ⟨Tryz.f51,Tryz.func51,by kernel_rfl,by kernel_rfl⟩ (
 ok ⟨Tryz.f123,Tryz.func123,by kernel_rfl,by kernel_rfl⟩ (
 ok ⟨Tryz.f94,Tryz.func94,by kernel_rfl,by kernel_rfl⟩ (
 ok ⟨Tryz.f95,Tryz.func95,by kernel_rfl,by kernel_rfl⟩ (
 ok ⟨Tryz.f50,Tryz.func50,by kernel_rfl,by kernel_rfl⟩ (
 ok ⟨Tryz.f16,Tryz.func16,by kernel_rfl,by kernel_rfl⟩ (
 ok ⟨Tryz.f52,Tryz.func52,by kernel_rfl,by kernel_rfl⟩ (
 ok ⟨Tryz.f17,Tryz.func17,by kernel_rfl,by kernel_rfl⟩ (
 ok ⟨Tryz.f20,Tryz.func20,by kernel_rfl,by kernel_rfl⟩ (
 ok ⟨Tryz.f19,Tryz.func19,by kernel_rfl,by kernel_rfl⟩ (
 ok ⟨Tryz.f55,Tryz.func55,by kernel_rfl,by kernel_rfl⟩ (
 ok ⟨Tryz.f54,Tryz.func54,by kernel_rfl,by kernel_rfl⟩ (
 ok ⟨Tryz.f18,Tryz.func18,by kernel_rfl,by kernel_rfl⟩ (
 ok ⟨Tryz.f7,Tryz.func7,by kernel_rfl,by kernel_rfl⟩ (
 ok ⟨Tryz.f3,Tryz.func3,by kernel_rfl,by kernel_rfl⟩ (
 List.forall_mem_nil _))))))))))))))))))))))))))))))))))))))))))))))))))))))))))))))))))))))))))))))))))))))))))))))))))))))))))))))))))))))))))))))))))))))))))))))))))))
theorem Zc:F.c6 L:={ OS:=rfl,OU:=rfl,OP:=rfl,OR:=rfl,KW:=rfl,PJ:=rfl,PI:=rfl,IM:=rfl,PU:=rfl,PO:=rfl,PN:=rfl,PS:=rfl,PR:=rfl,M3:=rfl,PZ:=rfl,IV:=rfl,PX:=rfl,PP:=rfl,P1:=rfl,LL:=rfl,PY:=rfl,PV:=rfl,PW:=rfl,P0:=rfl,JO:=rfl }
theorem nO:F.a5 L:={ Zc with FU:=rfl,O4:=rfl,O2:=rfl,O3:=rfl,OY:=rfl,O1:=rfl,LR:=rfl,QU:=rfl,QV:=rfl,KS:=rfl,M7:=rfl,QW:=rfl,QS:=rfl,QP:=rfl,QQ:=rfl,LQ:=rfl,M6:=rfl,QK:=rfl }
theorem nP:F.a9 L:={ KU:=rfl,QZ:=rfl,QX:=rfl,MF:=rfl,Q2:=rfl,QY:=rfl,LS:=rfl,Q4:=rfl,GG:=rfl,Q1:=rfl,RF:=rfl,RB:=rfl,RD:=rfl,RA:=rfl,Q5:=rfl,RE:=rfl,Q6:=rfl,Q9:=rfl,Q7:=rfl,Q8:=rfl,LT:=rfl,M8:=rfl,R3:=rfl,RO:=rfl,RK:=rfl,RH:=rfl,RI:=rfl,RM:=rfl,SC:=rfl }
theorem Xk:F.m9 L:={ nO,nP with P2:=rfl,P9:=rfl,P5:=rfl,SF:=rfl,SD:=rfl,SG:=rfl }
theorem zC:F.dh L:={  }
theorem zG:F.ik L:={ zC with  }
theorem zD:F.fe L:={ Xk,zG with P8:=rfl }
theorem hH:F.o5 L:={ nO with QT:=rfl,QR:=rfl,QM:=rfl }
theorem zH:F.z8 L:={ nO with KR:=rfl,QI:=rfl }
theorem nQ:F.g9 L:={ nP with RN:=rfl,RZ:=rfl,RJ:=rfl,RS:=rfl,Q3:=rfl,RC:=rfl,RQ:=rfl,RR:=rfl }
theorem zI:F.v7 L:={ nQ with R6:=rfl,R4:=rfl,R5:=rfl }
theorem Xl:F.TrGLib L:={ zD,hH,zH,zI with P6:=rfl,P4:=rfl,QE:=rfl,QH:=rfl }
theorem hJ:F.StGLib L:={ Xl with O0:=rfl,M4:=rfl,QN:=rfl,QF:=rfl,SM:=rfl,S6:=rfl,S2:=rfl,TB:=rfl,ND:=rfl,SL:=rfl }
theorem Xf:F.jg L:={ hJ with  }
theorem Xg:F.ji L:={ Xf with  }
theorem Xh:F.R09GLib L:={ nQ with R9:=rfl,R7:=rfl,R8:=rfl }
theorem Yx:F.InvGLib L:={ Xh with RP:=rfl,SB:=rfl,JP:=rfl,SA:=rfl,M9:=rfl }
theorem zK:F.WorldLib L:={ zC with TL:=rfl,TG:=rfl }
theorem zJ:F.RatsGLib L:={ zK,nP with TJ:=rfl,TK:=rfl }
theorem Xm:F.WMatLib L:={ zJ with TI:=rfl }
theorem Zb:F.ModGLib L:={ zD,hH,nQ with NA:=rfl }
theorem Xi:F.jj L:={ zG,zK with  }
theorem Yv:F.df L:={ Xi with  }
theorem Yu:F.BldGLib L:={ Yv,hH,zH,zI with SE:=rfl }
theorem Yy:F.LawFLib L:={ hJ,Zb,Yu,zJ with O5:=rfl }
theorem Yw:F.EquGLib L:={ Xg,Yx,Xm,hJ,Yy with S9:=rfl,SJ:=rfl,SH:=rfl }
theorem Yz:F.MatGLib L:={ hH,hJ with SW:=rfl,SV:=rfl,O9:=rfl,O6:=rfl,J9:=rfl,PF:=rfl,N5:=rfl,PB:=rfl,PE:=rfl,O7:=rfl }
theorem Za:F.MatHLib L:={ Yz with PG:=rfl,O8:=rfl }
theorem Xj:F.SimGLib L:={ Yw,Za with SZ:=rfl,S7:=rfl,S5:=rfl,S8:=rfl,S4:=rfl,SY:=rfl,MY:=rfl }
end Go.Proofs.YtgdojcofnobpeaaGreat
