/-
  The functions of the groups are the program's own: checked by the kernel, function by function.
-/
import Derived.Test.YtpefogchdoedbaaGreatProg
import Derived.KernelRfl
import Derived.Test.YtpefogchdoedbaaGreatB3
import Derived.Test.YtpefogchdoedbaaGreatB4
import Derived.Test.YtpefogchdoedbaaGreatB5
set_option linter.unusedSimpArgs false
set_option linter.unusedVariables false
set_option linter.unnecessarySimpa false
namespace Go.Proofs.YtpefogchdoedbaaGreat
open Go.Eng
def num:Nat->Nat
 | 58=>115
 | 59=>116
 | 60=>96
 | 61=>97
 | 62=>114
 | 63=>133
 | 64=>126
 | 65=>95
 | 66=>92
 | 67=>70
 | 68=>93
 | 69=>94
 | 70=>72
 | 71=>127
 | 72=>129
 | 73=>128
 | 74=>117
 | 75=>98
 | 76=>119
 | 77=>134
 | 78=>131
 | 79=>130
 | 80=>132
 | 81=>118
 | 82=>100
 | 83=>91
 | 84=>99
 | 85=>67
 | 86=>90
 | 87=>69
 | 88=>64
 | 89=>62
 | 90=>101
 | 91=>65
 | 92=>66
 | 93=>73
 | 94=>71
 | 95=>74
 | 96=>28
 | 97=>68
 | 98=>32
 | 99=>33
 | 100=>103
 | 101=>79
 | 102=>111
 | 103=>106
 | 104=>107
 | 105=>112
 | 106=>123
 | 107=>124
 | 108=>122
 | 109=>105
 | 110=>104
 | 111=>87
 | 112=>51
 | 113=>80
 | 114=>57
 | 115=>85
 | 116=>113
 | 117=>89
 | 118=>86
 | 119=>82
 | 120=>81
 | 121=>44
 | 122=>43
 | 123=>14
 | 124=>19
 | 125=>20
 | 126=>48
 | 127=>59
 | 128=>49
 | 129=>58
 | 130=>27
 | 131=>60
 | 132=>30
 | 133=>61
 | 134=>25
 | 136=>42
 | 137=>50
 | 138=>17
 | 145=>29
 | 149=>88
 | 150=>56
 | 151=>34
 | 169=>75
 | 170=>37
 | 152=>22
 | 153=>110
 | 154=>125
 | 155=>108
 | 188=>31
 | 189=>10
 | 191=>35
 | 190=>36
 | 197=>63
 | 198=>26
 | 199=>55
 | 200=>76
 | 201=>38
 | 204=>52
 | 205=>53
 | 206=>54
 | 207=>21
 | 212=>18
 | 256=>120
 | 257=>121
 | 258=>102
 | 259=>77
 | 273=>78
 | 274=>40
 | 275=>39
 | 239=>45
 | 240=>46
 | 241=>16
 | 276=>109
 | 277=>83
 | 901=>84
 | 278=>47
 | 279=>15
 | 34=>5
 | 35=>41
 | 141=>12
 | 142=>4
 | 280=>7
 | 167=>23
 | 215=>8
 | 281=>24
 | 282=>9
 | 283=>11
 | 284=>13
 | 285=>6
 | 286=>3
 | _=>0
theorem AdD:okFn Tryz.prog num Tryz.f115 F.JA=true:=by kernel_rfl
theorem AdE:okFn Tryz.prog num Tryz.f116 F.JB=true:=by kernel_rfl
theorem AdB:okFn Tryz.prog num Tryz.f96 F.I8=true:=by kernel_rfl
theorem AdC:okFn Tryz.prog num Tryz.f97 F.I9=true:=by kernel_rfl
theorem Afx:okFn Tryz.prog num Tryz.f114 F.GO=true:=by kernel_rfl
theorem AdP:okFn Tryz.prog num Tryz.f133 F.JO=true:=by kernel_rfl
theorem AdO:okFn Tryz.prog num Tryz.f126 F.JN=true:=by kernel_rfl
theorem AdZ:okFn Tryz.prog num Tryz.f95 F.E4=true:=by kernel_rfl
theorem AdW:okFn Tryz.prog num Tryz.f92 F.JU=true:=by kernel_rfl
theorem AdR:okFn Tryz.prog num Tryz.f70 F.JQ=true:=by kernel_rfl
theorem AdQ:okFn Tryz.prog num Tryz.f93 F.JP=true:=by kernel_rfl
theorem AdV:okFn Tryz.prog num Tryz.f94 F.JT=true:=by kernel_rfl
theorem AdU:okFn Tryz.prog num Tryz.f72 F.JS=true:=by kernel_rfl
theorem Ad4:okFn Tryz.prog num Tryz.f127 F.H1=true:=by kernel_rfl
theorem Ad5:okFn Tryz.prog num Tryz.f129 F.JZ=true:=by kernel_rfl
theorem Ad0:okFn Tryz.prog num Tryz.f128 F.FB=true:=by kernel_rfl
theorem Ad1:okFn Tryz.prog num Tryz.f117 F.JX=true:=by kernel_rfl
theorem AdS:okFn Tryz.prog num Tryz.f98 F.JR=true:=by kernel_rfl
theorem Ad7:okFn Tryz.prog num Tryz.f119 F.J1=true:=by kernel_rfl
theorem Ad3:okFn Tryz.prog num Tryz.f134 F.G9=true:=by kernel_rfl
theorem Ad2:okFn Tryz.prog num Tryz.f131 F.JY=true:=by kernel_rfl
theorem AdX:okFn Tryz.prog num Tryz.f130 F.JV=true:=by kernel_rfl
theorem AdY:okFn Tryz.prog num Tryz.f132 F.JW=true:=by kernel_rfl
theorem Ad6:okFn Tryz.prog num Tryz.f118 F.J0=true:=by kernel_rfl
theorem AdT:okFn Tryz.prog num Tryz.f100 F.FV=true:=by kernel_rfl
theorem AdL:okFn Tryz.prog num Tryz.f91 F.C8=true:=by kernel_rfl
theorem AdK:okFn Tryz.prog num Tryz.f99 F.JL=true:=by kernel_rfl
theorem AdI:okFn Tryz.prog num Tryz.f67 F.JJ=true:=by kernel_rfl
theorem AdJ:okFn Tryz.prog num Tryz.f90 F.JK=true:=by kernel_rfl
theorem AdF:okFn Tryz.prog num Tryz.f69 F.JG=true:=by kernel_rfl
theorem AdH:okFn Tryz.prog num Tryz.f64 F.JI=true:=by kernel_rfl
theorem AeH:okFn Tryz.prog num Tryz.f62 F.HC=true:=by kernel_rfl
theorem AeD:okFn Tryz.prog num Tryz.f101 F.KS=true:=by kernel_rfl
theorem AeE:okFn Tryz.prog num Tryz.f65 F.KT=true:=by kernel_rfl
theorem AeI:okFn Tryz.prog num Tryz.f66 F.GI=true:=by kernel_rfl
theorem AeG:okFn Tryz.prog num Tryz.f73 F.H8=true:=by kernel_rfl
theorem AeF:okFn Tryz.prog num Tryz.f71 F.KU=true:=by kernel_rfl
theorem AeB:okFn Tryz.prog num Tryz.f74 F.KQ=true:=by kernel_rfl
theorem Aey:okFn Tryz.prog num Tryz.f28 F.KN=true:=by kernel_rfl
theorem Aez:okFn Tryz.prog num Tryz.f68 F.KO=true:=by kernel_rfl
theorem Aes:okFn Tryz.prog num Tryz.f32 F.HB=true:=by kernel_rfl
theorem Aew:okFn Tryz.prog num Tryz.f33 F.H7=true:=by kernel_rfl
theorem Aeu:okFn Tryz.prog num Tryz.f103 F.H6=true:=by kernel_rfl
theorem AeR:okFn Tryz.prog num Tryz.f79 F.GJ=true:=by kernel_rfl
theorem AeL:okFn Tryz.prog num Tryz.f111 F.KX=true:=by kernel_rfl
theorem AeJ:okFn Tryz.prog num Tryz.f106 F.KV=true:=by kernel_rfl
theorem AeQ:okFn Tryz.prog num Tryz.f107 F.HO=true:=by kernel_rfl
theorem AeO:okFn Tryz.prog num Tryz.f112 F.KZ=true:=by kernel_rfl
theorem AeK:okFn Tryz.prog num Tryz.f123 F.KW=true:=by kernel_rfl
theorem AeP:okFn Tryz.prog num Tryz.f124 F.HD=true:=by kernel_rfl
theorem AeS:okFn Tryz.prog num Tryz.f122 F.K0=true:=by kernel_rfl
theorem AeM:okFn Tryz.prog num Tryz.f105 F.DH=true:=by kernel_rfl
theorem AeN:okFn Tryz.prog num Tryz.f104 F.KY=true:=by kernel_rfl
theorem Ae2:okFn Tryz.prog num Tryz.f87 F.LA=true:=by kernel_rfl
theorem AeZ:okFn Tryz.prog num Tryz.f51 F.K7=true:=by kernel_rfl
theorem Ae0:okFn Tryz.prog num Tryz.f80 F.K8=true:=by kernel_rfl
theorem AeY:okFn Tryz.prog num Tryz.f57 F.K6=true:=by kernel_rfl
theorem AeT:okFn Tryz.prog num Tryz.f85 F.K1=true:=by kernel_rfl
theorem Ae1:okFn Tryz.prog num Tryz.f113 F.K9=true:=by kernel_rfl
theorem AeU:okFn Tryz.prog num Tryz.f89 F.K2=true:=by kernel_rfl
theorem AeX:okFn Tryz.prog num Tryz.f86 F.K5=true:=by kernel_rfl
theorem AeV:okFn Tryz.prog num Tryz.f82 F.K3=true:=by kernel_rfl
theorem AeW:okFn Tryz.prog num Tryz.f81 F.K4=true:=by kernel_rfl
theorem Aff:okFn Tryz.prog num Tryz.f44 F.HE=true:=by kernel_rfl
theorem Afe:okFn Tryz.prog num Tryz.f43 F.H9=true:=by kernel_rfl
theorem Afd:okFn Tryz.prog num Tryz.f14 F.LL=true:=by kernel_rfl
theorem Ae9:okFn Tryz.prog num Tryz.f19 F.LH=true:=by kernel_rfl
theorem Ae6:okFn Tryz.prog num Tryz.f20 F.LE=true:=by kernel_rfl
theorem Ae3:okFn Tryz.prog num Tryz.f48 F.LB=true:=by kernel_rfl
theorem Ae4:okFn Tryz.prog num Tryz.f59 F.LC=true:=by kernel_rfl
theorem Ae7:okFn Tryz.prog num Tryz.f49 F.LF=true:=by kernel_rfl
theorem Afn:okFn Tryz.prog num Tryz.f58 F.LR=true:=by kernel_rfl
theorem Aea:okFn Tryz.prog num Tryz.f27 F.J4=true:=by kernel_rfl
theorem Aef:okFn Tryz.prog num Tryz.f60 F.HA=true:=by kernel_rfl
theorem Aec:okFn Tryz.prog num Tryz.f30 F.J6=true:=by kernel_rfl
theorem Ad9:okFn Tryz.prog num Tryz.f61 F.J3=true:=by kernel_rfl
theorem Ad8:okFn Tryz.prog num Tryz.f25 F.J2=true:=by kernel_rfl
theorem Afq:okFn Tryz.prog num Tryz.f42 F.LU=true:=by kernel_rfl
theorem Afo:okFn Tryz.prog num Tryz.f50 F.LS=true:=by kernel_rfl
theorem Afr:okFn Tryz.prog num Tryz.f17 F.LV=true:=by kernel_rfl
theorem Aee:okFn Tryz.prog num Tryz.f29 F.J8=true:=by kernel_rfl
theorem AeC:okFn Tryz.prog num Tryz.f88 F.KR=true:=by kernel_rfl
theorem AeA:okFn Tryz.prog num Tryz.f56 F.KP=true:=by kernel_rfl
theorem Aev:okFn Tryz.prog num Tryz.f34 F.KL=true:=by kernel_rfl
theorem Aen:okFn Tryz.prog num Tryz.f75 F.E5=true:=by kernel_rfl
theorem Ael:okFn Tryz.prog num Tryz.f37 F.KD=true:=by kernel_rfl
theorem Ae8:okFn Tryz.prog num Tryz.f22 F.LG=true:=by kernel_rfl
theorem Afc:okFn Tryz.prog num Tryz.f110 F.LK=true:=by kernel_rfl
theorem Ae5:okFn Tryz.prog num Tryz.f125 F.LD=true:=by kernel_rfl
theorem Afb:okFn Tryz.prog num Tryz.f108 F.LJ=true:=by kernel_rfl
theorem Aed:okFn Tryz.prog num Tryz.f31 F.J7=true:=by kernel_rfl
theorem Aeb:okFn Tryz.prog num Tryz.f10 F.J5=true:=by kernel_rfl
theorem Aeg:okFn Tryz.prog num Tryz.f35 F.J9=true:=by kernel_rfl
theorem Aek:okFn Tryz.prog num Tryz.f36 F.KC=true:=by kernel_rfl
theorem AdG:okFn Tryz.prog num Tryz.f63 F.JH=true:=by kernel_rfl
theorem Aet:okFn Tryz.prog num Tryz.f26 F.H5=true:=by kernel_rfl
theorem Aex:okFn Tryz.prog num Tryz.f55 F.KM=true:=by kernel_rfl
theorem Aeh:okFn Tryz.prog num Tryz.f76 F.KA=true:=by kernel_rfl
theorem Afw:okFn Tryz.prog num Tryz.f38 F.L0=true:=by kernel_rfl
theorem AfB:okFn Tryz.prog num Tryz.f52 F.L4=true:=by kernel_rfl
theorem AfA:okFn Tryz.prog num Tryz.f53 F.L3=true:=by kernel_rfl
theorem AfD:okFn Tryz.prog num Tryz.f54 F.L6=true:=by kernel_rfl
theorem Afy:okFn Tryz.prog num Tryz.f21 F.IH=true:=by kernel_rfl
theorem Afu:okFn Tryz.prog num Tryz.f18 F.LY=true:=by kernel_rfl
theorem Aer:okFn Tryz.prog num Tryz.f120 F.KJ=true:=by kernel_rfl
theorem Aeo:okFn Tryz.prog num Tryz.f121 F.KF=true:=by kernel_rfl
theorem Aem:okFn Tryz.prog num Tryz.f102 F.KE=true:=by kernel_rfl
theorem Aep:okFn Tryz.prog num Tryz.f77 F.KG=true:=by kernel_rfl
theorem Aeq:okFn Tryz.prog num Tryz.f78 F.KH=true:=by kernel_rfl
theorem Aei:okFn Tryz.prog num Tryz.f40 F.H3=true:=by kernel_rfl
theorem Aej:okFn Tryz.prog num Tryz.f39 F.KB=true:=by kernel_rfl
theorem Afj:okFn Tryz.prog num Tryz.f45 F.LO=true:=by kernel_rfl
theorem Afg:okFn Tryz.prog num Tryz.f46 F.LM=true:=by kernel_rfl
theorem Afi:okFn Tryz.prog num Tryz.f16 F.LN=true:=by kernel_rfl
theorem Afa:okFn Tryz.prog num Tryz.f109 F.LI=true:=by kernel_rfl
theorem Afl:okFn Tryz.prog num Tryz.f83 F.LQ=true:=by kernel_rfl
theorem Afm:okFn Tryz.prog num Tryz.f84 F.FX=true:=by kernel_rfl
theorem Afk:okFn Tryz.prog num Tryz.f47 F.LP=true:=by kernel_rfl
theorem Afh:okFn Tryz.prog num Tryz.f15 F.IA=true:=by kernel_rfl
theorem AfI:okFn Tryz.prog num Tryz.f5 F.ME=true:=by kernel_rfl
theorem AfE:okFn Tryz.prog num Tryz.f41 F.MA=true:=by kernel_rfl
theorem AfG:okFn Tryz.prog num Tryz.f12 F.MC=true:=by kernel_rfl
theorem AfH:okFn Tryz.prog num Tryz.f4 F.MD=true:=by kernel_rfl
theorem AfF:okFn Tryz.prog num Tryz.f7 F.MB=true:=by kernel_rfl
theorem Afp:okFn Tryz.prog num Tryz.f23 F.LT=true:=by kernel_rfl
theorem AdN:okFn Tryz.prog num Tryz.f8 F.JM=true:=by kernel_rfl
theorem AfC:okFn Tryz.prog num Tryz.f24 F.L5=true:=by kernel_rfl
theorem Afz:okFn Tryz.prog num Tryz.f9 F.L2=true:=by kernel_rfl
theorem Afv:okFn Tryz.prog num Tryz.f11 F.LZ=true:=by kernel_rfl
theorem Aft:okFn Tryz.prog num Tryz.f13 F.LX=true:=by kernel_rfl
theorem Afs:okFn Tryz.prog num Tryz.f6 F.LW=true:=by kernel_rfl
theorem AdM:okFn Tryz.prog num Tryz.f3 F.G7=true:=by kernel_rfl
def lib:List (Nat × AFn):=[(58,F.JA),(59,F.JB),(60,F.I8),(61,F.I9),(62,F.GO),(63,F.JO),(64,F.JN),(65,F.E4),(66,F.JU),(67,F.JQ),(68,F.JP),(69,F.JT),(70,F.JS),(71,F.H1),(72,F.JZ),(73,F.FB),(74,F.JX),(75,F.JR),(76,F.J1),(77,F.G9),(78,F.JY),(79,F.JV),(80,F.JW),(81,F.J0),(82,F.FV),(83,F.C8),(84,F.JL),(85,F.JJ),(86,F.JK),(87,F.JG),(88,F.JI),(89,F.HC),(90,F.KS),(91,F.KT),(92,F.GI),(93,F.H8),(94,F.KU),(95,F.KQ),(96,F.KN),(97,F.KO),(98,F.HB),(99,F.H7),(100,F.H6),(101,F.GJ),(102,F.KX),(103,F.KV),(104,F.HO),(105,F.KZ),(106,F.KW),(107,F.HD),(108,F.K0),(109,F.DH),(110,F.KY),(111,F.LA),(112,F.K7),(113,F.K8),(114,F.K6),(115,F.K1),(116,F.K9),(117,F.K2),(118,F.K5),(119,F.K3),(120,F.K4),(121,F.HE),(122,F.H9),(123,F.LL),(124,F.LH),(125,F.LE),(126,F.LB),(127,F.LC),(128,F.LF),(129,F.LR),(130,F.J4),(131,F.HA),(132,F.J6),(133,F.J3),(134,F.J2),(136,F.LU),(137,F.LS),(138,F.LV),(145,F.J8),(149,F.KR),(150,F.KP),(151,F.KL),(169,F.E5),(170,F.KD),(152,F.LG),(153,F.LK),(154,F.LD),(155,F.LJ),(188,F.J7),(189,F.J5),(191,F.J9),(190,F.KC),(197,F.JH),(198,F.H5),(199,F.KM),(200,F.KA),(201,F.L0),(204,F.L4),(205,F.L3),(206,F.L6),(207,F.IH),(212,F.LY),(256,F.KJ),(257,F.KF),(258,F.KE),(259,F.KG),(273,F.KH),(274,F.H3),(275,F.KB),(239,F.LO),(240,F.LM),(241,F.LN),(276,F.LI),(277,F.LQ),(901,F.FX),(278,F.LP),(279,F.IA),(34,F.ME),(35,F.MA),(141,F.MC),(142,F.MD),(280,F.MB),(167,F.LT),(215,F.JM),(281,F.L5),(282,F.L2),(283,F.LZ),(284,F.LX),(285,F.LW),(286,F.G7)]
def L:Lib:=⟨fun f=>lib.lookup f,num⟩
set_option maxRecDepth 100000 in
theorem AfS:ProgOK Tryz.prog num L:=progOK_of lib (
 List.forall_mem_cons.2 ⟨⟨Tryz.f115,Tryz.func115,AdD,by kernel_rfl⟩,
 List.forall_mem_cons.2 ⟨⟨Tryz.f116,Tryz.func116,AdE,by kernel_rfl⟩,
 List.forall_mem_cons.2 ⟨⟨Tryz.f96,Tryz.func96,AdB,by kernel_rfl⟩,
 List.forall_mem_cons.2 ⟨⟨Tryz.f97,Tryz.func97,AdC,by kernel_rfl⟩,
 List.forall_mem_cons.2 ⟨⟨Tryz.f114,Tryz.func114,Afx,by kernel_rfl⟩,
 List.forall_mem_cons.2 ⟨⟨Tryz.f133,Tryz.func133,AdP,by kernel_rfl⟩,
 List.forall_mem_cons.2 ⟨⟨Tryz.f126,Tryz.func126,AdO,by kernel_rfl⟩,
 List.forall_mem_cons.2 ⟨⟨Tryz.f95,Tryz.func95,AdZ,by kernel_rfl⟩,
 List.forall_mem_cons.2 ⟨⟨Tryz.f92,Tryz.func92,AdW,by kernel_rfl⟩,
 List.forall_mem_cons.2 ⟨⟨Tryz.f70,Tryz.func70,AdR,by kernel_rfl⟩,
 List.forall_mem_cons.2 ⟨⟨Tryz.f93,Tryz.func93,AdQ,by kernel_rfl⟩,
 List.forall_mem_cons.2 ⟨⟨Tryz.f94,Tryz.func94,AdV,by kernel_rfl⟩,
 List.forall_mem_cons.2 ⟨⟨Tryz.f72,Tryz.func72,AdU,by kernel_rfl⟩,
 List.forall_mem_cons.2 ⟨⟨Tryz.f127,Tryz.func127,Ad4,by kernel_rfl⟩,
 List.forall_mem_cons.2 ⟨⟨Tryz.f129,Tryz.func129,Ad5,by kernel_rfl⟩,
 List.forall_mem_cons.2 ⟨⟨Tryz.f128,Tryz.func128,Ad0,by kernel_rfl⟩,
 List.forall_mem_cons.2 ⟨⟨Tryz.f117,Tryz.func117,Ad1,by kernel_rfl⟩,
 List.forall_mem_cons.2 ⟨⟨Tryz.f98,Tryz.func98,AdS,by kernel_rfl⟩,
 List.forall_mem_cons.2 ⟨⟨Tryz.f119,Tryz.func119,Ad7,by kernel_rfl⟩,
 List.forall_mem_cons.2 ⟨⟨Tryz.f134,Tryz.func134,Ad3,by kernel_rfl⟩,
 List.forall_mem_cons.2 ⟨⟨Tryz.f131,Tryz.func131,Ad2,by kernel_rfl⟩,
 List.forall_mem_cons.2 ⟨⟨Tryz.f130,Tryz.func130,AdX,by kernel_rfl⟩,
 List.forall_mem_cons.2 ⟨⟨Tryz.f132,Tryz.func132,AdY,by kernel_rfl⟩,
 List.forall_mem_cons.2 ⟨⟨Tryz.f118,Tryz.func118,Ad6,by kernel_rfl⟩,
 List.forall_mem_cons.2 ⟨⟨Tryz.f100,Tryz.func100,AdT,by kernel_rfl⟩,
 List.forall_mem_cons.2 ⟨⟨Tryz.f91,Tryz.func91,AdL,by kernel_rfl⟩,
 List.forall_mem_cons.2 ⟨⟨Tryz.f99,Tryz.func99,AdK,by kernel_rfl⟩,
 List.forall_mem_cons.2 ⟨⟨Tryz.f67,Tryz.func67,AdI,by kernel_rfl⟩,
 List.forall_mem_cons.2 ⟨⟨Tryz.f90,Tryz.func90,AdJ,by kernel_rfl⟩,
 List.forall_mem_cons.2 ⟨⟨Tryz.f69,Tryz.func69,AdF,by kernel_rfl⟩,
 List.forall_mem_cons.2 ⟨⟨Tryz.f64,Tryz.func64,AdH,by kernel_rfl⟩,
 List.forall_mem_cons.2 ⟨⟨Tryz.f62,Tryz.func62,AeH,by kernel_rfl⟩,
 List.forall_mem_cons.2 ⟨⟨Tryz.f101,Tryz.func101,AeD,by kernel_rfl⟩,
 List.forall_mem_cons.2 ⟨⟨Tryz.f65,Tryz.func65,AeE,by kernel_rfl⟩,
 List.forall_mem_cons.2 ⟨⟨Tryz.f66,Tryz.func66,AeI,by kernel_rfl⟩,
 List.forall_mem_cons.2 ⟨⟨Tryz.f73,Tryz.func73,AeG,by kernel_rfl⟩,
 List.forall_mem_cons.2 ⟨⟨Tryz.f71,Tryz.func71,AeF,by kernel_rfl⟩,
 List.forall_mem_cons.2 ⟨⟨Tryz.f74,Tryz.func74,AeB,by kernel_rfl⟩,
 List.forall_mem_cons.2 ⟨⟨Tryz.f28,Tryz.func28,Aey,by kernel_rfl⟩,
 List.forall_mem_cons.2 ⟨⟨Tryz.f68,Tryz.func68,Aez,by kernel_rfl⟩,
 List.forall_mem_cons.2 ⟨⟨Tryz.f32,Tryz.func32,Aes,by kernel_rfl⟩,
 List.forall_mem_cons.2 ⟨⟨Tryz.f33,Tryz.func33,Aew,by kernel_rfl⟩,
 List.forall_mem_cons.2 ⟨⟨Tryz.f103,Tryz.func103,Aeu,by kernel_rfl⟩,
 List.forall_mem_cons.2 ⟨⟨Tryz.f79,Tryz.func79,AeR,by kernel_rfl⟩,
 List.forall_mem_cons.2 ⟨⟨Tryz.f111,Tryz.func111,AeL,by kernel_rfl⟩,
 List.forall_mem_cons.2 ⟨⟨Tryz.f106,Tryz.func106,AeJ,by kernel_rfl⟩,
 List.forall_mem_cons.2 ⟨⟨Tryz.f107,Tryz.func107,AeQ,by kernel_rfl⟩,
 List.forall_mem_cons.2 ⟨⟨Tryz.f112,Tryz.func112,AeO,by kernel_rfl⟩,
 List.forall_mem_cons.2 ⟨⟨Tryz.f123,Tryz.func123,AeK,by kernel_rfl⟩,
 List.forall_mem_cons.2 ⟨⟨Tryz.f124,Tryz.func124,AeP,by kernel_rfl⟩,
 List.forall_mem_cons.2 ⟨⟨Tryz.f122,Tryz.func122,AeS,by kernel_rfl⟩,
 List.forall_mem_cons.2 ⟨⟨Tryz.f105,Tryz.func105,AeM,by kernel_rfl⟩,
 List.forall_mem_cons.2 ⟨⟨Tryz.f104,Tryz.func104,AeN,by kernel_rfl⟩,
 List.forall_mem_cons.2 ⟨⟨Tryz.f87,Tryz.func87,Ae2,by kernel_rfl⟩,
 List.forall_mem_cons.2 ⟨⟨Tryz.f51,Tryz.func51,AeZ,by kernel_rfl⟩,
 List.forall_mem_cons.2 ⟨⟨Tryz.f80,Tryz.func80,Ae0,by kernel_rfl⟩,
 List.forall_mem_cons.2 ⟨⟨Tryz.f57,Tryz.func57,AeY,by kernel_rfl⟩,
 List.forall_mem_cons.2 ⟨⟨Tryz.f85,Tryz.func85,AeT,by kernel_rfl⟩,
 List.forall_mem_cons.2 ⟨⟨Tryz.f113,Tryz.func113,Ae1,by kernel_rfl⟩,
 List.forall_mem_cons.2 ⟨⟨Tryz.f89,Tryz.func89,AeU,by kernel_rfl⟩,
 List.forall_mem_cons.2 ⟨⟨Tryz.f86,Tryz.func86,AeX,by kernel_rfl⟩,
 List.forall_mem_cons.2 ⟨⟨Tryz.f82,Tryz.func82,AeV,by kernel_rfl⟩,
 List.forall_mem_cons.2 ⟨⟨Tryz.f81,Tryz.func81,AeW,by kernel_rfl⟩,
 List.forall_mem_cons.2 ⟨⟨Tryz.f44,Tryz.func44,Aff,by kernel_rfl⟩,
 List.forall_mem_cons.2 ⟨⟨Tryz.f43,Tryz.func43,Afe,by kernel_rfl⟩,
 List.forall_mem_cons.2 ⟨⟨Tryz.f14,Tryz.func14,Afd,by kernel_rfl⟩,
 List.forall_mem_cons.2 ⟨⟨Tryz.f19,Tryz.func19,Ae9,by kernel_rfl⟩,
 List.forall_mem_cons.2 ⟨⟨Tryz.f20,Tryz.func20,Ae6,by kernel_rfl⟩,
 List.forall_mem_cons.2 ⟨⟨Tryz.f48,Tryz.func48,Ae3,by kernel_rfl⟩,
 List.forall_mem_cons.2 ⟨⟨Tryz.f59,Tryz.func59,Ae4,by kernel_rfl⟩,
 List.forall_mem_cons.2 ⟨⟨Tryz.f49,Tryz.func49,Ae7,by kernel_rfl⟩,
 List.forall_mem_cons.2 ⟨⟨Tryz.f58,Tryz.func58,Afn,by kernel_rfl⟩,
 List.forall_mem_cons.2 ⟨⟨Tryz.f27,Tryz.func27,Aea,by kernel_rfl⟩,
 List.forall_mem_cons.2 ⟨⟨Tryz.f60,Tryz.func60,Aef,by kernel_rfl⟩,
 List.forall_mem_cons.2 ⟨⟨Tryz.f30,Tryz.func30,Aec,by kernel_rfl⟩,
 List.forall_mem_cons.2 ⟨⟨Tryz.f61,Tryz.func61,Ad9,by kernel_rfl⟩,
 List.forall_mem_cons.2 ⟨⟨Tryz.f25,Tryz.func25,Ad8,by kernel_rfl⟩,
 List.forall_mem_cons.2 ⟨⟨Tryz.f42,Tryz.func42,Afq,by kernel_rfl⟩,
 List.forall_mem_cons.2 ⟨⟨Tryz.f50,Tryz.func50,Afo,by kernel_rfl⟩,
 List.forall_mem_cons.2 ⟨⟨Tryz.f17,Tryz.func17,Afr,by kernel_rfl⟩,
 List.forall_mem_cons.2 ⟨⟨Tryz.f29,Tryz.func29,Aee,by kernel_rfl⟩,
 List.forall_mem_cons.2 ⟨⟨Tryz.f88,Tryz.func88,AeC,by kernel_rfl⟩,
 List.forall_mem_cons.2 ⟨⟨Tryz.f56,Tryz.func56,AeA,by kernel_rfl⟩,
 List.forall_mem_cons.2 ⟨⟨Tryz.f34,Tryz.func34,Aev,by kernel_rfl⟩,
 List.forall_mem_cons.2 ⟨⟨Tryz.f75,Tryz.func75,Aen,by kernel_rfl⟩,
 List.forall_mem_cons.2 ⟨⟨Tryz.f37,Tryz.func37,Ael,by kernel_rfl⟩,
 List.forall_mem_cons.2 ⟨⟨Tryz.f22,Tryz.func22,Ae8,by kernel_rfl⟩,
 List.forall_mem_cons.2 ⟨⟨Tryz.f110,Tryz.func110,Afc,by kernel_rfl⟩,
 List.forall_mem_cons.2 ⟨⟨Tryz.f125,Tryz.func125,Ae5,by kernel_rfl⟩,
 List.forall_mem_cons.2 ⟨⟨Tryz.f108,Tryz.func108,Afb,by kernel_rfl⟩,
 List.forall_mem_cons.2 ⟨⟨Tryz.f31,Tryz.func31,Aed,by kernel_rfl⟩,
 List.forall_mem_cons.2 ⟨⟨Tryz.f10,Tryz.func10,Aeb,by kernel_rfl⟩,
 List.forall_mem_cons.2 ⟨⟨Tryz.f35,Tryz.func35,Aeg,by kernel_rfl⟩,
 List.forall_mem_cons.2 ⟨⟨Tryz.f36,Tryz.func36,Aek,by kernel_rfl⟩,
 List.forall_mem_cons.2 ⟨⟨Tryz.f63,Tryz.func63,AdG,by kernel_rfl⟩,
 List.forall_mem_cons.2 ⟨⟨Tryz.f26,Tryz.func26,Aet,by kernel_rfl⟩,
 List.forall_mem_cons.2 ⟨⟨Tryz.f55,Tryz.func55,Aex,by kernel_rfl⟩,
 List.forall_mem_cons.2 ⟨⟨Tryz.f76,Tryz.func76,Aeh,by kernel_rfl⟩,
 List.forall_mem_cons.2 ⟨⟨Tryz.f38,Tryz.func38,Afw,by kernel_rfl⟩,
 List.forall_mem_cons.2 ⟨⟨Tryz.f52,Tryz.func52,AfB,by kernel_rfl⟩,
 List.forall_mem_cons.2 ⟨⟨Tryz.f53,Tryz.func53,AfA,by kernel_rfl⟩,
 List.forall_mem_cons.2 ⟨⟨Tryz.f54,Tryz.func54,AfD,by kernel_rfl⟩,
 List.forall_mem_cons.2 ⟨⟨Tryz.f21,Tryz.func21,Afy,by kernel_rfl⟩,
 List.forall_mem_cons.2 ⟨⟨Tryz.f18,Tryz.func18,Afu,by kernel_rfl⟩,
 List.forall_mem_cons.2 ⟨⟨Tryz.f120,Tryz.func120,Aer,by kernel_rfl⟩,
 List.forall_mem_cons.2 ⟨⟨Tryz.f121,Tryz.func121,Aeo,by kernel_rfl⟩,
 List.forall_mem_cons.2 ⟨⟨Tryz.f102,Tryz.func102,Aem,by kernel_rfl⟩,
 List.forall_mem_cons.2 ⟨⟨Tryz.f77,Tryz.func77,Aep,by kernel_rfl⟩,
 List.forall_mem_cons.2 ⟨⟨Tryz.f78,Tryz.func78,Aeq,by kernel_rfl⟩,
 List.forall_mem_cons.2 ⟨⟨Tryz.f40,Tryz.func40,Aei,by kernel_rfl⟩,
 List.forall_mem_cons.2 ⟨⟨Tryz.f39,Tryz.func39,Aej,by kernel_rfl⟩,
 List.forall_mem_cons.2 ⟨⟨Tryz.f45,Tryz.func45,Afj,by kernel_rfl⟩,
 List.forall_mem_cons.2 ⟨⟨Tryz.f46,Tryz.func46,Afg,by kernel_rfl⟩,
 List.forall_mem_cons.2 ⟨⟨Tryz.f16,Tryz.func16,Afi,by kernel_rfl⟩,
 List.forall_mem_cons.2 ⟨⟨Tryz.f109,Tryz.func109,Afa,by kernel_rfl⟩,
 List.forall_mem_cons.2 ⟨⟨Tryz.f83,Tryz.func83,Afl,by kernel_rfl⟩,
 List.forall_mem_cons.2 ⟨⟨Tryz.f84,Tryz.func84,Afm,by kernel_rfl⟩,
 List.forall_mem_cons.2 ⟨⟨Tryz.f47,Tryz.func47,Afk,by kernel_rfl⟩,
 List.forall_mem_cons.2 ⟨⟨Tryz.f15,Tryz.func15,Afh,by kernel_rfl⟩,
 List.forall_mem_cons.2 ⟨⟨Tryz.f5,Tryz.func5,AfI,by kernel_rfl⟩,
 List.forall_mem_cons.2 ⟨⟨Tryz.f41,Tryz.func41,AfE,by kernel_rfl⟩,
 List.forall_mem_cons.2 ⟨⟨Tryz.f12,Tryz.func12,AfG,by kernel_rfl⟩,
 List.forall_mem_cons.2 ⟨⟨Tryz.f4,Tryz.func4,AfH,by kernel_rfl⟩,
 List.forall_mem_cons.2 ⟨⟨Tryz.f7,Tryz.func7,AfF,by kernel_rfl⟩,
 List.forall_mem_cons.2 ⟨⟨Tryz.f23,Tryz.func23,Afp,by kernel_rfl⟩,
 List.forall_mem_cons.2 ⟨⟨Tryz.f8,Tryz.func8,AdN,by kernel_rfl⟩,
 List.forall_mem_cons.2 ⟨⟨Tryz.f24,Tryz.func24,AfC,by kernel_rfl⟩,
 List.forall_mem_cons.2 ⟨⟨Tryz.f9,Tryz.func9,Afz,by kernel_rfl⟩,
 List.forall_mem_cons.2 ⟨⟨Tryz.f11,Tryz.func11,Afv,by kernel_rfl⟩,
 List.forall_mem_cons.2 ⟨⟨Tryz.f13,Tryz.func13,Aft,by kernel_rfl⟩,
 List.forall_mem_cons.2 ⟨⟨Tryz.f6,Tryz.func6,Afs,by kernel_rfl⟩,
 List.forall_mem_cons.2 ⟨⟨Tryz.f3,Tryz.func3,AdM,by kernel_rfl⟩,
 List.forall_mem_nil _⟩⟩⟩⟩⟩⟩⟩⟩⟩⟩⟩⟩⟩⟩⟩⟩⟩⟩⟩⟩⟩⟩⟩⟩⟩⟩⟩⟩⟩⟩⟩⟩⟩⟩⟩⟩⟩⟩⟩⟩⟩⟩⟩⟩⟩⟩⟩⟩⟩⟩⟩⟩⟩⟩⟩⟩⟩⟩⟩⟩⟩⟩⟩⟩⟩⟩⟩⟩⟩⟩⟩⟩⟩⟩⟩⟩⟩⟩⟩⟩⟩⟩⟩⟩⟩⟩⟩⟩⟩⟩⟩⟩⟩⟩⟩⟩⟩⟩⟩⟩⟩⟩⟩⟩⟩⟩⟩⟩⟩⟩⟩⟩⟩⟩⟩⟩⟩⟩⟩⟩⟩⟩⟩⟩⟩⟩⟩⟩⟩⟩⟩⟩)
theorem mD:F.FixedLib L:={  }
theorem Ab6:F.NatGLib L:={ JA:=rfl,JB:=rfl,I8:=rfl,I9:=rfl,GO:=rfl,JO:=rfl,JN:=rfl,E4:=rfl,JU:=rfl,JQ:=rfl,JP:=rfl,JT:=rfl,JS:=rfl,H1:=rfl,JZ:=rfl,FB:=rfl,JX:=rfl,JR:=rfl,J1:=rfl,G9:=rfl,JY:=rfl,JV:=rfl,JW:=rfl,J0:=rfl,FV:=rfl }
theorem aM:F.RatGLib L:={ Ab6 with C8:=rfl,JL:=rfl,JJ:=rfl,JK:=rfl,JG:=rfl,JI:=rfl,HC:=rfl,KS:=rfl,KT:=rfl,GI:=rfl,H8:=rfl,KU:=rfl,KQ:=rfl,KN:=rfl,KO:=rfl,HB:=rfl,H7:=rfl,H6:=rfl }
theorem aO:F.RefGLib L:={ GJ:=rfl,KX:=rfl,KV:=rfl,HO:=rfl,KZ:=rfl,KW:=rfl,HD:=rfl,K0:=rfl,DH:=rfl,KY:=rfl,LA:=rfl,K7:=rfl,K8:=rfl,K6:=rfl,K1:=rfl,K9:=rfl,K2:=rfl,K5:=rfl,K3:=rfl,K4:=rfl,HE:=rfl,H9:=rfl,LL:=rfl,LH:=rfl,LE:=rfl,LB:=rfl,LC:=rfl,LF:=rfl,LR:=rfl }
theorem Acb:F.SysGLib L:={ aM,aO with J4:=rfl,HA:=rfl,J6:=rfl,J3:=rfl,J2:=rfl,LU:=rfl,LS:=rfl,LV:=rfl }
theorem mF:F.NetLib L:={ mD with  }
theorem mE:F.LinGLib L:={ Acb,mF with J8:=rfl }
theorem aN:F.RatHLib L:={ aM with KR:=rfl,KP:=rfl,KL:=rfl }
theorem mG:F.PolyGLib L:={ aM with E5:=rfl,KD:=rfl }
theorem aP:F.RefHLib L:={ aO with LG:=rfl,LK:=rfl,LD:=rfl,LJ:=rfl }
theorem mH:F.R05GLib L:={ aP with  }
theorem Acc:F.TrGLib L:={ mE,aN,mG,mH with J7:=rfl,J5:=rfl,J9:=rfl,KC:=rfl }
theorem aQ:F.StGLib L:={ Acc with JH:=rfl,H5:=rfl,KM:=rfl,KA:=rfl,L0:=rfl,L4:=rfl,L3:=rfl,L6:=rfl,IH:=rfl,LY:=rfl }
theorem Ab7:F.PolELib L:={ aQ with KJ:=rfl,KF:=rfl,KE:=rfl,KG:=rfl }
theorem Ab8:F.PolMLib L:={ Ab7 with KH:=rfl,H3:=rfl,KB:=rfl }
theorem Ab9:F.R09GLib L:={ aP with LO:=rfl,LM:=rfl,LN:=rfl }
theorem Ab3:F.InvGLib L:={ Ab9 with LI:=rfl,LQ:=rfl,FX:=rfl,LP:=rfl,IA:=rfl }
theorem mJ:F.WorldLib L:={ mD with ME:=rfl,MA:=rfl }
theorem mI:F.RatsGLib L:={ mJ,aO with MC:=rfl,MD:=rfl }
theorem Acd:F.WMatLib L:={ mI with MB:=rfl }
theorem Ab5:F.ModGLib L:={ mE,aN,aP with LT:=rfl }
theorem Aca:F.RunGLib L:={ mF,mJ with  }
theorem Ab1:F.DirectGLib L:={ Aca with  }
theorem Ab0:F.BldGLib L:={ Ab1,aN,mG,mH with  }
theorem Ab4:F.LawFLib L:={ aQ,Ab5,Ab0,mI with JM:=rfl }
theorem Ab2:F.EquGLib L:={ Ab8,Ab3,Acd,aQ,Ab4 with L5:=rfl,L2:=rfl,LZ:=rfl,LX:=rfl,LW:=rfl,G7:=rfl }
end Go.Proofs.YtpefogchdoedbaaGreat
