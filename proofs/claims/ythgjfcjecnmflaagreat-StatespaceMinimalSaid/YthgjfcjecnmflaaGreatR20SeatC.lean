/-
  The functions of the groups are the program's own: checked by the kernel, function by function.
-/
import Derived.Test.YthgjfcjecnmflaaGreatProg
import Derived.KernelRfl
import Derived.Test.YthgjfcjecnmflaaGreatB5
import Derived.Test.YthgjfcjecnmflaaGreatB1
import Derived.Test.YthgjfcjecnmflaaGreatB2
set_option linter.unusedSimpArgs false
set_option linter.unusedVariables false
set_option linter.unnecessarySimpa false
namespace Go.Proofs.YthgjfcjecnmflaaGreat
open Go.e8
def num:Nat->Nat
 | 58=>192
 | 59=>193
 | 60=>176
 | 61=>177
 | 62=>181
 | 63=>205
 | 64=>196
 | 65=>150
 | 66=>149
 | 67=>138
 | 68=>174
 | 69=>175
 | 70=>103
 | 71=>197
 | 72=>199
 | 73=>198
 | 74=>182
 | 75=>151
 | 76=>184
 | 77=>206
 | 78=>201
 | 79=>200
 | 80=>202
 | 81=>183
 | 82=>153
 | 83=>148
 | 84=>152
 | 85=>99
 | 86=>147
 | 87=>137
 | 88=>102
 | 89=>101
 | 90=>154
 | 91=>139
 | 92=>98
 | 93=>141
 | 94=>104
 | 95=>73
 | 96=>42
 | 97=>97
 | 98=>82
 | 99=>44
 | 100=>133
 | 101=>125
 | 102=>178
 | 103=>164
 | 104=>165
 | 105=>126
 | 106=>187
 | 107=>188
 | 108=>186
 | 109=>163
 | 110=>162
 | 111=>124
 | 112=>61
 | 113=>121
 | 114=>120
 | 115=>140
 | 116=>173
 | 117=>134
 | 118=>64
 | 119=>123
 | 120=>122
 | 121=>60
 | 122=>63
 | 123=>53
 | 124=>22
 | 125=>18
 | 126=>83
 | 127=>75
 | 128=>21
 | 129=>74
 | 130=>84
 | 136=>80
 | 137=>119
 | 138=>56
 | 149=>100
 | 150=>45
 | 169=>142
 | 152=>58
 | 153=>115
 | 154=>159
 | 155=>94
 | 171=>36
 | 194=>113
 | 197=>146
 | 198=>96
 | 199=>43
 | 200=>95
 | 201=>38
 | 202=>13
 | 204=>39
 | 205=>40
 | 206=>41
 | 207=>7
 | 212=>57
 | 34=>14
 | 35=>62
 | 141=>37
 | 167=>27
 | 214=>6
 | 215=>12
 | 239=>116
 | 240=>117
 | 241=>55
 | 276=>114
 | 277=>160
 | 901=>161
 | 278=>118
 | 279=>54
 | 280=>11
 | 281=>46
 | 284=>52
 | 285=>10
 | 229=>106
 | 231=>155
 | 900=>185
 | 233=>158
 | 246=>107
 | 247=>48
 | 248=>108
 | 249=>112
 | 288=>110
 | 289=>157
 | 290=>156
 | 291=>109
 | 369=>135
 | 370=>78
 | 393=>50
 | 394=>51
 | 395=>9
 | 396=>105
 | 397=>47
 | 398=>111
 | 399=>49
 | 400=>8
 | 401=>3
 | _=>0
theorem ok {p:Nat × AFn->Prop} {a:Nat × AFn} {l:List (Nat × AFn)} (h:p a) (t : ∀ x∈l,p x) : ∀ x∈a::l,p x:=List.forall_mem_cons.2 ⟨h,t⟩
theorem okk {p : Nat × AFn} {l : List (Nat × AFn)} {fn : Func} (hf : Tryz.prog.funcs[num p.1]? = some fn) (t : ∀ x ∈ l, OkF Tryz.prog num x) (h1 : okFn Tryz.prog num fn p.2 = true := by kernel_rfl) (h2 : (fn.name == "runtime.NumGoroutine") = false := by kernel_rfl) : ∀ x ∈ p :: l, OkF Tryz.prog num x := ok ⟨fn, hf, h1, h2⟩ t
def uM:List (Nat × AFn):=[(58,F.KD),(59,F.KE),(60,F.KB),(61,F.KC),(62,F.G1),(63,F.K5),(64,F.K4),(65,F.FD),(66,F.LD),(67,F.K9),(68,F.K8),(69,F.LC),(70,F.LB),(71,F.I0),(72,F.LI),(73,F.FI),(74,F.LG),(75,F.LA),(76,F.LK),(77,F.HQ),(78,F.LH),(79,F.LE),(80,F.LF),(81,F.LJ),(82,F.F6),(83,F.CY),(84,F.KQ),(85,F.KO),(86,F.KP),(87,F.KJ)]
set_option maxRecDepth 100000 in
theorem Agz : ∀ x∈uM,OkF Tryz.prog num x :=
 okk Tryz.func192 (
 okk Tryz.func193 (
 okk Tryz.func176 (
 okk Tryz.func177 (
 okk Tryz.func181 (
 okk Tryz.func205 (
 okk Tryz.func196 (
 okk Tryz.func150 (
 okk Tryz.func149 (
 okk Tryz.func138 (
 okk Tryz.func174 (
 okk Tryz.func175 (
 okk Tryz.func103 (
 okk Tryz.func197 (
 okk Tryz.func199 (
 okk Tryz.func198 (
 okk Tryz.func182 (
 okk Tryz.func151 (
 okk Tryz.func184 (
 okk Tryz.func206 (
 okk Tryz.func201 (
 okk Tryz.func200 (
 okk Tryz.func202 (
 okk Tryz.func183 (
 okk Tryz.func153 (
 okk Tryz.func148 (
 okk Tryz.func152 (
 okk Tryz.func99 (
 okk Tryz.func147 (
 okk Tryz.func137 (
 List.forall_mem_nil _))))))))))))))))))))))))))))))
def uN:List (Nat × AFn):=[(88,F.KM),(89,F.HW),(90,F.LZ),(91,F.L0),(92,F.GY),(93,F.L2),(94,F.L1),(95,F.LX),(96,F.LU),(97,F.LV),(98,F.HV),(99,F.I2),(100,F.LS),(101,F.GZ),(102,F.L5),(103,F.L3),(104,F.II),(105,F.L7),(106,F.L4),(107,F.HX),(108,F.L8),(109,F.DB),(110,F.L6),(111,F.MI),(112,F.MF),(113,F.MG),(114,F.ME),(115,F.L9),(116,F.MH),(117,F.MA)]
set_option maxRecDepth 100000 in
theorem AgA : ∀ x∈uN,OkF Tryz.prog num x :=
 okk Tryz.func102 (
 okk Tryz.func101 (
 okk Tryz.func154 (
 okk Tryz.func139 (
 okk Tryz.func98 (
 okk Tryz.func141 (
 okk Tryz.func104 (
 okk Tryz.func73 (
 okk Tryz.func42 (
 okk Tryz.func97 (
 okk Tryz.func82 (
 okk Tryz.func44 (
 okk Tryz.func133 (
 okk Tryz.func125 (
 okk Tryz.func178 (
 okk Tryz.func164 (
 okk Tryz.func165 (
 okk Tryz.func126 (
 okk Tryz.func187 (
 okk Tryz.func188 (
 okk Tryz.func186 (
 okk Tryz.func163 (
 okk Tryz.func162 (
 okk Tryz.func124 (
 okk Tryz.func61 (
 okk Tryz.func121 (
 okk Tryz.func120 (
 okk Tryz.func140 (
 okk Tryz.func173 (
 okk Tryz.func134 (
 List.forall_mem_nil _))))))))))))))))))))))))))))))
def uO:List (Nat × AFn):=[(118,F.MD),(119,F.MB),(120,F.MC),(121,F.HY),(122,F.I5),(123,F.MS),(124,F.MP),(125,F.MM),(126,F.MJ),(127,F.MK),(128,F.MN),(129,F.M5),(130,F.LL),(136,F.M8),(137,F.M6),(138,F.M9),(149,F.LY),(150,F.LW),(169,F.LQ),(152,F.MO),(153,F.MR),(154,F.ML),(155,F.I3),(171,F.I7),(194,F.MW),(197,F.KL),(198,F.I1),(199,F.LT),(200,F.LP),(201,F.ND)]
set_option maxRecDepth 100000 in
theorem AgB : ∀ x∈uO,OkF Tryz.prog num x :=
 okk Tryz.func64 (
 okk Tryz.func123 (
 okk Tryz.func122 (
 okk Tryz.func60 (
 okk Tryz.func63 (
 okk Tryz.func53 (
 okk Tryz.func22 (
 okk Tryz.func18 (
 okk Tryz.func83 (
 okk Tryz.func75 (
 okk Tryz.func21 (
 okk Tryz.func74 (
 okk Tryz.func84 (
 okk Tryz.func80 (
 okk Tryz.func119 (
 okk Tryz.func56 (
 okk Tryz.func100 (
 okk Tryz.func45 (
 okk Tryz.func142 (
 okk Tryz.func58 (
 okk Tryz.func115 (
 okk Tryz.func159 (
 okk Tryz.func94 (
 okk Tryz.func36 (
 okk Tryz.func113 (
 okk Tryz.func146 (
 okk Tryz.func96 (
 okk Tryz.func43 (
 okk Tryz.func95 (
 okk Tryz.func38 (
 List.forall_mem_nil _))))))))))))))))))))))))))))))
def uP:List (Nat × AFn):=[(202,F.MT),(204,F.NL),(205,F.NI),(206,F.NV),(207,F.JC),(212,F.NC),(34,F.N7),(35,F.N3),(141,F.N6),(167,F.M7),(214,F.KR),(215,F.KS),(239,F.MZ),(240,F.MX),(241,F.MY),(276,F.MQ),(277,F.M4),(901,F.F8),(278,F.M3),(279,F.I8),(280,F.N4),(281,F.NT),(284,F.NB),(285,F.NA),(229,F.KX),(231,F.GI),(900,F.KY),(233,F.JW),(246,F.KZ),(247,F.KW)]
set_option maxRecDepth 100000 in
theorem AgS : ∀ x∈uP,OkF Tryz.prog num x :=
 okk Tryz.func13 (
 okk Tryz.func39 (
 okk Tryz.func40 (
 okk Tryz.func41 (
 okk Tryz.func7 (
 okk Tryz.func57 (
 okk Tryz.func14 (
 okk Tryz.func62 (
 okk Tryz.func37 (
 okk Tryz.func27 (
 okk Tryz.func6 (
 okk Tryz.func12 (
 okk Tryz.func116 (
 okk Tryz.func117 (
 okk Tryz.func55 (
 okk Tryz.func114 (
 okk Tryz.func160 (
 okk Tryz.func161 (
 okk Tryz.func118 (
 okk Tryz.func54 (
 okk Tryz.func11 (
 okk Tryz.func46 (
 okk Tryz.func52 (
 okk Tryz.func10 (
 okk Tryz.func106 (
 okk Tryz.func155 (
 okk Tryz.func185 (
 okk Tryz.func158 (
 okk Tryz.func107 (
 okk Tryz.func48 (
 List.forall_mem_nil _))))))))))))))))))))))))))))))
def uQ:List (Nat × AFn):=[(248,F.KV),(249,F.KU),(288,F.H6),(289,F.NK),(290,F.NP),(291,F.NJ),(369,F.NQ),(370,F.NU),(393,F.I6),(394,F.MU),(395,F.MV),(396,F.NN),(397,F.NR),(398,F.NM),(399,F.H5),(400,F.JD),(401,F.GU)]
set_option maxRecDepth 100000 in
theorem AgT : ∀ x∈uQ,OkF Tryz.prog num x :=
 okk Tryz.func108 (
 okk Tryz.func112 (
 okk Tryz.func110 (
 okk Tryz.func157 (
 okk Tryz.func156 (
 okk Tryz.func109 (
 okk Tryz.func135 (
 okk Tryz.func78 (
 okk Tryz.func50 (
 okk Tryz.func51 (
 okk Tryz.func9 (
 okk Tryz.func105 (
 okk Tryz.func47 (
 okk Tryz.func111 (
 okk Tryz.func49 (
 okk Tryz.func8 (
 okk Tryz.func3 (
 List.forall_mem_nil _)))))))))))))))))
def Ph:List (Nat × AFn):=uM++(uN++(uO++(uP++(uQ))))
def L:Lib:=⟨λ f=>Ph.lookup f,num⟩
theorem Ag1:ProgOK Tryz.prog num L:=Ag2 Ph (List.forall_mem_append.2 ⟨Agz,(List.forall_mem_append.2 ⟨AgA,(List.forall_mem_append.2 ⟨AgB,(List.forall_mem_append.2 ⟨AgS,AgT⟩)⟩)⟩)⟩)
theorem Afb:F.e5 L:={ KD:=rfl,KE:=rfl,KB:=rfl,KC:=rfl,G1:=rfl,K5:=rfl,K4:=rfl,FD:=rfl,LD:=rfl,K9:=rfl,K8:=rfl,LC:=rfl,LB:=rfl,I0:=rfl,LI:=rfl,FI:=rfl,LG:=rfl,LA:=rfl,LK:=rfl,HQ:=rfl,LH:=rfl,LE:=rfl,LF:=rfl,LJ:=rfl,F6:=rfl }
theorem iX:F.b8 L:={ Afb with CY:=rfl,KQ:=rfl,KO:=rfl,KP:=rfl,KJ:=rfl,KM:=rfl,HW:=rfl,LZ:=rfl,L0:=rfl,GY:=rfl,L2:=rfl,L1:=rfl,LX:=rfl,LU:=rfl,LV:=rfl,HV:=rfl,I2:=rfl,LS:=rfl }
theorem iY:F.a7 L:={ GZ:=rfl,L5:=rfl,L3:=rfl,II:=rfl,L7:=rfl,L4:=rfl,HX:=rfl,L8:=rfl,DB:=rfl,L6:=rfl,MI:=rfl,MF:=rfl,MG:=rfl,ME:=rfl,L9:=rfl,MH:=rfl,MA:=rfl,MD:=rfl,MB:=rfl,MC:=rfl,HY:=rfl,I5:=rfl,MS:=rfl,MP:=rfl,MM:=rfl,MJ:=rfl,MK:=rfl,MN:=rfl,M5:=rfl }
theorem Afg:F.z8 L:={ iX,iY with LL:=rfl,M8:=rfl,M6:=rfl,M9:=rfl }
theorem tL:F.iq L:={  }
theorem tO:F.ou L:={ tL with  }
theorem tN:F.kv L:={ Afg,tO with  }
theorem bO:F.z7 L:={ iX with LY:=rfl,LW:=rfl }
theorem tQ:F.iu L:={ iX with LQ:=rfl }
theorem iZ:F.n7 L:={ iY with MO:=rfl,MR:=rfl,ML:=rfl,I3:=rfl }
theorem tS:F.u5 L:={ iZ with I7:=rfl }
theorem tU:F.iv L:={ tN,bO,tQ,tS with MW:=rfl }
theorem bP:F.o5 L:={ tU with KL:=rfl,I1:=rfl,LT:=rfl,LP:=rfl,ND:=rfl,MT:=rfl,NL:=rfl,NI:=rfl,NV:=rfl,JC:=rfl,NC:=rfl }
theorem Afc:F.qg L:={ bP with  }
theorem tP:F.lf L:={ Afc with  }
theorem jA:F.v8 L:={ tL with N7:=rfl,N3:=rfl }
theorem tT:F.az L:={ jA,iY with N6:=rfl }
theorem Afa:F.ig L:={ tN,bO,iZ with M7:=rfl }
theorem Afe:F.qh L:={ tO,jA with  }
theorem Ae4:F.im L:={ Afe with  }
theorem Zy:F.qf L:={ Ae4,bO,tQ,tS with  }
theorem iW:F.bq L:={ bP,Afa,Zy,tT with KR:=rfl,KS:=rfl }
theorem Afd:F.ak L:={ iZ with MZ:=rfl,MX:=rfl,MY:=rfl }
theorem tM:F.w7 L:={ Afd with MQ:=rfl,M4:=rfl,F8:=rfl,M3:=rfl,I8:=rfl }
theorem tV:F.fm L:={ tT with N4:=rfl }
theorem tK:F.bp L:={ tP,tM,tV,bP,iW with NT:=rfl,NB:=rfl,NA:=rfl }
theorem Ae7:F.q9 L:={ bO,bP with KX:=rfl,GI:=rfl,KY:=rfl,JW:=rfl }
theorem Ae8:F.y9 L:={ Ae7 with KZ:=rfl,KW:=rfl,KV:=rfl,KU:=rfl }
theorem Aff:F.ij L:={ tK,Ae8 with H6:=rfl,NK:=rfl,NP:=rfl,NJ:=rfl }
theorem Zz:F.fl L:={ tP,iW with NQ:=rfl,NU:=rfl }
theorem Ae5:F.dp L:={ tM,tU with I6:=rfl,MU:=rfl,MV:=rfl }
theorem Ae9:F.aj L:={ Aff,Zz with NN:=rfl,NR:=rfl,NM:=rfl,H5:=rfl,JD:=rfl }
theorem Ae6:F.mu L:={ Ae5,Ae9,iW,tK,tV with GU:=rfl }
end Go.Proofs.YthgjfcjecnmflaaGreat
