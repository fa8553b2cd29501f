/-
  The functions of the groups are the program's own: checked by the kernel, function by function.
-/
import Derived.Test.YtckpiejepaconaaGreatProg
import Derived.KernelRfl
import Derived.Test.YtckpiejepaconaaGreatB2
import Derived.Test.YtckpiejepaconaaGreatB1
set_option linter.unusedSimpArgs false
set_option linter.unusedVariables false
set_option linter.unnecessarySimpa false
namespace Go.Proofs.YtckpiejepaconaaGreat
open Go.c6
def num:Nat->Nat
 | 58=>167
 | 59=>168
 | 60=>139
 | 61=>140
 | 62=>172
 | 63=>186
 | 64=>179
 | 65=>138
 | 66=>145
 | 67=>88
 | 68=>136
 | 69=>137
 | 70=>92
 | 71=>180
 | 72=>182
 | 73=>181
 | 74=>169
 | 75=>141
 | 76=>171
 | 77=>187
 | 78=>184
 | 79=>183
 | 80=>185
 | 81=>170
 | 82=>143
 | 83=>135
 | 84=>142
 | 85=>106
 | 86=>108
 | 87=>87
 | 88=>90
 | 89=>85
 | 90=>144
 | 91=>91
 | 92=>86
 | 93=>109
 | 94=>89
 | 95=>63
 | 96=>50
 | 97=>52
 | 98=>30
 | 99=>31
 | 100=>120
 | 101=>115
 | 102=>152
 | 103=>151
 | 104=>153
 | 105=>118
 | 106=>174
 | 107=>175
 | 108=>173
 | 109=>155
 | 110=>154
 | 111=>117
 | 112=>65
 | 113=>64
 | 114=>74
 | 115=>114
 | 116=>116
 | 117=>60
 | 118=>61
 | 119=>122
 | 120=>121
 | 121=>66
 | 122=>59
 | 123=>73
 | 124=>18
 | 125=>19
 | 126=>57
 | 127=>13
 | 128=>27
 | 130=>84
 | 131=>119
 | 135=>96
 | 136=>93
 | 137=>38
 | 138=>94
 | 1=>146
 | 2=>102
 | 3=>147
 | 4=>148
 | 5=>104
 | 10=>35
 | 11=>110
 | 12=>149
 | 13=>150
 | 14=>111
 | 21=>48
 | 27=>54
 | 144=>62
 | 145=>105
 | 146=>49
 | 149=>125
 | 150=>72
 | 151=>53
 | 169=>156
 | 152=>21
 | 153=>26
 | 154=>58
 | 155=>17
 | 197=>157
 | 198=>124
 | 199=>71
 | 200=>123
 | 201=>67
 | 204=>68
 | 205=>69
 | 206=>70
 | 207=>20
 | 256=>176
 | 294=>158
 | 295=>126
 | 296=>127
 | 297=>160
 | 299=>129
 | 300=>159
 | 302=>128
 | 303=>75
 | 306=>22
 | 308=>165
 | 309=>132
 | 310=>79
 | 311=>80
 | 313=>81
 | 314=>24
 | 227=>177
 | 228=>161
 | 229=>130
 | 231=>162
 | 900=>178
 | 233=>163
 | 234=>164
 | 235=>131
 | 237=>78
 | 239=>82
 | 276=>166
 | 277=>133
 | 901=>134
 | 278=>83
 | 34=>41
 | 35=>97
 | 36=>39
 | 40=>40
 | 41=>46
 | 327=>28
 | 321=>76
 | 322=>77
 | 323=>23
 | 324=>6
 | 325=>25
 | 326=>7
 | 328=>29
 | 329=>32
 | 330=>33
 | 331=>8
 | 332=>16
 | 333=>34
 | 334=>36
 | 350=>107
 | 161=>15
 | 163=>113
 | 164=>112
 | 165=>55
 | 166=>56
 | 362=>14
 | 402=>51
 | 419=>11
 | 420=>12
 | 46=>98
 | 47=>100
 | 48=>99
 | 49=>101
 | 50=>43
 | 51=>44
 | 52=>45
 | 345=>103
 | 346=>47
 | 347=>42
 | 421=>10
 | 336=>5
 | 422=>4
 | _=>0
theorem ok {p:Nat × AFn->Prop} {a:Nat × AFn} {l:List (Nat × AFn)} (h:p a) (t : ∀ x∈l,p x) : ∀ x∈a::l,p x:=List.forall_mem_cons.2 ⟨h,t⟩
theorem okk {p : Nat × AFn} {l : List (Nat × AFn)} {fn : Func} (hf : Tryz.prog.funcs[num p.1]? = some fn) (t : ∀ x ∈ l, OkF Tryz.prog num x) (h1 : okFn Tryz.prog num fn p.2 = true := by kernel_rfl) (h2 : (fn.name == "runtime.NumGoroutine") = false := by kernel_rfl) : ∀ x ∈ p :: l, OkF Tryz.prog num x := ok ⟨fn, hf, h1, h2⟩ t
def Sn:List (Nat × AFn):=[(58,F.SA),(59,F.SB),(60,F.R8),(61,F.R9),(62,F.KV),(63,F.TF),(64,F.TE),(65,F.G1),(66,F.TK),(67,F.OV),(68,F.OU),(69,F.OW),(70,F.L8),(71,F.MB),(72,F.OZ),(73,F.G2),(74,F.L9),(75,F.TJ),(76,F.O0),(77,F.MA),(78,F.TL),(79,F.OX),(80,F.OY),(81,F.TM),(82,F.HQ),(83,F.D8),(84,F.TA),(85,F.S8),(86,F.S9),(87,F.S5)]
set_option maxRecDepth 100000 in
theorem Alc : ∀ x∈Sn,OkF Tryz.prog num x :=
 okk Tryz.func167 (
 okk Tryz.func168 (
 okk Tryz.func139 (
 okk Tryz.func140 (
 okk Tryz.func172 (
 okk Tryz.func186 (
 okk Tryz.func179 (
 okk Tryz.func138 (
 okk Tryz.func145 (
 okk Tryz.func88 (
 okk Tryz.func136 (
 okk Tryz.func137 (
 okk Tryz.func92 (
 okk Tryz.func180 (
 okk Tryz.func182 (
 okk Tryz.func181 (
 okk Tryz.func169 (
 okk Tryz.func141 (
 okk Tryz.func171 (
 okk Tryz.func187 (
 okk Tryz.func184 (
 okk Tryz.func183 (
 okk Tryz.func185 (
 okk Tryz.func170 (
 okk Tryz.func143 (
 okk Tryz.func135 (
 okk Tryz.func142 (
 okk Tryz.func106 (
 okk Tryz.func108 (
 okk Tryz.func87 (
 List.forall_mem_nil _))))))))))))))))))))))))))))))
def So:List (Nat × AFn):=[(88,F.S7),(89,F.MN),(90,F.T9),(91,F.UA),(92,F.KM),(93,F.PH),(94,F.UB),(95,F.T7),(96,F.T4),(97,F.T5),(98,F.MM),(99,F.PG),(100,F.TY),(101,F.JA),(102,F.PK),(103,F.PI),(104,F.KN),(105,F.MO),(106,F.PJ),(107,F.I9),(108,F.PM),(109,F.ED),(110,F.PL),(111,F.UO),(112,F.UK),(113,F.UM),(114,F.UJ),(115,F.UE),(116,F.UN),(117,F.UF)]
set_option maxRecDepth 100000 in
theorem Ald : ∀ x∈So,OkF Tryz.prog num x :=
 okk Tryz.func90 (
 okk Tryz.func85 (
 okk Tryz.func144 (
 okk Tryz.func91 (
 okk Tryz.func86 (
 okk Tryz.func109 (
 okk Tryz.func89 (
 okk Tryz.func63 (
 okk Tryz.func50 (
 okk Tryz.func52 (
 okk Tryz.func30 (
 okk Tryz.func31 (
 okk Tryz.func120 (
 okk Tryz.func115 (
 okk Tryz.func152 (
 okk Tryz.func151 (
 okk Tryz.func153 (
 okk Tryz.func118 (
 okk Tryz.func174 (
 okk Tryz.func175 (
 okk Tryz.func173 (
 okk Tryz.func155 (
 okk Tryz.func154 (
 okk Tryz.func117 (
 okk Tryz.func65 (
 okk Tryz.func64 (
 okk Tryz.func74 (
 okk Tryz.func114 (
 okk Tryz.func116 (
 okk Tryz.func60 (
 List.forall_mem_nil _))))))))))))))))))))))))))))))
def Sp:List (Nat × AFn):=[(118,F.UI),(119,F.UG),(120,F.UH),(121,F.MP),(122,F.PP),(123,F.UY),(124,F.UW),(125,F.UT),(126,F.UQ),(127,F.UR),(128,F.UU),(130,F.O2),(131,F.O3),(135,F.PV),(136,F.PS),(137,F.PR),(138,F.PT),(1,F.SX),(2,F.SW),(3,F.SV),(4,F.SU),(5,F.ST),(10,F.U1),(11,F.U3),(12,F.U2),(13,F.U0),(14,F.UZ),(21,F.KH),(27,F.KP),(144,F.MC)]
set_option maxRecDepth 100000 in
theorem Ale : ∀ x∈Sp,OkF Tryz.prog num x :=
 okk Tryz.func61 (
 okk Tryz.func122 (
 okk Tryz.func121 (
 okk Tryz.func66 (
 okk Tryz.func59 (
 okk Tryz.func73 (
 okk Tryz.func18 (
 okk Tryz.func19 (
 okk Tryz.func57 (
 okk Tryz.func13 (
 okk Tryz.func27 (
 okk Tryz.func84 (
 okk Tryz.func119 (
 okk Tryz.func96 (
 okk Tryz.func93 (
 okk Tryz.func38 (
 okk Tryz.func94 (
 okk Tryz.func146 (
 okk Tryz.func102 (
 okk Tryz.func147 (
 okk Tryz.func148 (
 okk Tryz.func104 (
 okk Tryz.func35 (
 okk Tryz.func110 (
 okk Tryz.func149 (
 okk Tryz.func150 (
 okk Tryz.func111 (
 okk Tryz.func48 (
 okk Tryz.func54 (
 okk Tryz.func62 (
 List.forall_mem_nil _))))))))))))))))))))))))))))))
def Sr:List (Nat × AFn):=[(145,F.MD),(146,F.IC),(149,F.T8),(150,F.T6),(151,F.TZ),(169,F.PE),(152,F.UV),(153,F.PO),(154,F.US),(155,F.PN),(197,F.S6),(198,F.PF),(199,F.T3),(200,F.TV),(201,F.U8),(204,F.P3),(205,F.VH),(206,F.P4),(207,F.MY),(256,F.TW),(294,F.TS),(295,F.MJ),(296,F.PC),(297,F.PA),(299,F.I8),(300,F.PD),(302,F.O9),(303,F.KL),(306,F.O8),(308,F.UD)]
set_option maxRecDepth 100000 in
theorem Alf : ∀ x∈Sr,OkF Tryz.prog num x :=
 okk Tryz.func105 (
 okk Tryz.func49 (
 okk Tryz.func125 (
 okk Tryz.func72 (
 okk Tryz.func53 (
 okk Tryz.func156 (
 okk Tryz.func21 (
 okk Tryz.func26 (
 okk Tryz.func58 (
 okk Tryz.func17 (
 okk Tryz.func157 (
 okk Tryz.func124 (
 okk Tryz.func71 (
 okk Tryz.func123 (
 okk Tryz.func67 (
 okk Tryz.func68 (
 okk Tryz.func69 (
 okk Tryz.func70 (
 okk Tryz.func20 (
 okk Tryz.func176 (
 okk Tryz.func158 (
 okk Tryz.func126 (
 okk Tryz.func127 (
 okk Tryz.func160 (
 okk Tryz.func129 (
 okk Tryz.func159 (
 okk Tryz.func128 (
 okk Tryz.func75 (
 okk Tryz.func22 (
 okk Tryz.func165 (
 List.forall_mem_nil _))))))))))))))))))))))))))))))
def Ss:List (Nat × AFn):=[(309,F.UP),(310,F.PY),(311,F.PX),(313,F.KQ),(314,F.MS),(227,F.VD),(228,F.MW),(229,F.L2),(231,F.JT),(900,F.OQ),(233,F.IR),(234,F.L3),(235,F.I5),(237,F.L1),(239,F.PQ),(276,F.UX),(277,F.MR),(901,F.HT),(278,F.KO),(34,F.VQ),(35,F.VN),(36,F.VR),(40,F.P8),(41,F.VP),(327,F.MQ),(321,F.MI),(322,F.O6),(323,F.KJ),(324,F.O4),(325,F.KR)]
set_option maxRecDepth 100000 in
theorem Alg : ∀ x∈Ss,OkF Tryz.prog num x :=
 okk Tryz.func132 (
 okk Tryz.func79 (
 okk Tryz.func80 (
 okk Tryz.func81 (
 okk Tryz.func24 (
 okk Tryz.func177 (
 okk Tryz.func161 (
 okk Tryz.func130 (
 okk Tryz.func162 (
 okk Tryz.func178 (
 okk Tryz.func163 (
 okk Tryz.func164 (
 okk Tryz.func131 (
 okk Tryz.func78 (
 okk Tryz.func82 (
 okk Tryz.func166 (
 okk Tryz.func133 (
 okk Tryz.func134 (
 okk Tryz.func83 (
 okk Tryz.func41 (
 okk Tryz.func97 (
 okk Tryz.func39 (
 okk Tryz.func40 (
 okk Tryz.func46 (
 okk Tryz.func28 (
 okk Tryz.func76 (
 okk Tryz.func77 (
 okk Tryz.func23 (
 okk Tryz.func6 (
 okk Tryz.func25 (
 List.forall_mem_nil _))))))))))))))))))))))))))))))
def Su:List (Nat × AFn):=[(326,F.HG),(328,F.TP),(329,F.MH),(330,F.O5),(331,F.MG),(332,F.TN),(333,F.U6),(334,F.PZ),(350,F.PB),(161,F.O1),(163,F.JB),(164,F.PU),(165,F.U5),(166,F.U4),(362,F.PW),(402,F.TR),(419,F.I7),(420,F.MT),(46,F.LU),(47,F.OK),(48,F.OJ),(49,F.KD),(50,F.SF),(51,F.SG),(52,F.OI),(345,F.KF),(346,F.LZ),(347,F.VO),(421,F.KG),(336,F.TD)]
set_option maxRecDepth 100000 in
theorem Alh : ∀ x∈Su,OkF Tryz.prog num x :=
 okk Tryz.func7 (
 okk Tryz.func29 (
 okk Tryz.func32 (
 okk Tryz.func33 (
 okk Tryz.func8 (
 okk Tryz.func16 (
 okk Tryz.func34 (
 okk Tryz.func36 (
 okk Tryz.func107 (
 okk Tryz.func15 (
 okk Tryz.func113 (
 okk Tryz.func112 (
 okk Tryz.func55 (
 okk Tryz.func56 (
 okk Tryz.func14 (
 okk Tryz.func51 (
 okk Tryz.func11 (
 okk Tryz.func12 (
 okk Tryz.func98 (
 okk Tryz.func100 (
 okk Tryz.func99 (
 okk Tryz.func101 (
 okk Tryz.func43 (
 okk Tryz.func44 (
 okk Tryz.func45 (
 okk Tryz.func103 (
 okk Tryz.func47 (
 okk Tryz.func42 (
 okk Tryz.func10 (
 okk Tryz.func5 (
 List.forall_mem_nil _))))))))))))))))))))))))))))))
def Sv:List (Nat × AFn):=[(422,F.L0)]
set_option maxRecDepth 100000 in
theorem Ali : ∀ x∈Sv,OkF Tryz.prog num x :=
 okk Tryz.func4 (
 List.forall_mem_nil _)
def lib:List (Nat × AFn):=Sn++(So++(Sp++(Sr++(Ss++(Su++(Sv))))))
def L:Lib:=⟨λ f=>lib.lookup f,num⟩
theorem AlC:ProgOK Tryz.prog num L:=AlD lib (List.forall_mem_append.2 ⟨Alc,(List.forall_mem_append.2 ⟨Ald,(List.forall_mem_append.2 ⟨Ale,(List.forall_mem_append.2 ⟨Alf,(List.forall_mem_append.2 ⟨Alg,(List.forall_mem_append.2 ⟨Alh,Ali⟩)⟩)⟩)⟩)⟩)⟩)
theorem AjC:F.c4 L:={ SA:=rfl,SB:=rfl,R8:=rfl,R9:=rfl,KV:=rfl,TF:=rfl,TE:=rfl,G1:=rfl,TK:=rfl,OV:=rfl,OU:=rfl,OW:=rfl,L8:=rfl,MB:=rfl,OZ:=rfl,G2:=rfl,L9:=rfl,TJ:=rfl,O0:=rfl,MA:=rfl,TL:=rfl,OX:=rfl,OY:=rfl,TM:=rfl,HQ:=rfl }
theorem nW:F.a5 L:={ AjC with D8:=rfl,TA:=rfl,S8:=rfl,S9:=rfl,S5:=rfl,S7:=rfl,MN:=rfl,T9:=rfl,UA:=rfl,KM:=rfl,PH:=rfl,UB:=rfl,T7:=rfl,T4:=rfl,T5:=rfl,MM:=rfl,PG:=rfl,TY:=rfl }
theorem fQ:F.a6 L:={ JA:=rfl,PK:=rfl,PI:=rfl,KN:=rfl,MO:=rfl,PJ:=rfl,I9:=rfl,PM:=rfl,ED:=rfl,PL:=rfl,UO:=rfl,UK:=rfl,UM:=rfl,UJ:=rfl,UE:=rfl,UN:=rfl,UF:=rfl,UI:=rfl,UG:=rfl,UH:=rfl,MP:=rfl,PP:=rfl,UY:=rfl,UW:=rfl,UT:=rfl,UQ:=rfl,UR:=rfl,UU:=rfl }
theorem AjM:F.o4 L:={ nW,fQ with O2:=rfl,O3:=rfl,PV:=rfl,PS:=rfl,PR:=rfl,PT:=rfl }
theorem nV:F.e8 L:={ SX:=rfl,SW:=rfl,SV:=rfl,SU:=rfl,ST:=rfl,U1:=rfl,U3:=rfl,U2:=rfl,U0:=rfl,UZ:=rfl }
theorem Ts:F.w6 L:={ nV with KH:=rfl,KP:=rfl }
theorem Tq:F.ak L:={ AjM,Ts with MC:=rfl,MD:=rfl,IC:=rfl }
theorem nX:F.q9 L:={ nW with T8:=rfl,T6:=rfl,TZ:=rfl }
theorem AjG:F.nv L:={ nW with PE:=rfl }
theorem nY:F.k9 L:={ fQ with UV:=rfl,PO:=rfl,US:=rfl,PN:=rfl }
theorem AjH:F.sf L:={ nY with  }
theorem AjN:F.vp L:={ Tq,nX,AjG,AjH with  }
theorem nZ:F.q8 L:={ AjN with S6:=rfl,PF:=rfl,T3:=rfl,TV:=rfl,U8:=rfl,P3:=rfl,VH:=rfl,P4:=rfl,MY:=rfl }
theorem AjF:F.fw L:={ nZ with TW:=rfl }
theorem Tt:F.v7 L:={ AjF with TS:=rfl,MJ:=rfl,PC:=rfl,PA:=rfl,I8:=rfl,PD:=rfl,O9:=rfl,KL:=rfl,O8:=rfl }
theorem Tu:F.bn L:={ nZ with UD:=rfl,UP:=rfl,PY:=rfl,PX:=rfl,KQ:=rfl,MS:=rfl }
theorem AjB:F.u9 L:={ nX,nZ with VD:=rfl,MW:=rfl,L2:=rfl,JT:=rfl,OQ:=rfl,IR:=rfl,L3:=rfl,I5:=rfl,L1:=rfl }
theorem AjI:F.jd L:={ nY with PQ:=rfl }
theorem Tp:F.aj L:={ AjI with UX:=rfl,MR:=rfl,HT:=rfl,KO:=rfl }
theorem oA:F.u5 L:={ nV with VQ:=rfl,VN:=rfl,VR:=rfl,P8:=rfl,VP:=rfl }
theorem AjK:F.nw L:={ oA,fQ with  }
theorem Ajv:F.nq L:={ AjK with  }
theorem AjJ:F.vo L:={ Tp with MQ:=rfl }
theorem Ajx:F.o9 L:={ Tt,Tu,AjB,Tp,Ajv,AjJ with MI:=rfl,O6:=rfl,KJ:=rfl,O4:=rfl,KR:=rfl,HG:=rfl }
theorem To:F.l8 L:={ Ajx with TP:=rfl,MH:=rfl,O5:=rfl,MG:=rfl,TN:=rfl,U6:=rfl,PZ:=rfl }
theorem Aju:F.jc L:={ Tt with PB:=rfl }
theorem Ajs:F.vn L:={ Aju with  }
theorem Tr:F.v3 L:={ Tq,nX,nY with O1:=rfl,JB:=rfl,PU:=rfl,U5:=rfl,U4:=rfl }
theorem Ajy:F.nr L:={ fQ with  }
theorem Tv:F.df L:={ Tu,Tr,Ajy with PW:=rfl }
theorem Ajt:F.mc L:={ Ajs,Tv with TR:=rfl }
theorem AjO:F.aq L:={ To,Ajt,Tv,Tr with I7:=rfl,MT:=rfl }
theorem AjL:F.si L:={ Ts,oA with  }
theorem Ajw:F.m6 L:={ AjL with LU:=rfl,OK:=rfl,OJ:=rfl,KD:=rfl,SF:=rfl,SG:=rfl,OI:=rfl }
theorem AjD:F.bm L:={ Ajw with KF:=rfl,LZ:=rfl,VO:=rfl }
theorem AjE:F.fu L:={ AjD with KG:=rfl }
theorem Ajz:F.ft L:={ To with TD:=rfl }
theorem AjA:F.nu L:={ AjO,AjE,Ajz with L0:=rfl }
end Go.Proofs.YtckpiejepaconaaGreat
