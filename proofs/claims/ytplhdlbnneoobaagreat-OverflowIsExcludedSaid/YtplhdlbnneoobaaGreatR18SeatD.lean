/-
  The functions of the groups are the program's own: checked by the kernel, function by function.
-/
import Derived.Test.YtplhdlbnneoobaaGreatProg
import Derived.KernelRfl
import Derived.Test.YtplhdlbnneoobaaGreatB5
import Derived.Test.YtplhdlbnneoobaaGreatB1
import Derived.Test.YtplhdlbnneoobaaGreatB2
set_option linter.unusedSimpArgs false
set_option linter.unusedVariables false
set_option linter.unnecessarySimpa false
namespace Go.Proofs.YtplhdlbnneoobaaGreat
open Go.c6
def num:Nat->Nat
 | 58=>179
 | 59=>180
 | 60=>159
 | 61=>160
 | 62=>178
 | 63=>194
 | 64=>186
 | 65=>156
 | 66=>155
 | 67=>116
 | 68=>157
 | 69=>158
 | 70=>114
 | 71=>187
 | 72=>189
 | 73=>188
 | 74=>175
 | 75=>151
 | 76=>177
 | 77=>195
 | 78=>191
 | 79=>190
 | 80=>192
 | 81=>176
 | 82=>153
 | 83=>150
 | 84=>152
 | 85=>122
 | 86=>108
 | 87=>115
 | 88=>109
 | 89=>107
 | 90=>154
 | 91=>110
 | 92=>113
 | 93=>111
 | 94=>112
 | 95=>90
 | 96=>59
 | 97=>134
 | 98=>48
 | 99=>47
 | 100=>46
 | 101=>118
 | 102=>162
 | 103=>161
 | 104=>163
 | 105=>121
 | 106=>184
 | 107=>185
 | 108=>183
 | 109=>173
 | 110=>172
 | 111=>120
 | 112=>87
 | 113=>91
 | 114=>101
 | 115=>117
 | 116=>119
 | 117=>56
 | 118=>57
 | 119=>147
 | 120=>146
 | 121=>92
 | 122=>55
 | 123=>85
 | 124=>29
 | 125=>35
 | 126=>51
 | 127=>16
 | 128=>34
 | 130=>41
 | 135=>182
 | 136=>50
 | 137=>52
 | 138=>54
 | 1=>164
 | 2=>129
 | 3=>169
 | 4=>71
 | 5=>143
 | 6=>144
 | 7=>170
 | 8=>171
 | 9=>145
 | 10=>138
 | 11=>74
 | 12=>193
 | 13=>21
 | 14=>181
 | 21=>81
 | 22=>82
 | 23=>83
 | 24=>26
 | 25=>84
 | 26=>27
 | 27=>166
 | 149=>149
 | 150=>100
 | 151=>165
 | 169=>174
 | 152=>40
 | 153=>77
 | 154=>78
 | 155=>31
 | 197=>137
 | 198=>72
 | 199=>99
 | 200=>148
 | 201=>95
 | 204=>96
 | 205=>97
 | 206=>98
 | 207=>39
 | 256=>49
 | 294=>102
 | 295=>42
 | 296=>44
 | 297=>103
 | 298=>105
 | 299=>94
 | 300=>104
 | 301=>106
 | 302=>93
 | 303=>36
 | 304=>45
 | 305=>43
 | 307=>14
 | 308=>86
 | 309=>28
 | 310=>37
 | 311=>18
 | 312=>53
 | 313=>38
 | 314=>12
 | 315=>15
 | 163=>168
 | 164=>167
 | 165=>140
 | 166=>142
 | 34=>8
 | 35=>80
 | 36=>124
 | 37=>61
 | 38=>62
 | 40=>24
 | 41=>67
 | 46=>125
 | 47=>127
 | 48=>126
 | 49=>128
 | 50=>64
 | 51=>65
 | 52=>66
 | 345=>130
 | 346=>68
 | 347=>63
 | 348=>19
 | 318=>13
 | 349=>69
 | 350=>133
 | 351=>131
 | 352=>132
 | 353=>73
 | 354=>136
 | 355=>135
 | 356=>70
 | 358=>20
 | 360=>25
 | 361=>79
 | 362=>141
 | 363=>139
 | 364=>76
 | 365=>75
 | 366=>23
 | 367=>6
 | _=>0
theorem ok {p:Nat × AFn->Prop} {a:Nat × AFn} {l:List (Nat × AFn)} (h:p a) (t : ∀ x∈l,p x) : ∀ x∈a::l,p x:=List.forall_mem_cons.2 ⟨h,t⟩
theorem okk {p : Nat × AFn} {l : List (Nat × AFn)} {fn : Func} (hf : Tryz.prog.funcs[num p.1]? = some fn) (t : ∀ x ∈ l, OkF Tryz.prog num x) (h1 : okFn Tryz.prog num fn p.2 = true := by kernel_rfl) (h2 : (fn.name == "runtime.NumGoroutine") = false := by kernel_rfl) : ∀ x ∈ p :: l, OkF Tryz.prog num x := ok ⟨fn, hf, h1, h2⟩ t
def yD:List (Nat × AFn):=[(58,F.L2),(59,F.L3),(60,F.L0),(61,F.L1),(62,F.IZ),(63,F.MZ),(64,F.MY),(65,F.G0),(66,F.M9),(67,F.M5),(68,F.M4),(69,F.M8),(70,F.M7),(71,F.KZ),(72,F.NE),(73,F.G6),(74,F.NC),(75,F.M6),(76,F.NG),(77,F.JR),(78,F.ND),(79,F.NA),(80,F.NB),(81,F.NF),(82,F.HY),(83,F.DK),(84,F.MQ),(85,F.MO),(86,F.MP),(87,F.ML)]
set_option maxRecDepth 100000 in
theorem Ajq : ∀ x∈yD,OkF Tryz.prog num x :=
 okk Tryz.func179 (
 okk Tryz.func180 (
 okk Tryz.func159 (
 okk Tryz.func160 (
 okk Tryz.func178 (
 okk Tryz.func194 (
 okk Tryz.func186 (
 okk Tryz.func156 (
 okk Tryz.func155 (
 okk Tryz.func116 (
 okk Tryz.func157 (
 okk Tryz.func158 (
 okk Tryz.func114 (
 okk Tryz.func187 (
 okk Tryz.func189 (
 okk Tryz.func188 (
 okk Tryz.func175 (
 okk Tryz.func151 (
 okk Tryz.func177 (
 okk Tryz.func195 (
 okk Tryz.func191 (
 okk Tryz.func190 (
 okk Tryz.func192 (
 okk Tryz.func176 (
 okk Tryz.func153 (
 okk Tryz.func150 (
 okk Tryz.func152 (
 okk Tryz.func122 (
 okk Tryz.func108 (
 okk Tryz.func115 (
 List.forall_mem_nil _))))))))))))))))))))))))))))))
def yE:List (Nat × AFn):=[(88,F.MN),(89,F.JW),(90,F.OP),(91,F.OQ),(92,F.IW),(93,F.K4),(94,F.OR),(95,F.ON),(96,F.OK),(97,F.OL),(98,F.JV),(99,F.K3),(100,F.OH),(101,F.IX),(102,F.OU),(103,F.OS),(104,F.KI),(105,F.OW),(106,F.OT),(107,F.JX),(108,F.OX),(109,F.EC),(110,F.OV),(111,F.O8),(112,F.O5),(113,F.O6),(114,F.O4),(115,F.OZ),(116,F.O7),(117,F.O0)]
set_option maxRecDepth 100000 in
theorem Ajr : ∀ x∈yE,OkF Tryz.prog num x :=
 okk Tryz.func109 (
 okk Tryz.func107 (
 okk Tryz.func154 (
 okk Tryz.func110 (
 okk Tryz.func113 (
 okk Tryz.func111 (
 okk Tryz.func112 (
 okk Tryz.func90 (
 okk Tryz.func59 (
 okk Tryz.func134 (
 okk Tryz.func48 (
 okk Tryz.func47 (
 okk Tryz.func46 (
 okk Tryz.func118 (
 okk Tryz.func162 (
 okk Tryz.func161 (
 okk Tryz.func163 (
 okk Tryz.func121 (
 okk Tryz.func184 (
 okk Tryz.func185 (
 okk Tryz.func183 (
 okk Tryz.func173 (
 okk Tryz.func172 (
 okk Tryz.func120 (
 okk Tryz.func87 (
 okk Tryz.func91 (
 okk Tryz.func101 (
 okk Tryz.func117 (
 okk Tryz.func119 (
 okk Tryz.func56 (
 List.forall_mem_nil _))))))))))))))))))))))))))))))
def yF:List (Nat × AFn):=[(118,F.O3),(119,F.O1),(120,F.O2),(121,F.JY),(122,F.K5),(123,F.PG),(124,F.PF),(125,F.PC),(126,F.PA),(127,F.PB),(128,F.PD),(130,F.NH),(135,F.PU),(136,F.PP),(137,F.PN),(138,F.PQ),(1,F.MJ),(2,F.MH),(3,F.MD),(4,F.MC),(5,F.MB),(6,F.MG),(7,F.MI),(8,F.MF),(9,F.ME),(10,F.PJ),(11,F.PL),(12,F.PK),(13,F.PI),(14,F.PH)]
set_option maxRecDepth 100000 in
theorem Ajs : ∀ x∈yF,OkF Tryz.prog num x :=
 okk Tryz.func57 (
 okk Tryz.func147 (
 okk Tryz.func146 (
 okk Tryz.func92 (
 okk Tryz.func55 (
 okk Tryz.func85 (
 okk Tryz.func29 (
 okk Tryz.func35 (
 okk Tryz.func51 (
 okk Tryz.func16 (
 okk Tryz.func34 (
 okk Tryz.func41 (
 okk Tryz.func182 (
 okk Tryz.func50 (
 okk Tryz.func52 (
 okk Tryz.func54 (
 okk Tryz.func164 (
 okk Tryz.func129 (
 okk Tryz.func169 (
 okk Tryz.func71 (
 okk Tryz.func143 (
 okk Tryz.func144 (
 okk Tryz.func170 (
 okk Tryz.func171 (
 okk Tryz.func145 (
 okk Tryz.func138 (
 okk Tryz.func74 (
 okk Tryz.func193 (
 okk Tryz.func21 (
 okk Tryz.func181 (
 List.forall_mem_nil _))))))))))))))))))))))))))))))
def yG:List (Nat × AFn):=[(21,F.NJ),(22,F.NN),(23,F.NL),(24,F.NK),(25,F.NM),(26,F.NI),(27,F.PR),(149,F.OO),(150,F.OM),(151,F.OI),(169,F.OE),(152,F.PE),(153,F.SL),(154,F.SJ),(155,F.SK),(197,F.MM),(198,F.K2),(199,F.OJ),(200,F.OD),(201,F.P4),(204,F.QB),(205,F.QA),(206,F.QC),(207,F.LB),(256,F.OG),(294,F.N0),(295,F.NY),(296,F.OA),(297,F.N1),(298,F.NU)]
set_option maxRecDepth 100000 in
theorem Ajt : ∀ x∈yG,OkF Tryz.prog num x :=
 okk Tryz.func81 (
 okk Tryz.func82 (
 okk Tryz.func83 (
 okk Tryz.func26 (
 okk Tryz.func84 (
 okk Tryz.func27 (
 okk Tryz.func166 (
 okk Tryz.func149 (
 okk Tryz.func100 (
 okk Tryz.func165 (
 okk Tryz.func174 (
 okk Tryz.func40 (
 okk Tryz.func77 (
 okk Tryz.func78 (
 okk Tryz.func31 (
 okk Tryz.func137 (
 okk Tryz.func72 (
 okk Tryz.func99 (
 okk Tryz.func148 (
 okk Tryz.func95 (
 okk Tryz.func96 (
 okk Tryz.func97 (
 okk Tryz.func98 (
 okk Tryz.func39 (
 okk Tryz.func49 (
 okk Tryz.func102 (
 okk Tryz.func42 (
 okk Tryz.func44 (
 okk Tryz.func103 (
 okk Tryz.func105 (
 List.forall_mem_nil _))))))))))))))))))))))))))))))
def yH:List (Nat × AFn):=[(299,F.N8),(300,F.OB),(301,F.N5),(302,F.NZ),(303,F.N9),(304,F.N3),(305,F.N2),(307,F.NT),(308,F.OY),(309,F.O9),(310,F.P2),(311,F.PZ),(312,F.PV),(313,F.P3),(314,F.PX),(315,F.P0),(163,F.PS),(164,F.PT),(165,F.PO),(166,F.PM),(34,F.QL),(35,F.QF),(36,F.QM),(37,F.QI),(38,F.QH),(40,F.QG),(41,F.QK),(46,F.MA),(47,F.L9),(48,F.L8)]
set_option maxRecDepth 100000 in
theorem Aju : ∀ x∈yH,OkF Tryz.prog num x :=
 okk Tryz.func94 (
 okk Tryz.func104 (
 okk Tryz.func106 (
 okk Tryz.func93 (
 okk Tryz.func36 (
 okk Tryz.func45 (
 okk Tryz.func43 (
 okk Tryz.func14 (
 okk Tryz.func86 (
 okk Tryz.func28 (
 okk Tryz.func37 (
 okk Tryz.func18 (
 okk Tryz.func53 (
 okk Tryz.func38 (
 okk Tryz.func12 (
 okk Tryz.func15 (
 okk Tryz.func168 (
 okk Tryz.func167 (
 okk Tryz.func140 (
 okk Tryz.func142 (
 okk Tryz.func8 (
 okk Tryz.func80 (
 okk Tryz.func124 (
 okk Tryz.func61 (
 okk Tryz.func62 (
 okk Tryz.func24 (
 okk Tryz.func67 (
 okk Tryz.func125 (
 okk Tryz.func127 (
 okk Tryz.func126 (
 List.forall_mem_nil _))))))))))))))))))))))))))))))
def yI:List (Nat × AFn):=[(49,F.JO),(50,F.L5),(51,F.L6),(52,F.L7),(345,F.MS),(346,F.MR),(347,F.QJ),(348,F.IQ),(318,F.MU),(349,F.OC),(350,F.N6),(351,F.H0),(352,F.N7),(353,F.NV),(354,F.NX),(355,F.N4),(356,F.NW),(358,F.NS),(360,F.NR),(361,F.SM),(362,F.PW),(363,F.P1),(364,F.PY),(365,F.K7),(366,F.K6),(367,F.MT)]
set_option maxRecDepth 100000 in
theorem Ajv : ∀ x∈yI,OkF Tryz.prog num x :=
 okk Tryz.func128 (
 okk Tryz.func64 (
 okk Tryz.func65 (
 okk Tryz.func66 (
 okk Tryz.func130 (
 okk Tryz.func68 (
 okk Tryz.func63 (
 okk Tryz.func19 (
 okk Tryz.func13 (
 okk Tryz.func69 (
 okk Tryz.func133 (
 okk Tryz.func131 (
 okk Tryz.func132 (
 okk Tryz.func73 (
 okk Tryz.func136 (
 okk Tryz.func135 (
 okk Tryz.func70 (
 okk Tryz.func20 (
 okk Tryz.func25 (
 okk Tryz.func79 (
 okk Tryz.func141 (
 okk Tryz.func139 (
 okk Tryz.func76 (
 okk Tryz.func75 (
 okk Tryz.func23 (
 okk Tryz.func6 (
 List.forall_mem_nil _))))))))))))))))))))))))))
def Va:List (Nat × AFn):=yD++(yE++(yF++(yG++(yH++(yI)))))
def L:Lib:=⟨λ f=>Va.lookup f,num⟩
theorem AjL:ProgOK Tryz.prog num L:=AjM Va (List.forall_mem_append.2 ⟨Ajq,(List.forall_mem_append.2 ⟨Ajr,(List.forall_mem_append.2 ⟨Ajs,(List.forall_mem_append.2 ⟨Ajt,(List.forall_mem_append.2 ⟨Aju,Ajv⟩)⟩)⟩)⟩)⟩)
theorem Ah1:F.c8 L:={ L2:=rfl,L3:=rfl,L0:=rfl,L1:=rfl,IZ:=rfl,MZ:=rfl,MY:=rfl,G0:=rfl,M9:=rfl,M5:=rfl,M4:=rfl,M8:=rfl,M7:=rfl,KZ:=rfl,NE:=rfl,G6:=rfl,NC:=rfl,M6:=rfl,NG:=rfl,JR:=rfl,ND:=rfl,NA:=rfl,NB:=rfl,NF:=rfl,HY:=rfl }
theorem kY:F.a7 L:={ Ah1 with DK:=rfl,MQ:=rfl,MO:=rfl,MP:=rfl,ML:=rfl,MN:=rfl,JW:=rfl,OP:=rfl,OQ:=rfl,IW:=rfl,K4:=rfl,OR:=rfl,ON:=rfl,OK:=rfl,OL:=rfl,JV:=rfl,K3:=rfl,OH:=rfl }
theorem xF:F.a9 L:={ IX:=rfl,OU:=rfl,OS:=rfl,KI:=rfl,OW:=rfl,OT:=rfl,JX:=rfl,OX:=rfl,EC:=rfl,OV:=rfl,O8:=rfl,O5:=rfl,O6:=rfl,O4:=rfl,OZ:=rfl,O7:=rfl,O0:=rfl,O3:=rfl,O1:=rfl,O2:=rfl,JY:=rfl,K5:=rfl,PG:=rfl,PF:=rfl,PC:=rfl,PA:=rfl,PB:=rfl,PD:=rfl }
theorem Ah9:F.v8 L:={ kY,xF with NH:=rfl,PU:=rfl,PP:=rfl,PN:=rfl,PQ:=rfl }
theorem kX:F.c7 L:={ MJ:=rfl,MH:=rfl,MD:=rfl,MC:=rfl,MB:=rfl,MG:=rfl,MI:=rfl,MF:=rfl,ME:=rfl,PJ:=rfl,PL:=rfl,PK:=rfl,PI:=rfl,PH:=rfl }
theorem xB:F.u4 L:={ kX with NJ:=rfl,NN:=rfl,NL:=rfl,NK:=rfl,NM:=rfl,NI:=rfl,PR:=rfl }
theorem xA:F.iz L:={ Ah9,xB with  }
theorem xD:F.w9 L:={ kY with OO:=rfl,OM:=rfl,OI:=rfl }
theorem Ah4:F.jx L:={ kY with OE:=rfl }
theorem xG:F.cu L:={ xF with PE:=rfl,SL:=rfl,SJ:=rfl,SK:=rfl }
theorem Ah5:F.nh L:={ xG with  }
theorem Aia:F.qa L:={ xA,xD,Ah4,Ah5 with  }
theorem xH:F.o8 L:={ Aia with MM:=rfl,K2:=rfl,OJ:=rfl,OD:=rfl,P4:=rfl,QB:=rfl,QA:=rfl,QC:=rfl,LB:=rfl }
theorem Ah3:F.y6 L:={ xH with OG:=rfl }
theorem xC:F.m4 L:={ Ah3 with N0:=rfl,NY:=rfl,OA:=rfl,N1:=rfl,NU:=rfl,N8:=rfl,OB:=rfl,N5:=rfl,NZ:=rfl,N9:=rfl,N3:=rfl,N2:=rfl,NT:=rfl }
theorem Ah6:F.x7 L:={ xH with OY:=rfl,O9:=rfl,P2:=rfl,PZ:=rfl,PV:=rfl,P3:=rfl,PX:=rfl,P0:=rfl }
theorem Ah0:F.y5 L:={ xA,xD,xG with PS:=rfl,PT:=rfl,PO:=rfl,PM:=rfl }
theorem xI:F.q6 L:={ kX with QL:=rfl,QF:=rfl,QM:=rfl,QI:=rfl,QH:=rfl,QG:=rfl,QK:=rfl }
theorem Ah8:F.ja L:={ xB,xI with  }
theorem AhX:F.l6 L:={ Ah8 with MA:=rfl,L9:=rfl,L8:=rfl,JO:=rfl,L5:=rfl,L6:=rfl,L7:=rfl }
theorem Ah2:F.z8 L:={ AhX with MS:=rfl,MR:=rfl,QJ:=rfl,IQ:=rfl }
theorem AhY:F.fo L:={ xC with MU:=rfl }
theorem AhW:F.n8 L:={ xC with OC:=rfl,N6:=rfl,H0:=rfl,N7:=rfl,NV:=rfl,NX:=rfl,N4:=rfl,NW:=rfl,NS:=rfl }
theorem AhV:F.iy L:={ AhW with NR:=rfl }
theorem Ah7:F.w8 L:={ Ah6,Ah0 with SM:=rfl,PW:=rfl,P1:=rfl,PY:=rfl,K7:=rfl,K6:=rfl }
theorem AhZ:F.jv L:={ AhY,AhV,Ah7,Ah2 with MT:=rfl }
end Go.Proofs.YtplhdlbnneoobaaGreat
