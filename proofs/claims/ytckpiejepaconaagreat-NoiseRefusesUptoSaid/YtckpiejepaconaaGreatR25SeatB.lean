/-
  The functions of the groups are the program's own: checked by the kernel, function by function.
-/
import Derived.Test.YtckpiejepaconaaGreatProg
import Derived.KernelRfl
import Derived.Test.YtckpiejepaconaaGreatB2
import Derived.Test.YtckpiejepaconaaGreatB1
set_option linter.unusedSimpArgs false
set_option linter.unusedVariables false
set_option linter.unnecessarySimpa false
namespace Go.Proofs.YtckpiejepaconaaGreat
open Go.j4
def num:Nat->Nat
 | 58=>167
 | 59=>168
 | 60=>139
 | 61=>140
 | 62=>172
 | 63=>186
 | 64=>179
 | 65=>138
 | 66=>145
 | 67=>88
 | 68=>136
 | 69=>137
 | 70=>92
 | 71=>180
 | 72=>182
 | 73=>181
 | 74=>169
 | 75=>141
 | 76=>171
 | 77=>187
 | 78=>184
 | 79=>183
 | 80=>185
 | 81=>170
 | 82=>143
 | 83=>135
 | 84=>142
 | 85=>106
 | 86=>108
 | 87=>87
 | 88=>90
 | 89=>85
 | 90=>144
 | 91=>91
 | 92=>86
 | 93=>109
 | 94=>89
 | 95=>63
 | 96=>50
 | 97=>52
 | 98=>30
 | 99=>31
 | 100=>120
 | 101=>115
 | 102=>152
 | 103=>151
 | 104=>153
 | 105=>118
 | 106=>174
 | 107=>175
 | 108=>173
 | 109=>155
 | 110=>154
 | 111=>117
 | 112=>65
 | 113=>64
 | 114=>74
 | 115=>114
 | 116=>116
 | 117=>60
 | 118=>61
 | 119=>122
 | 120=>121
 | 121=>66
 | 122=>59
 | 123=>73
 | 124=>18
 | 125=>19
 | 126=>57
 | 127=>13
 | 128=>27
 | 130=>84
 | 135=>96
 | 136=>93
 | 137=>38
 | 138=>94
 | 139=>95
 | 140=>37
 | 10=>35
 | 149=>125
 | 150=>72
 | 169=>156
 | 152=>21
 | 153=>26
 | 154=>58
 | 155=>17
 | 197=>157
 | 198=>124
 | 199=>71
 | 200=>123
 | 201=>67
 | 204=>68
 | 205=>69
 | 206=>70
 | 207=>20
 | 256=>176
 | 294=>158
 | 295=>126
 | 296=>127
 | 297=>160
 | 299=>129
 | 300=>159
 | 302=>128
 | 303=>75
 | 306=>22
 | 308=>165
 | 309=>132
 | 310=>79
 | 311=>80
 | 313=>81
 | 314=>24
 | 227=>177
 | 228=>161
 | 229=>130
 | 231=>162
 | 900=>178
 | 233=>163
 | 234=>164
 | 235=>131
 | 237=>78
 | 239=>82
 | 276=>166
 | 277=>133
 | 901=>134
 | 278=>83
 | 327=>28
 | 321=>76
 | 322=>77
 | 323=>23
 | 324=>6
 | 325=>25
 | 326=>7
 | 328=>29
 | 329=>32
 | 330=>33
 | 331=>8
 | 332=>16
 | 333=>34
 | 334=>36
 | 335=>9
 | 336=>5
 | 423=>3
 | _=>0
theorem ok {p:Nat × AFn->Prop} {a:Nat × AFn} {l:List (Nat × AFn)} (h:p a) (t : ∀ x∈l,p x) : ∀ x∈a::l,p x:=List.forall_mem_cons.2 ⟨h,t⟩
theorem okk {p : Nat × AFn} {l : List (Nat × AFn)} {fn : Func} (hf : Tryz.prog.funcs[num p.1]? = some fn) (t : ∀ x ∈ l, OkF Tryz.prog num x) (h1 : okFn Tryz.prog num fn p.2 = true := by kernel_rfl) (h2 : (fn.name == "runtime.NumGoroutine") = false := by kernel_rfl) : ∀ x ∈ p :: l, OkF Tryz.prog num x := ok ⟨fn, hf, h1, h2⟩ t
def Ae8:List (Nat × AFn):=[(58,F.aF),(59,F.aG),(60,F.aD),(61,F.aE),(62,F.Q5),(63,F.bF),(64,F.bE),(65,F.KS),(66,F.bL),(67,F.XC),(68,F.XB),(69,F.XD),(70,F.SK),(71,F.SN),(72,F.XH),(73,F.KT),(74,F.SL),(75,F.bJ),(76,F.XJ),(77,F.SM),(78,F.bN),(79,F.XF),(80,F.XG),(81,F.bO),(82,F.LS),(83,F.HD),(84,F.bC),(85,F.bA),(86,F.bB),(87,F.aX)]
set_option maxRecDepth 100000 in
theorem Aq3 : ∀ x∈Ae8,OkF Tryz.prog num x :=
 okk Tryz.func167 (
 okk Tryz.func168 (
 okk Tryz.func139 (
 okk Tryz.func140 (
 okk Tryz.func172 (
 okk Tryz.func186 (
 okk Tryz.func179 (
 okk Tryz.func138 (
 okk Tryz.func145 (
 okk Tryz.func88 (
 okk Tryz.func136 (
 okk Tryz.func137 (
 okk Tryz.func92 (
 okk Tryz.func180 (
 okk Tryz.func182 (
 okk Tryz.func181 (
 okk Tryz.func169 (
 okk Tryz.func141 (
 okk Tryz.func171 (
 okk Tryz.func187 (
 okk Tryz.func184 (
 okk Tryz.func183 (
 okk Tryz.func185 (
 okk Tryz.func170 (
 okk Tryz.func143 (
 okk Tryz.func135 (
 okk Tryz.func142 (
 okk Tryz.func106 (
 okk Tryz.func108 (
 okk Tryz.func87 (
 List.forall_mem_nil _))))))))))))))))))))))))))))))
def Ae9:List (Nat × AFn):=[(88,F.aZ),(89,F.TQ),(90,F.cD),(91,F.cE),(92,F.QR),(93,F.cG),(94,F.cF),(95,F.cB),(96,F.bY),(97,F.bZ),(98,F.TI),(99,F.X1),(100,F.bW),(101,F.NV),(102,F.X4),(103,F.X2),(104,F.QS),(105,F.U7),(106,F.X3),(107,F.NT),(108,F.X6),(109,F.HJ),(110,F.X5),(111,F.cT),(112,F.cP),(113,F.cQ),(114,F.cO),(115,F.cI),(116,F.cR),(117,F.cK)]
set_option maxRecDepth 100000 in
theorem Aq4 : ∀ x∈Ae9,OkF Tryz.prog num x :=
 okk Tryz.func90 (
 okk Tryz.func85 (
 okk Tryz.func144 (
 okk Tryz.func91 (
 okk Tryz.func86 (
 okk Tryz.func109 (
 okk Tryz.func89 (
 okk Tryz.func63 (
 okk Tryz.func50 (
 okk Tryz.func52 (
 okk Tryz.func30 (
 okk Tryz.func31 (
 okk Tryz.func120 (
 okk Tryz.func115 (
 okk Tryz.func152 (
 okk Tryz.func151 (
 okk Tryz.func153 (
 okk Tryz.func118 (
 okk Tryz.func174 (
 okk Tryz.func175 (
 okk Tryz.func173 (
 okk Tryz.func155 (
 okk Tryz.func154 (
 okk Tryz.func117 (
 okk Tryz.func65 (
 okk Tryz.func64 (
 okk Tryz.func74 (
 okk Tryz.func114 (
 okk Tryz.func116 (
 okk Tryz.func60 (
 List.forall_mem_nil _))))))))))))))))))))))))))))))
def Afb:List (Nat × AFn):=[(118,F.cN),(119,F.cL),(120,F.cM),(121,F.VB),(122,F.X7),(123,F.dE),(124,F.dB),(125,F.cY),(126,F.cV),(127,F.cW),(128,F.cZ),(130,F.MU),(135,F.X8),(136,F.NW),(137,F.VI),(138,F.VJ),(139,F.QW),(140,F.dG),(10,F.dF),(149,F.cC),(150,F.cA),(169,F.XX),(152,F.dA),(153,F.U9),(154,F.cX),(155,F.dD),(197,F.aY),(198,F.XY),(199,F.bX),(200,F.bS)]
set_option maxRecDepth 100000 in
theorem Aq5 : ∀ x∈Afb,OkF Tryz.prog num x :=
 okk Tryz.func61 (
 okk Tryz.func122 (
 okk Tryz.func121 (
 okk Tryz.func66 (
 okk Tryz.func59 (
 okk Tryz.func73 (
 okk Tryz.func18 (
 okk Tryz.func19 (
 okk Tryz.func57 (
 okk Tryz.func13 (
 okk Tryz.func27 (
 okk Tryz.func84 (
 okk Tryz.func96 (
 okk Tryz.func93 (
 okk Tryz.func38 (
 okk Tryz.func94 (
 okk Tryz.func95 (
 okk Tryz.func37 (
 okk Tryz.func35 (
 okk Tryz.func125 (
 okk Tryz.func72 (
 okk Tryz.func156 (
 okk Tryz.func21 (
 okk Tryz.func26 (
 okk Tryz.func58 (
 okk Tryz.func17 (
 okk Tryz.func157 (
 okk Tryz.func124 (
 okk Tryz.func71 (
 okk Tryz.func123 (
 List.forall_mem_nil _))))))))))))))))))))))))))))))
def Afc:List (Nat × AFn):=[(201,F.dI),(204,F.YL),(205,F.dO),(206,F.YM),(207,F.VT),(256,F.bV),(294,F.XT),(295,F.TG),(296,F.XV),(297,F.XU),(299,F.NR),(300,F.XW),(302,F.XR),(303,F.QQ),(306,F.XP),(308,F.cH),(309,F.cU),(310,F.YC),(311,F.YB),(313,F.QY),(314,F.QX),(227,F.dM),(228,F.VM),(229,F.SC),(231,F.OS),(900,F.W7),(233,F.NG),(234,F.SD),(235,F.NP),(237,F.R7)]
set_option maxRecDepth 100000 in
theorem Aq6 : ∀ x∈Afc,OkF Tryz.prog num x :=
 okk Tryz.func67 (
 okk Tryz.func68 (
 okk Tryz.func69 (
 okk Tryz.func70 (
 okk Tryz.func20 (
 okk Tryz.func176 (
 okk Tryz.func158 (
 okk Tryz.func126 (
 okk Tryz.func127 (
 okk Tryz.func160 (
 okk Tryz.func129 (
 okk Tryz.func159 (
 okk Tryz.func128 (
 okk Tryz.func75 (
 okk Tryz.func22 (
 okk Tryz.func165 (
 okk Tryz.func132 (
 okk Tryz.func79 (
 okk Tryz.func80 (
 okk Tryz.func81 (
 okk Tryz.func24 (
 okk Tryz.func177 (
 okk Tryz.func161 (
 okk Tryz.func130 (
 okk Tryz.func162 (
 okk Tryz.func178 (
 okk Tryz.func163 (
 okk Tryz.func164 (
 okk Tryz.func131 (
 okk Tryz.func78 (
 List.forall_mem_nil _))))))))))))))))))))))))))))))
def Afd:List (Nat × AFn):=[(239,F.QT),(276,F.dC),(277,F.VF),(901,F.LV),(278,F.QU),(327,F.VC),(321,F.SZ),(322,F.XM),(323,F.QP),(324,F.NQ),(325,F.Q0),(326,F.JK),(328,F.S3),(329,F.QO),(330,F.SS),(331,F.JV),(332,F.bP),(333,F.YE),(334,F.YD),(335,F.QZ),(336,F.bD),(423,F.QM)]
set_option maxRecDepth 100000 in
theorem Aq7 : ∀ x∈Afd,OkF Tryz.prog num x :=
 okk Tryz.func82 (
 okk Tryz.func166 (
 okk Tryz.func133 (
 okk Tryz.func134 (
 okk Tryz.func83 (
 okk Tryz.func28 (
 okk Tryz.func76 (
 okk Tryz.func77 (
 okk Tryz.func23 (
 okk Tryz.func6 (
 okk Tryz.func25 (
 okk Tryz.func7 (
 okk Tryz.func29 (
 okk Tryz.func32 (
 okk Tryz.func33 (
 okk Tryz.func8 (
 okk Tryz.func16 (
 okk Tryz.func34 (
 okk Tryz.func36 (
 okk Tryz.func9 (
 okk Tryz.func5 (
 okk Tryz.func3 (
 List.forall_mem_nil _))))))))))))))))))))))
def lib:List (Nat × AFn):=Ae8++(Ae9++(Afb++(Afc++(Afd))))
def L:Lib:=⟨λ f=>lib.lookup f,num⟩
theorem Arl:ProgOK Tryz.prog num L:=Arm lib (List.forall_mem_append.2 ⟨Aq3,(List.forall_mem_append.2 ⟨Aq4,(List.forall_mem_append.2 ⟨Aq5,(List.forall_mem_append.2 ⟨Aq6,Aq7⟩)⟩)⟩)⟩)
theorem Apv:F.c9 L:={ aF:=rfl,aG:=rfl,aD:=rfl,aE:=rfl,Q5:=rfl,bF:=rfl,bE:=rfl,KS:=rfl,bL:=rfl,XC:=rfl,XB:=rfl,XD:=rfl,SK:=rfl,SN:=rfl,XH:=rfl,KT:=rfl,SL:=rfl,bJ:=rfl,XJ:=rfl,SM:=rfl,bN:=rfl,XF:=rfl,XG:=rfl,bO:=rfl,LS:=rfl }
theorem zP:F.a7 L:={ Apv with HD:=rfl,bC:=rfl,bA:=rfl,bB:=rfl,aX:=rfl,aZ:=rfl,TQ:=rfl,cD:=rfl,cE:=rfl,QR:=rfl,cG:=rfl,cF:=rfl,cB:=rfl,bY:=rfl,bZ:=rfl,TI:=rfl,X1:=rfl,bW:=rfl }
theorem zQ:F.a8 L:={ NV:=rfl,X4:=rfl,X2:=rfl,QS:=rfl,U7:=rfl,X3:=rfl,NT:=rfl,X6:=rfl,HJ:=rfl,X5:=rfl,cT:=rfl,cP:=rfl,cQ:=rfl,cO:=rfl,cI:=rfl,cR:=rfl,cK:=rfl,cN:=rfl,cL:=rfl,cM:=rfl,VB:=rfl,X7:=rfl,dE:=rfl,dB:=rfl,cY:=rfl,cV:=rfl,cW:=rfl,cZ:=rfl }
theorem ApF:F.o6 L:={ zP,zQ with MU:=rfl,X8:=rfl,NW:=rfl,VI:=rfl,VJ:=rfl,QW:=rfl,dG:=rfl }
theorem AeF:F.fj L:={ dF:=rfl }
theorem Apw:F.Dc L:={ AeF with  }
theorem Apt:F.Az L:={ ApF,Apw with  }
theorem AeH:F.er L:={ zP with cC:=rfl,cA:=rfl }
theorem Apz:F.xh L:={ zP with XX:=rfl }
theorem AeI:F.s9 L:={ zQ with dA:=rfl,U9:=rfl,cX:=rfl,dD:=rfl }
theorem ApA:F.Bb L:={ AeI with  }
theorem ApG:F.zy L:={ Apt,AeH,Apz,ApA with  }
theorem zU:F.ae L:={ ApG with aY:=rfl,XY:=rfl,bX:=rfl,bS:=rfl,dI:=rfl,YL:=rfl,dO:=rfl,YM:=rfl,VT:=rfl }
theorem Apy:F.ma L:={ zU with bV:=rfl }
theorem Apx:F.di L:={ Apy with XT:=rfl,TG:=rfl,XV:=rfl,XU:=rfl,NR:=rfl,XW:=rfl,XR:=rfl,QQ:=rfl,XP:=rfl }
theorem ApC:F.fg L:={ zU with cH:=rfl,cU:=rfl,YC:=rfl,YB:=rfl,QY:=rfl,QX:=rfl }
theorem Apu:F.ay L:={ AeH,zU with dM:=rfl,VM:=rfl,SC:=rfl,OS:=rfl,W7:=rfl,NG:=rfl,SD:=rfl,NP:=rfl,R7:=rfl }
theorem ApB:F.mf L:={ AeI with QT:=rfl }
theorem AeG:F.eg L:={ ApB with dC:=rfl,VF:=rfl,LV:=rfl,QU:=rfl }
theorem ApH:F.xj L:={ AeF with  }
theorem ApE:F.xi L:={ ApH,zQ with  }
theorem Apo:F.xf L:={ ApE with  }
theorem ApD:F.uw L:={ AeG with VC:=rfl }
theorem Apq:F.w8 L:={ Apx,ApC,Apu,AeG,Apo,ApD with SZ:=rfl,XM:=rfl,QP:=rfl,NQ:=rfl,Q0:=rfl,JK:=rfl }
theorem App:F.w7 L:={ Apq with S3:=rfl,QO:=rfl,SS:=rfl,JV:=rfl,bP:=rfl,YE:=rfl,YD:=rfl,QZ:=rfl }
theorem Apr:F.lz L:={ App with bD:=rfl }
theorem Aps:F.xg L:={ Apr with QM:=rfl }
end Go.Proofs.YtckpiejepaconaaGreat
