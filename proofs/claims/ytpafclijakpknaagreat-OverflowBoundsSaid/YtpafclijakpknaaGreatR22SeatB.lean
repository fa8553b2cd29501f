/-
  The functions of the groups are the program's own: checked by the kernel, function by function.
-/
import Derived.Test.YtpafclijakpknaaGreatProg
import Derived.KernelRfl
import Derived.Test.YtpafclijakpknaaGreatB5
import Derived.Test.YtpafclijakpknaaGreatB1
import Derived.Test.YtpafclijakpknaaGreatB2
set_option linter.unusedSimpArgs false
set_option linter.unusedVariables false
set_option linter.unnecessarySimpa false
namespace Go.Proofs.YtpafclijakpknaaGreat
open Go.c9
def num:Nat->Nat
 | 58=>178
 | 59=>179
 | 60=>166
 | 61=>167
 | 62=>170
 | 63=>187
 | 64=>180
 | 65=>163
 | 66=>147
 | 67=>137
 | 68=>164
 | 69=>165
 | 70=>135
 | 71=>181
 | 72=>183
 | 73=>182
 | 74=>172
 | 75=>153
 | 76=>174
 | 77=>188
 | 78=>185
 | 79=>184
 | 80=>186
 | 81=>173
 | 82=>155
 | 83=>146
 | 84=>154
 | 85=>102
 | 86=>133
 | 87=>136
 | 88=>99
 | 89=>97
 | 90=>156
 | 91=>100
 | 92=>101
 | 93=>127
 | 94=>121
 | 95=>58
 | 96=>44
 | 97=>83
 | 98=>89
 | 99=>88
 | 100=>92
 | 101=>117
 | 102=>169
 | 103=>161
 | 104=>162
 | 105=>120
 | 106=>176
 | 107=>177
 | 108=>175
 | 109=>160
 | 110=>159
 | 111=>119
 | 112=>78
 | 113=>62
 | 114=>115
 | 115=>145
 | 116=>118
 | 117=>54
 | 118=>55
 | 119=>130
 | 120=>129
 | 121=>79
 | 122=>53
 | 123=>114
 | 124=>34
 | 125=>35
 | 126=>96
 | 127=>16
 | 128=>94
 | 130=>59
 | 135=>148
 | 136=>140
 | 137=>142
 | 138=>144
 | 1=>125
 | 2=>72
 | 3=>126
 | 4=>37
 | 5=>74
 | 10=>33
 | 11=>76
 | 12=>128
 | 13=>41
 | 14=>77
 | 21=>30
 | 27=>32
 | 149=>150
 | 150=>113
 | 151=>75
 | 169=>171
 | 152=>51
 | 153=>47
 | 154=>48
 | 155=>19
 | 197=>98
 | 198=>43
 | 199=>112
 | 200=>149
 | 201=>108
 | 204=>109
 | 205=>110
 | 206=>111
 | 207=>50
 | 256=>90
 | 294=>134
 | 295=>86
 | 296=>87
 | 297=>138
 | 298=>151
 | 299=>132
 | 300=>139
 | 301=>152
 | 302=>131
 | 303=>82
 | 304=>116
 | 305=>91
 | 307=>52
 | 308=>168
 | 309=>141
 | 310=>105
 | 311=>106
 | 312=>143
 | 313=>107
 | 314=>46
 | 315=>93
 | 163=>104
 | 164=>103
 | 165=>45
 | 166=>95
 | 34=>6
 | 35=>67
 | 36=>66
 | 37=>21
 | 38=>22
 | 40=>23
 | 41=>28
 | 46=>68
 | 47=>70
 | 48=>69
 | 49=>71
 | 50=>25
 | 51=>26
 | 52=>27
 | 345=>73
 | 346=>29
 | 347=>24
 | 348=>5
 | 318=>15
 | 349=>36
 | 350=>31
 | 351=>80
 | 352=>81
 | 353=>39
 | 354=>85
 | 355=>84
 | 356=>38
 | 357=>11
 | 358=>13
 | 360=>9
 | 361=>49
 | 362=>8
 | 363=>40
 | 364=>42
 | 365=>12
 | 366=>14
 | 402=>7
 | 403=>10
 | 404=>3
 | _=>0
theorem ok {p:Nat × AFn->Prop} {a:Nat × AFn} {l:List (Nat × AFn)} (h:p a) (t : ∀ x∈l,p x) : ∀ x∈a::l,p x:=List.forall_mem_cons.2 ⟨h,t⟩
theorem okk {p : Nat × AFn} {l : List (Nat × AFn)} {fn : Func} (hf : Tryz.prog.funcs[num p.1]? = some fn) (t : ∀ x ∈ l, OkF Tryz.prog num x) (h1 : okFn Tryz.prog num fn p.2 = true := by kernel_rfl) (h2 : (fn.name == "runtime.NumGoroutine") = false := by kernel_rfl) : ∀ x ∈ p :: l, OkF Tryz.prog num x := ok ⟨fn, hf, h1, h2⟩ t
def Aly:List (Nat × AFn):=[(58,F.dH),(59,F.dI),(60,F.dF),(61,F.dG),(62,F.XD),(63,F.fJ),(64,F.fH),(65,F.OZ),(66,F.fW),(67,F.fP),(68,F.fO),(69,F.fU),(70,F.fS),(71,F.aR),(72,F.gC),(73,F.PK),(74,F.fZ),(75,F.fR),(76,F.gG),(77,F.YW),(78,F.gA),(79,F.fX),(80,F.fY),(81,F.gD),(82,F.QE),(83,F.J3),(84,F.eL),(85,F.eJ),(86,F.eK),(87,F.eG)]
set_option maxRecDepth 100000 in
theorem AvW : ∀ x∈Aly,OkF Tryz.prog num x :=
 okk Tryz.func178 (
 okk Tryz.func179 (
 okk Tryz.func166 (
 okk Tryz.func167 (
 okk Tryz.func170 (
 okk Tryz.func187 (
 okk Tryz.func180 (
 okk Tryz.func163 (
 okk Tryz.func147 (
 okk Tryz.func137 (
 okk Tryz.func164 (
 okk Tryz.func165 (
 okk Tryz.func135 (
 okk Tryz.func181 (
 okk Tryz.func183 (
 okk Tryz.func182 (
 okk Tryz.func172 (
 okk Tryz.func153 (
 okk Tryz.func174 (
 okk Tryz.func188 (
 okk Tryz.func185 (
 okk Tryz.func184 (
 okk Tryz.func186 (
 okk Tryz.func173 (
 okk Tryz.func155 (
 okk Tryz.func146 (
 okk Tryz.func154 (
 okk Tryz.func102 (
 okk Tryz.func133 (
 okk Tryz.func136 (
 List.forall_mem_nil _))))))))))))))))))))))))))))))
def Alz:List (Nat × AFn):=[(88,F.eI),(89,F.Y7),(90,F.jJ),(91,F.jL),(92,F.W9),(93,F.bB),(94,F.jM),(95,F.jH),(96,F.jD),(97,F.jE),(98,F.Y5),(99,F.bA),(100,F.iZ),(101,F.XA),(102,F.jP),(103,F.jN),(104,F.aC),(105,F.jT),(106,F.jO),(107,F.Y9),(108,F.jV),(109,F.KT),(110,F.jR),(111,F.kQ),(112,F.kK),(113,F.kM),(114,F.kJ),(115,F.kC),(116,F.kP),(117,F.kD)]
set_option maxRecDepth 100000 in
theorem AvX : ∀ x∈Alz,OkF Tryz.prog num x :=
 okk Tryz.func99 (
 okk Tryz.func97 (
 okk Tryz.func156 (
 okk Tryz.func100 (
 okk Tryz.func101 (
 okk Tryz.func127 (
 okk Tryz.func121 (
 okk Tryz.func58 (
 okk Tryz.func44 (
 okk Tryz.func83 (
 okk Tryz.func89 (
 okk Tryz.func88 (
 okk Tryz.func92 (
 okk Tryz.func117 (
 okk Tryz.func169 (
 okk Tryz.func161 (
 okk Tryz.func162 (
 okk Tryz.func120 (
 okk Tryz.func176 (
 okk Tryz.func177 (
 okk Tryz.func175 (
 okk Tryz.func160 (
 okk Tryz.func159 (
 okk Tryz.func119 (
 okk Tryz.func78 (
 okk Tryz.func62 (
 okk Tryz.func115 (
 okk Tryz.func145 (
 okk Tryz.func118 (
 okk Tryz.func54 (
 List.forall_mem_nil _))))))))))))))))))))))))))))))
def AlA:List (Nat × AFn):=[(118,F.kH),(119,F.kE),(120,F.kF),(121,F.ZB),(122,F.bC),(123,F.lG),(124,F.kZ),(125,F.kV),(126,F.kS),(127,F.kT),(128,F.kX),(130,F.gI),(135,F.lY),(136,F.lR),(137,F.lO),(138,F.lS),(1,F.eB),(2,F.eA),(3,F.dZ),(4,F.dY),(5,F.dX),(10,F.lJ),(11,F.lM),(12,F.lL),(13,F.lI),(14,F.lH),(21,F.gJ),(27,F.lT),(149,F.jI),(150,F.jF)]
set_option maxRecDepth 100000 in
theorem AvY : ∀ x∈AlA,OkF Tryz.prog num x :=
 okk Tryz.func55 (
 okk Tryz.func130 (
 okk Tryz.func129 (
 okk Tryz.func79 (
 okk Tryz.func53 (
 okk Tryz.func114 (
 okk Tryz.func34 (
 okk Tryz.func35 (
 okk Tryz.func96 (
 okk Tryz.func16 (
 okk Tryz.func94 (
 okk Tryz.func59 (
 okk Tryz.func148 (
 okk Tryz.func140 (
 okk Tryz.func142 (
 okk Tryz.func144 (
 okk Tryz.func125 (
 okk Tryz.func72 (
 okk Tryz.func126 (
 okk Tryz.func37 (
 okk Tryz.func74 (
 okk Tryz.func33 (
 okk Tryz.func76 (
 okk Tryz.func128 (
 okk Tryz.func41 (
 okk Tryz.func77 (
 okk Tryz.func30 (
 okk Tryz.func32 (
 okk Tryz.func150 (
 okk Tryz.func113 (
 List.forall_mem_nil _))))))))))))))))))))))))))))))
def AlB:List (Nat × AFn):=[(151,F.jA),(169,F.iX),(152,F.kY),(153,F.lF),(154,F.kU),(155,F.lE),(197,F.eH),(198,F.aZ),(199,F.jC),(200,F.iW),(201,F.mJ),(204,F.mS),(205,F.mR),(206,F.mT),(207,F.mQ),(256,F.iY),(294,F.iE),(295,F.iC),(296,F.iS),(297,F.iF),(298,F.gQ),(299,F.iQ),(300,F.iT),(301,F.iK),(302,F.iD),(303,F.iR),(304,F.iI),(305,F.iH),(307,F.gP),(308,F.jZ)]
set_option maxRecDepth 100000 in
theorem AvZ : ∀ x∈AlB,OkF Tryz.prog num x :=
 okk Tryz.func75 (
 okk Tryz.func171 (
 okk Tryz.func51 (
 okk Tryz.func47 (
 okk Tryz.func48 (
 okk Tryz.func19 (
 okk Tryz.func98 (
 okk Tryz.func43 (
 okk Tryz.func112 (
 okk Tryz.func149 (
 okk Tryz.func108 (
 okk Tryz.func109 (
 okk Tryz.func110 (
 okk Tryz.func111 (
 okk Tryz.func50 (
 okk Tryz.func90 (
 okk Tryz.func134 (
 okk Tryz.func86 (
 okk Tryz.func87 (
 okk Tryz.func138 (
 okk Tryz.func151 (
 okk Tryz.func132 (
 okk Tryz.func139 (
 okk Tryz.func152 (
 okk Tryz.func131 (
 okk Tryz.func82 (
 okk Tryz.func116 (
 okk Tryz.func91 (
 okk Tryz.func52 (
 okk Tryz.func168 (
 List.forall_mem_nil _))))))))))))))))))))))))))))))
def AlC:List (Nat × AFn):=[(309,F.kR),(310,F.mF),(311,F.mC),(312,F.lZ),(313,F.mI),(314,F.mA),(315,F.mD),(163,F.lU),(164,F.lX),(165,F.lQ),(166,F.lN),(34,F.nG),(35,F.mZ),(36,F.nI),(37,F.nC),(38,F.nB),(40,F.nA),(41,F.nE),(46,F.dW),(47,F.dS),(48,F.dQ),(49,F.YQ),(50,F.dK),(51,F.dO),(52,F.dP),(345,F.eT),(346,F.eN),(347,F.nD),(348,F.W5),(318,F.fD)]
set_option maxRecDepth 100000 in
theorem Av0 : ∀ x∈AlC,OkF Tryz.prog num x :=
 okk Tryz.func141 (
 okk Tryz.func105 (
 okk Tryz.func106 (
 okk Tryz.func143 (
 okk Tryz.func107 (
 okk Tryz.func46 (
 okk Tryz.func93 (
 okk Tryz.func104 (
 okk Tryz.func103 (
 okk Tryz.func45 (
 okk Tryz.func95 (
 okk Tryz.func6 (
 okk Tryz.func67 (
 okk Tryz.func66 (
 okk Tryz.func21 (
 okk Tryz.func22 (
 okk Tryz.func23 (
 okk Tryz.func28 (
 okk Tryz.func68 (
 okk Tryz.func70 (
 okk Tryz.func69 (
 okk Tryz.func71 (
 okk Tryz.func25 (
 okk Tryz.func26 (
 okk Tryz.func27 (
 okk Tryz.func73 (
 okk Tryz.func29 (
 okk Tryz.func24 (
 okk Tryz.func5 (
 okk Tryz.func15 (
 List.forall_mem_nil _))))))))))))))))))))))))))))))
def AlD:List (Nat × AFn):=[(349,F.iV),(350,F.iN),(351,F.QN),(352,F.iO),(353,F.gT),(354,F.hJ),(355,F.iJ),(356,F.gV),(357,F.aU),(358,F.gO),(360,F.Y3),(361,F.bF),(362,F.bG),(363,F.mE),(364,F.bH),(365,F.ZG),(366,F.ZF),(402,F.aS),(403,F.XB),(404,F.W4)]
set_option maxRecDepth 100000 in
theorem Av1 : ∀ x∈AlD,OkF Tryz.prog num x :=
 okk Tryz.func36 (
 okk Tryz.func31 (
 okk Tryz.func80 (
 okk Tryz.func81 (
 okk Tryz.func39 (
 okk Tryz.func85 (
 okk Tryz.func84 (
 okk Tryz.func38 (
 okk Tryz.func11 (
 okk Tryz.func13 (
 okk Tryz.func9 (
 okk Tryz.func49 (
 okk Tryz.func8 (
 okk Tryz.func40 (
 okk Tryz.func42 (
 okk Tryz.func12 (
 okk Tryz.func14 (
 okk Tryz.func7 (
 okk Tryz.func10 (
 okk Tryz.func3 (
 List.forall_mem_nil _))))))))))))))))))))
def lib:List (Nat × AFn):=Aly++(Alz++(AlA++(AlB++(AlC++(AlD)))))
def L:Lib:=⟨λ f=>lib.lookup f,num⟩
theorem Awf:ProgOK Tryz.prog num L:=Awg lib (List.forall_mem_append.2 ⟨AvW,(List.forall_mem_append.2 ⟨AvX,(List.forall_mem_append.2 ⟨AvY,(List.forall_mem_append.2 ⟨AvZ,(List.forall_mem_append.2 ⟨Av0,Av1⟩)⟩)⟩)⟩)⟩)
theorem AuE:F.e9 L:={ dH:=rfl,dI:=rfl,dF:=rfl,dG:=rfl,XD:=rfl,fJ:=rfl,fH:=rfl,OZ:=rfl,fW:=rfl,fP:=rfl,fO:=rfl,fU:=rfl,fS:=rfl,aR:=rfl,gC:=rfl,PK:=rfl,fZ:=rfl,fR:=rfl,gG:=rfl,YW:=rfl,gA:=rfl,fX:=rfl,fY:=rfl,gD:=rfl,QE:=rfl }
theorem Aff:F.a7 L:={ AuE with J3:=rfl,eL:=rfl,eJ:=rfl,eK:=rfl,eG:=rfl,eI:=rfl,Y7:=rfl,jJ:=rfl,jL:=rfl,W9:=rfl,bB:=rfl,jM:=rfl,jH:=rfl,jD:=rfl,jE:=rfl,Y5:=rfl,bA:=rfl,iZ:=rfl }
theorem Afg:F.a8 L:={ XA:=rfl,jP:=rfl,jN:=rfl,aC:=rfl,jT:=rfl,jO:=rfl,Y9:=rfl,jV:=rfl,KT:=rfl,jR:=rfl,kQ:=rfl,kK:=rfl,kM:=rfl,kJ:=rfl,kC:=rfl,kP:=rfl,kD:=rfl,kH:=rfl,kE:=rfl,kF:=rfl,ZB:=rfl,bC:=rfl,lG:=rfl,kZ:=rfl,kV:=rfl,kS:=rfl,kT:=rfl,kX:=rfl }
theorem AuM:F.dn L:={ Aff,Afg with gI:=rfl,lY:=rfl,lR:=rfl,lO:=rfl,lS:=rfl }
theorem Afe:F.e8 L:={ eB:=rfl,eA:=rfl,dZ:=rfl,dY:=rfl,dX:=rfl,lJ:=rfl,lM:=rfl,lL:=rfl,lI:=rfl,lH:=rfl }
theorem Ak7:F.ff L:={ Afe with gJ:=rfl,lT:=rfl }
theorem Ak6:F.ug L:={ AuM,Ak7 with  }
theorem Ak9:F.er L:={ Aff with jI:=rfl,jF:=rfl,jA:=rfl }
theorem AuH:F.wc L:={ Aff with iX:=rfl }
theorem Ala:F.dm L:={ Afg with kY:=rfl,lF:=rfl,kU:=rfl,lE:=rfl }
theorem AuI:F.As L:={ Ala with  }
theorem AuN:F.Dy L:={ Ak6,Ak9,AuH,AuI with  }
theorem Alb:F.ak L:={ AuN with eH:=rfl,aZ:=rfl,jC:=rfl,iW:=rfl,mJ:=rfl,mS:=rfl,mR:=rfl,mT:=rfl,mQ:=rfl }
theorem AuG:F.fp L:={ Alb with iY:=rfl }
theorem Ak8:F.v5 L:={ AuG with iE:=rfl,iC:=rfl,iS:=rfl,iF:=rfl,gQ:=rfl,iQ:=rfl,iT:=rfl,iK:=rfl,iD:=rfl,iR:=rfl,iI:=rfl,iH:=rfl,gP:=rfl }
theorem AuJ:F.fh L:={ Alb with jZ:=rfl,kR:=rfl,mF:=rfl,mC:=rfl,lZ:=rfl,mI:=rfl,mA:=rfl,mD:=rfl }
theorem AuD:F.eo L:={ Ak6,Ak9,Ala with lU:=rfl,lX:=rfl,lQ:=rfl,lN:=rfl }
theorem Alc:F.cj L:={ Afe with nG:=rfl,mZ:=rfl,nI:=rfl,nC:=rfl,nB:=rfl,nA:=rfl,nE:=rfl }
theorem AuL:F.Aw L:={ Ak7,Alc with  }
theorem Auz:F.w4 L:={ AuL with dW:=rfl,dS:=rfl,dQ:=rfl,YQ:=rfl,dK:=rfl,dO:=rfl,dP:=rfl }
theorem AuF:F.il L:={ Auz with eT:=rfl,eN:=rfl,nD:=rfl,W5:=rfl }
theorem AuB:F.pz L:={ Ak8 with fD:=rfl }
theorem Auy:F.s8 L:={ Ak8 with iV:=rfl,iN:=rfl,QN:=rfl,iO:=rfl,gT:=rfl,hJ:=rfl,iJ:=rfl,gV:=rfl,aU:=rfl,gO:=rfl }
theorem Auw:F.uf L:={ Auy with Y3:=rfl }
theorem AuA:F.ma L:={ Afg with bF:=rfl }
theorem AuK:F.z7 L:={ AuJ,AuD,AuA with bG:=rfl,mE:=rfl,bH:=rfl,ZG:=rfl,ZF:=rfl }
theorem Aux:F.gn L:={ Auw,AuK with aS:=rfl,XB:=rfl }
theorem AuC:F.vz L:={ AuB,Aux,AuF with W4:=rfl }
end Go.Proofs.YtpafclijakpknaaGreat
