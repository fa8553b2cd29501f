/-
  The functions of the groups are the program's own: checked by the kernel, function by function.
-/
import Derived.Test.YtpafclijakpknaaGreatProg
import Derived.KernelRfl
import Derived.Test.YtpafclijakpknaaGreatB5
import Derived.Test.YtpafclijakpknaaGreatB1
import Derived.Test.YtpafclijakpknaaGreatB2
set_option linter.unusedSimpArgs false
set_option linter.unusedVariables false
set_option linter.unnecessarySimpa false
namespace Go.Proofs.YtpafclijakpknaaGreat
open Go.b8
def num:Nat->Nat
 | 58=>178
 | 59=>179
 | 60=>166
 | 61=>167
 | 62=>170
 | 63=>187
 | 64=>180
 | 65=>163
 | 66=>147
 | 67=>137
 | 68=>164
 | 69=>165
 | 70=>135
 | 71=>181
 | 72=>183
 | 73=>182
 | 74=>172
 | 75=>153
 | 76=>174
 | 77=>188
 | 78=>185
 | 79=>184
 | 80=>186
 | 81=>173
 | 82=>155
 | 83=>146
 | 84=>154
 | 85=>102
 | 86=>133
 | 87=>136
 | 88=>99
 | 89=>97
 | 90=>156
 | 91=>100
 | 92=>101
 | 93=>127
 | 94=>121
 | 95=>58
 | 96=>44
 | 97=>83
 | 98=>89
 | 99=>88
 | 100=>92
 | 101=>117
 | 102=>169
 | 103=>161
 | 104=>162
 | 105=>120
 | 106=>176
 | 107=>177
 | 108=>175
 | 109=>160
 | 110=>159
 | 111=>119
 | 112=>78
 | 113=>62
 | 114=>115
 | 115=>145
 | 116=>118
 | 117=>54
 | 118=>55
 | 119=>130
 | 120=>129
 | 121=>79
 | 122=>53
 | 123=>114
 | 124=>34
 | 125=>35
 | 126=>96
 | 127=>16
 | 128=>94
 | 130=>59
 | 131=>60
 | 132=>122
 | 133=>61
 | 134=>18
 | 135=>148
 | 136=>140
 | 137=>142
 | 138=>144
 | 1=>125
 | 2=>72
 | 3=>126
 | 4=>37
 | 5=>74
 | 6=>123
 | 7=>157
 | 8=>158
 | 9=>124
 | 10=>33
 | 11=>76
 | 12=>128
 | 13=>41
 | 14=>77
 | 21=>30
 | 22=>63
 | 23=>64
 | 25=>65
 | 27=>32
 | 144=>56
 | 145=>57
 | 146=>17
 | 149=>150
 | 150=>113
 | 151=>75
 | 169=>171
 | 152=>51
 | 153=>47
 | 154=>48
 | 155=>19
 | 197=>98
 | 198=>43
 | 199=>112
 | 200=>149
 | 201=>108
 | 204=>109
 | 205=>110
 | 206=>111
 | 207=>50
 | 256=>90
 | 294=>134
 | 295=>86
 | 296=>87
 | 297=>138
 | 298=>151
 | 299=>132
 | 300=>139
 | 301=>152
 | 302=>131
 | 303=>82
 | 304=>116
 | 305=>91
 | 307=>52
 | 308=>168
 | 309=>141
 | 310=>105
 | 311=>106
 | 312=>143
 | 313=>107
 | 314=>46
 | 315=>93
 | 163=>104
 | 164=>103
 | 165=>45
 | 166=>95
 | 34=>6
 | 35=>67
 | 36=>66
 | 37=>21
 | 38=>22
 | 40=>23
 | 41=>28
 | 43=>20
 | 46=>68
 | 47=>70
 | 48=>69
 | 49=>71
 | 50=>25
 | 51=>26
 | 52=>27
 | 345=>73
 | 346=>29
 | 347=>24
 | 348=>5
 | 318=>15
 | 349=>36
 | 350=>31
 | 351=>80
 | 352=>81
 | 353=>39
 | 354=>85
 | 355=>84
 | 356=>38
 | 358=>13
 | 361=>49
 | 362=>8
 | 363=>40
 | 364=>42
 | 365=>12
 | 366=>14
 | 368=>4
 | _=>0
theorem ok {p:Nat × AFn->Prop} {a:Nat × AFn} {l:List (Nat × AFn)} (h:p a) (t : ∀ x∈l,p x) : ∀ x∈a::l,p x:=List.forall_mem_cons.2 ⟨h,t⟩
theorem okk {p : Nat × AFn} {l : List (Nat × AFn)} {fn : Func} (hf : Tryz.prog.funcs[num p.1]? = some fn) (t : ∀ x ∈ l, OkF Tryz.prog num x) (h1 : okFn Tryz.prog num fn p.2 = true := by kernel_rfl) (h2 : (fn.name == "runtime.NumGoroutine") = false := by kernel_rfl) : ∀ x ∈ p :: l, OkF Tryz.prog num x := ok ⟨fn, hf, h1, h2⟩ t
def Aeh:List (Nat × AFn):=[(58,F.QI),(59,F.QJ),(60,F.QG),(61,F.QH),(62,F.M5),(63,F.RT),(64,F.RS),(65,F.KN),(66,F.R5),(67,F.RW),(68,F.RV),(69,F.R4),(70,F.R1),(71,F.PB),(72,F.SD),(73,F.KV),(74,F.SB),(75,F.RZ),(76,F.SG),(77,F.NY),(78,F.SC),(79,F.R8),(80,F.SA),(81,F.SF),(82,F.L2),(83,F.G9),(84,F.RI),(85,F.RE),(86,F.RF),(87,F.RA)]
set_option maxRecDepth 100000 in
theorem Apj : ∀ x∈Aeh,OkF Tryz.prog num x :=
 okk Tryz.func178 (
 okk Tryz.func179 (
 okk Tryz.func166 (
 okk Tryz.func167 (
 okk Tryz.func170 (
 okk Tryz.func187 (
 okk Tryz.func180 (
 okk Tryz.func163 (
 okk Tryz.func147 (
 okk Tryz.func137 (
 okk Tryz.func164 (
 okk Tryz.func165 (
 okk Tryz.func135 (
 okk Tryz.func181 (
 okk Tryz.func183 (
 okk Tryz.func182 (
 okk Tryz.func172 (
 okk Tryz.func153 (
 okk Tryz.func174 (
 okk Tryz.func188 (
 okk Tryz.func185 (
 okk Tryz.func184 (
 okk Tryz.func186 (
 okk Tryz.func173 (
 okk Tryz.func155 (
 okk Tryz.func146 (
 okk Tryz.func154 (
 okk Tryz.func102 (
 okk Tryz.func133 (
 okk Tryz.func136 (
 List.forall_mem_nil _))))))))))))))))))))))))))))))
def Aei:List (Nat × AFn):=[(88,F.RC),(89,F.N3),(90,F.UD),(91,F.UE),(92,F.MZ),(93,F.PF),(94,F.UF),(95,F.UB),(96,F.T6),(97,F.T7),(98,F.N2),(99,F.PE),(100,F.T3),(101,F.M3),(102,F.UI),(103,F.UG),(104,F.OW),(105,F.UK),(106,F.UH),(107,F.N4),(108,F.UM),(109,F.HT),(110,F.UJ),(111,F.UY),(112,F.UU),(113,F.UW),(114,F.UT),(115,F.UO),(116,F.UX),(117,F.UP)]
set_option maxRecDepth 100000 in
theorem Apk : ∀ x∈Aei,OkF Tryz.prog num x :=
 okk Tryz.func99 (
 okk Tryz.func97 (
 okk Tryz.func156 (
 okk Tryz.func100 (
 okk Tryz.func101 (
 okk Tryz.func127 (
 okk Tryz.func121 (
 okk Tryz.func58 (
 okk Tryz.func44 (
 okk Tryz.func83 (
 okk Tryz.func89 (
 okk Tryz.func88 (
 okk Tryz.func92 (
 okk Tryz.func117 (
 okk Tryz.func169 (
 okk Tryz.func161 (
 okk Tryz.func162 (
 okk Tryz.func120 (
 okk Tryz.func176 (
 okk Tryz.func177 (
 okk Tryz.func175 (
 okk Tryz.func160 (
 okk Tryz.func159 (
 okk Tryz.func119 (
 okk Tryz.func78 (
 okk Tryz.func62 (
 okk Tryz.func115 (
 okk Tryz.func145 (
 okk Tryz.func118 (
 okk Tryz.func54 (
 List.forall_mem_nil _))))))))))))))))))))))))))))))
def Aej:List (Nat × AFn):=[(118,F.US),(119,F.UQ),(120,F.UR),(121,F.N5),(122,F.PG),(123,F.U8),(124,F.U5),(125,F.U2),(126,F.U0),(127,F.U1),(128,F.U3),(130,F.SM),(131,F.NZ),(132,F.SU),(133,F.SJ),(134,F.SH),(135,F.VR),(136,F.VJ),(137,F.VH),(138,F.VK),(1,F.Q8),(2,F.Q6),(3,F.Q1),(4,F.Q0),(5,F.QZ),(6,F.Q5),(7,F.Q7),(8,F.Q4),(9,F.Q2),(10,F.VD)]
set_option maxRecDepth 100000 in
theorem Apl : ∀ x∈Aej,OkF Tryz.prog num x :=
 okk Tryz.func55 (
 okk Tryz.func130 (
 okk Tryz.func129 (
 okk Tryz.func79 (
 okk Tryz.func53 (
 okk Tryz.func114 (
 okk Tryz.func34 (
 okk Tryz.func35 (
 okk Tryz.func96 (
 okk Tryz.func16 (
 okk Tryz.func94 (
 okk Tryz.func59 (
 okk Tryz.func60 (
 okk Tryz.func122 (
 okk Tryz.func61 (
 okk Tryz.func18 (
 okk Tryz.func148 (
 okk Tryz.func140 (
 okk Tryz.func142 (
 okk Tryz.func144 (
 okk Tryz.func125 (
 okk Tryz.func72 (
 okk Tryz.func126 (
 okk Tryz.func37 (
 okk Tryz.func74 (
 okk Tryz.func123 (
 okk Tryz.func157 (
 okk Tryz.func158 (
 okk Tryz.func124 (
 okk Tryz.func33 (
 List.forall_mem_nil _))))))))))))))))))))))))))))))
def Aek:List (Nat × AFn):=[(11,F.VF),(12,F.VE),(13,F.VC),(14,F.VB),(21,F.SN),(22,F.SX),(23,F.SP),(25,F.SR),(27,F.VO),(144,F.SW),(145,F.SZ),(146,F.SI),(149,F.UC),(150,F.UA),(151,F.T4),(169,F.TR),(152,F.U4),(153,F.Y0),(154,F.YZ),(155,F.U6),(197,F.RB),(198,F.PD),(199,F.T5),(200,F.TQ),(201,F.V2),(204,F.WA),(205,F.V9),(206,F.WB),(207,F.V8),(256,F.TV)]
set_option maxRecDepth 100000 in
theorem Apm : ∀ x∈Aek,OkF Tryz.prog num x :=
 okk Tryz.func76 (
 okk Tryz.func128 (
 okk Tryz.func41 (
 okk Tryz.func77 (
 okk Tryz.func30 (
 okk Tryz.func63 (
 okk Tryz.func64 (
 okk Tryz.func65 (
 okk Tryz.func32 (
 okk Tryz.func56 (
 okk Tryz.func57 (
 okk Tryz.func17 (
 okk Tryz.func150 (
 okk Tryz.func113 (
 okk Tryz.func75 (
 okk Tryz.func171 (
 okk Tryz.func51 (
 okk Tryz.func47 (
 okk Tryz.func48 (
 okk Tryz.func19 (
 okk Tryz.func98 (
 okk Tryz.func43 (
 okk Tryz.func112 (
 okk Tryz.func149 (
 okk Tryz.func108 (
 okk Tryz.func109 (
 okk Tryz.func110 (
 okk Tryz.func111 (
 okk Tryz.func50 (
 okk Tryz.func90 (
 List.forall_mem_nil _))))))))))))))))))))))))))))))
def Ael:List (Nat × AFn):=[(294,F.TB),(295,F.S9),(296,F.TL),(297,F.TC),(298,F.S4),(299,F.TJ),(300,F.TM),(301,F.TG),(302,F.TA),(303,F.TK),(304,F.TE),(305,F.TD),(307,F.S3),(308,F.UN),(309,F.UZ),(310,F.V0),(311,F.VX),(312,F.VS),(313,F.V1),(314,F.VV),(315,F.VY),(163,F.VP),(164,F.VQ),(165,F.VI),(166,F.VG),(34,F.WO),(35,F.WF),(36,F.WP),(37,F.WI),(38,F.WH)]
set_option maxRecDepth 100000 in
theorem Apn : ∀ x∈Ael,OkF Tryz.prog num x :=
 okk Tryz.func134 (
 okk Tryz.func86 (
 okk Tryz.func87 (
 okk Tryz.func138 (
 okk Tryz.func151 (
 okk Tryz.func132 (
 okk Tryz.func139 (
 okk Tryz.func152 (
 okk Tryz.func131 (
 okk Tryz.func82 (
 okk Tryz.func116 (
 okk Tryz.func91 (
 okk Tryz.func52 (
 okk Tryz.func168 (
 okk Tryz.func141 (
 okk Tryz.func105 (
 okk Tryz.func106 (
 okk Tryz.func143 (
 okk Tryz.func107 (
 okk Tryz.func46 (
 okk Tryz.func93 (
 okk Tryz.func104 (
 okk Tryz.func103 (
 okk Tryz.func45 (
 okk Tryz.func95 (
 okk Tryz.func6 (
 okk Tryz.func67 (
 okk Tryz.func66 (
 okk Tryz.func21 (
 okk Tryz.func22 (
 List.forall_mem_nil _))))))))))))))))))))))))))))))
def Aem:List (Nat × AFn):=[(40,F.WG),(41,F.WN),(43,F.SK),(46,F.QU),(47,F.QT),(48,F.QS),(49,F.NW),(50,F.QO),(51,F.QQ),(52,F.QR),(345,F.RM),(346,F.RL),(347,F.WM),(348,F.MU),(318,F.RO),(349,F.TP),(350,F.TH),(351,F.L4),(352,F.TI),(353,F.S5),(354,F.S8),(355,F.TF),(356,F.S7),(358,F.S2),(361,F.Y1),(362,F.VU),(363,F.VZ),(364,F.VW),(365,F.PI),(366,F.PH)]
set_option maxRecDepth 100000 in
theorem Apo : ∀ x∈Aem,OkF Tryz.prog num x :=
 okk Tryz.func23 (
 okk Tryz.func28 (
 okk Tryz.func20 (
 okk Tryz.func68 (
 okk Tryz.func70 (
 okk Tryz.func69 (
 okk Tryz.func71 (
 okk Tryz.func25 (
 okk Tryz.func26 (
 okk Tryz.func27 (
 okk Tryz.func73 (
 okk Tryz.func29 (
 okk Tryz.func24 (
 okk Tryz.func5 (
 okk Tryz.func15 (
 okk Tryz.func36 (
 okk Tryz.func31 (
 okk Tryz.func80 (
 okk Tryz.func81 (
 okk Tryz.func39 (
 okk Tryz.func85 (
 okk Tryz.func84 (
 okk Tryz.func38 (
 okk Tryz.func13 (
 okk Tryz.func49 (
 okk Tryz.func8 (
 okk Tryz.func40 (
 okk Tryz.func42 (
 okk Tryz.func12 (
 okk Tryz.func14 (
 List.forall_mem_nil _))))))))))))))))))))))))))))))
def Aen:List (Nat × AFn):=[(368,F.RN)]
set_option maxRecDepth 100000 in
theorem App : ∀ x∈Aen,OkF Tryz.prog num x :=
 okk Tryz.func4 (
 List.forall_mem_nil _)
def lib:List (Nat × AFn):=Aeh++(Aei++(Aej++(Aek++(Ael++(Aem++(Aen))))))
def L:Lib:=⟨λ f=>lib.lookup f,num⟩
theorem ApD:ProgOK Tryz.prog num L:=ApE lib (List.forall_mem_append.2 ⟨Apj,(List.forall_mem_append.2 ⟨Apk,(List.forall_mem_append.2 ⟨Apl,(List.forall_mem_append.2 ⟨Apm,(List.forall_mem_append.2 ⟨Apn,(List.forall_mem_append.2 ⟨Apo,App⟩)⟩)⟩)⟩)⟩)⟩)
theorem AnQ:F.c7 L:={ QI:=rfl,QJ:=rfl,QG:=rfl,QH:=rfl,M5:=rfl,RT:=rfl,RS:=rfl,KN:=rfl,R5:=rfl,RW:=rfl,RV:=rfl,R4:=rfl,R1:=rfl,PB:=rfl,SD:=rfl,KV:=rfl,SB:=rfl,RZ:=rfl,SG:=rfl,NY:=rfl,SC:=rfl,R8:=rfl,SA:=rfl,SF:=rfl,L2:=rfl }
theorem wF:F.a5 L:={ AnQ with G9:=rfl,RI:=rfl,RE:=rfl,RF:=rfl,RA:=rfl,RC:=rfl,N3:=rfl,UD:=rfl,UE:=rfl,MZ:=rfl,PF:=rfl,UF:=rfl,UB:=rfl,T6:=rfl,T7:=rfl,N2:=rfl,PE:=rfl,T3:=rfl }
theorem wH:F.a6 L:={ M3:=rfl,UI:=rfl,UG:=rfl,OW:=rfl,UK:=rfl,UH:=rfl,N4:=rfl,UM:=rfl,HT:=rfl,UJ:=rfl,UY:=rfl,UU:=rfl,UW:=rfl,UT:=rfl,UO:=rfl,UX:=rfl,UP:=rfl,US:=rfl,UQ:=rfl,UR:=rfl,N5:=rfl,PG:=rfl,U8:=rfl,U5:=rfl,U2:=rfl,U0:=rfl,U1:=rfl,U3:=rfl }
theorem AnY:F.n7 L:={ wF,wH with SM:=rfl,NZ:=rfl,SU:=rfl,SJ:=rfl,SH:=rfl,VR:=rfl,VJ:=rfl,VH:=rfl,VK:=rfl }
theorem wE:F.c5 L:={ Q8:=rfl,Q6:=rfl,Q1:=rfl,Q0:=rfl,QZ:=rfl,Q5:=rfl,Q7:=rfl,Q4:=rfl,Q2:=rfl,VD:=rfl,VF:=rfl,VE:=rfl,VC:=rfl,VB:=rfl }
theorem AdP:F.y6 L:={ wE with SN:=rfl,SX:=rfl,SP:=rfl,SR:=rfl,VO:=rfl }
theorem AdO:F.dt L:={ AnY,AdP with SW:=rfl,SZ:=rfl,SI:=rfl }
theorem AdR:F.ax L:={ wF with UC:=rfl,UA:=rfl,T4:=rfl }
theorem AnT:F.pq L:={ wF with TR:=rfl }
theorem AdS:F.de L:={ wH with U4:=rfl,Y0:=rfl,YZ:=rfl,U6:=rfl }
theorem AnU:F.ui L:={ AdS with  }
theorem AnZ:F.xy L:={ AdO,AdR,AnT,AnU with  }
theorem AdT:F.w9 L:={ AnZ with RB:=rfl,PD:=rfl,T5:=rfl,TQ:=rfl,V2:=rfl,WA:=rfl,V9:=rfl,WB:=rfl,V8:=rfl }
theorem AnS:F.bq L:={ AdT with TV:=rfl }
theorem AdQ:F.n8 L:={ AnS with TB:=rfl,S9:=rfl,TL:=rfl,TC:=rfl,S4:=rfl,TJ:=rfl,TM:=rfl,TG:=rfl,TA:=rfl,TK:=rfl,TE:=rfl,TD:=rfl,S3:=rfl }
theorem AnV:F.cb L:={ AdT with UN:=rfl,UZ:=rfl,V0:=rfl,VX:=rfl,VS:=rfl,V1:=rfl,VV:=rfl,VY:=rfl }
theorem AnP:F.bn L:={ AdO,AdR,AdS with VP:=rfl,VQ:=rfl,VI:=rfl,VG:=rfl }
theorem AdU:F.x6 L:={ wE with WO:=rfl,WF:=rfl,WP:=rfl,WI:=rfl,WH:=rfl,WG:=rfl,WN:=rfl }
theorem AnX:F.gv L:={ AdP,AdU with SK:=rfl }
theorem AnL:F.l8 L:={ AnX with QU:=rfl,QT:=rfl,QS:=rfl,NW:=rfl,QO:=rfl,QQ:=rfl,QR:=rfl }
theorem AnR:F.bp L:={ AnL with RM:=rfl,RL:=rfl,WM:=rfl,MU:=rfl }
theorem AnN:F.lf L:={ AdQ with RO:=rfl }
theorem AnK:F.w7 L:={ AdQ with TP:=rfl,TH:=rfl,L4:=rfl,TI:=rfl,S5:=rfl,S8:=rfl,TF:=rfl,S7:=rfl,S2:=rfl }
theorem AnJ:F.xx L:={ AnK with  }
theorem AnM:F.pf L:={ wH with Y1:=rfl }
theorem AnW:F.au L:={ AnV,AnP,AnM with VU:=rfl,VZ:=rfl,VW:=rfl,PI:=rfl,PH:=rfl }
theorem AnO:F.pn L:={ AnN,AnJ,AnW,AnR with RN:=rfl }
end Go.Proofs.YtpafclijakpknaaGreat
