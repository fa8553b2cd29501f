/-
  The functions of the groups are the program's own: checked by the kernel, function by function.
-/
import Derived.Test.YtmhfodhmngfoiaaGreatDoorProg
import Derived.KernelRfl
import Derived.Test.YtmhfodhmngfoiaaGreatDoorB3
import Derived.Test.YtmhfodhmngfoiaaGreatDoorB1
import Derived.Test.YtmhfodhmngfoiaaGreatDoorB5
set_option linter.unusedSimpArgs false
set_option linter.unusedVariables false
set_option linter.unnecessarySimpa false
namespace Go.Proofs.YtmhfodhmngfoiaaGreatDoor
open Go.e9
def num:Nat->Nat
 | 58=>164
 | 59=>182
 | 60=>106
 | 61=>137
 | 62=>171
 | 63=>162
 | 64=>209
 | 65=>136
 | 66=>119
 | 67=>83
 | 68=>134
 | 69=>135
 | 70=>87
 | 71=>210
 | 72=>212
 | 73=>211
 | 74=>183
 | 75=>138
 | 76=>185
 | 77=>223
 | 78=>214
 | 79=>213
 | 80=>215
 | 81=>184
 | 82=>140
 | 1=>117
 | 2=>70
 | 3=>71
 | 4=>72
 | 5=>28
 | 6=>115
 | 7=>169
 | 8=>170
 | 9=>116
 | 10=>89
 | 11=>88
 | 12=>66
 | 13=>67
 | 14=>36
 | 15=>204
 | 16=>205
 | 17=>167
 | 18=>165
 | 19=>47
 | 20=>19
 | 21=>27
 | 22=>68
 | 23=>69
 | 24=>22
 | 25=>108
 | 26=>55
 | 27=>35
 | 28=>166
 | 29=>107
 | 30=>49
 | 34=>17
 | 35=>18
 | 36=>58
 | 37=>25
 | 38=>26
 | 39=>16
 | 42=>8
 | 424=>46
 | 425=>103
 | 426=>42
 | 427=>57
 | 428=>41
 | 431=>43
 | 433=>11
 | 435=>45
 | 436=>13
 | 429=>54
 | 437=>7
 | 442=>51
 | 443=>48
 | 444=>50
 | 445=>52
 | 446=>53
 | 447=>12
 | 448=>14
 | 83=>118
 | 84=>139
 | 85=>74
 | 86=>175
 | 87=>82
 | 88=>85
 | 89=>81
 | 90=>141
 | 91=>86
 | 92=>73
 | 93=>181
 | 94=>84
 | 95=>178
 | 96=>29
 | 97=>124
 | 98=>33
 | 99=>34
 | 100=>131
 | 101=>186
 | 102=>197
 | 103=>196
 | 104=>198
 | 105=>190
 | 106=>225
 | 107=>226
 | 108=>224
 | 109=>217
 | 110=>216
 | 111=>189
 | 112=>148
 | 113=>187
 | 114=>195
 | 115=>153
 | 116=>188
 | 117=>144
 | 118=>145
 | 119=>194
 | 120=>193
 | 121=>147
 | 122=>143
 | 123=>191
 | 124=>99
 | 125=>95
 | 126=>102
 | 127=>93
 | 128=>98
 | 135=>142
 | 136=>149
 | 137=>150
 | 138=>152
 | 149=>78
 | 150=>31
 | 151=>172
 | 197=>132
 | 198=>79
 | 256=>129
 | 294=>177
 | 295=>127
 | 296=>128
 | 297=>179
 | 298=>207
 | 299=>174
 | 300=>180
 | 301=>208
 | 302=>173
 | 303=>122
 | 304=>176
 | 305=>130
 | 349=>75
 | 350=>123
 | 351=>120
 | 352=>121
 | 353=>77
 | 354=>126
 | 355=>125
 | 356=>76
 | 360=>30
 | 308=>192
 | 309=>146
 | 310=>92
 | 311=>94
 | 312=>151
 | 313=>96
 | 314=>38
 | 315=>97
 | 163=>91
 | 164=>90
 | 165=>37
 | 166=>101
 | 361=>40
 | 362=>100
 | 364=>39
 | 383=>133
 | 384=>80
 | 449=>32
 | 450=>9
 | 451=>10
 | 454=>3
 | 432=>56
 | 434=>44
 | _=>0
theorem ok {p:Nat × AFn->Prop} {a:Nat × AFn} {l:List (Nat × AFn)} (h:p a) (t : ∀ x∈l,p x) : ∀ x∈a::l,p x:=List.forall_mem_cons.2 ⟨h,t⟩
theorem okk {p : Nat × AFn} {l : List (Nat × AFn)} {fn : Func} (hf : Tryz.prog.funcs[num p.1]? = some fn) (t : ∀ x ∈ l, OkF Tryz.prog num x) (h1 : okFn Tryz.prog num fn p.2 = true := by kernel_rfl) (h2 : (fn.name == "runtime.NumGoroutine") = false := by kernel_rfl) : ∀ x ∈ p :: l, OkF Tryz.prog num x := ok ⟨fn, hf, h1, h2⟩ t
def Vz:List (Nat × AFn):=[(58,F.R5),(59,F.R6),(60,F.R3),(61,F.R4),(62,F.LN),(63,F.S2),(64,F.S1),(65,F.HH),(66,F.S7),(67,F.OZ),(68,F.OY),(69,F.O0),(70,F.M4),(71,F.M7),(72,F.O3),(73,F.HI),(74,F.M5),(75,F.S6),(76,F.O4),(77,F.M6),(78,F.S8),(79,F.O1),(80,F.O2),(81,F.S9),(82,F.IK),(1,F.SL),(2,F.SJ),(3,F.SF),(4,F.SE),(5,F.SD)]
set_option maxRecDepth 100000 in
theorem Al7 : ∀ x∈Vz,OkF Tryz.prog num x :=
 okk Tryz.func164 (
 okk Tryz.func182 (
 okk Tryz.func106 (
 okk Tryz.func137 (
 okk Tryz.func171 (
 okk Tryz.func162 (
 okk Tryz.func209 (
 okk Tryz.func136 (
 okk Tryz.func119 (
 okk Tryz.func83 (
 okk Tryz.func134 (
 okk Tryz.func135 (
 okk Tryz.func87 (
 okk Tryz.func210 (
 okk Tryz.func212 (
 okk Tryz.func211 (
 okk Tryz.func183 (
 okk Tryz.func138 (
 okk Tryz.func185 (
 okk Tryz.func223 (
 okk Tryz.func214 (
 okk Tryz.func213 (
 okk Tryz.func215 (
 okk Tryz.func184 (
 okk Tryz.func140 (
 okk Tryz.func117 (
 okk Tryz.func70 (
 okk Tryz.func71 (
 okk Tryz.func72 (
 okk Tryz.func28 (
 List.forall_mem_nil _))))))))))))))))))))))))))))))
def Wa:List (Nat × AFn):=[(6,F.SI),(7,F.SK),(8,F.SH),(9,F.SG),(10,F.UK),(11,F.UQ),(12,F.UM),(13,F.UJ),(14,F.UI),(15,F.UR),(16,F.UO),(17,F.UN),(18,F.UP),(19,F.PT),(20,F.PS),(21,F.LC),(22,F.M9),(23,F.M8),(24,F.TB),(25,F.O5),(26,F.TA),(27,F.LI),(28,F.P0),(29,F.PY),(30,F.PW),(34,F.U7),(35,F.U4),(36,F.U8),(37,F.U6),(38,F.U5)]
set_option maxRecDepth 100000 in
theorem Al8 : ∀ x∈Wa,OkF Tryz.prog num x :=
 okk Tryz.func115 (
 okk Tryz.func169 (
 okk Tryz.func170 (
 okk Tryz.func116 (
 okk Tryz.func89 (
 okk Tryz.func88 (
 okk Tryz.func66 (
 okk Tryz.func67 (
 okk Tryz.func36 (
 okk Tryz.func204 (
 okk Tryz.func205 (
 okk Tryz.func167 (
 okk Tryz.func165 (
 okk Tryz.func47 (
 okk Tryz.func19 (
 okk Tryz.func27 (
 okk Tryz.func68 (
 okk Tryz.func69 (
 okk Tryz.func22 (
 okk Tryz.func108 (
 okk Tryz.func55 (
 okk Tryz.func35 (
 okk Tryz.func166 (
 okk Tryz.func107 (
 okk Tryz.func49 (
 okk Tryz.func17 (
 okk Tryz.func18 (
 okk Tryz.func58 (
 okk Tryz.func25 (
 okk Tryz.func26 (
 List.forall_mem_nil _))))))))))))))))))))))))))))))
def Wb:List (Nat × AFn):=[(39,F.QJ),(42,F.LR),(424,F.QH),(425,F.OV),(426,F.MY),(427,F.MW),(428,F.K9),(431,F.MX),(433,F.K8),(435,F.S0),(436,F.MU),(429,F.P8),(437,F.SZ),(442,F.QC),(443,F.P9),(444,F.QD),(445,F.QB),(446,F.QA),(447,F.GT),(448,F.J1),(83,F.CS),(84,F.SX),(85,F.SV),(86,F.SW),(87,F.SR),(88,F.SU),(89,F.NH),(90,F.TT),(91,F.TU),(92,F.LG)]
set_option maxRecDepth 100000 in
theorem Al9 : ∀ x∈Wb,OkF Tryz.prog num x :=
 okk Tryz.func16 (
 okk Tryz.func8 (
 okk Tryz.func46 (
 okk Tryz.func103 (
 okk Tryz.func42 (
 okk Tryz.func57 (
 okk Tryz.func41 (
 okk Tryz.func43 (
 okk Tryz.func11 (
 okk Tryz.func45 (
 okk Tryz.func13 (
 okk Tryz.func54 (
 okk Tryz.func7 (
 okk Tryz.func51 (
 okk Tryz.func48 (
 okk Tryz.func50 (
 okk Tryz.func52 (
 okk Tryz.func53 (
 okk Tryz.func12 (
 okk Tryz.func14 (
 okk Tryz.func118 (
 okk Tryz.func139 (
 okk Tryz.func74 (
 okk Tryz.func175 (
 okk Tryz.func82 (
 okk Tryz.func85 (
 okk Tryz.func81 (
 okk Tryz.func141 (
 okk Tryz.func86 (
 okk Tryz.func73 (
 List.forall_mem_nil _))))))))))))))))))))))))))))))
def Wc:List (Nat × AFn):=[(93,F.PL),(94,F.TV),(95,F.TR),(96,F.TN),(97,F.TP),(98,F.NG),(99,F.PK),(100,F.TK),(101,F.JZ),(102,F.PO),(103,F.PM),(104,F.LH),(105,F.NJ),(106,F.PN),(107,F.JY),(108,F.PQ),(109,F.EM),(110,F.PP),(111,F.UA),(112,F.T7),(113,F.T8),(114,F.T6),(115,F.TY),(116,F.T9),(117,F.TZ),(118,F.T5),(119,F.T3),(120,F.T4),(121,F.NK),(122,F.PR)]
set_option maxRecDepth 100000 in
theorem Ama : ∀ x∈Wc,OkF Tryz.prog num x :=
 okk Tryz.func181 (
 okk Tryz.func84 (
 okk Tryz.func178 (
 okk Tryz.func29 (
 okk Tryz.func124 (
 okk Tryz.func33 (
 okk Tryz.func34 (
 okk Tryz.func131 (
 okk Tryz.func186 (
 okk Tryz.func197 (
 okk Tryz.func196 (
 okk Tryz.func198 (
 okk Tryz.func190 (
 okk Tryz.func225 (
 okk Tryz.func226 (
 okk Tryz.func224 (
 okk Tryz.func217 (
 okk Tryz.func216 (
 okk Tryz.func189 (
 okk Tryz.func148 (
 okk Tryz.func187 (
 okk Tryz.func195 (
 okk Tryz.func153 (
 okk Tryz.func188 (
 okk Tryz.func144 (
 okk Tryz.func145 (
 okk Tryz.func194 (
 okk Tryz.func193 (
 okk Tryz.func147 (
 okk Tryz.func143 (
 List.forall_mem_nil _))))))))))))))))))))))))))))))
def We:List (Nat × AFn):=[(123,F.UH),(124,F.UG),(125,F.UE),(126,F.UC),(127,F.UD),(128,F.UF),(135,F.P1),(136,F.PV),(137,F.PU),(138,F.PX),(149,F.TS),(150,F.TQ),(151,F.TM),(197,F.ST),(198,F.PJ),(256,F.TJ),(294,F.TH),(295,F.NF),(296,F.PH),(297,F.PB),(298,F.O9),(299,F.JV),(300,F.PI),(301,F.PE),(302,F.PA),(303,F.LF),(304,F.PD),(305,F.PC),(349,F.TI),(350,F.PF)]
set_option maxRecDepth 100000 in
theorem Amb : ∀ x∈We,OkF Tryz.prog num x :=
 okk Tryz.func191 (
 okk Tryz.func99 (
 okk Tryz.func95 (
 okk Tryz.func102 (
 okk Tryz.func93 (
 okk Tryz.func98 (
 okk Tryz.func142 (
 okk Tryz.func149 (
 okk Tryz.func150 (
 okk Tryz.func152 (
 okk Tryz.func78 (
 okk Tryz.func31 (
 okk Tryz.func172 (
 okk Tryz.func132 (
 okk Tryz.func79 (
 okk Tryz.func129 (
 okk Tryz.func177 (
 okk Tryz.func127 (
 okk Tryz.func128 (
 okk Tryz.func179 (
 okk Tryz.func207 (
 okk Tryz.func174 (
 okk Tryz.func180 (
 okk Tryz.func208 (
 okk Tryz.func173 (
 okk Tryz.func122 (
 okk Tryz.func176 (
 okk Tryz.func130 (
 okk Tryz.func75 (
 okk Tryz.func123 (
 List.forall_mem_nil _))))))))))))))))))))))))))))))
def Wf:List (Nat × AFn):=[(351,F.HK),(352,F.PG),(353,F.TG),(354,F.NE),(355,F.LE),(356,F.LD),(360,F.TF),(308,F.TW),(309,F.UB),(310,F.P7),(311,F.P5),(312,F.P2),(313,F.LJ),(314,F.NM),(315,F.P6),(163,F.J0),(164,F.PZ),(165,F.UT),(166,F.US),(361,F.NL),(362,F.P3),(364,F.P4),(383,F.K6),(384,F.TL),(449,F.MV),(450,F.K7),(451,F.LK),(454,F.SY)]
set_option maxRecDepth 100000 in
theorem Amc : ∀ x∈Wf,OkF Tryz.prog num x :=
 okk Tryz.func120 (
 okk Tryz.func121 (
 okk Tryz.func77 (
 okk Tryz.func126 (
 okk Tryz.func125 (
 okk Tryz.func76 (
 okk Tryz.func30 (
 okk Tryz.func192 (
 okk Tryz.func146 (
 okk Tryz.func92 (
 okk Tryz.func94 (
 okk Tryz.func151 (
 okk Tryz.func96 (
 okk Tryz.func38 (
 okk Tryz.func97 (
 okk Tryz.func91 (
 okk Tryz.func90 (
 okk Tryz.func37 (
 okk Tryz.func101 (
 okk Tryz.func40 (
 okk Tryz.func100 (
 okk Tryz.func39 (
 okk Tryz.func133 (
 okk Tryz.func80 (
 okk Tryz.func32 (
 okk Tryz.func9 (
 okk Tryz.func10 (
 okk Tryz.func3 (
 List.forall_mem_nil _))))))))))))))))))))))))))))
def lib:List (Nat × AFn):=Vz++(Wa++(Wb++(Wc++(We++(Wf)))))
def fns:Nat->Option AFn:=λ f=>lib.lookup f
abbrev L0:Lib:={ fn:=fns,num:=num }
noncomputable def L:Lib:=dF fns num
theorem Amo:ProgOK Tryz.prog num L0:=Amp lib (List.forall_mem_append.2 ⟨Al7,(List.forall_mem_append.2 ⟨Al8,(List.forall_mem_append.2 ⟨Al9,(List.forall_mem_append.2 ⟨Ama,(List.forall_mem_append.2 ⟨Amb,Amc⟩)⟩)⟩)⟩)⟩)
theorem oC (e c:Nat->List AV->Option AV) (s:Nat->Option Nat):F.c6 (Lib.mk fns num e c s):={ R5:=rfl,R6:=rfl,R3:=rfl,R4:=rfl,LN:=rfl,S2:=rfl,S1:=rfl,HH:=rfl,S7:=rfl,OZ:=rfl,OY:=rfl,O0:=rfl,M4:=rfl,M7:=rfl,O3:=rfl,HI:=rfl,M5:=rfl,S6:=rfl,O4:=rfl,M6:=rfl,S8:=rfl,O1:=rfl,O2:=rfl,S9:=rfl,IK:=rfl }
theorem Aox:F.c6 L:=oC _ _ _
theorem nY (e c:Nat->List AV->Option AV) (s:Nat->Option Nat):F.a8 (Lib.mk fns num e c s):={ SL:=rfl,SJ:=rfl,SF:=rfl,SE:=rfl,SD:=rfl,SI:=rfl,SK:=rfl,SH:=rfl,SG:=rfl,UK:=rfl,UQ:=rfl,UM:=rfl,UJ:=rfl,UI:=rfl,UR:=rfl,UO:=rfl,UN:=rfl,UP:=rfl,PT:=rfl,PS:=rfl }
theorem Akr:F.a8 L:=nY _ _ _
theorem gL (e c:Nat->List AV->Option AV) (s:Nat->Option Nat):F.k9 (Lib.mk fns num e c s):={ nY e c s with LC:=rfl,M9:=rfl,M8:=rfl,TB:=rfl,O5:=rfl,TA:=rfl,LI:=rfl,P0:=rfl,PY:=rfl,PW:=rfl }
theorem Aku:F.k9 L:=gL _ _ _
theorem oH (e c:Nat->List AV->Option AV) (s:Nat->Option Nat):F.x9 (Lib.mk fns num e c s):={ nY e c s with U7:=rfl,U4:=rfl,U8:=rfl,U6:=rfl,U5:=rfl,QJ:=rfl }
theorem Akw:F.x9 L:=oH _ _ _
theorem Sw (e c:Nat->List AV->Option AV) (s:Nat->Option Nat):F.gx (Lib.mk fns num e c s):={ gL e c s,oH e c s with LR:=rfl }
theorem Akv:F.gx L:=Sw _ _ _
theorem gJ (e c:Nat->List AV->Option AV) (s:Nat->Option Nat):F.s9 (Lib.mk fns num e c s):={ oC e c s,gL e c s,Sw e c s,oH e c s with QH:=rfl,OV:=rfl,MY:=rfl,MW:=rfl,K9:=rfl,MX:=rfl,K8:=rfl,S0:=rfl,MU:=rfl,P8:=rfl }
theorem Akt:F.s9 L:=gJ _ _ _
theorem Alc:KT L OU:=Ald (by rfl)
theorem Anu:VI L:=Anv (gJ _ _ _) rfl
theorem Si (e c:Nat->List AV->Option AV) (s:Nat->Option Nat):F.du (Lib.mk fns num e c s):={ gJ e c s with SZ:=rfl }
theorem Aos:F.du L:=Si _ _ _
theorem Sl (e c:Nat->List AV->Option AV) (s:Nat->Option Nat):F.w8 (Lib.mk fns num e c s):={ gJ e c s with QC:=rfl,P9:=rfl,QD:=rfl,QB:=rfl,QA:=rfl,GT:=rfl,J1:=rfl }
theorem Aou:F.w8 L:=Sl _ _ _
theorem gM (e c:Nat->List AV->Option AV) (s:Nat->Option Nat):F.a6 (Lib.mk fns num e c s):={ oC e c s with CS:=rfl,SX:=rfl,SV:=rfl,SW:=rfl,SR:=rfl,SU:=rfl,NH:=rfl,TT:=rfl,TU:=rfl,LG:=rfl,PL:=rfl,TV:=rfl,TR:=rfl,TN:=rfl,TP:=rfl,NG:=rfl,PK:=rfl,TK:=rfl }
theorem AoF:F.a6 L:=gM _ _ _
theorem gN (e c:Nat->List AV->Option AV) (s:Nat->Option Nat):F.b7 (Lib.mk fns num e c s):={ JZ:=rfl,PO:=rfl,PM:=rfl,LH:=rfl,NJ:=rfl,PN:=rfl,JY:=rfl,PQ:=rfl,EM:=rfl,PP:=rfl,UA:=rfl,T7:=rfl,T8:=rfl,T6:=rfl,TY:=rfl,T9:=rfl,TZ:=rfl,T5:=rfl,T3:=rfl,T4:=rfl,NK:=rfl,PR:=rfl,UH:=rfl,UG:=rfl,UE:=rfl,UC:=rfl,UD:=rfl,UF:=rfl }
theorem AoH:F.b7 L:=gN _ _ _
theorem Rh (e c:Nat->List AV->Option AV) (s:Nat->Option Nat):F.aw (Lib.mk fns num e c s):={ gM e c s,gN e c s with P1:=rfl,PV:=rfl,PU:=rfl,PX:=rfl }
theorem AoK:F.aw L:=Rh _ _ _
theorem oA (e c:Nat->List AV->Option AV) (s:Nat->Option Nat):F.ju (Lib.mk fns num e c s):={ Rh e c s,gL e c s with  }
theorem Aov:F.ju L:=oA _ _ _
theorem oE (e c:Nat->List AV->Option AV) (s:Nat->Option Nat):F.bg (Lib.mk fns num e c s):={ gM e c s with TS:=rfl,TQ:=rfl,TM:=rfl }
theorem AoG:F.bg L:=oE _ _ _
theorem Sr (e c:Nat->List AV->Option AV) (s:Nat->Option Nat):F.kg (Lib.mk fns num e c s):={ gM e c s with  }
theorem AoB:F.kg L:=Sr _ _ _
theorem oF (e c:Nat->List AV->Option AV) (s:Nat->Option Nat):F.jv (Lib.mk fns num e c s):={ gN e c s with  }
theorem AoI:F.jv L:=oF _ _ _
theorem Ss (e c:Nat->List AV->Option AV) (s:Nat->Option Nat):F.mu (Lib.mk fns num e c s):={ oF e c s with  }
theorem AoC:F.mu L:=Ss _ _ _
theorem Ri (e c:Nat->List AV->Option AV) (s:Nat->Option Nat):F.qu (Lib.mk fns num e c s):={ oA e c s,oE e c s,Sr e c s,Ss e c s with  }
theorem AoL:F.qu L:=Ri _ _ _
theorem oG (e c:Nat->List AV->Option AV) (s:Nat->Option Nat):F.cp (Lib.mk fns num e c s):={ Ri e c s with ST:=rfl,PJ:=rfl }
theorem AoJ:F.cp L:=oG _ _ _
theorem oD (e c:Nat->List AV->Option AV) (s:Nat->Option Nat):F.bp (Lib.mk fns num e c s):={ oG e c s with TJ:=rfl }
theorem AoA:F.bp L:=oD _ _ _
theorem Sp (e c:Nat->List AV->Option AV) (s:Nat->Option Nat):F.v7 (Lib.mk fns num e c s):={ oD e c s with TH:=rfl,NF:=rfl,PH:=rfl,PB:=rfl,O9:=rfl,JV:=rfl,PI:=rfl,PE:=rfl,PA:=rfl,LF:=rfl,PD:=rfl,PC:=rfl }
theorem Aoz:F.v7 L:=Sp _ _ _
theorem Sh (e c:Nat->List AV->Option AV) (s:Nat->Option Nat):F.x7 (Lib.mk fns num e c s):={ Sp e c s with TI:=rfl,PF:=rfl,HK:=rfl,PG:=rfl,TG:=rfl,NE:=rfl,LE:=rfl,LD:=rfl }
theorem Aoq:F.x7 L:=Sh _ _ _
theorem Sg (e c:Nat->List AV->Option AV) (s:Nat->Option Nat):F.dt (Lib.mk fns num e c s):={ Sh e c s with TF:=rfl }
theorem Aop:F.dt L:=Sg _ _ _
theorem Su (e c:Nat->List AV->Option AV) (s:Nat->Option Nat):F.bk (Lib.mk fns num e c s):={ oG e c s with TW:=rfl,UB:=rfl,P7:=rfl,P5:=rfl,P2:=rfl,LJ:=rfl,NM:=rfl,P6:=rfl }
theorem AoD:F.bk L:=Su _ _ _
theorem oB (e c:Nat->List AV->Option AV) (s:Nat->Option Nat):F.au (Lib.mk fns num e c s):={ oA e c s,oE e c s,oF e c s with J0:=rfl,PZ:=rfl,UT:=rfl,US:=rfl }
theorem Aow:F.au L:=oB _ _ _
theorem nZ (e c:Nat->List AV->Option AV) (s:Nat->Option Nat):F.ct (Lib.mk fns num e c s):={ gN e c s with NL:=rfl }
theorem Aor:F.ct L:=nZ _ _ _
theorem Sv (e c:Nat->List AV->Option AV) (s:Nat->Option Nat):F.da (Lib.mk fns num e c s):={ Su e c s,oB e c s,nZ e c s with P3:=rfl,P4:=rfl }
theorem AoE:F.da L:=Sv _ _ _
theorem Sn (e c:Nat->List AV->Option AV) (s:Nat->Option Nat):F.eu (Lib.mk fns num e c s):={ oD e c s,oB e c s,nZ e c s with K6:=rfl,TL:=rfl }
theorem Aoy:F.eu L:=Sn _ _ _
theorem Sj (e c:Nat->List AV->Option AV) (s:Nat->Option Nat):F.bf (Lib.mk fns num e c s):={ Sg e c s,Sv e c s,Sn e c s with MV:=rfl,K7:=rfl,LK:=rfl }
theorem Aot:F.bf L:=Sj _ _ _
theorem AkC (e c:Nat->List AV->Option AV) (s:Nat->Option Nat):F.ke (Lib.mk fns num e c s):={ Si e c s,Sl e c s,Sj e c s with SY:=rfl }
theorem Aks:F.ke L:=AkC _ _ _
end Go.Proofs.YtmhfodhmngfoiaaGreatDoor
