/-
  The functions of the groups are the program's own: checked by the kernel, function by function.
-/
import Derived.Test.YtmhfodhmngfoiaaGreatDoorProg
import Derived.KernelRfl
import Derived.Test.YtmhfodhmngfoiaaGreatDoorB3
import Derived.Test.YtmhfodhmngfoiaaGreatDoorB1
import Derived.Test.YtmhfodhmngfoiaaGreatDoorB5
set_option linter.unusedSimpArgs false
set_option linter.unusedVariables false
set_option linter.unnecessarySimpa false
namespace Go.Proofs.YtmhfodhmngfoiaaGreatDoor
open Tryz
open Go.Eng
def num:Nat->Nat
 |58=>164
 |59=>182
 |60=>106
 |61=>137
 |62=>171
 |63=>162
 |64=>209
 |65=>136
 |66=>119
 |67=>83
 |68=>134
 |69=>135
 |70=>87
 |71=>210
 |72=>212
 |73=>211
 |74=>183
 |75=>138
 |76=>185
 |77=>223
 |78=>214
 |79=>213
 |80=>215
 |81=>184
 |82=>140
 |1=>117
 |2=>70
 |3=>71
 |4=>72
 |5=>28
 |6=>115
 |7=>169
 |8=>170
 |9=>116
 |10=>89
 |11=>88
 |12=>66
 |13=>67
 |14=>36
 |15=>204
 |16=>205
 |17=>167
 |18=>165
 |19=>47
 |20=>19
 |21=>27
 |22=>68
 |23=>69
 |24=>22
 |25=>108
 |26=>55
 |27=>35
 |28=>166
 |29=>107
 |30=>49
 |34=>17
 |35=>18
 |36=>58
 |37=>25
 |38=>26
 |39=>16
 |42=>8
 |424=>46
 |425=>103
 |426=>42
 |427=>57
 |428=>41
 |431=>43
 |433=>11
 |435=>45
 |436=>13
 |429=>54
 |437=>7
 |442=>51
 |443=>48
 |444=>50
 |445=>52
 |446=>53
 |447=>12
 |448=>14
 |83=>118
 |84=>139
 |85=>74
 |86=>175
 |87=>82
 |88=>85
 |89=>81
 |90=>141
 |91=>86
 |92=>73
 |93=>181
 |94=>84
 |95=>178
 |96=>29
 |97=>124
 |98=>33
 |99=>34
 |100=>131
 |101=>186
 |102=>197
 |103=>196
 |104=>198
 |105=>190
 |106=>225
 |107=>226
 |108=>224
 |109=>217
 |110=>216
 |111=>189
 |112=>148
 |113=>187
 |114=>195
 |115=>153
 |116=>188
 |117=>144
 |118=>145
 |119=>194
 |120=>193
 |121=>147
 |122=>143
 |123=>191
 |124=>99
 |125=>95
 |126=>102
 |127=>93
 |128=>98
 |135=>142
 |136=>149
 |137=>150
 |138=>152
 |149=>78
 |150=>31
 |151=>172
 |197=>132
 |198=>79
 |256=>129
 |294=>177
 |295=>127
 |296=>128
 |297=>179
 |298=>207
 |299=>174
 |300=>180
 |301=>208
 |302=>173
 |303=>122
 |304=>176
 |305=>130
 |349=>75
 |350=>123
 |351=>120
 |352=>121
 |353=>77
 |354=>126
 |355=>125
 |356=>76
 |360=>30
 |308=>192
 |309=>146
 |310=>92
 |311=>94
 |312=>151
 |313=>96
 |314=>38
 |315=>97
 |163=>91
 |164=>90
 |165=>37
 |166=>101
 |361=>40
 |362=>100
 |364=>39
 |383=>133
 |384=>80
 |449=>32
 |450=>9
 |451=>10
 |454=>3
 |432=>56
 |434=>44
 |_=>0
theorem ok{p:Nat×AFn->Prop}{a:Nat×AFn}{l:List (Nat×AFn)}(h:p a)(t:∀x∈l,p x):∀x∈a::l,p x:=List.forall_mem_cons.2 ⟨h,t⟩
theorem k9{p : Nat × AFn}{l : List (Nat × AFn)}{fn : Func}(hf : Tryz.prog.funcs[num p.1]? = some fn)(t : ∀ x ∈ l, OkF Tryz.prog num x)(h1 : okFn Tryz.prog num fn p.2 = true := by kernel_rfl)(h2 : (fn.name == "runtime.NumGoroutine") = false := by kernel_rfl) : ∀ x ∈ p :: l, OkF Tryz.prog num x := ok ⟨fn, hf, h1, h2⟩ t
def Ui:List (Nat×AFn):=[(58,F.RY),(59,F.RZ),(60,F.RV),(61,F.RW),(62,F.LE),(63,F.SW),(64,F.SV),(65,F.G3),(66,F.S1),(67,F.OS),(68,F.OR),(69,F.OT),(70,F.MT),(71,F.MW),(72,F.OW),(73,F.G4),(74,F.MU),(75,F.S0),(76,F.OX),(77,F.MV),(78,F.S2),(79,F.OU),(80,F.OV),(81,F.S3),(82,F.H9),(1,F.SF),(2,F.SD),(3,F.R9),(4,F.R8),(5,F.R7)]
set_option maxRecDepth 100000 in
theorem Al6:∀x∈Ui,OkF Tryz.prog num x :=k9 func164 (k9 func182 (k9 func106 (k9 func137 (k9 func171 (k9 func162 (k9 func209 (k9 func136 (k9 func119 (k9 func83 (k9 func134 (k9 func135 (k9 func87 (k9 func210 (k9 func212 (k9 func211 (k9 func183 (k9 func138 (k9 func185 (k9 func223 (k9 func214 (k9 func213 (k9 func215 (k9 func184 (k9 func140 (k9 func117 (k9 func70 (k9 func71 (k9 func72 (k9 func28 (
 List.forall_mem_nil _))))))))))))))))))))))))))))))
def Uj:List (Nat×AFn):=[(6,F.SC),(7,F.SE),(8,F.SB),(9,F.SA),(10,F.UE),(11,F.UJ),(12,F.UF),(13,F.UD),(14,F.UC),(15,F.UK),(16,F.UH),(17,F.UG),(18,F.UI),(19,F.PM),(20,F.PL),(21,F.K3),(22,F.MY),(23,F.MX),(24,F.S5),(25,F.OY),(26,F.S4),(27,F.K9),(28,F.PT),(29,F.PR),(30,F.PP),(34,F.U1),(35,F.UY),(36,F.U2),(37,F.U0),(38,F.UZ)]
set_option maxRecDepth 100000 in
theorem Al7:∀x∈Uj,OkF Tryz.prog num x :=k9 func115 (k9 func169 (k9 func170 (k9 func116 (k9 func89 (k9 func88 (k9 func66 (k9 func67 (k9 func36 (k9 func204 (k9 func205 (k9 func167 (k9 func165 (k9 func47 (k9 func19 (k9 func27 (k9 func68 (k9 func69 (k9 func22 (k9 func108 (k9 func55 (k9 func35 (k9 func166 (k9 func107 (k9 func49 (k9 func17 (k9 func18 (k9 func58 (k9 func25 (k9 func26 (
 List.forall_mem_nil _))))))))))))))))))))))))))))))
def Uk:List (Nat×AFn):=[(39,F.QC),(42,F.LI),(424,F.QA),(425,F.OO),(426,F.MQ),(427,F.MO),(428,F.KZ),(431,F.MP),(433,F.KY),(435,F.SU),(436,F.MM),(429,F.P1),(437,F.ST),(442,F.P5),(443,F.P2),(444,F.P6),(445,F.P4),(446,F.P3),(447,F.GH),(448,F.JR),(83,F.CH),(84,F.SP),(85,F.SM),(86,F.SN),(87,F.SJ),(88,F.SL),(89,F.M9),(90,F.TM),(91,F.TN),(92,F.K7)]
set_option maxRecDepth 100000 in
theorem Al8:∀x∈Uk,OkF Tryz.prog num x :=k9 func16 (k9 func8 (k9 func46 (k9 func103 (k9 func42 (k9 func57 (k9 func41 (k9 func43 (k9 func11 (k9 func45 (k9 func13 (k9 func54 (k9 func7 (k9 func51 (k9 func48 (k9 func50 (k9 func52 (k9 func53 (k9 func12 (k9 func14 (k9 func118 (k9 func139 (k9 func74 (k9 func175 (k9 func82 (k9 func85 (k9 func81 (k9 func141 (k9 func86 (k9 func73 (
 List.forall_mem_nil _))))))))))))))))))))))))))))))
def Ul:List (Nat×AFn):=[(93,F.PE),(94,F.TP),(95,F.TK),(96,F.TH),(97,F.TI),(98,F.M8),(99,F.PD),(100,F.TE),(101,F.JP),(102,F.PH),(103,F.PF),(104,F.K8),(105,F.NB),(106,F.PG),(107,F.JO),(108,F.PJ),(109,F.D6),(110,F.PI),(111,F.T4),(112,F.TY),(113,F.TZ),(114,F.TW),(115,F.TR),(116,F.T3),(117,F.TS),(118,F.TV),(119,F.TT),(120,F.TU),(121,F.NC),(122,F.PK)]
set_option maxRecDepth 100000 in
theorem Al9:∀x∈Ul,OkF Tryz.prog num x :=k9 func181 (k9 func84 (k9 func178 (k9 func29 (k9 func124 (k9 func33 (k9 func34 (k9 func131 (k9 func186 (k9 func197 (k9 func196 (k9 func198 (k9 func190 (k9 func225 (k9 func226 (k9 func224 (k9 func217 (k9 func216 (k9 func189 (k9 func148 (k9 func187 (k9 func195 (k9 func153 (k9 func188 (k9 func144 (k9 func145 (k9 func194 (k9 func193 (k9 func147 (k9 func143 (
 List.forall_mem_nil _))))))))))))))))))))))))))))))
def Um:List (Nat×AFn):=[(123,F.UB),(124,F.UA),(125,F.T8),(126,F.T6),(127,F.T7),(128,F.T9),(135,F.PU),(136,F.PO),(137,F.PN),(138,F.PQ),(149,F.TL),(150,F.TJ),(151,F.TG),(197,F.SK),(198,F.PC),(256,F.TD),(294,F.TB),(295,F.M7),(296,F.PA),(297,F.O4),(298,F.O2),(299,F.JL),(300,F.PB),(301,F.O7),(302,F.O3),(303,F.K6),(304,F.O6),(305,F.O5),(349,F.TC),(350,F.O8)]
set_option maxRecDepth 100000 in
theorem Ama:∀x∈Um,OkF Tryz.prog num x :=k9 func191 (k9 func99 (k9 func95 (k9 func102 (k9 func93 (k9 func98 (k9 func142 (k9 func149 (k9 func150 (k9 func152 (k9 func78 (k9 func31 (k9 func172 (k9 func132 (k9 func79 (k9 func129 (k9 func177 (k9 func127 (k9 func128 (k9 func179 (k9 func207 (k9 func174 (k9 func180 (k9 func208 (k9 func173 (k9 func122 (k9 func176 (k9 func130 (k9 func75 (k9 func123 (
 List.forall_mem_nil _))))))))))))))))))))))))))))))
def Un:List (Nat×AFn):=[(351,F.G6),(352,F.O9),(353,F.TA),(354,F.M6),(355,F.K5),(356,F.K4),(360,F.S9),(308,F.TQ),(309,F.T5),(310,F.P0),(311,F.PY),(312,F.PV),(313,F.LA),(314,F.NE),(315,F.PZ),(163,F.JQ),(164,F.PS),(165,F.UN),(166,F.UM),(361,F.ND),(362,F.PW),(364,F.PX),(383,F.KW),(384,F.TF),(449,F.MN),(450,F.KX),(451,F.LB),(454,F.SR)]
set_option maxRecDepth 100000 in
theorem Amb:∀x∈Un,OkF Tryz.prog num x :=k9 func120 (k9 func121 (k9 func77 (k9 func126 (k9 func125 (k9 func76 (k9 func30 (k9 func192 (k9 func146 (k9 func92 (k9 func94 (k9 func151 (k9 func96 (k9 func38 (k9 func97 (k9 func91 (k9 func90 (k9 func37 (k9 func101 (k9 func40 (k9 func100 (k9 func39 (k9 func133 (k9 func80 (k9 func32 (k9 func9 (k9 func10 (k9 func3 (
 List.forall_mem_nil _))))))))))))))))))))))))))))
def lib:List (Nat×AFn):=Ui++(Uj++(Uk++(Ul++(Um++(Un)))))
def fns:Nat->Option AFn:=λf=>lib.lookup f
abbrev L0:Lib:={ fn:=fns,num:=num }
noncomputable def L:Lib:=dD fns num
theorem Amn:ProgOK Tryz.prog num L0:=Amo lib (List.forall_mem_append.2 ⟨Al6,(List.forall_mem_append.2 ⟨Al7,(List.forall_mem_append.2 ⟨Al8,(List.forall_mem_append.2 ⟨Al9,(List.forall_mem_append.2 ⟨Ama,Amb⟩)⟩)⟩)⟩)⟩)
variable (e c:Nat->List AV->Option AV) (s:Nat->Option Nat)
theorem oC:F.c6 (Lib.mk fns num e c s):={ RY:=rfl,RZ:=rfl,RV:=rfl,RW:=rfl,LE:=rfl,SW:=rfl,SV:=rfl,G3:=rfl,S1:=rfl,OS:=rfl,OR:=rfl,OT:=rfl,MT:=rfl,MW:=rfl,OW:=rfl,G4:=rfl,MU:=rfl,S0:=rfl,OX:=rfl,MV:=rfl,S2:=rfl,OU:=rfl,OV:=rfl,S3:=rfl,H9:=rfl }
theorem nY:F.a8 (Lib.mk fns num e c s):={ SF:=rfl,SD:=rfl,R9:=rfl,R8:=rfl,R7:=rfl,SC:=rfl,SE:=rfl,SB:=rfl,SA:=rfl,UE:=rfl,UJ:=rfl,UF:=rfl,UD:=rfl,UC:=rfl,UK:=rfl,UH:=rfl,UG:=rfl,UI:=rfl,PM:=rfl,PL:=rfl }
theorem Akq:F.a8 L:=nY _ _ _
theorem gI:F.k7 (Lib.mk fns num e c s):={ nY e c s with K3:=rfl,MY:=rfl,MX:=rfl,S5:=rfl,OY:=rfl,S4:=rfl,K9:=rfl,PT:=rfl,PR:=rfl,PP:=rfl }
theorem Akt:F.k7 L:=gI _ _ _
theorem oH:F.w9 (Lib.mk fns num e c s):={ nY e c s with U1:=rfl,UY:=rfl,U2:=rfl,U0:=rfl,UZ:=rfl,QC:=rfl }
theorem Akv:F.w9 L:=oH _ _ _
theorem Qz:F.gj (Lib.mk fns num e c s):={ gI e c s,oH e c s with LI:=rfl }
theorem Aku:F.gj L:=Qz _ _ _
theorem gH:F.q6 (Lib.mk fns num e c s):={ oC e c s,gI e c s,Qz e c s,oH e c s with QA:=rfl,OO:=rfl,MQ:=rfl,MO:=rfl,KZ:=rfl,MP:=rfl,KY:=rfl,SU:=rfl,MM:=rfl,P1:=rfl }
theorem Aks:F.q6 L:=gH _ _ _
theorem Alb:KJ L ON:=Alc (by rfl)
theorem Ant:VF L:=Anu (gH _ _ _) rfl
theorem Qq:F.dh (Lib.mk fns num e c s):={ gH e c s with ST:=rfl }
theorem Qs:F.w4 (Lib.mk fns num e c s):={ gH e c s with P5:=rfl,P2:=rfl,P6:=rfl,P4:=rfl,P3:=rfl,GH:=rfl,JR:=rfl }
theorem gJ:F.a6 (Lib.mk fns num e c s):={ oC e c s with CH:=rfl,SP:=rfl,SM:=rfl,SN:=rfl,SJ:=rfl,SL:=rfl,M9:=rfl,TM:=rfl,TN:=rfl,K7:=rfl,PE:=rfl,TP:=rfl,TK:=rfl,TH:=rfl,TI:=rfl,M8:=rfl,PD:=rfl,TE:=rfl }
theorem gL:F.b7 (Lib.mk fns num e c s):={ JP:=rfl,PH:=rfl,PF:=rfl,K8:=rfl,NB:=rfl,PG:=rfl,JO:=rfl,PJ:=rfl,D6:=rfl,PI:=rfl,T4:=rfl,TY:=rfl,TZ:=rfl,TW:=rfl,TR:=rfl,T3:=rfl,TS:=rfl,TV:=rfl,TT:=rfl,TU:=rfl,NC:=rfl,PK:=rfl,UB:=rfl,UA:=rfl,T8:=rfl,T6:=rfl,T7:=rfl,T9:=rfl }
theorem Ra:F.ag (Lib.mk fns num e c s):={ gJ e c s,gL e c s with PU:=rfl,PO:=rfl,PN:=rfl,PQ:=rfl }
theorem oA:F.jk (Lib.mk fns num e c s):={ Ra e c s,gI e c s with}
theorem oE:F.au (Lib.mk fns num e c s):={ gJ e c s with TL:=rfl,TJ:=rfl,TG:=rfl }
theorem Qv:F.jr (Lib.mk fns num e c s):={ gJ e c s with}
theorem oF:F.jl (Lib.mk fns num e c s):={ gL e c s with}
theorem Qw:F.ma (Lib.mk fns num e c s):={ oF e c s with}
theorem Pq:F.pq (Lib.mk fns num e c s):={ oA e c s,oE e c s,Qv e c s,Qw e c s with}
theorem oG:F.cb (Lib.mk fns num e c s):={ Pq e c s with SK:=rfl,PC:=rfl }
theorem oD:F.bf (Lib.mk fns num e c s):={ oG e c s with TD:=rfl }
theorem Qu:F.u5 (Lib.mk fns num e c s):={ oD e c s with TB:=rfl,M7:=rfl,PA:=rfl,O4:=rfl,O2:=rfl,JL:=rfl,PB:=rfl,O7:=rfl,O3:=rfl,K6:=rfl,O6:=rfl,O5:=rfl }
theorem Qp:F.w8 (Lib.mk fns num e c s):={ Qu e c s with TC:=rfl,O8:=rfl,G6:=rfl,O9:=rfl,TA:=rfl,M6:=rfl,K5:=rfl,K4:=rfl }
theorem Qo:F.df (Lib.mk fns num e c s):={ Qp e c s with S9:=rfl }
theorem Qx:F.ay (Lib.mk fns num e c s):={ oG e c s with TQ:=rfl,T5:=rfl,P0:=rfl,PY:=rfl,PV:=rfl,LA:=rfl,NE:=rfl,PZ:=rfl }
theorem oB:F.af (Lib.mk fns num e c s):={ oA e c s,oE e c s,oF e c s with JQ:=rfl,PS:=rfl,UN:=rfl,UM:=rfl }
theorem nZ:F.cj (Lib.mk fns num e c s):={ gL e c s with ND:=rfl }
theorem Qy:F.ck (Lib.mk fns num e c s):={ Qx e c s,oB e c s,nZ e c s with PW:=rfl,PX:=rfl }
theorem Qt:F.dw (Lib.mk fns num e c s):={ oD e c s,oB e c s,nZ e c s with KW:=rfl,TF:=rfl }
theorem Qr:F.aq (Lib.mk fns num e c s):={ Qo e c s,Qy e c s,Qt e c s with MN:=rfl,KX:=rfl,LB:=rfl }
theorem AkB:F.jq (Lib.mk fns num e c s):={ Qq e c s,Qs e c s,Qr e c s with SR:=rfl }
theorem Akr:F.jq L:=AkB _ _ _
end Go.Proofs.YtmhfodhmngfoiaaGreatDoor
