/-
  The functions of the groups are the program's own: checked by the kernel, function by function.
-/
import Derived.Test.YthgjfcjecnmflaaGreatProg
import Derived.KernelRfl
import Derived.Test.YthgjfcjecnmflaaGreatB5
import Derived.Test.YthgjfcjecnmflaaGreatB1
import Derived.Test.YthgjfcjecnmflaaGreatB2
set_option linter.unusedSimpArgs false
set_option linter.unusedVariables false
set_option linter.unnecessarySimpa false
namespace Go.Proofs.YthgjfcjecnmflaaGreat
open Go.e6
def num:Nat->Nat
 | 58=>192
 | 59=>193
 | 60=>176
 | 61=>177
 | 62=>181
 | 63=>205
 | 64=>196
 | 65=>150
 | 66=>149
 | 67=>138
 | 68=>174
 | 69=>175
 | 70=>103
 | 71=>197
 | 72=>199
 | 73=>198
 | 74=>182
 | 75=>151
 | 76=>184
 | 77=>206
 | 78=>201
 | 79=>200
 | 80=>202
 | 81=>183
 | 82=>153
 | 83=>148
 | 84=>152
 | 85=>99
 | 86=>147
 | 87=>137
 | 88=>102
 | 89=>101
 | 90=>154
 | 91=>139
 | 92=>98
 | 93=>141
 | 94=>104
 | 95=>73
 | 96=>42
 | 97=>97
 | 98=>82
 | 99=>44
 | 100=>133
 | 101=>125
 | 102=>178
 | 103=>164
 | 104=>165
 | 105=>126
 | 106=>187
 | 107=>188
 | 108=>186
 | 109=>163
 | 110=>162
 | 111=>124
 | 112=>61
 | 113=>121
 | 114=>120
 | 115=>140
 | 116=>173
 | 117=>134
 | 118=>64
 | 119=>123
 | 120=>122
 | 121=>60
 | 122=>63
 | 123=>53
 | 124=>22
 | 125=>18
 | 126=>83
 | 127=>75
 | 128=>21
 | 129=>74
 | 130=>84
 | 131=>132
 | 136=>80
 | 1=>127
 | 2=>65
 | 3=>171
 | 4=>172
 | 5=>131
 | 10=>129
 | 11=>67
 | 12=>190
 | 13=>191
 | 14=>170
 | 20=>69
 | 21=>70
 | 144=>71
 | 145=>72
 | 146=>26
 | 149=>100
 | 150=>45
 | 151=>87
 | 169=>142
 | 152=>58
 | 197=>146
 | 198=>96
 | 199=>43
 | 200=>95
 | 201=>38
 | 204=>39
 | 205=>40
 | 206=>41
 | 207=>7
 | 256=>167
 | 34=>14
 | 35=>62
 | 36=>59
 | 37=>17
 | 38=>16
 | 40=>20
 | 41=>19
 | 141=>37
 | 167=>27
 | 177=>25
 | 215=>12
 | 281=>46
 | 284=>52
 | 361=>169
 | 383=>189
 | 384=>166
 | 385=>128
 | 386=>168
 | 387=>130
 | 388=>66
 | 389=>23
 | 390=>68
 | 391=>24
 | 316=>15
 | 392=>4
 | _=>0
theorem ok {p:Nat × AFn->Prop} {a:Nat × AFn} {l:List (Nat × AFn)} (h:p a) (t : ∀ x∈l,p x) : ∀ x∈a::l,p x:=List.forall_mem_cons.2 ⟨h,t⟩
theorem okk {p : Nat × AFn} {l : List (Nat × AFn)} {fn : Func} (hf : Tryz.prog.funcs[num p.1]? = some fn) (t : ∀ x ∈ l, OkF Tryz.prog num x) (h1 : okFn Tryz.prog num fn p.2 = true := by kernel_rfl) (h2 : (fn.name == "runtime.NumGoroutine") = false := by kernel_rfl) : ∀ x ∈ p :: l, OkF Tryz.prog num x := ok ⟨fn, hf, h1, h2⟩ t
def zD:List (Nat × AFn):=[(58,F.QY),(59,F.QZ),(60,F.QW),(61,F.QX),(62,F.N5),(63,F.RR),(64,F.RQ),(65,F.I4),(66,F.R4),(67,F.RW),(68,F.RV),(69,F.R0),(70,F.RZ),(71,F.PT),(72,F.R9),(73,F.JO),(74,F.R7),(75,F.RY),(76,F.SB),(77,F.OV),(78,F.R8),(79,F.R5),(80,F.R6),(81,F.SA),(82,F.KN),(83,F.DT),(84,F.RL),(85,F.RJ),(86,F.RK),(87,F.RF)]
set_option maxRecDepth 100000 in
theorem AhQ : ∀ x∈zD,OkF Tryz.prog num x :=
 okk Tryz.func192 (
 okk Tryz.func193 (
 okk Tryz.func176 (
 okk Tryz.func177 (
 okk Tryz.func181 (
 okk Tryz.func205 (
 okk Tryz.func196 (
 okk Tryz.func150 (
 okk Tryz.func149 (
 okk Tryz.func138 (
 okk Tryz.func174 (
 okk Tryz.func175 (
 okk Tryz.func103 (
 okk Tryz.func197 (
 okk Tryz.func199 (
 okk Tryz.func198 (
 okk Tryz.func182 (
 okk Tryz.func151 (
 okk Tryz.func184 (
 okk Tryz.func206 (
 okk Tryz.func201 (
 okk Tryz.func200 (
 okk Tryz.func202 (
 okk Tryz.func183 (
 okk Tryz.func153 (
 okk Tryz.func148 (
 okk Tryz.func152 (
 okk Tryz.func99 (
 okk Tryz.func147 (
 okk Tryz.func137 (
 List.forall_mem_nil _))))))))))))))))))))))))))))))
def zF:List (Nat × AFn):=[(88,F.RI),(89,F.OZ),(90,F.S2),(91,F.S3),(92,F.NZ),(93,F.P0),(94,F.S4),(95,F.S0),(96,F.SV),(97,F.SW),(98,F.OY),(99,F.PZ),(100,F.SR),(101,F.N1),(102,F.S9),(103,F.S7),(104,F.PH),(105,F.TC),(106,F.S8),(107,F.O0),(108,F.TD),(109,F.F2),(110,F.TB),(111,F.TQ),(112,F.TL),(113,F.TM),(114,F.TK),(115,F.TE),(116,F.TN),(117,F.TF)]
set_option maxRecDepth 100000 in
theorem AhR : ∀ x∈zF,OkF Tryz.prog num x :=
 okk Tryz.func102 (
 okk Tryz.func101 (
 okk Tryz.func154 (
 okk Tryz.func139 (
 okk Tryz.func98 (
 okk Tryz.func141 (
 okk Tryz.func104 (
 okk Tryz.func73 (
 okk Tryz.func42 (
 okk Tryz.func97 (
 okk Tryz.func82 (
 okk Tryz.func44 (
 okk Tryz.func133 (
 okk Tryz.func125 (
 okk Tryz.func178 (
 okk Tryz.func164 (
 okk Tryz.func165 (
 okk Tryz.func126 (
 okk Tryz.func187 (
 okk Tryz.func188 (
 okk Tryz.func186 (
 okk Tryz.func163 (
 okk Tryz.func162 (
 okk Tryz.func124 (
 okk Tryz.func61 (
 okk Tryz.func121 (
 okk Tryz.func120 (
 okk Tryz.func140 (
 okk Tryz.func173 (
 okk Tryz.func134 (
 List.forall_mem_nil _))))))))))))))))))))))))))))))
def zG:List (Nat × AFn):=[(118,F.TJ),(119,F.TH),(120,F.TI),(121,F.O1),(122,F.P1),(123,F.TY),(124,F.TW),(125,F.TT),(126,F.TR),(127,F.TS),(128,F.TU),(129,F.UB),(130,F.SC),(131,F.SH),(136,F.UF),(1,F.RB),(2,F.RA),(3,F.Q9),(4,F.Q8),(5,F.Q7),(10,F.T7),(11,F.UC),(12,F.T9),(13,F.T6),(14,F.TZ),(20,F.UA),(21,F.SD),(144,F.SE),(145,F.SG),(146,F.PV)]
set_option maxRecDepth 100000 in
theorem AhS : ∀ x∈zG,OkF Tryz.prog num x :=
 okk Tryz.func64 (
 okk Tryz.func123 (
 okk Tryz.func122 (
 okk Tryz.func60 (
 okk Tryz.func63 (
 okk Tryz.func53 (
 okk Tryz.func22 (
 okk Tryz.func18 (
 okk Tryz.func83 (
 okk Tryz.func75 (
 okk Tryz.func21 (
 okk Tryz.func74 (
 okk Tryz.func84 (
 okk Tryz.func132 (
 okk Tryz.func80 (
 okk Tryz.func127 (
 okk Tryz.func65 (
 okk Tryz.func171 (
 okk Tryz.func172 (
 okk Tryz.func131 (
 okk Tryz.func129 (
 okk Tryz.func67 (
 okk Tryz.func190 (
 okk Tryz.func191 (
 okk Tryz.func170 (
 okk Tryz.func69 (
 okk Tryz.func70 (
 okk Tryz.func71 (
 okk Tryz.func72 (
 okk Tryz.func26 (
 List.forall_mem_nil _))))))))))))))))))))))))))))))
def zH:List (Nat × AFn):=[(149,F.S1),(150,F.SZ),(151,F.ST),(169,F.SM),(152,F.TV),(197,F.RH),(198,F.PY),(199,F.SU),(200,F.SL),(201,F.UI),(204,F.UP),(205,F.UO),(206,F.US),(207,F.P7),(256,F.SP),(34,F.U0),(35,F.UU),(36,F.U1),(37,F.UX),(38,F.UW),(40,F.UV),(41,F.UZ),(141,F.UY),(167,F.P2),(177,F.UE),(215,F.RM),(281,F.UQ),(284,F.UG),(361,F.T8),(383,F.NW)]
set_option maxRecDepth 100000 in
theorem AhT : ∀ x∈zH,OkF Tryz.prog num x :=
 okk Tryz.func100 (
 okk Tryz.func45 (
 okk Tryz.func87 (
 okk Tryz.func142 (
 okk Tryz.func58 (
 okk Tryz.func146 (
 okk Tryz.func96 (
 okk Tryz.func43 (
 okk Tryz.func95 (
 okk Tryz.func38 (
 okk Tryz.func39 (
 okk Tryz.func40 (
 okk Tryz.func41 (
 okk Tryz.func7 (
 okk Tryz.func167 (
 okk Tryz.func14 (
 okk Tryz.func62 (
 okk Tryz.func59 (
 okk Tryz.func17 (
 okk Tryz.func16 (
 okk Tryz.func20 (
 okk Tryz.func19 (
 okk Tryz.func37 (
 okk Tryz.func27 (
 okk Tryz.func25 (
 okk Tryz.func12 (
 okk Tryz.func46 (
 okk Tryz.func52 (
 okk Tryz.func169 (
 okk Tryz.func189 (
 List.forall_mem_nil _))))))))))))))))))))))))))))))
def zI:List (Nat × AFn):=[(384,F.SS),(385,F.G8),(386,F.UD),(387,F.N2),(388,F.UR),(389,F.O7),(390,F.UH),(391,F.O2),(316,F.IE),(392,F.IA)]
set_option maxRecDepth 100000 in
theorem AhU : ∀ x∈zI,OkF Tryz.prog num x :=
 okk Tryz.func166 (
 okk Tryz.func128 (
 okk Tryz.func168 (
 okk Tryz.func130 (
 okk Tryz.func66 (
 okk Tryz.func23 (
 okk Tryz.func68 (
 okk Tryz.func24 (
 okk Tryz.func15 (
 okk Tryz.func4 (
 List.forall_mem_nil _))))))))))
def Th:List (Nat × AFn):=zD++(zF++(zG++(zH++(zI))))
def L:Lib:=⟨λ f=>Th.lookup f,num⟩
theorem Ah0:ProgOK Tryz.prog num L:=Ah1 Th (List.forall_mem_append.2 ⟨AhQ,(List.forall_mem_append.2 ⟨AhR,(List.forall_mem_append.2 ⟨AhS,(List.forall_mem_append.2 ⟨AhT,AhU⟩)⟩)⟩)⟩)
theorem AgJ:F.c6 L:={ QY:=rfl,QZ:=rfl,QW:=rfl,QX:=rfl,N5:=rfl,RR:=rfl,RQ:=rfl,I4:=rfl,R4:=rfl,RW:=rfl,RV:=rfl,R0:=rfl,RZ:=rfl,PT:=rfl,R9:=rfl,JO:=rfl,R7:=rfl,RY:=rfl,SB:=rfl,OV:=rfl,R8:=rfl,R5:=rfl,R6:=rfl,SA:=rfl,KN:=rfl }
theorem oJ:F.b7 L:={ AgJ with DT:=rfl,RL:=rfl,RJ:=rfl,RK:=rfl,RF:=rfl,RI:=rfl,OZ:=rfl,S2:=rfl,S3:=rfl,NZ:=rfl,P0:=rfl,S4:=rfl,S0:=rfl,SV:=rfl,SW:=rfl,OY:=rfl,PZ:=rfl,SR:=rfl }
theorem iA:F.a8 L:={ N1:=rfl,S9:=rfl,S7:=rfl,PH:=rfl,TC:=rfl,S8:=rfl,O0:=rfl,TD:=rfl,F2:=rfl,TB:=rfl,TQ:=rfl,TL:=rfl,TM:=rfl,TK:=rfl,TE:=rfl,TN:=rfl,TF:=rfl,TJ:=rfl,TH:=rfl,TI:=rfl,O1:=rfl,P1:=rfl,TY:=rfl,TW:=rfl,TT:=rfl,TR:=rfl,TS:=rfl,TU:=rfl,UB:=rfl }
theorem AgO:F.ax L:={ oJ,iA with SC:=rfl,SH:=rfl,UF:=rfl }
theorem oH:F.g9 L:={ RB:=rfl,RA:=rfl,Q9:=rfl,Q8:=rfl,Q7:=rfl,T7:=rfl,UC:=rfl,T9:=rfl,T6:=rfl,TZ:=rfl,UA:=rfl }
theorem yI:F.fx L:={ oH with SD:=rfl }
theorem oI:F.y8 L:={ AgO,yI with SE:=rfl,SG:=rfl,PV:=rfl }
theorem oL:F.af L:={ oJ with S1:=rfl,SZ:=rfl,ST:=rfl }
theorem yK:F.jj L:={ oJ with SM:=rfl }
theorem oN:F.dh L:={ iA with TV:=rfl }
theorem yL:F.kz L:={ oN with  }
theorem AgP:F.te L:={ oI,oL,yK,yL with  }
theorem oO:F.v5 L:={ AgP with RH:=rfl,PY:=rfl,SU:=rfl,SL:=rfl,UI:=rfl,UP:=rfl,UO:=rfl,US:=rfl,P7:=rfl }
theorem yJ:F.fg L:={ oO with SP:=rfl }
theorem AgL:F.pn L:={ yJ with  }
theorem yM:F.o4 L:={ oH with U0:=rfl,UU:=rfl,U1:=rfl,UX:=rfl,UW:=rfl,UV:=rfl,UZ:=rfl }
theorem oM:F.cj L:={ yM,iA with UY:=rfl }
theorem yH:F.ct L:={ oI,oL,oN with P2:=rfl }
theorem AgN:F.pt L:={ yI,yM with  }
theorem AgE:F.ji L:={ AgN with  }
theorem yF:F.cr L:={ AgE,oL,yK,yL with UE:=rfl }
theorem yG:F.fe L:={ oO,yH,yF,oM with RM:=rfl }
theorem AgM:F.po L:={ oN with  }
theorem AgH:F.pk L:={ AgM with  }
theorem AgQ:F.pz L:={ oM with  }
theorem AgF:F.bj L:={ AgL,AgH,AgQ,oO,yG with UQ:=rfl,UG:=rfl }
theorem AgG:F.de L:={ iA with T8:=rfl }
theorem AgK:F.ae L:={ yJ,yH,AgG with NW:=rfl,SS:=rfl,G8:=rfl,UD:=rfl,N2:=rfl }
theorem AgC:F.w8 L:={ AgK,AgF with UR:=rfl,O7:=rfl,UH:=rfl,O2:=rfl }
theorem AgD:F.mi L:={ oM with IE:=rfl }
theorem AgI:F.fc L:={ AgC,oI,yF,AgD,yG with IA:=rfl }
end Go.Proofs.YthgjfcjecnmflaaGreat
