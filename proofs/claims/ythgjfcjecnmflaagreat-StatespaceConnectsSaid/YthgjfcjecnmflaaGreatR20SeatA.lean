/-
  The functions of the groups are the program's own: checked by the kernel, function by function.
-/
import Derived.Test.YthgjfcjecnmflaaGreatProg
import Derived.KernelRfl
import Derived.Test.YthgjfcjecnmflaaGreatB5
import Derived.Test.YthgjfcjecnmflaaGreatB1
import Derived.Test.YthgjfcjecnmflaaGreatB2
set_option linter.unusedSimpArgs false
set_option linter.unusedVariables false
set_option linter.unnecessarySimpa false
namespace Go.Proofs.YthgjfcjecnmflaaGreat
open Go.e9
def num:Nat->Nat
 | 58=>192
 | 59=>193
 | 60=>176
 | 61=>177
 | 62=>181
 | 63=>205
 | 64=>196
 | 65=>150
 | 66=>149
 | 67=>138
 | 68=>174
 | 69=>175
 | 70=>103
 | 71=>197
 | 72=>199
 | 73=>198
 | 74=>182
 | 75=>151
 | 76=>184
 | 77=>206
 | 78=>201
 | 79=>200
 | 80=>202
 | 81=>183
 | 82=>153
 | 83=>148
 | 84=>152
 | 85=>99
 | 86=>147
 | 87=>137
 | 88=>102
 | 89=>101
 | 90=>154
 | 91=>139
 | 92=>98
 | 93=>141
 | 94=>104
 | 95=>73
 | 96=>42
 | 97=>97
 | 98=>82
 | 99=>44
 | 100=>133
 | 101=>125
 | 102=>178
 | 103=>164
 | 104=>165
 | 105=>126
 | 106=>187
 | 107=>188
 | 108=>186
 | 109=>163
 | 110=>162
 | 111=>124
 | 112=>61
 | 113=>121
 | 114=>120
 | 115=>140
 | 116=>173
 | 117=>134
 | 118=>64
 | 119=>123
 | 120=>122
 | 121=>60
 | 122=>63
 | 123=>53
 | 124=>22
 | 125=>18
 | 126=>83
 | 127=>75
 | 128=>21
 | 129=>74
 | 130=>84
 | 131=>132
 | 132=>85
 | 136=>80
 | 145=>72
 | 149=>100
 | 150=>45
 | 151=>87
 | 169=>142
 | 170=>90
 | 152=>58
 | 155=>94
 | 156=>204
 | 157=>203
 | 158=>195
 | 159=>180
 | 171=>36
 | 172=>145
 | 173=>93
 | 188=>86
 | 189=>32
 | 191=>88
 | 190=>89
 | 197=>146
 | 198=>96
 | 199=>43
 | 200=>95
 | 201=>38
 | 204=>39
 | 205=>40
 | 206=>41
 | 207=>7
 | 210=>81
 | 256=>167
 | 257=>194
 | 258=>179
 | 259=>143
 | 273=>144
 | 274=>92
 | 34=>14
 | 35=>62
 | 141=>37
 | 142=>15
 | 167=>27
 | 176=>35
 | 215=>12
 | 369=>135
 | 370=>78
 | 371=>136
 | 372=>79
 | 373=>76
 | 374=>77
 | 375=>28
 | 376=>30
 | 377=>29
 | 378=>31
 | 379=>91
 | 380=>33
 | 381=>34
 | 382=>5
 | _=>0
theorem ok {p:Nat × AFn->Prop} {a:Nat × AFn} {l:List (Nat × AFn)} (h:p a) (t : ∀ x∈l,p x) : ∀ x∈a::l,p x:=List.forall_mem_cons.2 ⟨h,t⟩
theorem okk {p : Nat × AFn} {l : List (Nat × AFn)} {fn : Func} (hf : Tryz.prog.funcs[num p.1]? = some fn) (t : ∀ x ∈ l, OkF Tryz.prog num x) (h1 : okFn Tryz.prog num fn p.2 = true := by kernel_rfl) (h2 : (fn.name == "runtime.NumGoroutine") = false := by kernel_rfl) : ∀ x ∈ p :: l, OkF Tryz.prog num x := ok ⟨fn, hf, h1, h2⟩ t
def mV:List (Nat × AFn):=[(58,F.J5),(59,F.J6),(60,F.J3),(61,F.J4),(62,F.HF),(63,F.KR),(64,F.KQ),(65,F.FO),(66,F.KY),(67,F.KU),(68,F.KT),(69,F.KX),(70,F.KW),(71,F.I5),(72,F.K3),(73,F.FW),(74,F.K1),(75,F.KV),(76,F.K5),(77,F.H1),(78,F.K2),(79,F.KZ),(80,F.K0),(81,F.K4),(82,F.GO),(83,F.DF),(84,F.KJ),(85,F.KH),(86,F.KI),(87,F.KE)]
set_option maxRecDepth 100000 in
theorem Tw : ∀ x∈mV,OkF Tryz.prog num x :=
 okk Tryz.func192 (
 okk Tryz.func193 (
 okk Tryz.func176 (
 okk Tryz.func177 (
 okk Tryz.func181 (
 okk Tryz.func205 (
 okk Tryz.func196 (
 okk Tryz.func150 (
 okk Tryz.func149 (
 okk Tryz.func138 (
 okk Tryz.func174 (
 okk Tryz.func175 (
 okk Tryz.func103 (
 okk Tryz.func197 (
 okk Tryz.func199 (
 okk Tryz.func198 (
 okk Tryz.func182 (
 okk Tryz.func151 (
 okk Tryz.func184 (
 okk Tryz.func206 (
 okk Tryz.func201 (
 okk Tryz.func200 (
 okk Tryz.func202 (
 okk Tryz.func183 (
 okk Tryz.func153 (
 okk Tryz.func148 (
 okk Tryz.func152 (
 okk Tryz.func99 (
 okk Tryz.func147 (
 okk Tryz.func137 (
 List.forall_mem_nil _))))))))))))))))))))))))))))))
def mW:List (Nat × AFn):=[(88,F.KG),(89,F.H5),(90,F.LV),(91,F.LW),(92,F.HB),(93,F.JB),(94,F.LX),(95,F.LT),(96,F.LQ),(97,F.LR),(98,F.H4),(99,F.JA),(100,F.I9),(101,F.HD),(102,F.L0),(103,F.LY),(104,F.IO),(105,F.L2),(106,F.LZ),(107,F.H6),(108,F.L4),(109,F.DP),(110,F.L1),(111,F.MF),(112,F.MB),(113,F.MD),(114,F.MA),(115,F.L5),(116,F.ME),(117,F.L6)]
set_option maxRecDepth 100000 in
theorem Tx : ∀ x∈mW,OkF Tryz.prog num x :=
 okk Tryz.func102 (
 okk Tryz.func101 (
 okk Tryz.func154 (
 okk Tryz.func139 (
 okk Tryz.func98 (
 okk Tryz.func141 (
 okk Tryz.func104 (
 okk Tryz.func73 (
 okk Tryz.func42 (
 okk Tryz.func97 (
 okk Tryz.func82 (
 okk Tryz.func44 (
 okk Tryz.func133 (
 okk Tryz.func125 (
 okk Tryz.func178 (
 okk Tryz.func164 (
 okk Tryz.func165 (
 okk Tryz.func126 (
 okk Tryz.func187 (
 okk Tryz.func188 (
 okk Tryz.func186 (
 okk Tryz.func163 (
 okk Tryz.func162 (
 okk Tryz.func124 (
 okk Tryz.func61 (
 okk Tryz.func121 (
 okk Tryz.func120 (
 okk Tryz.func140 (
 okk Tryz.func173 (
 okk Tryz.func134 (
 List.forall_mem_nil _))))))))))))))))))))))))))))))
def mX:List (Nat × AFn):=[(118,F.L9),(119,F.L7),(120,F.L8),(121,F.H7),(122,F.JC),(123,F.MP),(124,F.ML),(125,F.MI),(126,F.MG),(127,F.MH),(128,F.MJ),(129,F.MT),(130,F.K6),(131,F.LB),(132,F.K8),(136,F.MW),(145,F.LA),(149,F.LU),(150,F.LS),(151,F.LO),(169,F.F6),(170,F.LH),(152,F.MK),(155,F.MO),(156,F.L3),(157,F.MC),(158,F.MM),(159,F.MN),(171,F.MS),(172,F.MQ)]
set_option maxRecDepth 100000 in
theorem Tz : ∀ x∈mX,OkF Tryz.prog num x :=
 okk Tryz.func64 (
 okk Tryz.func123 (
 okk Tryz.func122 (
 okk Tryz.func60 (
 okk Tryz.func63 (
 okk Tryz.func53 (
 okk Tryz.func22 (
 okk Tryz.func18 (
 okk Tryz.func83 (
 okk Tryz.func75 (
 okk Tryz.func21 (
 okk Tryz.func74 (
 okk Tryz.func84 (
 okk Tryz.func132 (
 okk Tryz.func85 (
 okk Tryz.func80 (
 okk Tryz.func72 (
 okk Tryz.func100 (
 okk Tryz.func45 (
 okk Tryz.func87 (
 okk Tryz.func142 (
 okk Tryz.func90 (
 okk Tryz.func58 (
 okk Tryz.func94 (
 okk Tryz.func204 (
 okk Tryz.func203 (
 okk Tryz.func195 (
 okk Tryz.func180 (
 okk Tryz.func36 (
 okk Tryz.func145 (
 List.forall_mem_nil _))))))))))))))))))))))))))))))
def mY:List (Nat × AFn):=[(173,F.MR),(188,F.K9),(189,F.K7),(191,F.I6),(190,F.LG),(197,F.KF),(198,F.I8),(199,F.LP),(200,F.LF),(201,F.M0),(204,F.NB),(205,F.M9),(206,F.JJ),(207,F.JG),(210,F.MX),(256,F.LN),(257,F.LJ),(258,F.LI),(259,F.LK),(273,F.LL),(274,F.I7),(34,F.NL),(35,F.NI),(141,F.NJ),(142,F.NK),(167,F.MV),(176,F.MU),(215,F.KM),(369,F.JI),(370,F.NE)]
set_option maxRecDepth 100000 in
theorem Ua : ∀ x∈mY,OkF Tryz.prog num x :=
 okk Tryz.func93 (
 okk Tryz.func86 (
 okk Tryz.func32 (
 okk Tryz.func88 (
 okk Tryz.func89 (
 okk Tryz.func146 (
 okk Tryz.func96 (
 okk Tryz.func43 (
 okk Tryz.func95 (
 okk Tryz.func38 (
 okk Tryz.func39 (
 okk Tryz.func40 (
 okk Tryz.func41 (
 okk Tryz.func7 (
 okk Tryz.func81 (
 okk Tryz.func167 (
 okk Tryz.func194 (
 okk Tryz.func179 (
 okk Tryz.func143 (
 okk Tryz.func144 (
 okk Tryz.func92 (
 okk Tryz.func14 (
 okk Tryz.func62 (
 okk Tryz.func37 (
 okk Tryz.func15 (
 okk Tryz.func27 (
 okk Tryz.func35 (
 okk Tryz.func12 (
 okk Tryz.func135 (
 okk Tryz.func78 (
 List.forall_mem_nil _))))))))))))))))))))))))))))))
def mZ:List (Nat × AFn):=[(371,F.ND),(372,F.NC),(373,F.NA),(374,F.JH),(375,F.M8),(376,F.M7),(377,F.E1),(378,F.E0),(379,F.M3),(380,F.MZ),(381,F.MY),(382,F.KL)]
set_option maxRecDepth 100000 in
theorem Ub : ∀ x∈mZ,OkF Tryz.prog num x :=
 okk Tryz.func136 (
 okk Tryz.func79 (
 okk Tryz.func76 (
 okk Tryz.func77 (
 okk Tryz.func28 (
 okk Tryz.func30 (
 okk Tryz.func29 (
 okk Tryz.func31 (
 okk Tryz.func91 (
 okk Tryz.func33 (
 okk Tryz.func34 (
 okk Tryz.func5 (
 List.forall_mem_nil _))))))))))))
def Js:List (Nat × AFn):=mV++(mW++(mX++(mY++(mZ))))
def L:Lib:=⟨λ f=>Js.lookup f,num⟩
theorem Sr:ProgOK Tryz.prog num L:=Ss Js (List.forall_mem_append.2 ⟨Tw,(List.forall_mem_append.2 ⟨Tx,(List.forall_mem_append.2 ⟨Tz,(List.forall_mem_append.2 ⟨Ua,Ub⟩)⟩)⟩)⟩)
theorem Nc:F.c7 L:={ J5:=rfl,J6:=rfl,J3:=rfl,J4:=rfl,HF:=rfl,KR:=rfl,KQ:=rfl,FO:=rfl,KY:=rfl,KU:=rfl,KT:=rfl,KX:=rfl,KW:=rfl,I5:=rfl,K3:=rfl,FW:=rfl,K1:=rfl,KV:=rfl,K5:=rfl,H1:=rfl,K2:=rfl,KZ:=rfl,K0:=rfl,K4:=rfl,GO:=rfl }
theorem aO:F.a6 L:={ Nc with DF:=rfl,KJ:=rfl,KH:=rfl,KI:=rfl,KE:=rfl,KG:=rfl,H5:=rfl,LV:=rfl,LW:=rfl,HB:=rfl,JB:=rfl,LX:=rfl,LT:=rfl,LQ:=rfl,LR:=rfl,H4:=rfl,JA:=rfl,I9:=rfl }
theorem aQ:F.b8 L:={ HD:=rfl,L0:=rfl,LY:=rfl,IO:=rfl,L2:=rfl,LZ:=rfl,H6:=rfl,L4:=rfl,DP:=rfl,L1:=rfl,MF:=rfl,MB:=rfl,MD:=rfl,MA:=rfl,L5:=rfl,ME:=rfl,L6:=rfl,L9:=rfl,L7:=rfl,L8:=rfl,H7:=rfl,JC:=rfl,MP:=rfl,ML:=rfl,MI:=rfl,MG:=rfl,MH:=rfl,MJ:=rfl,MT:=rfl }
theorem Rf:F.o6 L:={ aO,aQ with K6:=rfl,LB:=rfl,K8:=rfl,MW:=rfl }
theorem lT:F.ft L:={  }
theorem lV:F.ml L:={ lT with  }
theorem lU:F.iy L:={ Rf,lV with LA:=rfl }
theorem aP:F.w6 L:={ aO with LU:=rfl,LS:=rfl,LO:=rfl }
theorem lW:F.bm L:={ aO with F6:=rfl,LH:=rfl }
theorem lY:F.q9 L:={ aQ with MK:=rfl,MO:=rfl,L3:=rfl,MC:=rfl,MM:=rfl,MN:=rfl }
theorem lX:F.ak L:={ lY with MS:=rfl,MQ:=rfl,MR:=rfl }
theorem Rg:F.y5 L:={ lU,aP,lW,lX with K9:=rfl,K7:=rfl,I6:=rfl,LG:=rfl }
theorem lZ:F.k6 L:={ Rg with KF:=rfl,I8:=rfl,LP:=rfl,LF:=rfl,M0:=rfl,NB:=rfl,M9:=rfl,JJ:=rfl,JG:=rfl,MX:=rfl }
theorem Nf:F.aj L:={ lZ with LN:=rfl,LJ:=rfl,LI:=rfl,LK:=rfl }
theorem Ng:F.y9 L:={ Nf with LL:=rfl,I7:=rfl }
theorem mA:F.s9 L:={ lT with NL:=rfl,NI:=rfl }
theorem Nh:F.au L:={ mA,aQ with NJ:=rfl,NK:=rfl }
theorem Nb:F.bz L:={ lU,aP,lY with MV:=rfl }
theorem Ni:F.nh L:={ lV,mA with  }
theorem Mz:F.fr L:={ Ni with  }
theorem Mx:F.di L:={ Mz,aP,lW,lX with MU:=rfl }
theorem Na:F.fj L:={ lZ,Nb,Mx,Nh with KM:=rfl }
theorem My:F.q8 L:={ Ng,Na with JI:=rfl,NE:=rfl,ND:=rfl,NC:=rfl,NA:=rfl,JH:=rfl,M8:=rfl,M7:=rfl,E1:=rfl,E0:=rfl,M3:=rfl,MZ:=rfl,MY:=rfl,KL:=rfl }
end Go.Proofs.YthgjfcjecnmflaaGreat
