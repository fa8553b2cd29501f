/-
  The functions of the groups are the program's own: checked by the kernel, function by function.
-/
import Derived.Test.YtmalpgkkffcbfaaGreatProg
import Derived.KernelRfl
import Derived.Test.YtmalpgkkffcbfaaGreatB5
import Derived.Test.YtmalpgkkffcbfaaGreatB1
import Derived.Test.YtmalpgkkffcbfaaGreatB2
set_option linter.unusedSimpArgs false
set_option linter.unusedVariables false
set_option linter.unnecessarySimpa false
namespace Go.Proofs.YtmalpgkkffcbfaaGreat
open Go.b8
def num:Nat->Nat
 | 58=>108
 | 59=>109
 | 60=>90
 | 61=>91
 | 62=>106
 | 63=>128
 | 64=>120
 | 65=>89
 | 66=>85
 | 67=>56
 | 68=>87
 | 69=>88
 | 70=>60
 | 71=>121
 | 72=>123
 | 73=>122
 | 74=>110
 | 75=>92
 | 76=>112
 | 77=>129
 | 78=>125
 | 79=>124
 | 80=>126
 | 81=>111
 | 82=>94
 | 83=>84
 | 84=>93
 | 85=>49
 | 86=>63
 | 87=>55
 | 88=>58
 | 89=>54
 | 90=>95
 | 91=>59
 | 92=>48
 | 93=>70
 | 94=>57
 | 95=>52
 | 96=>22
 | 97=>30
 | 98=>25
 | 99=>26
 | 100=>37
 | 149=>50
 | 150=>23
 | 101=>79
 | 102=>81
 | 103=>80
 | 104=>82
 | 105=>83
 | 106=>118
 | 107=>119
 | 108=>117
 | 109=>105
 | 110=>104
 | 111=>75
 | 112=>43
 | 113=>65
 | 114=>78
 | 115=>46
 | 116=>113
 | 117=>97
 | 118=>47
 | 119=>77
 | 120=>76
 | 121=>44
 | 122=>45
 | 123=>74
 | 124=>17
 | 125=>20
 | 126=>21
 | 127=>66
 | 128=>39
 | 169=>71
 | 170=>38
 | 152=>96
 | 153=>61
 | 154=>127
 | 155=>32
 | 156=>29
 | 157=>28
 | 158=>10
 | 159=>42
 | 171=>41
 | 172=>16
 | 197=>64
 | 198=>31
 | 227=>114
 | 228=>98
 | 229=>68
 | 231=>99
 | 900=>115
 | 233=>100
 | 234=>101
 | 235=>69
 | 237=>36
 | 256=>107
 | 257=>53
 | 258=>86
 | 259=>51
 | 260=>24
 | 261=>11
 | 262=>8
 | 263=>67
 | 264=>34
 | 265=>35
 | 266=>14
 | 224=>13
 | 225=>18
 | 252=>19
 | 255=>7
 | 267=>62
 | 268=>33
 | 269=>6
 | 239=>72
 | 276=>116
 | 277=>102
 | 901=>103
 | 278=>73
 | 327=>40
 | 412=>12
 | 413=>27
 | 414=>9
 | 415=>15
 | 408=>5
 | 416=>4
 | 417=>3
 | _=>0
theorem ok {p:Nat × AFn->Prop} {a:Nat × AFn} {l:List (Nat × AFn)} (h:p a) (t : ∀ x∈l,p x) : ∀ x∈a::l,p x:=List.forall_mem_cons.2 ⟨h,t⟩
theorem okk {p : Nat × AFn} {l : List (Nat × AFn)} {fn : Func} (hf : Tryz.prog.funcs[num p.1]? = some fn) (t : ∀ x ∈ l, OkF Tryz.prog num x) (h1 : okFn Tryz.prog num fn p.2 = true := by kernel_rfl) (h2 : (fn.name == "runtime.NumGoroutine") = false := by kernel_rfl) : ∀ x ∈ p :: l, OkF Tryz.prog num x := ok ⟨fn, hf, h1, h2⟩ t
def qW:List (Nat × AFn):=[(58,F.KL),(59,F.KM),(60,F.KH),(61,F.KJ),(62,F.HA),(63,F.LI),(64,F.LH),(65,F.FF),(66,F.LP),(67,F.LL),(68,F.LK),(69,F.LO),(70,F.LN),(71,F.I8),(72,F.LV),(73,F.FM),(74,F.LT),(75,F.LM),(76,F.LX),(77,F.HW),(78,F.LU),(79,F.LQ),(80,F.LR),(81,F.LW),(82,F.GG),(83,F.DB),(84,F.K1),(85,F.KY),(86,F.KZ),(87,F.KU)]
set_option maxRecDepth 100000 in
theorem AfT : ∀ x∈qW,OkF Tryz.prog num x :=
 okk Tryz.func108 (
 okk Tryz.func109 (
 okk Tryz.func90 (
 okk Tryz.func91 (
 okk Tryz.func106 (
 okk Tryz.func128 (
 okk Tryz.func120 (
 okk Tryz.func89 (
 okk Tryz.func85 (
 okk Tryz.func56 (
 okk Tryz.func87 (
 okk Tryz.func88 (
 okk Tryz.func60 (
 okk Tryz.func121 (
 okk Tryz.func123 (
 okk Tryz.func122 (
 okk Tryz.func110 (
 okk Tryz.func92 (
 okk Tryz.func112 (
 okk Tryz.func129 (
 okk Tryz.func125 (
 okk Tryz.func124 (
 okk Tryz.func126 (
 okk Tryz.func111 (
 okk Tryz.func94 (
 okk Tryz.func84 (
 okk Tryz.func93 (
 okk Tryz.func49 (
 okk Tryz.func63 (
 okk Tryz.func55 (
 List.forall_mem_nil _))))))))))))))))))))))))))))))
def qX:List (Nat × AFn):=[(88,F.KX),(89,F.H1),(90,F.MD),(91,F.ME),(92,F.G6),(93,F.MG),(94,F.MF),(95,F.MB),(96,F.L9),(97,F.MA),(98,F.H0),(99,F.JG),(100,F.JF),(149,F.MC),(150,F.JH),(101,F.G7),(102,F.MJ),(103,F.MH),(104,F.IJ),(105,F.ML),(106,F.MI),(107,F.H2),(108,F.MO),(109,F.DP),(110,F.MK),(111,F.MZ),(112,F.MV),(113,F.MX),(114,F.MU),(115,F.MP)]
set_option maxRecDepth 100000 in
theorem AfU : ∀ x∈qX,OkF Tryz.prog num x :=
 okk Tryz.func58 (
 okk Tryz.func54 (
 okk Tryz.func95 (
 okk Tryz.func59 (
 okk Tryz.func48 (
 okk Tryz.func70 (
 okk Tryz.func57 (
 okk Tryz.func52 (
 okk Tryz.func22 (
 okk Tryz.func30 (
 okk Tryz.func25 (
 okk Tryz.func26 (
 okk Tryz.func37 (
 okk Tryz.func50 (
 okk Tryz.func23 (
 okk Tryz.func79 (
 okk Tryz.func81 (
 okk Tryz.func80 (
 okk Tryz.func82 (
 okk Tryz.func83 (
 okk Tryz.func118 (
 okk Tryz.func119 (
 okk Tryz.func117 (
 okk Tryz.func105 (
 okk Tryz.func104 (
 okk Tryz.func75 (
 okk Tryz.func43 (
 okk Tryz.func65 (
 okk Tryz.func78 (
 okk Tryz.func46 (
 List.forall_mem_nil _))))))))))))))))))))))))))))))
def qY:List (Nat × AFn):=[(116,F.MY),(117,F.MQ),(118,F.MT),(119,F.MR),(120,F.MS),(121,F.H3),(122,F.JM),(123,F.NC),(124,F.M9),(125,F.M6),(126,F.M3),(127,F.M4),(128,F.M8),(169,F.JA),(170,F.L2),(152,F.JI),(153,F.JL),(154,F.M5),(155,F.JK),(156,F.MN),(157,F.MW),(158,F.JJ),(159,F.NB),(171,F.NF),(172,F.ND),(197,F.KV),(198,F.JE),(227,F.NU),(228,F.NT),(229,F.I5)]
set_option maxRecDepth 100000 in
theorem AfV : ∀ x∈qY,OkF Tryz.prog num x :=
 okk Tryz.func113 (
 okk Tryz.func97 (
 okk Tryz.func47 (
 okk Tryz.func77 (
 okk Tryz.func76 (
 okk Tryz.func44 (
 okk Tryz.func45 (
 okk Tryz.func74 (
 okk Tryz.func17 (
 okk Tryz.func20 (
 okk Tryz.func21 (
 okk Tryz.func66 (
 okk Tryz.func39 (
 okk Tryz.func71 (
 okk Tryz.func38 (
 okk Tryz.func96 (
 okk Tryz.func61 (
 okk Tryz.func127 (
 okk Tryz.func32 (
 okk Tryz.func29 (
 okk Tryz.func28 (
 okk Tryz.func10 (
 okk Tryz.func42 (
 okk Tryz.func41 (
 okk Tryz.func16 (
 okk Tryz.func64 (
 okk Tryz.func31 (
 okk Tryz.func114 (
 okk Tryz.func98 (
 okk Tryz.func68 (
 List.forall_mem_nil _))))))))))))))))))))))))))))))
def qZ:List (Nat × AFn):=[(231,F.J1),(900,F.LA),(233,F.J0),(234,F.K8),(235,F.K9),(237,F.K7),(256,F.JD),(257,F.L4),(258,F.L3),(259,F.L5),(260,F.L1),(261,F.I4),(262,F.I3),(263,F.K4),(264,F.K5),(265,F.K3),(266,F.G5),(224,F.LE),(225,F.DC),(252,F.LF),(255,F.LD),(267,F.NE),(268,F.M7),(269,F.K2),(239,F.H4),(276,F.NA),(277,F.NI),(901,F.GJ),(278,F.NH),(327,F.NG)]
set_option maxRecDepth 100000 in
theorem AfW : ∀ x∈qZ,OkF Tryz.prog num x :=
 okk Tryz.func99 (
 okk Tryz.func115 (
 okk Tryz.func100 (
 okk Tryz.func101 (
 okk Tryz.func69 (
 okk Tryz.func36 (
 okk Tryz.func107 (
 okk Tryz.func53 (
 okk Tryz.func86 (
 okk Tryz.func51 (
 okk Tryz.func24 (
 okk Tryz.func11 (
 okk Tryz.func8 (
 okk Tryz.func67 (
 okk Tryz.func34 (
 okk Tryz.func35 (
 okk Tryz.func14 (
 okk Tryz.func13 (
 okk Tryz.func18 (
 okk Tryz.func19 (
 okk Tryz.func7 (
 okk Tryz.func62 (
 okk Tryz.func33 (
 okk Tryz.func6 (
 okk Tryz.func72 (
 okk Tryz.func116 (
 okk Tryz.func102 (
 okk Tryz.func103 (
 okk Tryz.func73 (
 okk Tryz.func40 (
 List.forall_mem_nil _))))))))))))))))))))))))))))))
def rB:List (Nat × AFn):=[(412,F.NJ),(413,F.NK),(414,F.JN),(415,F.G8),(408,F.I6),(416,F.I2),(417,F.HU)]
set_option maxRecDepth 100000 in
theorem AfX : ∀ x∈rB,OkF Tryz.prog num x :=
 okk Tryz.func12 (
 okk Tryz.func27 (
 okk Tryz.func9 (
 okk Tryz.func15 (
 okk Tryz.func5 (
 okk Tryz.func4 (
 okk Tryz.func3 (
 List.forall_mem_nil _)))))))
def Qt:List (Nat × AFn):=qW++(qX++(qY++(qZ++(rB))))
def L:Lib:=⟨λ f=>Qt.lookup f,num⟩
theorem Aga:ProgOK Tryz.prog num L:=Agb Qt (List.forall_mem_append.2 ⟨AfT,(List.forall_mem_append.2 ⟨AfU,(List.forall_mem_append.2 ⟨AfV,(List.forall_mem_append.2 ⟨AfW,AfX⟩)⟩)⟩)⟩)
theorem Aey:F.c6 L:={ KL:=rfl,KM:=rfl,KH:=rfl,KJ:=rfl,HA:=rfl,LI:=rfl,LH:=rfl,FF:=rfl,LP:=rfl,LL:=rfl,LK:=rfl,LO:=rfl,LN:=rfl,I8:=rfl,LV:=rfl,FM:=rfl,LT:=rfl,LM:=rfl,LX:=rfl,HW:=rfl,LU:=rfl,LQ:=rfl,LR:=rfl,LW:=rfl,GG:=rfl }
theorem dL:F.a4 L:={ Aey with DB:=rfl,K1:=rfl,KY:=rfl,KZ:=rfl,KU:=rfl,KX:=rfl,H1:=rfl,MD:=rfl,ME:=rfl,G6:=rfl,MG:=rfl,MF:=rfl,MB:=rfl,L9:=rfl,MA:=rfl,H0:=rfl,JG:=rfl,JF:=rfl }
theorem pY:F.w9 L:={ dL with MC:=rfl,JH:=rfl }
theorem dM:F.a5 L:={ G7:=rfl,MJ:=rfl,MH:=rfl,IJ:=rfl,ML:=rfl,MI:=rfl,H2:=rfl,MO:=rfl,DP:=rfl,MK:=rfl,MZ:=rfl,MV:=rfl,MX:=rfl,MU:=rfl,MP:=rfl,MY:=rfl,MQ:=rfl,MT:=rfl,MR:=rfl,MS:=rfl,H3:=rfl,JM:=rfl,NC:=rfl,M9:=rfl,M6:=rfl,M3:=rfl,M4:=rfl,M8:=rfl }
theorem AeG:F.qf L:={ dL,dM with  }
theorem Aep:F.mu L:={  }
theorem Aez:F.tp L:={ Aep with  }
theorem Aeu:F.qe L:={ AeG,Aez with  }
theorem AeB:F.dz L:={ dL with JA:=rfl,L2:=rfl }
theorem dN:F.e7 L:={ dM with JI:=rfl,JL:=rfl,M5:=rfl,JK:=rfl,MN:=rfl,MW:=rfl,JJ:=rfl,NB:=rfl }
theorem pW:F.v5 L:={ dN with NF:=rfl,ND:=rfl }
theorem AeH:F.tu L:={ Aeu,pY,AeB,pW with  }
theorem dO:F.z8 L:={ AeH with KV:=rfl,JE:=rfl }
theorem Aex:F.o4 L:={ pY,dO with NU:=rfl,NT:=rfl,I5:=rfl,J1:=rfl,LA:=rfl,J0:=rfl,K8:=rfl,K9:=rfl,K7:=rfl }
theorem AeA:F.w8 L:={ dO with JD:=rfl,L4:=rfl,L3:=rfl,L5:=rfl,L1:=rfl }
theorem Aev:F.j8 L:={ Aex,AeA with I4:=rfl,I3:=rfl,K4:=rfl,K5:=rfl,K3:=rfl,G5:=rfl }
theorem Aew:F.n9 L:={ dN with LE:=rfl,DC:=rfl }
theorem Aeq:F.dw L:={ Aew,pW with LF:=rfl,LD:=rfl }
theorem pX:F.au L:={ dO with NE:=rfl,M7:=rfl }
theorem Aes:F.ib L:={ Aev,Aeq,pX with K2:=rfl }
theorem AeC:F.ea L:={ dN with H4:=rfl }
theorem Aer:F.w7 L:={ AeC with NA:=rfl,NI:=rfl,GJ:=rfl,NH:=rfl }
theorem AeE:F.kp L:={ Aer with NG:=rfl }
theorem AeD:F.q8 L:={ AeE,pX with NJ:=rfl,NK:=rfl,JN:=rfl,G8:=rfl }
theorem AeF:F.eb L:={ dM with I6:=rfl }
theorem Aet:F.mw L:={ Aes,AeD,AeF with I2:=rfl,HU:=rfl }
end Go.Proofs.YtmalpgkkffcbfaaGreat
