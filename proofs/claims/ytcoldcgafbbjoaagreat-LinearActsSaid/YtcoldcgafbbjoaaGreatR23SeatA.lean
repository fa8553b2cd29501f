/-
  The functions of the groups are the program's own: checked by the kernel, function by function.
-/
import Derived.Test.YtcoldcgafbbjoaaGreatProg
import Derived.KernelRfl
import Derived.Test.YtcoldcgafbbjoaaGreatB5
import Derived.Test.YtcoldcgafbbjoaaGreatB1
import Derived.Test.YtcoldcgafbbjoaaGreatB2
set_option linter.unusedSimpArgs false
set_option linter.unusedVariables false
set_option linter.unnecessarySimpa false
namespace Go.Proofs.YtcoldcgafbbjoaaGreat
open Go.g6
def num:Nat->Nat
 | 58=>108
 | 59=>109
 | 60=>97
 | 61=>98
 | 62=>93
 | 63=>117
 | 64=>110
 | 65=>94
 | 66=>71
 | 67=>73
 | 68=>95
 | 69=>96
 | 70=>74
 | 71=>111
 | 72=>113
 | 73=>112
 | 74=>102
 | 75=>83
 | 76=>104
 | 77=>118
 | 78=>115
 | 79=>114
 | 80=>116
 | 81=>103
 | 82=>85
 | 83=>70
 | 84=>84
 | 85=>43
 | 86=>56
 | 87=>72
 | 88=>57
 | 89=>55
 | 90=>86
 | 91=>58
 | 92=>42
 | 93=>59
 | 94=>60
 | 95=>61
 | 96=>20
 | 97=>53
 | 98=>45
 | 99=>46
 | 100=>35
 | 101=>87
 | 102=>99
 | 103=>91
 | 104=>92
 | 105=>100
 | 106=>106
 | 107=>107
 | 108=>105
 | 109=>90
 | 110=>89
 | 111=>63
 | 112=>37
 | 113=>66
 | 114=>69
 | 115=>76
 | 118=>77
 | 119=>68
 | 120=>67
 | 121=>41
 | 122=>75
 | 123=>49
 | 124=>14
 | 125=>19
 | 126=>47
 | 128=>48
 | 149=>62
 | 150=>82
 | 152=>79
 | 153=>81
 | 154=>101
 | 155=>78
 | 156=>40
 | 157=>39
 | 158=>17
 | 159=>18
 | 199=>36
 | 224=>9
 | 225=>21
 | 226=>10
 | 227=>88
 | 228=>64
 | 229=>26
 | 230=>7
 | 231=>33
 | 900=>54
 | 233=>34
 | 234=>65
 | 235=>38
 | 236=>13
 | 237=>15
 | 238=>16
 | 239=>27
 | 240=>8
 | 241=>23
 | 242=>11
 | 243=>6
 | 246=>44
 | 247=>24
 | 248=>22
 | 249=>29
 | 276=>80
 | 277=>51
 | 901=>50
 | 278=>52
 | 279=>32
 | 405=>25
 | 406=>28
 | 407=>30
 | 327=>31
 | 408=>5
 | 409=>4
 | 410=>12
 | 411=>3
 | _=>0
theorem ok {p:Nat × AFn->Prop} {a:Nat × AFn} {l:List (Nat × AFn)} (h:p a) (t : ∀ x∈l,p x) : ∀ x∈a::l,p x:=List.forall_mem_cons.2 ⟨h,t⟩
theorem okk {p : Nat × AFn} {l : List (Nat × AFn)} {fn : Func} (hf : Tryz.prog.funcs[num p.1]? = some fn) (t : ∀ x ∈ l, OkF Tryz.prog num x) (h1 : okFn Tryz.prog num fn p.2 = true := by kernel_rfl) (h2 : (fn.name == "runtime.NumGoroutine") = false := by kernel_rfl) : ∀ x ∈ p :: l, OkF Tryz.prog num x := ok ⟨fn, hf, h1, h2⟩ t
def qV:List (Nat × AFn):=[(58,F.K9),(59,F.LA),(60,F.K7),(61,F.K8),(62,F.HK),(63,F.LW),(64,F.LV),(65,F.FQ),(66,F.L3),(67,F.LZ),(68,F.LY),(69,F.L2),(70,F.L1),(71,F.JU),(72,F.L8),(73,F.FX),(74,F.L6),(75,F.L0),(76,F.MA),(77,F.ID),(78,F.L7),(79,F.L4),(80,F.L5),(81,F.L9),(82,F.GR),(83,F.DH),(84,F.LK),(85,F.LI),(86,F.LJ),(87,F.LG)]
set_option maxRecDepth 100000 in
theorem Afi : ∀ x∈qV,OkF Tryz.prog num x :=
 okk Tryz.func108 (
 okk Tryz.func109 (
 okk Tryz.func97 (
 okk Tryz.func98 (
 okk Tryz.func93 (
 okk Tryz.func117 (
 okk Tryz.func110 (
 okk Tryz.func94 (
 okk Tryz.func71 (
 okk Tryz.func73 (
 okk Tryz.func95 (
 okk Tryz.func96 (
 okk Tryz.func74 (
 okk Tryz.func111 (
 okk Tryz.func113 (
 okk Tryz.func112 (
 okk Tryz.func102 (
 okk Tryz.func83 (
 okk Tryz.func104 (
 okk Tryz.func118 (
 okk Tryz.func115 (
 okk Tryz.func114 (
 okk Tryz.func116 (
 okk Tryz.func103 (
 okk Tryz.func85 (
 okk Tryz.func70 (
 okk Tryz.func84 (
 okk Tryz.func43 (
 okk Tryz.func56 (
 okk Tryz.func72 (
 List.forall_mem_nil _))))))))))))))))))))))))))))))
def qW:List (Nat × AFn):=[(88,F.LH),(89,F.II),(90,F.MM),(91,F.MN),(92,F.HG),(93,F.MP),(94,F.MO),(95,F.MK),(96,F.MH),(97,F.MI),(98,F.IH),(99,F.JY),(100,F.MF),(101,F.HH),(102,F.MS),(103,F.MQ),(104,F.JA),(105,F.MU),(106,F.MR),(107,F.IJ),(108,F.MW),(109,F.DY),(110,F.MT),(111,F.M8),(112,F.M5),(113,F.M7),(114,F.M4),(115,F.MX),(118,F.M3),(119,F.MY)]
set_option maxRecDepth 100000 in
theorem Afj : ∀ x∈qW,OkF Tryz.prog num x :=
 okk Tryz.func57 (
 okk Tryz.func55 (
 okk Tryz.func86 (
 okk Tryz.func58 (
 okk Tryz.func42 (
 okk Tryz.func59 (
 okk Tryz.func60 (
 okk Tryz.func61 (
 okk Tryz.func20 (
 okk Tryz.func53 (
 okk Tryz.func45 (
 okk Tryz.func46 (
 okk Tryz.func35 (
 okk Tryz.func87 (
 okk Tryz.func99 (
 okk Tryz.func91 (
 okk Tryz.func92 (
 okk Tryz.func100 (
 okk Tryz.func106 (
 okk Tryz.func107 (
 okk Tryz.func105 (
 okk Tryz.func90 (
 okk Tryz.func89 (
 okk Tryz.func63 (
 okk Tryz.func37 (
 okk Tryz.func66 (
 okk Tryz.func69 (
 okk Tryz.func76 (
 okk Tryz.func77 (
 okk Tryz.func68 (
 List.forall_mem_nil _))))))))))))))))))))))))))))))
def qX:List (Nat × AFn):=[(120,F.MZ),(121,F.IK),(122,F.J0),(123,F.NJ),(124,F.NE),(125,F.NB),(126,F.M9),(128,F.NC),(149,F.ML),(150,F.MJ),(152,F.ND),(153,F.NI),(154,F.NA),(155,F.NH),(156,F.MV),(157,F.M6),(158,F.JZ),(159,F.NG),(199,F.MG),(224,F.LT),(225,F.IC),(226,F.LS),(227,F.NT),(228,F.NR),(229,F.JR),(230,F.JO),(231,F.FK),(900,F.IA),(233,F.G3),(234,F.LN)]
set_option maxRecDepth 100000 in
theorem Afk : ∀ x∈qX,OkF Tryz.prog num x :=
 okk Tryz.func67 (
 okk Tryz.func41 (
 okk Tryz.func75 (
 okk Tryz.func49 (
 okk Tryz.func14 (
 okk Tryz.func19 (
 okk Tryz.func47 (
 okk Tryz.func48 (
 okk Tryz.func62 (
 okk Tryz.func82 (
 okk Tryz.func79 (
 okk Tryz.func81 (
 okk Tryz.func101 (
 okk Tryz.func78 (
 okk Tryz.func40 (
 okk Tryz.func39 (
 okk Tryz.func17 (
 okk Tryz.func18 (
 okk Tryz.func36 (
 okk Tryz.func9 (
 okk Tryz.func21 (
 okk Tryz.func10 (
 okk Tryz.func88 (
 okk Tryz.func64 (
 okk Tryz.func26 (
 okk Tryz.func7 (
 okk Tryz.func33 (
 okk Tryz.func54 (
 okk Tryz.func34 (
 okk Tryz.func65 (
 List.forall_mem_nil _))))))))))))))))))))))))))))))
def qY:List (Nat × AFn):=[(235,F.LO),(236,F.H7),(237,F.H9),(238,F.H8),(239,F.IO),(240,F.J1),(241,F.HJ),(242,F.NK),(243,F.LL),(246,F.LP),(247,F.JQ),(248,F.HF),(249,F.JP),(276,F.NF),(277,F.J4),(901,F.F8),(278,F.NL),(279,F.HI),(405,F.J3),(406,F.IL),(407,F.J2),(327,F.IM),(408,F.JS),(409,F.JN),(410,F.LM),(411,F.HE)]
set_option maxRecDepth 100000 in
theorem Afl : ∀ x∈qY,OkF Tryz.prog num x :=
 okk Tryz.func38 (
 okk Tryz.func13 (
 okk Tryz.func15 (
 okk Tryz.func16 (
 okk Tryz.func27 (
 okk Tryz.func8 (
 okk Tryz.func23 (
 okk Tryz.func11 (
 okk Tryz.func6 (
 okk Tryz.func44 (
 okk Tryz.func24 (
 okk Tryz.func22 (
 okk Tryz.func29 (
 okk Tryz.func80 (
 okk Tryz.func51 (
 okk Tryz.func50 (
 okk Tryz.func52 (
 okk Tryz.func32 (
 okk Tryz.func25 (
 okk Tryz.func28 (
 okk Tryz.func30 (
 okk Tryz.func31 (
 okk Tryz.func5 (
 okk Tryz.func4 (
 okk Tryz.func12 (
 okk Tryz.func3 (
 List.forall_mem_nil _))))))))))))))))))))))))))
def Qo:List (Nat × AFn):=qV++(qW++(qX++(qY)))
def L:Lib:=⟨λ f=>Qo.lookup f,num⟩
theorem Afy:ProgOK Tryz.prog num L:=Afz Qo (List.forall_mem_append.2 ⟨Afi,(List.forall_mem_append.2 ⟨Afj,(List.forall_mem_append.2 ⟨Afk,Afl⟩)⟩)⟩)
theorem Zy:F.nq L:={  }
theorem AdZ:F.vp L:={ Zy with  }
theorem AdY:F.e9 L:={ K9:=rfl,LA:=rfl,K7:=rfl,K8:=rfl,HK:=rfl,LW:=rfl,LV:=rfl,FQ:=rfl,L3:=rfl,LZ:=rfl,LY:=rfl,L2:=rfl,L1:=rfl,JU:=rfl,L8:=rfl,FX:=rfl,L6:=rfl,L0:=rfl,MA:=rfl,ID:=rfl,L7:=rfl,L4:=rfl,L5:=rfl,L9:=rfl,GR:=rfl }
theorem dU:F.a8 L:={ AdY with DH:=rfl,LK:=rfl,LI:=rfl,LJ:=rfl,LG:=rfl,LH:=rfl,II:=rfl,MM:=rfl,MN:=rfl,HG:=rfl,MP:=rfl,MO:=rfl,MK:=rfl,MH:=rfl,MI:=rfl,IH:=rfl,JY:=rfl,MF:=rfl }
theorem pU:F.b8 L:={ HH:=rfl,MS:=rfl,MQ:=rfl,JA:=rfl,MU:=rfl,MR:=rfl,IJ:=rfl,MW:=rfl,DY:=rfl,MT:=rfl,M8:=rfl,M5:=rfl,M7:=rfl,M4:=rfl,MX:=rfl,M3:=rfl,MY:=rfl,MZ:=rfl,IK:=rfl,J0:=rfl,NJ:=rfl,NE:=rfl,NB:=rfl,M9:=rfl,NC:=rfl }
theorem Zb:F.sf L:={ dU,pU with  }
theorem AdV:F.sd L:={ Zb,AdZ with  }
theorem pT:F.az L:={ dU with ML:=rfl,MJ:=rfl }
theorem dV:F.m6 L:={ pU with ND:=rfl,NI:=rfl,NA:=rfl,NH:=rfl,MV:=rfl,M6:=rfl,JZ:=rfl,NG:=rfl }
theorem Yx:F.nr L:={ dU with  }
theorem Yy:F.se L:={ dV with  }
theorem Zc:F.vq L:={ AdV,pT,Yx,Yy with  }
theorem Za:F.mg L:={ Zc with MG:=rfl }
theorem AdW:F.bg L:={ dV with LT:=rfl,IC:=rfl,LS:=rfl }
theorem pR:F.e8 L:={ pT,Za with NT:=rfl,NR:=rfl,JR:=rfl,JO:=rfl,FK:=rfl,IA:=rfl,G3:=rfl,LN:=rfl,LO:=rfl,H7:=rfl,H9:=rfl,H8:=rfl }
theorem pS:F.m5 L:={ dV with IO:=rfl,J1:=rfl,HJ:=rfl,NK:=rfl }
theorem AdT:F.ji L:={ pR,AdW,pS with LL:=rfl }
theorem AdX:F.bh L:={ pR with LP:=rfl,JQ:=rfl,HF:=rfl,JP:=rfl }
theorem Zz:F.w5 L:={ pS with NF:=rfl,J4:=rfl,F8:=rfl,NL:=rfl,HI:=rfl }
theorem Yz:F.cp L:={ Zz with J3:=rfl,IL:=rfl,J2:=rfl,IM:=rfl }
theorem AdU:F.jn L:={ AdT,AdX,Yz with JS:=rfl,JN:=rfl,LM:=rfl,HE:=rfl }
end Go.Proofs.YtcoldcgafbbjoaaGreat
