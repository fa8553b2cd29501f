/-
  The functions of the groups are the program's own: checked by the kernel, function by function.
-/
import Derived.Test.YtekdjalmkdjplaaGreatProg
import Derived.KernelRfl
import Derived.Test.YtekdjalmkdjplaaGreatB4
import Derived.Test.YtekdjalmkdjplaaGreatB1
import Derived.Test.YtekdjalmkdjplaaGreatB2
set_option linter.unusedSimpArgs false
set_option linter.unusedVariables false
set_option linter.unnecessarySimpa false
namespace Go.Proofs.YtekdjalmkdjplaaGreat
open Go.c8
def num:Nat->Nat
 | 58=>91
 | 59=>92
 | 60=>68
 | 61=>69
 | 62=>87
 | 63=>105
 | 64=>95
 | 65=>67
 | 66=>59
 | 67=>42
 | 68=>65
 | 69=>66
 | 70=>45
 | 71=>96
 | 72=>98
 | 73=>97
 | 74=>88
 | 75=>61
 | 76=>90
 | 77=>106
 | 78=>100
 | 79=>99
 | 80=>101
 | 81=>89
 | 82=>63
 | 83=>58
 | 84=>62
 | 85=>37
 | 86=>70
 | 87=>41
 | 88=>43
 | 89=>39
 | 90=>64
 | 91=>44
 | 92=>36
 | 93=>51
 | 94=>40
 | 95=>17
 | 96=>15
 | 97=>46
 | 98=>18
 | 99=>20
 | 101=>71
 | 102=>78
 | 103=>77
 | 104=>79
 | 105=>80
 | 106=>103
 | 107=>104
 | 108=>102
 | 109=>94
 | 110=>93
 | 111=>76
 | 112=>60
 | 113=>72
 | 114=>75
 | 115=>49
 | 116=>81
 | 117=>53
 | 118=>50
 | 119=>74
 | 120=>73
 | 121=>48
 | 122=>47
 | 123=>21
 | 124=>38
 | 126=>22
 | 127=>32
 | 128=>24
 | 129=>12
 | 130=>11
 | 131=>14
 | 132=>19
 | 133=>7
 | 134=>5
 | 135=>16
 | 136=>10
 | 137=>23
 | 138=>25
 | 139=>8
 | 140=>6
 | 1=>82
 | 2=>54
 | 3=>83
 | 4=>84
 | 5=>55
 | 6=>56
 | 7=>85
 | 8=>86
 | 9=>57
 | 21=>33
 | 22=>34
 | 23=>35
 | 24=>13
 | 32=>4
 | 145=>26
 | 151=>28
 | 169=>52
 | 170=>31
 | 188=>27
 | 189=>9
 | 191=>29
 | 190=>30
 | 418=>3
 | _=>0
theorem ok {p:Nat × AFn->Prop} {a:Nat × AFn} {l:List (Nat × AFn)} (h:p a) (t : ∀ x∈l,p x) : ∀ x∈a::l,p x:=List.forall_mem_cons.2 ⟨h,t⟩
theorem okk {p : Nat × AFn} {l : List (Nat × AFn)} {fn : Func} (hf : Tryz.prog.funcs[num p.1]? = some fn) (t : ∀ x ∈ l, OkF Tryz.prog num x) (h1 : okFn Tryz.prog num fn p.2 = true := by kernel_rfl) (h2 : (fn.name == "runtime.NumGoroutine") = false := by kernel_rfl) : ∀ x ∈ p :: l, OkF Tryz.prog num x := ok ⟨fn, hf, h1, h2⟩ t
def iD:List (Nat × AFn):=[(58,F.I8),(59,F.I9),(60,F.I6),(61,F.I7),(62,F.GE),(63,F.JX),(64,F.JW),(65,F.EO),(66,F.J4),(67,F.J0),(68,F.JZ),(69,F.J3),(70,F.J2),(71,F.H7),(72,F.J9),(73,F.E0),(74,F.J7),(75,F.J1),(76,F.KB),(77,F.G0),(78,F.J8),(79,F.J5),(80,F.J6),(81,F.KA),(82,F.FP),(83,F.CO),(84,F.JR),(85,F.JP),(86,F.JQ),(87,F.JN)]
set_option maxRecDepth 100000 in
theorem Jt : ∀ x∈iD,OkF Tryz.prog num x :=
 okk Tryz.func91 (
 okk Tryz.func92 (
 okk Tryz.func68 (
 okk Tryz.func69 (
 okk Tryz.func87 (
 okk Tryz.func105 (
 okk Tryz.func95 (
 okk Tryz.func67 (
 okk Tryz.func59 (
 okk Tryz.func42 (
 okk Tryz.func65 (
 okk Tryz.func66 (
 okk Tryz.func45 (
 okk Tryz.func96 (
 okk Tryz.func98 (
 okk Tryz.func97 (
 okk Tryz.func88 (
 okk Tryz.func61 (
 okk Tryz.func90 (
 okk Tryz.func106 (
 okk Tryz.func100 (
 okk Tryz.func99 (
 okk Tryz.func101 (
 okk Tryz.func89 (
 okk Tryz.func63 (
 okk Tryz.func58 (
 okk Tryz.func62 (
 okk Tryz.func37 (
 okk Tryz.func70 (
 okk Tryz.func41 (
 List.forall_mem_nil _))))))))))))))))))))))))))))))
def iE:List (Nat × AFn):=[(88,F.JO),(89,F.HA),(90,F.KV),(91,F.KW),(92,F.F9),(93,F.KY),(94,F.KX),(95,F.KU),(96,F.KS),(97,F.KT),(98,F.G9),(99,F.H8),(101,F.GA),(102,F.K1),(103,F.KZ),(104,F.HR),(105,F.K3),(106,F.K0),(107,F.HB),(108,F.K4),(109,F.CZ),(110,F.K2),(111,F.LE),(112,F.LB),(113,F.LC),(114,F.LA),(115,F.K5),(116,F.LD),(117,F.K6),(118,F.K9)]
set_option maxRecDepth 100000 in
theorem Ju : ∀ x∈iE,OkF Tryz.prog num x :=
 okk Tryz.func43 (
 okk Tryz.func39 (
 okk Tryz.func64 (
 okk Tryz.func44 (
 okk Tryz.func36 (
 okk Tryz.func51 (
 okk Tryz.func40 (
 okk Tryz.func17 (
 okk Tryz.func15 (
 okk Tryz.func46 (
 okk Tryz.func18 (
 okk Tryz.func20 (
 okk Tryz.func71 (
 okk Tryz.func78 (
 okk Tryz.func77 (
 okk Tryz.func79 (
 okk Tryz.func80 (
 okk Tryz.func103 (
 okk Tryz.func104 (
 okk Tryz.func102 (
 okk Tryz.func94 (
 okk Tryz.func93 (
 okk Tryz.func76 (
 okk Tryz.func60 (
 okk Tryz.func72 (
 okk Tryz.func75 (
 okk Tryz.func49 (
 okk Tryz.func81 (
 okk Tryz.func53 (
 okk Tryz.func50 (
 List.forall_mem_nil _))))))))))))))))))))))))))))))
def iF:List (Nat × AFn):=[(119,F.K7),(120,F.K8),(121,F.HC),(122,F.H9),(123,F.LJ),(124,F.LI),(126,F.LF),(127,F.LG),(128,F.LH),(129,F.LK),(130,F.F8),(131,F.G4),(132,F.KF),(133,F.G2),(134,F.G1),(135,F.LN),(136,F.GC),(137,F.LL),(138,F.LM),(139,F.HE),(140,F.HD),(1,F.JL),(2,F.JJ),(3,F.JF),(4,F.JE),(5,F.JD),(6,F.JI),(7,F.JK),(8,F.JH),(9,F.JG)]
set_option maxRecDepth 100000 in
theorem Jv : ∀ x∈iF,OkF Tryz.prog num x :=
 okk Tryz.func74 (
 okk Tryz.func73 (
 okk Tryz.func48 (
 okk Tryz.func47 (
 okk Tryz.func21 (
 okk Tryz.func38 (
 okk Tryz.func22 (
 okk Tryz.func32 (
 okk Tryz.func24 (
 okk Tryz.func12 (
 okk Tryz.func11 (
 okk Tryz.func14 (
 okk Tryz.func19 (
 okk Tryz.func7 (
 okk Tryz.func5 (
 okk Tryz.func16 (
 okk Tryz.func10 (
 okk Tryz.func23 (
 okk Tryz.func25 (
 okk Tryz.func8 (
 okk Tryz.func6 (
 okk Tryz.func82 (
 okk Tryz.func54 (
 okk Tryz.func83 (
 okk Tryz.func84 (
 okk Tryz.func55 (
 okk Tryz.func56 (
 okk Tryz.func85 (
 okk Tryz.func86 (
 okk Tryz.func57 (
 List.forall_mem_nil _))))))))))))))))))))))))))))))
def iG:List (Nat × AFn):=[(21,F.KC),(22,F.KH),(23,F.KE),(24,F.KD),(32,F.JS),(145,F.KI),(151,F.KR),(169,F.G6),(170,F.KO),(188,F.KG),(189,F.G3),(191,F.KM),(190,F.KN),(418,F.H5)]
set_option maxRecDepth 100000 in
theorem Jw : ∀ x∈iG,OkF Tryz.prog num x :=
 okk Tryz.func33 (
 okk Tryz.func34 (
 okk Tryz.func35 (
 okk Tryz.func13 (
 okk Tryz.func4 (
 okk Tryz.func26 (
 okk Tryz.func28 (
 okk Tryz.func52 (
 okk Tryz.func31 (
 okk Tryz.func27 (
 okk Tryz.func9 (
 okk Tryz.func29 (
 okk Tryz.func30 (
 okk Tryz.func3 (
 List.forall_mem_nil _))))))))))))))
def Hf:List (Nat × AFn):=iD++(iE++(iF++(iG)))
def L:Lib:=⟨λ f=>Hf.lookup f,num⟩
theorem Il:ProgOK Tryz.prog num L:=Im Hf (List.forall_mem_append.2 ⟨Jt,(List.forall_mem_append.2 ⟨Ju,(List.forall_mem_append.2 ⟨Jv,Jw⟩)⟩)⟩)
theorem xJ:F.a9 L:={ I8:=rfl,I9:=rfl,I6:=rfl,I7:=rfl,GE:=rfl,JX:=rfl,JW:=rfl,EO:=rfl,J4:=rfl,J0:=rfl,JZ:=rfl,J3:=rfl,J2:=rfl,H7:=rfl,J9:=rfl,E0:=rfl,J7:=rfl,J1:=rfl,KB:=rfl,G0:=rfl,J8:=rfl,J5:=rfl,J6:=rfl,KA:=rfl,FP:=rfl }
theorem X3:F.a5 L:={ xJ with CO:=rfl,JR:=rfl,JP:=rfl,JQ:=rfl,JN:=rfl,JO:=rfl,HA:=rfl,KV:=rfl,KW:=rfl,F9:=rfl,KY:=rfl,KX:=rfl,KU:=rfl,KS:=rfl,KT:=rfl,G9:=rfl,H8:=rfl }
theorem gL:F.a8 L:={ GA:=rfl,K1:=rfl,KZ:=rfl,HR:=rfl,K3:=rfl,K0:=rfl,HB:=rfl,K4:=rfl,CZ:=rfl,K2:=rfl,LE:=rfl,LB:=rfl,LC:=rfl,LA:=rfl,K5:=rfl,LD:=rfl,K6:=rfl,K9:=rfl,K7:=rfl,K8:=rfl,HC:=rfl,H9:=rfl,LJ:=rfl,LI:=rfl,LF:=rfl,LG:=rfl,LH:=rfl,LK:=rfl }
theorem xO:F.e5 L:={ X3,gL with F8:=rfl,G4:=rfl,KF:=rfl,G2:=rfl,G1:=rfl,LN:=rfl,GC:=rfl,LL:=rfl,LM:=rfl,HE:=rfl,HD:=rfl }
theorem xG:F.j8 L:={ JL:=rfl,JJ:=rfl,JF:=rfl,JE:=rfl,JD:=rfl,JI:=rfl,JK:=rfl,JH:=rfl,JG:=rfl }
theorem gK:F.v8 L:={ xG with KC:=rfl,KH:=rfl,KE:=rfl,KD:=rfl,JS:=rfl }
theorem xI:F.jf L:={ xO,gK with KI:=rfl }
theorem xM:F.cg L:={ X3 with KR:=rfl }
theorem xK:F.ak L:={ X3 with G6:=rfl,KO:=rfl }
theorem xN:F.ji L:={ gL with  }
theorem xL:F.jg L:={ xN with  }
theorem xP:F.u4 L:={ xI,xM,xK,xL with KG:=rfl,G3:=rfl,KM:=rfl,KN:=rfl }
theorem xH:F.ft L:={ xP,gK with H5:=rfl }
end Go.Proofs.YtekdjalmkdjplaaGreat
