/-
  The functions of the groups are the program's own: checked by the kernel, function by function.
-/
import Derived.Test.YtgdojcofnobpeaaGreatProg
import Derived.KernelRfl
import Derived.Test.YtgdojcofnobpeaaGreatB3
import Derived.Test.YtgdojcofnobpeaaGreatB4
import Derived.Test.YtgdojcofnobpeaaGreatB5
set_option linter.unusedSimpArgs false
set_option linter.unusedVariables false
set_option linter.unnecessarySimpa false
namespace Go.Proofs.YtgdojcofnobpeaaGreat
open Go.Eng
def num:Nat->Nat
 | 58=>132
 | 59=>133
 | 60=>114
 | 61=>115
 | 62=>121
 | 63=>148
 | 64=>135
 | 65=>113
 | 66=>92
 | 67=>80
 | 68=>111
 | 69=>112
 | 70=>83
 | 71=>136
 | 72=>138
 | 73=>137
 | 74=>118
 | 75=>88
 | 76=>120
 | 77=>149
 | 78=>140
 | 79=>139
 | 80=>141
 | 81=>119
 | 82=>90
 | 83=>110
 | 84=>89
 | 85=>76
 | 86=>96
 | 87=>79
 | 88=>81
 | 89=>46
 | 90=>91
 | 91=>82
 | 92=>75
 | 93=>84
 | 94=>47
 | 95=>15
 | 96=>34
 | 97=>78
 | 98=>38
 | 99=>39
 | 100=>53
 | 101=>97
 | 102=>130
 | 103=>126
 | 104=>127
 | 105=>106
 | 106=>143
 | 107=>144
 | 108=>142
 | 109=>125
 | 110=>124
 | 111=>105
 | 112=>67
 | 113=>98
 | 114=>74
 | 115=>103
 | 116=>104
 | 117=>65
 | 118=>66
 | 119=>100
 | 120=>99
 | 121=>58
 | 122=>57
 | 123=>22
 | 124=>29
 | 125=>30
 | 126=>62
 | 127=>28
 | 128=>63
 | 129=>27
 | 130=>33
 | 131=>77
 | 132=>36
 | 136=>56
 | 137=>64
 | 138=>25
 | 145=>35
 | 149=>109
 | 150=>73
 | 151=>40
 | 169=>85
 | 170=>43
 | 152=>32
 | 153=>129
 | 154=>145
 | 155=>117
 | 156=>147
 | 157=>146
 | 158=>134
 | 159=>116
 | 171=>87
 | 172=>86
 | 173=>44
 | 188=>37
 | 189=>11
 | 191=>41
 | 190=>42
 | 197=>131
 | 198=>108
 | 199=>72
 | 200=>107
 | 201=>68
 | 204=>69
 | 205=>70
 | 206=>71
 | 207=>31
 | 212=>26
 | 239=>59
 | 240=>60
 | 241=>24
 | 276=>128
 | 277=>101
 | 901=>102
 | 278=>61
 | 279=>23
 | 34=>4
 | 35=>45
 | 141=>13
 | 142=>5
 | 280=>6
 | 167=>9
 | 176=>12
 | 215=>10
 | 281=>14
 | 284=>21
 | 285=>8
 | 227=>122
 | 228=>93
 | 229=>48
 | 230=>49
 | 231=>51
 | 900=>123
 | 233=>94
 | 234=>95
 | 235=>50
 | 238=>16
 | 246=>52
 | 248=>17
 | 287=>20
 | 288=>19
 | 289=>55
 | 290=>54
 | 291=>18
 | 292=>7
 | 293=>3
 | _=>0
def Qz:List (Nat × AFn):=[(58,F.OY),(59,F.O0),(60,F.OW),(61,F.OX),(62,F.K2),(63,F.PO),(64,F.PN),(65,F.IM),(66,F.PY),(67,F.PU),(68,F.PS),(69,F.PX),(70,F.PW),(71,F.M8),(72,F.P4),(73,F.IW),(74,F.P1),(75,F.PV),(76,F.P6),(77,F.LO),(78,F.P2),(79,F.PZ),(80,F.P0),(81,F.P5),(82,F.JQ),(83,F.FX),(84,F.O9),(85,F.O7),(86,F.O8),(87,F.O4),(88,F.O6),(89,F.LT),(90,F.QY),(91,F.QZ),(92,F.KY),(93,F.NB),(94,F.Q1),(95,F.QW),(96,F.QT),(97,F.QU),(98,F.LS),(99,F.NA),(100,F.QQ),(101,F.KZ),(102,F.Q4),(103,F.Q2),(104,F.MJ),(105,F.Q6),(106,F.Q3),(107,F.LU),(108,F.Q8),(109,F.GI),(110,F.Q5),(111,F.RK),(112,F.RF),(113,F.RI),(114,F.RE),(115,F.Q9),(116,F.RJ),(117,F.RA),(118,F.RD),(119,F.RB),(120,F.RC),(121,F.LV),(122,F.ND),(123,F.R7),(124,F.RS),(125,F.RP),(126,F.RM),(127,F.RN),(128,F.RQ),(129,F.SG),(130,F.P8),(131,F.QE),(132,F.QB),(136,F.SL),(137,F.SH),(138,F.SM),(145,F.QD),(149,F.QX),(150,F.QV),(151,F.QR),(169,F.KX),(170,F.QN),(152,F.RR),(153,F.R6),(154,F.RO),(155,F.R5),(156,F.Q7),(157,F.RH),(158,F.R3),(159,F.R4),(171,F.SA),(172,F.R8),(173,F.R9),(188,F.QC),(189,F.P9),(191,F.QJ),(190,F.QM),(197,F.O5),(198,F.M9),(199,F.QS),(200,F.QK),(201,F.SS),(204,F.TB),(205,F.S7),(206,F.TG),(207,F.NL),(212,F.SR),(239,F.SD),(240,F.SB),(241,F.SC),(276,F.RZ),(277,F.SF),(901,F.JS),(278,F.SE),(279,F.NG),(34,F.TQ),(35,F.TL),(141,F.TN),(142,F.TP),(280,F.TM),(167,F.NH),(176,F.SJ),(215,F.PB),(281,F.TF),(284,F.SP),(285,F.SN),(227,F.S4),(228,F.S2),(229,F.PH),(230,F.PE),(231,F.KC),(900,F.PK),(233,F.OA),(234,F.PI),(235,F.PJ),(238,F.PF),(246,F.PL),(248,F.PG),(287,F.S6),(288,F.TC),(289,F.S9),(290,F.TD),(291,F.S8),(292,F.S5),(293,F.M7)]
def L:Lib:=⟨λ f=>Qz.lookup f,num⟩
theorem ok {p:Nat × AFn->Prop} {a:Nat × AFn} {l:List (Nat × AFn)} (h:p a) (t : ∀ x∈l,p x) : ∀ x∈a::l,p x:=List.forall_mem_cons.2 ⟨h,t⟩
set_option maxRecDepth 100000 in
theorem AkA:ProgOK Tryz.prog num L:=progOK_of Qz (
 ok ⟨Tryz.ArF,Tryz.yz,by kernel_rfl,by kernel_rfl⟩ (
 ok ⟨Tryz.ArG,Tryz.zd,by kernel_rfl,by kernel_rfl⟩ (
 ok ⟨Tryz.Arn,Tryz.yd,by kernel_rfl,by kernel_rfl⟩ (
 ok ⟨Tryz.Aro,Tryz.ye,by kernel_rfl,by kernel_rfl⟩ (
 ok ⟨Tryz.Aru,Tryz.yk,by kernel_rfl,by kernel_rfl⟩ (
 ok ⟨Tryz.ArV,Tryz.zw,by kernel_rfl,by kernel_rfl⟩ (
 ok ⟨Tryz.ArI,Tryz.zh,by kernel_rfl,by kernel_rfl⟩ (
 ok ⟨Tryz.Arm,Tryz.ya,by kernel_rfl,by kernel_rfl⟩ (
 ok ⟨Tryz.f92,Tryz.Eu,by kernel_rfl,by kernel_rfl⟩ (
 ok ⟨Tryz.f80,Tryz.Eh,by kernel_rfl,by kernel_rfl⟩ (
 ok ⟨Tryz.Ark,Tryz.xv,by kernel_rfl,by kernel_rfl⟩ (
 ok ⟨Tryz.Arl,Tryz.xx,by kernel_rfl,by kernel_rfl⟩ (
 ok ⟨Tryz.f83,Tryz.Ek,by kernel_rfl,by kernel_rfl⟩ (
 ok ⟨Tryz.ArJ,Tryz.zi,by kernel_rfl,by kernel_rfl⟩ (
 ok ⟨Tryz.ArL,Tryz.zk,by kernel_rfl,by kernel_rfl⟩ (
 ok ⟨Tryz.ArK,Tryz.zj,by kernel_rfl,by kernel_rfl⟩ (
 ok ⟨Tryz.Arr,Tryz.yh,by kernel_rfl,by kernel_rfl⟩ (
 ok ⟨Tryz.f88,Tryz.Ep,by kernel_rfl,by kernel_rfl⟩ (
 ok ⟨Tryz.Art,Tryz.yj,by kernel_rfl,by kernel_rfl⟩ (
 ok ⟨Tryz.ArW,Tryz.zx,by kernel_rfl,by kernel_rfl⟩ (
 ok ⟨Tryz.ArN,Tryz.zm,by kernel_rfl,by kernel_rfl⟩ (
 ok ⟨Tryz.ArM,Tryz.zl,by kernel_rfl,by kernel_rfl⟩ (
 ok ⟨Tryz.ArO,Tryz.zn,by kernel_rfl,by kernel_rfl⟩ (
 ok ⟨Tryz.Ars,Tryz.yi,by kernel_rfl,by kernel_rfl⟩ (
 ok ⟨Tryz.f90,Tryz.Es,by kernel_rfl,by kernel_rfl⟩ (
 ok ⟨Tryz.Arj,Tryz.xu,by kernel_rfl,by kernel_rfl⟩ (
 ok ⟨Tryz.f89,Tryz.Er,by kernel_rfl,by kernel_rfl⟩ (
 ok ⟨Tryz.f76,Tryz.Ed,by kernel_rfl,by kernel_rfl⟩ (
 ok ⟨Tryz.f96,Tryz.Ez,by kernel_rfl,by kernel_rfl⟩ (
 ok ⟨Tryz.f79,Tryz.Eg,by kernel_rfl,by kernel_rfl⟩ (
 ok ⟨Tryz.f81,Tryz.Ei,by kernel_rfl,by kernel_rfl⟩ (
 ok ⟨Tryz.f46,Tryz.Cy,by kernel_rfl,by kernel_rfl⟩ (
 ok ⟨Tryz.f91,Tryz.Et,by kernel_rfl,by kernel_rfl⟩ (
 ok ⟨Tryz.f82,Tryz.Ej,by kernel_rfl,by kernel_rfl⟩ (
 ok ⟨Tryz.f75,Tryz.Ec,by kernel_rfl,by kernel_rfl⟩ (
 ok ⟨Tryz.f84,Tryz.El,by kernel_rfl,by kernel_rfl⟩ (
 ok ⟨Tryz.f47,Tryz.Cz,by kernel_rfl,by kernel_rfl⟩ (
 ok ⟨Tryz.f15,Tryz.Bp,by kernel_rfl,by kernel_rfl⟩ (
 ok ⟨Tryz.f34,Tryz.Cm,by kernel_rfl,by kernel_rfl⟩ (
 ok ⟨Tryz.f78,Tryz.Ef,by kernel_rfl,by kernel_rfl⟩ (
 ok ⟨Tryz.f38,Tryz.Cq,by kernel_rfl,by kernel_rfl⟩ (
 ok ⟨Tryz.f39,Tryz.Cr,by kernel_rfl,by kernel_rfl⟩ (
 ok ⟨Tryz.f53,Tryz.Df,by kernel_rfl,by kernel_rfl⟩ (
 ok ⟨Tryz.f97,Tryz.Fa,by kernel_rfl,by kernel_rfl⟩ (
 ok ⟨Tryz.ArD,Tryz.yx,by kernel_rfl,by kernel_rfl⟩ (
 ok ⟨Tryz.Arz,Tryz.yq,by kernel_rfl,by kernel_rfl⟩ (
 ok ⟨Tryz.ArA,Tryz.yu,by kernel_rfl,by kernel_rfl⟩ (
 ok ⟨Tryz.Are,Tryz.xn,by kernel_rfl,by kernel_rfl⟩ (
 ok ⟨Tryz.ArQ,Tryz.zp,by kernel_rfl,by kernel_rfl⟩ (
 ok ⟨Tryz.ArR,Tryz.zq,by kernel_rfl,by kernel_rfl⟩ (
 ok ⟨Tryz.ArP,Tryz.zo,by kernel_rfl,by kernel_rfl⟩ (
 ok ⟨Tryz.Ary,Tryz.yp,by kernel_rfl,by kernel_rfl⟩ (
 ok ⟨Tryz.Arx,Tryz.yo,by kernel_rfl,by kernel_rfl⟩ (
 ok ⟨Tryz.Ard,Tryz.xm,by kernel_rfl,by kernel_rfl⟩ (
 ok ⟨Tryz.f67,Tryz.Du,by kernel_rfl,by kernel_rfl⟩ (
 ok ⟨Tryz.f98,Tryz.Fb,by kernel_rfl,by kernel_rfl⟩ (
 ok ⟨Tryz.f74,Tryz.Eb,by kernel_rfl,by kernel_rfl⟩ (
 ok ⟨Tryz.Arb,Tryz.xi,by kernel_rfl,by kernel_rfl⟩ (
 ok ⟨Tryz.Arc,Tryz.xj,by kernel_rfl,by kernel_rfl⟩ (
 ok ⟨Tryz.f65,Tryz.Ds,by kernel_rfl,by kernel_rfl⟩ (
 ok ⟨Tryz.f66,Tryz.Dt,by kernel_rfl,by kernel_rfl⟩ (
 ok ⟨Tryz.Aq8,Tryz.xf,by kernel_rfl,by kernel_rfl⟩ (
 ok ⟨Tryz.f99,Tryz.Fc,by kernel_rfl,by kernel_rfl⟩ (
 ok ⟨Tryz.f58,Tryz.Dk,by kernel_rfl,by kernel_rfl⟩ (
 ok ⟨Tryz.f57,Tryz.Dj,by kernel_rfl,by kernel_rfl⟩ (
 ok ⟨Tryz.f22,Tryz.Bz,by kernel_rfl,by kernel_rfl⟩ (
 ok ⟨Tryz.f29,Tryz.Cg,by kernel_rfl,by kernel_rfl⟩ (
 ok ⟨Tryz.f30,Tryz.Ch,by kernel_rfl,by kernel_rfl⟩ (
 ok ⟨Tryz.f62,Tryz.Dp,by kernel_rfl,by kernel_rfl⟩ (
 ok ⟨Tryz.f28,Tryz.Cf,by kernel_rfl,by kernel_rfl⟩ (
 ok ⟨Tryz.f63,Tryz.Dq,by kernel_rfl,by kernel_rfl⟩ (
 ok ⟨Tryz.f27,Tryz.Ce,by kernel_rfl,by kernel_rfl⟩ (
 ok ⟨Tryz.f33,Tryz.Ck,by kernel_rfl,by kernel_rfl⟩ (
 ok ⟨Tryz.f77,Tryz.Ee,by kernel_rfl,by kernel_rfl⟩ (
 ok ⟨Tryz.f36,Tryz.Co,by kernel_rfl,by kernel_rfl⟩ (
 ok ⟨Tryz.f56,Tryz.Di,by kernel_rfl,by kernel_rfl⟩ (
 ok ⟨Tryz.f64,Tryz.Dr,by kernel_rfl,by kernel_rfl⟩ (
 ok ⟨Tryz.f25,Tryz.Cc,by kernel_rfl,by kernel_rfl⟩ (
 ok ⟨Tryz.f35,Tryz.Cn,by kernel_rfl,by kernel_rfl⟩ (
 ok ⟨Tryz.Ari,Tryz.xq,by kernel_rfl,by kernel_rfl⟩ (
 ok ⟨Tryz.f73,Tryz.Ea,by kernel_rfl,by kernel_rfl⟩ (
 ok ⟨Tryz.f40,Tryz.Cs,by kernel_rfl,by kernel_rfl⟩ (
 ok ⟨Tryz.f85,Tryz.Em,by kernel_rfl,by kernel_rfl⟩ (
 ok ⟨Tryz.f43,Tryz.Cv,by kernel_rfl,by kernel_rfl⟩ (
 ok ⟨Tryz.f32,Tryz.Cj,by kernel_rfl,by kernel_rfl⟩ (
 ok ⟨Tryz.ArC,Tryz.yw,by kernel_rfl,by kernel_rfl⟩ (
 ok ⟨Tryz.ArS,Tryz.zs,by kernel_rfl,by kernel_rfl⟩ (
 ok ⟨Tryz.Arq,Tryz.yg,by kernel_rfl,by kernel_rfl⟩ (
 ok ⟨Tryz.ArU,Tryz.zu,by kernel_rfl,by kernel_rfl⟩ (
 ok ⟨Tryz.ArT,Tryz.zt,by kernel_rfl,by kernel_rfl⟩ (
 ok ⟨Tryz.ArH,Tryz.zf,by kernel_rfl,by kernel_rfl⟩ (
 ok ⟨Tryz.Arp,Tryz.yf,by kernel_rfl,by kernel_rfl⟩ (
 ok ⟨Tryz.f87,Tryz.Eo,by kernel_rfl,by kernel_rfl⟩ (
 ok ⟨Tryz.f86,Tryz.En,by kernel_rfl,by kernel_rfl⟩ (
 ok ⟨Tryz.f44,Tryz.Cw,by kernel_rfl,by kernel_rfl⟩ (
 ok ⟨Tryz.f37,Tryz.Cp,by kernel_rfl,by kernel_rfl⟩ (
 ok ⟨Tryz.f11,Tryz.Bl,by kernel_rfl,by kernel_rfl⟩ (
 ok ⟨Tryz.f41,Tryz.Ct,by kernel_rfl,by kernel_rfl⟩ (
 ok ⟨Tryz.f42,Tryz.Cu,by kernel_rfl,by kernel_rfl⟩ (
 ok ⟨Tryz.ArE,Tryz.yy,by kernel_rfl,by kernel_rfl⟩ (
 ok ⟨Tryz.Arh,Tryz.xp,by kernel_rfl,by kernel_rfl⟩ (
 ok ⟨Tryz.f72,Tryz.Dz,by kernel_rfl,by kernel_rfl⟩ (
 ok ⟨Tryz.Arf,Tryz.xo,by kernel_rfl,by kernel_rfl⟩ (
 ok ⟨Tryz.f68,Tryz.Dv,by kernel_rfl,by kernel_rfl⟩ (
 ok ⟨Tryz.f69,Tryz.Dw,by kernel_rfl,by kernel_rfl⟩ (
 ok ⟨Tryz.f70,Tryz.Dx,by kernel_rfl,by kernel_rfl⟩ (
 ok ⟨Tryz.f71,Tryz.Dy,by kernel_rfl,by kernel_rfl⟩ (
 ok ⟨Tryz.f31,Tryz.Ci,by kernel_rfl,by kernel_rfl⟩ (
 ok ⟨Tryz.f26,Tryz.Cd,by kernel_rfl,by kernel_rfl⟩ (
 ok ⟨Tryz.f59,Tryz.Dl,by kernel_rfl,by kernel_rfl⟩ (
 ok ⟨Tryz.f60,Tryz.Dm,by kernel_rfl,by kernel_rfl⟩ (
 ok ⟨Tryz.f24,Tryz.Cb,by kernel_rfl,by kernel_rfl⟩ (
 ok ⟨Tryz.ArB,Tryz.yv,by kernel_rfl,by kernel_rfl⟩ (
 ok ⟨Tryz.Aq9,Tryz.xg,by kernel_rfl,by kernel_rfl⟩ (
 ok ⟨Tryz.Ara,Tryz.xh,by kernel_rfl,by kernel_rfl⟩ (
 ok ⟨Tryz.f61,Tryz.Dn,by kernel_rfl,by kernel_rfl⟩ (
 ok ⟨Tryz.f23,Tryz.Ca,by kernel_rfl,by kernel_rfl⟩ (
 ok ⟨Tryz.f4,Tryz.Pk,by kernel_rfl,by kernel_rfl⟩ (
 ok ⟨Tryz.f45,Tryz.Cx,by kernel_rfl,by kernel_rfl⟩ (
 ok ⟨Tryz.f13,Tryz.Bn,by kernel_rfl,by kernel_rfl⟩ (
 ok ⟨Tryz.f5,Tryz.Pl,by kernel_rfl,by kernel_rfl⟩ (
 ok ⟨Tryz.f6,Tryz.func6,by kernel_rfl,by kernel_rfl⟩ (
 ok ⟨Tryz.f9,Tryz.Po,by kernel_rfl,by kernel_rfl⟩ (
 ok ⟨Tryz.f12,Tryz.Bm,by kernel_rfl,by kernel_rfl⟩ (
 ok ⟨Tryz.f10,Tryz.Bk,by kernel_rfl,by kernel_rfl⟩ (
 ok ⟨Tryz.f14,Tryz.Bo,by kernel_rfl,by kernel_rfl⟩ (
 ok ⟨Tryz.f21,Tryz.Bx,by kernel_rfl,by kernel_rfl⟩ (
 ok ⟨Tryz.f8,Tryz.Pn,by kernel_rfl,by kernel_rfl⟩ (
 ok ⟨Tryz.Arv,Tryz.ym,by kernel_rfl,by kernel_rfl⟩ (
 ok ⟨Tryz.f93,Tryz.Ew,by kernel_rfl,by kernel_rfl⟩ (
 ok ⟨Tryz.f48,Tryz.Da,by kernel_rfl,by kernel_rfl⟩ (
 ok ⟨Tryz.f49,Tryz.Db,by kernel_rfl,by kernel_rfl⟩ (
 ok ⟨Tryz.f51,Tryz.Dd,by kernel_rfl,by kernel_rfl⟩ (
 ok ⟨Tryz.Arw,Tryz.yn,by kernel_rfl,by kernel_rfl⟩ (
 ok ⟨Tryz.f94,Tryz.Ex,by kernel_rfl,by kernel_rfl⟩ (
 ok ⟨Tryz.f95,Tryz.Ey,by kernel_rfl,by kernel_rfl⟩ (
 ok ⟨Tryz.f50,Tryz.Dc,by kernel_rfl,by kernel_rfl⟩ (
 ok ⟨Tryz.f16,Tryz.Bq,by kernel_rfl,by kernel_rfl⟩ (
 ok ⟨Tryz.f52,Tryz.De,by kernel_rfl,by kernel_rfl⟩ (
 ok ⟨Tryz.f17,Tryz.Br,by kernel_rfl,by kernel_rfl⟩ (
 ok ⟨Tryz.f20,Tryz.Bw,by kernel_rfl,by kernel_rfl⟩ (
 ok ⟨Tryz.f19,Tryz.Bv,by kernel_rfl,by kernel_rfl⟩ (
 ok ⟨Tryz.f55,Tryz.Dh,by kernel_rfl,by kernel_rfl⟩ (
 ok ⟨Tryz.f54,Tryz.Dg,by kernel_rfl,by kernel_rfl⟩ (
 ok ⟨Tryz.f18,Tryz.Bu,by kernel_rfl,by kernel_rfl⟩ (
 ok ⟨Tryz.f7,Tryz.Pm,by kernel_rfl,by kernel_rfl⟩ (
 ok ⟨Tryz.f3,Tryz.func3,by kernel_rfl,by kernel_rfl⟩ (
 List.forall_mem_nil _))))))))))))))))))))))))))))))))))))))))))))))))))))))))))))))))))))))))))))))))))))))))))))))))))))))))))))))))))))))))))))))))))))))))))))))))))))
theorem Ai0:F.d4 L:={ OY:=rfl,O0:=rfl,OW:=rfl,OX:=rfl,K2:=rfl,PO:=rfl,PN:=rfl,IM:=rfl,PY:=rfl,PU:=rfl,PS:=rfl,PX:=rfl,PW:=rfl,M8:=rfl,P4:=rfl,IW:=rfl,P1:=rfl,PV:=rfl,P6:=rfl,LO:=rfl,P2:=rfl,PZ:=rfl,P0:=rfl,P5:=rfl,JQ:=rfl }
theorem oB:F.d9 L:={ Ai0 with FX:=rfl,O9:=rfl,O7:=rfl,O8:=rfl,O4:=rfl,O6:=rfl,LT:=rfl,QY:=rfl,QZ:=rfl,KY:=rfl,NB:=rfl,Q1:=rfl,QW:=rfl,QT:=rfl,QU:=rfl,LS:=rfl,NA:=rfl,QQ:=rfl }
theorem oC:F.c6 L:={ KZ:=rfl,Q4:=rfl,Q2:=rfl,MJ:=rfl,Q6:=rfl,Q3:=rfl,LU:=rfl,Q8:=rfl,GI:=rfl,Q5:=rfl,RK:=rfl,RF:=rfl,RI:=rfl,RE:=rfl,Q9:=rfl,RJ:=rfl,RA:=rfl,RD:=rfl,RB:=rfl,RC:=rfl,LV:=rfl,ND:=rfl,R7:=rfl,RS:=rfl,RP:=rfl,RM:=rfl,RN:=rfl,RQ:=rfl,SG:=rfl }
theorem Ai6:F.t7 L:={ oB,oC with P8:=rfl,QE:=rfl,QB:=rfl,SL:=rfl,SH:=rfl,SM:=rfl }
theorem Jq:F.cp L:={  }
theorem Js:F.gv L:={ Jq with  }
theorem Jr:F.ea L:={ Ai6,Js with QD:=rfl }
theorem iI:F.s9 L:={ oB with QX:=rfl,QV:=rfl,QR:=rfl }
theorem Jt:F.aj L:={ oB with KX:=rfl,QN:=rfl }
theorem oD:F.n6 L:={ oC with RR:=rfl,R6:=rfl,RO:=rfl,R5:=rfl,Q7:=rfl,RH:=rfl,R3:=rfl,R4:=rfl }
theorem Ju:F.w9 L:={ oD with SA:=rfl,R8:=rfl,R9:=rfl }
theorem Ai7:F.TrGLib L:={ Jr,iI,Jt,Ju with QC:=rfl,P9:=rfl,QJ:=rfl,QM:=rfl }
theorem iJ:F.StGLib L:={ Ai7 with O5:=rfl,M9:=rfl,QS:=rfl,QK:=rfl,SS:=rfl,TB:=rfl,S7:=rfl,TG:=rfl,NL:=rfl,SR:=rfl }
theorem Ai1:F.ix L:={ iJ with  }
theorem Ai2:F.iy L:={ Ai1 with  }
theorem Ai3:F.R09GLib L:={ oD with SD:=rfl,SB:=rfl,SC:=rfl }
theorem AiV:F.InvGLib L:={ Ai3 with RZ:=rfl,SF:=rfl,JS:=rfl,SE:=rfl,NG:=rfl }
theorem Jw:F.WorldLib L:={ Jq with TQ:=rfl,TL:=rfl }
theorem Jv:F.RatsGLib L:={ Jw,oC with TN:=rfl,TP:=rfl }
theorem Ai8:F.WMatLib L:={ Jv with TM:=rfl }
theorem AiZ:F.ModGLib L:={ Jr,iI,oD with NH:=rfl }
theorem Ai4:F.iz L:={ Js,Jw with  }
theorem AiT:F.cj L:={ Ai4 with  }
theorem AiS:F.BldGLib L:={ AiT,iI,Jt,Ju with SJ:=rfl }
theorem AiW:F.LawFLib L:={ iJ,AiZ,AiS,Jv with PB:=rfl }
theorem AiU:F.EquGLib L:={ Ai2,AiV,Ai8,iJ,AiW with TF:=rfl,SP:=rfl,SN:=rfl }
theorem AiX:F.MatGLib L:={ iI,iJ with S4:=rfl,S2:=rfl,PH:=rfl,PE:=rfl,KC:=rfl,PK:=rfl,OA:=rfl,PI:=rfl,PJ:=rfl,PF:=rfl }
theorem AiY:F.MatHLib L:={ AiX with PL:=rfl,PG:=rfl }
theorem Ai5:F.SimGLib L:={ AiU,AiY with S6:=rfl,TC:=rfl,S9:=rfl,TD:=rfl,S8:=rfl,S5:=rfl,M7:=rfl }
end Go.Proofs.YtgdojcofnobpeaaGreat
