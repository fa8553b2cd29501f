/-
  The functions of the groups are the program's own: checked by the kernel, function by function.
-/
import Derived.Test.YtiadddpcmkfpjaaGreatProg
import Derived.KernelRfl
import Derived.Test.YtiadddpcmkfpjaaGreatB3
import Derived.Test.YtiadddpcmkfpjaaGreatB4
import Derived.Test.YtiadddpcmkfpjaaGreatB5
set_option linter.unusedSimpArgs false
set_option linter.unusedVariables false
set_option linter.unnecessarySimpa false
namespace Go.Proofs.YtiadddpcmkfpjaaGreat
open Go.Eng
def num:Nat→Nat
 | 58=>114
 | 59=>115
 | 60=>101
 | 61=>102
 | 62=>109
 | 63=>123
 | 64=>116
 | 65=>95
 | 66=>94
 | 67=>82
 | 68=>99
 | 69=>100
 | 70=>65
 | 71=>117
 | 72=>119
 | 73=>118
 | 74=>106
 | 75=>90
 | 76=>108
 | 77=>124
 | 78=>121
 | 79=>120
 | 80=>122
 | 81=>107
 | 82=>92
 | 83=>89
 | 84=>91
 | 85=>64
 | 86=>58
 | 87=>81
 | 88=>59
 | 89=>57
 | 90=>93
 | 91=>60
 | 92=>63
 | 93=>61
 | 94=>62
 | 95=>67
 | 96=>31
 | 97=>52
 | 98=>46
 | 99=>32
 | 100=>30
 | 101=>70
 | 102=>75
 | 103=>74
 | 104=>76
 | 105=>77
 | 106=>111
 | 107=>112
 | 108=>110
 | 109=>97
 | 110=>96
 | 111=>69
 | 112=>36
 | 113=>42
 | 114=>73
 | 115=>39
 | 116=>103
 | 117=>83
 | 118=>40
 | 119=>72
 | 120=>71
 | 121=>38
 | 122=>37
 | 123=>68
 | 124=>10
 | 125=>25
 | 126=>11
 | 127=>49
 | 149=>78
 | 150=>44
 | 155=>16
 | 156=>48
 | 157=>47
 | 158=>19
 | 159=>50
 | 169=>66
 | 170=>33
 | 171=>34
 | 172=>22
 | 173=>20
 | 192=>43
 | 193=>17
 | 197=>84
 | 198=>53
 | 224=>51
 | 225=>23
 | 227=>104
 | 228=>85
 | 229=>55
 | 231=>86
 | 900=>105
 | 233=>87
 | 234=>88
 | 235=>56
 | 237=>29
 | 252=>24
 | 253=>35
 | 254=>9
 | 255=>6
 | 256=>113
 | 257=>80
 | 258=>98
 | 259=>79
 | 260=>45
 | 261=>26
 | 262=>18
 | 263=>54
 | 264=>27
 | 265=>28
 | 266=>7
 | 268=>21
 | 269=>8
 | 271=>4
 | _=>0
theorem ok_cmp_isNaN_int:okFn Tryz.prog num Tryz.f114 F.cmp_isNaN_int=true:=by kernel_rfl
theorem ok_cmp_isNaN_uint32:okFn Tryz.prog num Tryz.f115 F.cmp_isNaN_uint32=true:=by kernel_rfl
theorem ok_cmp_Compare_int:okFn Tryz.prog num Tryz.f101 F.cmp_Compare_int=true:=by kernel_rfl
theorem ok_cmp_Compare_uint32:okFn Tryz.prog num Tryz.f102 F.cmp_Compare_uint32=true:=by kernel_rfl
theorem ok_slices_Clone_uint32_uint32:okFn Tryz.prog num Tryz.f109 F.slices_Clone_uint32_uint32=true:=by kernel_rfl
theorem ok_math_bits_Len32:okFn Tryz.prog num Tryz.f123 F.math_bits_Len32=true:=by kernel_rfl
theorem ok_math_bits_LeadingZeros32:okFn Tryz.prog num Tryz.f116 F.math_bits_LeadingZeros32=true:=by kernel_rfl
theorem ok_nat_cut:okFn Tryz.prog num Tryz.f95 F.nat_cut=true:=by kernel_rfl
theorem ok_nat_Trim:okFn Tryz.prog num Tryz.f94 F.nat_Trim=true:=by kernel_rfl
theorem ok_nat_Compare:okFn Tryz.prog num Tryz.f82 F.nat_Compare=true:=by kernel_rfl
theorem ok_nat_Add:okFn Tryz.prog num Tryz.f99 F.nat_Add=true:=by kernel_rfl
theorem ok_nat_Sub:okFn Tryz.prog num Tryz.f100 F.nat_Sub=true:=by kernel_rfl
theorem ok_nat_Mul:okFn Tryz.prog num Tryz.f65 F.nat_Mul=true:=by kernel_rfl
theorem ok_nat_lift:okFn Tryz.prog num Tryz.f117 F.nat_lift=true:=by kernel_rfl
theorem ok_nat_lower:okFn Tryz.prog num Tryz.f119 F.nat_lower=true:=by kernel_rfl
theorem ok_nat_digit:okFn Tryz.prog num Tryz.f118 F.nat_digit=true:=by kernel_rfl
theorem ok_nat_divide:okFn Tryz.prog num Tryz.f106 F.nat_divide=true:=by kernel_rfl
theorem ok_nat_DivMod:okFn Tryz.prog num Tryz.f90 F.nat_DivMod=true:=by kernel_rfl
theorem ok_nat_small:okFn Tryz.prog num Tryz.f108 F.nat_small=true:=by kernel_rfl
theorem ok_nat_leading_1:okFn Tryz.prog num Tryz.f124 F.nat_leading_1=true:=by kernel_rfl
theorem ok_nat_leading:okFn Tryz.prog num Tryz.f121 F.nat_leading=true:=by kernel_rfl
theorem ok_nat_cofactors:okFn Tryz.prog num Tryz.f120 F.nat_cofactors=true:=by kernel_rfl
theorem ok_nat_combine:okFn Tryz.prog num Tryz.f122 F.nat_combine=true:=by kernel_rfl
theorem ok_nat_shorten:okFn Tryz.prog num Tryz.f107 F.nat_shorten=true:=by kernel_rfl
theorem ok_nat_Gcd:okFn Tryz.prog num Tryz.f92 F.nat_Gcd=true:=by kernel_rfl
theorem ok_integer_signed:okFn Tryz.prog num Tryz.f89 F.integer_signed=true:=by kernel_rfl
theorem ok_integer_Trim:okFn Tryz.prog num Tryz.f91 F.integer_Trim=true:=by kernel_rfl
theorem ok_integer_Of:okFn Tryz.prog num Tryz.f64 F.integer_Of=true:=by kernel_rfl
theorem ok_integer_Sign:okFn Tryz.prog num Tryz.f58 F.integer_Sign=true:=by kernel_rfl
theorem ok_integer_Add:okFn Tryz.prog num Tryz.f81 F.integer_Add=true:=by kernel_rfl
theorem ok_integer_Mul:okFn Tryz.prog num Tryz.f59 F.integer_Mul=true:=by kernel_rfl
theorem ok_rational_read:okFn Tryz.prog num Tryz.f57 F.rational_read=true:=by kernel_rfl
theorem ok_rational_isOne:okFn Tryz.prog num Tryz.f93 F.rational_isOne=true:=by kernel_rfl
theorem ok_rational_natural:okFn Tryz.prog num Tryz.f60 F.rational_natural=true:=by kernel_rfl
theorem ok_rational_whole:okFn Tryz.prog num Tryz.f63 F.rational_whole=true:=by kernel_rfl
theorem ok_rational_quotient:okFn Tryz.prog num Tryz.f61 F.rational_quotient=true:=by kernel_rfl
theorem ok_rational_pair_lowest:okFn Tryz.prog num Tryz.f62 F.rational_pair_lowest=true:=by kernel_rfl
theorem ok_rational_Trim:okFn Tryz.prog num Tryz.f67 F.rational_Trim=true:=by kernel_rfl
theorem ok_rational_Of:okFn Tryz.prog num Tryz.f31 F.rational_Of=true:=by kernel_rfl
theorem ok_rational_Sign:okFn Tryz.prog num Tryz.f52 F.rational_Sign=true:=by kernel_rfl
theorem ok_rational_Add:okFn Tryz.prog num Tryz.f46 F.rational_Add=true:=by kernel_rfl
theorem ok_rational_Mul:okFn Tryz.prog num Tryz.f32 F.rational_Mul=true:=by kernel_rfl
theorem ok_rational_Div:okFn Tryz.prog num Tryz.f30 F.rational_Div=true:=by kernel_rfl
theorem ok_ref01_Trim:okFn Tryz.prog num Tryz.f70 F.ref01_Trim=true:=by kernel_rfl
theorem ok_ref01_Compare:okFn Tryz.prog num Tryz.f75 F.ref01_Compare=true:=by kernel_rfl
theorem ok_ref01_Add:okFn Tryz.prog num Tryz.f74 F.ref01_Add=true:=by kernel_rfl
theorem ok_ref01_Sub:okFn Tryz.prog num Tryz.f76 F.ref01_Sub=true:=by kernel_rfl
theorem ok_ref01_Mul:okFn Tryz.prog num Tryz.f77 F.ref01_Mul=true:=by kernel_rfl
theorem ok_ref01_BitLen:okFn Tryz.prog num Tryz.f111 F.ref01_BitLen=true:=by kernel_rfl
theorem ok_ref01_Shift:okFn Tryz.prog num Tryz.f112 F.ref01_Shift=true:=by kernel_rfl
theorem ok_ref01_small:okFn Tryz.prog num Tryz.f110 F.ref01_small=true:=by kernel_rfl
theorem ok_ref01_DivMod:okFn Tryz.prog num Tryz.f97 F.ref01_DivMod=true:=by kernel_rfl
theorem ok_ref01_Gcd:okFn Tryz.prog num Tryz.f96 F.ref01_Gcd=true:=by kernel_rfl
theorem ok_ref02_Trim:okFn Tryz.prog num Tryz.f69 F.ref02_Trim=true:=by kernel_rfl
theorem ok_ref02_Of:okFn Tryz.prog num Tryz.f36 F.ref02_Of=true:=by kernel_rfl
theorem ok_ref02_Sign:okFn Tryz.prog num Tryz.f42 F.ref02_Sign=true:=by kernel_rfl
theorem ok_ref02_Neg:okFn Tryz.prog num Tryz.f73 F.ref02_Neg=true:=by kernel_rfl
theorem ok_ref02_Add:okFn Tryz.prog num Tryz.f39 F.ref02_Add=true:=by kernel_rfl
theorem ok_ref02_Sub:okFn Tryz.prog num Tryz.f103 F.ref02_Sub=true:=by kernel_rfl
theorem ok_ref02_Compare:okFn Tryz.prog num Tryz.f83 F.ref02_Compare=true:=by kernel_rfl
theorem ok_ref02_Mul:okFn Tryz.prog num Tryz.f40 F.ref02_Mul=true:=by kernel_rfl
theorem ok_ref02_Div:okFn Tryz.prog num Tryz.f72 F.ref02_Div=true:=by kernel_rfl
theorem ok_ref02_Gcd:okFn Tryz.prog num Tryz.f71 F.ref02_Gcd=true:=by kernel_rfl
theorem ok_ref03_reduce:okFn Tryz.prog num Tryz.f38 F.ref03_reduce=true:=by kernel_rfl
theorem ok_ref03_parts:okFn Tryz.prog num Tryz.f37 F.ref03_parts=true:=by kernel_rfl
theorem ok_ref03_Trim:okFn Tryz.prog num Tryz.f68 F.ref03_Trim=true:=by kernel_rfl
theorem ok_ref03_Of:okFn Tryz.prog num Tryz.f10 F.ref03_Of=true:=by kernel_rfl
theorem ok_ref03_Frac:okFn Tryz.prog num Tryz.f25 F.ref03_Frac=true:=by kernel_rfl
theorem ok_ref03_Add:okFn Tryz.prog num Tryz.f11 F.ref03_Add=true:=by kernel_rfl
theorem ok_ref03_Compare:okFn Tryz.prog num Tryz.f49 F.ref03_Compare=true:=by kernel_rfl
theorem ok_rational_flip:okFn Tryz.prog num Tryz.f78 F.rational_flip=true:=by kernel_rfl
theorem ok_rational_Sub:okFn Tryz.prog num Tryz.f44 F.rational_Sub=true:=by kernel_rfl
theorem ok_ref03_Sign:okFn Tryz.prog num Tryz.f16 F.ref03_Sign=true:=by kernel_rfl
theorem ok_ref01_Same:okFn Tryz.prog num Tryz.f48 F.ref01_Same=true:=by kernel_rfl
theorem ok_ref02_Same:okFn Tryz.prog num Tryz.f47 F.ref02_Same=true:=by kernel_rfl
theorem ok_ref03_Same:okFn Tryz.prog num Tryz.f19 F.ref03_Same=true:=by kernel_rfl
theorem ok_ref03_SameList:okFn Tryz.prog num Tryz.f50 F.ref03_SameList=true:=by kernel_rfl
theorem ok_poly_cut:okFn Tryz.prog num Tryz.f66 F.poly_cut=true:=by kernel_rfl
theorem ok_poly_Trim:okFn Tryz.prog num Tryz.f33 F.poly_Trim=true:=by kernel_rfl
theorem ok_ref05_Trim:okFn Tryz.prog num Tryz.f34 F.ref05_Trim=true:=by kernel_rfl
theorem ok_ref05_Equal:okFn Tryz.prog num Tryz.f22 F.ref05_Equal=true:=by kernel_rfl
theorem ok_ref05_Same:okFn Tryz.prog num Tryz.f20 F.ref05_Same=true:=by kernel_rfl
theorem ok_ref05_At:okFn Tryz.prog num Tryz.f43 F.ref05_At=true:=by kernel_rfl
theorem ok_ref05_Add:okFn Tryz.prog num Tryz.f17 F.ref05_Add=true:=by kernel_rfl
theorem ok_integer_Compare:okFn Tryz.prog num Tryz.f84 F.integer_Compare=true:=by kernel_rfl
theorem ok_rational_Compare:okFn Tryz.prog num Tryz.f53 F.rational_Compare=true:=by kernel_rfl
theorem ok_make_Mod:okFn Tryz.prog num Tryz.f51 F.make_Mod=true:=by kernel_rfl
theorem ok_make_Tape_Next:okFn Tryz.prog num Tryz.f23 F.make_Tape_Next=true:=by kernel_rfl
theorem ok_slices_Grow_api_Rat_api_Rat:okFn Tryz.prog num Tryz.f104 F.slices_Grow_api_Rat_api_Rat=true:=by kernel_rfl
theorem ok_slices_Concat_api_Rat_api_Rat:okFn Tryz.prog num Tryz.f85 F.slices_Concat_api_Rat_api_Rat=true:=by kernel_rfl
theorem ok_linear_Valid:okFn Tryz.prog num Tryz.f55 F.linear_Valid=true:=by kernel_rfl
theorem ok_linear_wholeRows:okFn Tryz.prog num Tryz.f86 F.linear_wholeRows=true:=by kernel_rfl
theorem ok_linear_sweep:okFn Tryz.prog num Tryz.f105 F.linear_sweep=true:=by kernel_rfl
theorem ok_linear_eliminate:okFn Tryz.prog num Tryz.f87 F.linear_eliminate=true:=by kernel_rfl
theorem ok_linear_column:okFn Tryz.prog num Tryz.f88 F.linear_column=true:=by kernel_rfl
theorem ok_linear_solve:okFn Tryz.prog num Tryz.f56 F.linear_solve=true:=by kernel_rfl
theorem ok_linear_Solve:okFn Tryz.prog num Tryz.f29 F.linear_Solve=true:=by kernel_rfl
theorem ok_make_Rat:okFn Tryz.prog num Tryz.f24 F.make_Rat=true:=by kernel_rfl
theorem ok_make_Rats:okFn Tryz.prog num Tryz.f35 F.make_Rats=true:=by kernel_rfl
theorem ok_make_Poly:okFn Tryz.prog num Tryz.f9 F.make_Poly=true:=by kernel_rfl
theorem ok_make_Grid:okFn Tryz.prog num Tryz.f6 F.make_Grid=true:=by kernel_rfl
theorem ok_rational_Abs:okFn Tryz.prog num Tryz.f113 F.rational_Abs=true:=by kernel_rfl
theorem ok_poly_parts:okFn Tryz.prog num Tryz.f80 F.poly_parts=true:=by kernel_rfl
theorem ok_poly_common:okFn Tryz.prog num Tryz.f98 F.poly_common=true:=by kernel_rfl
theorem ok_poly_split:okFn Tryz.prog num Tryz.f79 F.poly_split=true:=by kernel_rfl
theorem ok_poly_Eval:okFn Tryz.prog num Tryz.f45 F.poly_Eval=true:=by kernel_rfl
theorem ok_leastsq_Valid:okFn Tryz.prog num Tryz.f26 F.leastsq_Valid=true:=by kernel_rfl
theorem ok_leastsq_Error:okFn Tryz.prog num Tryz.f18 F.leastsq_Error=true:=by kernel_rfl
theorem ok_leastsq_whole:okFn Tryz.prog num Tryz.f54 F.leastsq_whole=true:=by kernel_rfl
theorem ok_leastsq_wholeGrid:okFn Tryz.prog num Tryz.f27 F.leastsq_wholeGrid=true:=by kernel_rfl
theorem ok_leastsq_equations:okFn Tryz.prog num Tryz.f28 F.leastsq_equations=true:=by kernel_rfl
theorem ok_leastsq_Design:okFn Tryz.prog num Tryz.f7 F.leastsq_Design=true:=by kernel_rfl
theorem ok_ref03_Less:okFn Tryz.prog num Tryz.f21 F.ref03_Less=true:=by kernel_rfl
theorem ok_law14_awake:okFn Tryz.prog num Tryz.f8 F.law14_awake=true:=by kernel_rfl
theorem ok_law14_LeastBest:okFn Tryz.prog num Tryz.f4 F.law14_LeastBest=true:=by kernel_rfl
def lib:List (Nat × AFn):=[(58,F.cmp_isNaN_int),(59,F.cmp_isNaN_uint32),(60,F.cmp_Compare_int),(61,F.cmp_Compare_uint32),(62,F.slices_Clone_uint32_uint32),(63,F.math_bits_Len32),(64,F.math_bits_LeadingZeros32),(65,F.nat_cut),(66,F.nat_Trim),(67,F.nat_Compare),(68,F.nat_Add),(69,F.nat_Sub),(70,F.nat_Mul),(71,F.nat_lift),(72,F.nat_lower),(73,F.nat_digit),(74,F.nat_divide),(75,F.nat_DivMod),(76,F.nat_small),(77,F.nat_leading_1),(78,F.nat_leading),(79,F.nat_cofactors),(80,F.nat_combine),(81,F.nat_shorten),(82,F.nat_Gcd),(83,F.integer_signed),(84,F.integer_Trim),(85,F.integer_Of),(86,F.integer_Sign),(87,F.integer_Add),(88,F.integer_Mul),(89,F.rational_read),(90,F.rational_isOne),(91,F.rational_natural),(92,F.rational_whole),(93,F.rational_quotient),(94,F.rational_pair_lowest),(95,F.rational_Trim),(96,F.rational_Of),(97,F.rational_Sign),(98,F.rational_Add),(99,F.rational_Mul),(100,F.rational_Div),(101,F.ref01_Trim),(102,F.ref01_Compare),(103,F.ref01_Add),(104,F.ref01_Sub),(105,F.ref01_Mul),(106,F.ref01_BitLen),(107,F.ref01_Shift),(108,F.ref01_small),(109,F.ref01_DivMod),(110,F.ref01_Gcd),(111,F.ref02_Trim),(112,F.ref02_Of),(113,F.ref02_Sign),(114,F.ref02_Neg),(115,F.ref02_Add),(116,F.ref02_Sub),(117,F.ref02_Compare),(118,F.ref02_Mul),(119,F.ref02_Div),(120,F.ref02_Gcd),(121,F.ref03_reduce),(122,F.ref03_parts),(123,F.ref03_Trim),(124,F.ref03_Of),(125,F.ref03_Frac),(126,F.ref03_Add),(127,F.ref03_Compare),(149,F.rational_flip),(150,F.rational_Sub),(155,F.ref03_Sign),(156,F.ref01_Same),(157,F.ref02_Same),(158,F.ref03_Same),(159,F.ref03_SameList),(169,F.poly_cut),(170,F.poly_Trim),(171,F.ref05_Trim),(172,F.ref05_Equal),(173,F.ref05_Same),(192,F.ref05_At),(193,F.ref05_Add),(197,F.integer_Compare),(198,F.rational_Compare),(224,F.make_Mod),(225,F.make_Tape_Next),(227,F.slices_Grow_api_Rat_api_Rat),(228,F.slices_Concat_api_Rat_api_Rat),(229,F.linear_Valid),(231,F.linear_wholeRows),(900,F.linear_sweep),(233,F.linear_eliminate),(234,F.linear_column),(235,F.linear_solve),(237,F.linear_Solve),(252,F.make_Rat),(253,F.make_Rats),(254,F.make_Poly),(255,F.make_Grid),(256,F.rational_Abs),(257,F.poly_parts),(258,F.poly_common),(259,F.poly_split),(260,F.poly_Eval),(261,F.leastsq_Valid),(262,F.leastsq_Error),(263,F.leastsq_whole),(264,F.leastsq_wholeGrid),(265,F.leastsq_equations),(266,F.leastsq_Design),(268,F.ref03_Less),(269,F.law14_awake),(271,F.law14_LeastBest)]
def L:Lib:=⟨fun f=>lib.lookup f,num⟩
set_option maxRecDepth 100000 in
theorem progOK:ProgOK Tryz.prog num L:=progOK_of lib (
 List.forall_mem_cons.2 ⟨⟨Tryz.f114,Tryz.func114,ok_cmp_isNaN_int,by kernel_rfl⟩,
 List.forall_mem_cons.2 ⟨⟨Tryz.f115,Tryz.func115,ok_cmp_isNaN_uint32,by kernel_rfl⟩,
 List.forall_mem_cons.2 ⟨⟨Tryz.f101,Tryz.func101,ok_cmp_Compare_int,by kernel_rfl⟩,
 List.forall_mem_cons.2 ⟨⟨Tryz.f102,Tryz.func102,ok_cmp_Compare_uint32,by kernel_rfl⟩,
 List.forall_mem_cons.2 ⟨⟨Tryz.f109,Tryz.func109,ok_slices_Clone_uint32_uint32,by kernel_rfl⟩,
 List.forall_mem_cons.2 ⟨⟨Tryz.f123,Tryz.func123,ok_math_bits_Len32,by kernel_rfl⟩,
 List.forall_mem_cons.2 ⟨⟨Tryz.f116,Tryz.func116,ok_math_bits_LeadingZeros32,by kernel_rfl⟩,
 List.forall_mem_cons.2 ⟨⟨Tryz.f95,Tryz.func95,ok_nat_cut,by kernel_rfl⟩,
 List.forall_mem_cons.2 ⟨⟨Tryz.f94,Tryz.func94,ok_nat_Trim,by kernel_rfl⟩,
 List.forall_mem_cons.2 ⟨⟨Tryz.f82,Tryz.func82,ok_nat_Compare,by kernel_rfl⟩,
 List.forall_mem_cons.2 ⟨⟨Tryz.f99,Tryz.func99,ok_nat_Add,by kernel_rfl⟩,
 List.forall_mem_cons.2 ⟨⟨Tryz.f100,Tryz.func100,ok_nat_Sub,by kernel_rfl⟩,
 List.forall_mem_cons.2 ⟨⟨Tryz.f65,Tryz.func65,ok_nat_Mul,by kernel_rfl⟩,
 List.forall_mem_cons.2 ⟨⟨Tryz.f117,Tryz.func117,ok_nat_lift,by kernel_rfl⟩,
 List.forall_mem_cons.2 ⟨⟨Tryz.f119,Tryz.func119,ok_nat_lower,by kernel_rfl⟩,
 List.forall_mem_cons.2 ⟨⟨Tryz.f118,Tryz.func118,ok_nat_digit,by kernel_rfl⟩,
 List.forall_mem_cons.2 ⟨⟨Tryz.f106,Tryz.func106,ok_nat_divide,by kernel_rfl⟩,
 List.forall_mem_cons.2 ⟨⟨Tryz.f90,Tryz.func90,ok_nat_DivMod,by kernel_rfl⟩,
 List.forall_mem_cons.2 ⟨⟨Tryz.f108,Tryz.func108,ok_nat_small,by kernel_rfl⟩,
 List.forall_mem_cons.2 ⟨⟨Tryz.f124,Tryz.func124,ok_nat_leading_1,by kernel_rfl⟩,
 List.forall_mem_cons.2 ⟨⟨Tryz.f121,Tryz.func121,ok_nat_leading,by kernel_rfl⟩,
 List.forall_mem_cons.2 ⟨⟨Tryz.f120,Tryz.func120,ok_nat_cofactors,by kernel_rfl⟩,
 List.forall_mem_cons.2 ⟨⟨Tryz.f122,Tryz.func122,ok_nat_combine,by kernel_rfl⟩,
 List.forall_mem_cons.2 ⟨⟨Tryz.f107,Tryz.func107,ok_nat_shorten,by kernel_rfl⟩,
 List.forall_mem_cons.2 ⟨⟨Tryz.f92,Tryz.func92,ok_nat_Gcd,by kernel_rfl⟩,
 List.forall_mem_cons.2 ⟨⟨Tryz.f89,Tryz.func89,ok_integer_signed,by kernel_rfl⟩,
 List.forall_mem_cons.2 ⟨⟨Tryz.f91,Tryz.func91,ok_integer_Trim,by kernel_rfl⟩,
 List.forall_mem_cons.2 ⟨⟨Tryz.f64,Tryz.func64,ok_integer_Of,by kernel_rfl⟩,
 List.forall_mem_cons.2 ⟨⟨Tryz.f58,Tryz.func58,ok_integer_Sign,by kernel_rfl⟩,
 List.forall_mem_cons.2 ⟨⟨Tryz.f81,Tryz.func81,ok_integer_Add,by kernel_rfl⟩,
 List.forall_mem_cons.2 ⟨⟨Tryz.f59,Tryz.func59,ok_integer_Mul,by kernel_rfl⟩,
 List.forall_mem_cons.2 ⟨⟨Tryz.f57,Tryz.func57,ok_rational_read,by kernel_rfl⟩,
 List.forall_mem_cons.2 ⟨⟨Tryz.f93,Tryz.func93,ok_rational_isOne,by kernel_rfl⟩,
 List.forall_mem_cons.2 ⟨⟨Tryz.f60,Tryz.func60,ok_rational_natural,by kernel_rfl⟩,
 List.forall_mem_cons.2 ⟨⟨Tryz.f63,Tryz.func63,ok_rational_whole,by kernel_rfl⟩,
 List.forall_mem_cons.2 ⟨⟨Tryz.f61,Tryz.func61,ok_rational_quotient,by kernel_rfl⟩,
 List.forall_mem_cons.2 ⟨⟨Tryz.f62,Tryz.func62,ok_rational_pair_lowest,by kernel_rfl⟩,
 List.forall_mem_cons.2 ⟨⟨Tryz.f67,Tryz.func67,ok_rational_Trim,by kernel_rfl⟩,
 List.forall_mem_cons.2 ⟨⟨Tryz.f31,Tryz.func31,ok_rational_Of,by kernel_rfl⟩,
 List.forall_mem_cons.2 ⟨⟨Tryz.f52,Tryz.func52,ok_rational_Sign,by kernel_rfl⟩,
 List.forall_mem_cons.2 ⟨⟨Tryz.f46,Tryz.func46,ok_rational_Add,by kernel_rfl⟩,
 List.forall_mem_cons.2 ⟨⟨Tryz.f32,Tryz.func32,ok_rational_Mul,by kernel_rfl⟩,
 List.forall_mem_cons.2 ⟨⟨Tryz.f30,Tryz.func30,ok_rational_Div,by kernel_rfl⟩,
 List.forall_mem_cons.2 ⟨⟨Tryz.f70,Tryz.func70,ok_ref01_Trim,by kernel_rfl⟩,
 List.forall_mem_cons.2 ⟨⟨Tryz.f75,Tryz.func75,ok_ref01_Compare,by kernel_rfl⟩,
 List.forall_mem_cons.2 ⟨⟨Tryz.f74,Tryz.func74,ok_ref01_Add,by kernel_rfl⟩,
 List.forall_mem_cons.2 ⟨⟨Tryz.f76,Tryz.func76,ok_ref01_Sub,by kernel_rfl⟩,
 List.forall_mem_cons.2 ⟨⟨Tryz.f77,Tryz.func77,ok_ref01_Mul,by kernel_rfl⟩,
 List.forall_mem_cons.2 ⟨⟨Tryz.f111,Tryz.func111,ok_ref01_BitLen,by kernel_rfl⟩,
 List.forall_mem_cons.2 ⟨⟨Tryz.f112,Tryz.func112,ok_ref01_Shift,by kernel_rfl⟩,
 List.forall_mem_cons.2 ⟨⟨Tryz.f110,Tryz.func110,ok_ref01_small,by kernel_rfl⟩,
 List.forall_mem_cons.2 ⟨⟨Tryz.f97,Tryz.func97,ok_ref01_DivMod,by kernel_rfl⟩,
 List.forall_mem_cons.2 ⟨⟨Tryz.f96,Tryz.func96,ok_ref01_Gcd,by kernel_rfl⟩,
 List.forall_mem_cons.2 ⟨⟨Tryz.f69,Tryz.func69,ok_ref02_Trim,by kernel_rfl⟩,
 List.forall_mem_cons.2 ⟨⟨Tryz.f36,Tryz.func36,ok_ref02_Of,by kernel_rfl⟩,
 List.forall_mem_cons.2 ⟨⟨Tryz.f42,Tryz.func42,ok_ref02_Sign,by kernel_rfl⟩,
 List.forall_mem_cons.2 ⟨⟨Tryz.f73,Tryz.func73,ok_ref02_Neg,by kernel_rfl⟩,
 List.forall_mem_cons.2 ⟨⟨Tryz.f39,Tryz.func39,ok_ref02_Add,by kernel_rfl⟩,
 List.forall_mem_cons.2 ⟨⟨Tryz.f103,Tryz.func103,ok_ref02_Sub,by kernel_rfl⟩,
 List.forall_mem_cons.2 ⟨⟨Tryz.f83,Tryz.func83,ok_ref02_Compare,by kernel_rfl⟩,
 List.forall_mem_cons.2 ⟨⟨Tryz.f40,Tryz.func40,ok_ref02_Mul,by kernel_rfl⟩,
 List.forall_mem_cons.2 ⟨⟨Tryz.f72,Tryz.func72,ok_ref02_Div,by kernel_rfl⟩,
 List.forall_mem_cons.2 ⟨⟨Tryz.f71,Tryz.func71,ok_ref02_Gcd,by kernel_rfl⟩,
 List.forall_mem_cons.2 ⟨⟨Tryz.f38,Tryz.func38,ok_ref03_reduce,by kernel_rfl⟩,
 List.forall_mem_cons.2 ⟨⟨Tryz.f37,Tryz.func37,ok_ref03_parts,by kernel_rfl⟩,
 List.forall_mem_cons.2 ⟨⟨Tryz.f68,Tryz.func68,ok_ref03_Trim,by kernel_rfl⟩,
 List.forall_mem_cons.2 ⟨⟨Tryz.f10,Tryz.func10,ok_ref03_Of,by kernel_rfl⟩,
 List.forall_mem_cons.2 ⟨⟨Tryz.f25,Tryz.func25,ok_ref03_Frac,by kernel_rfl⟩,
 List.forall_mem_cons.2 ⟨⟨Tryz.f11,Tryz.func11,ok_ref03_Add,by kernel_rfl⟩,
 List.forall_mem_cons.2 ⟨⟨Tryz.f49,Tryz.func49,ok_ref03_Compare,by kernel_rfl⟩,
 List.forall_mem_cons.2 ⟨⟨Tryz.f78,Tryz.func78,ok_rational_flip,by kernel_rfl⟩,
 List.forall_mem_cons.2 ⟨⟨Tryz.f44,Tryz.func44,ok_rational_Sub,by kernel_rfl⟩,
 List.forall_mem_cons.2 ⟨⟨Tryz.f16,Tryz.func16,ok_ref03_Sign,by kernel_rfl⟩,
 List.forall_mem_cons.2 ⟨⟨Tryz.f48,Tryz.func48,ok_ref01_Same,by kernel_rfl⟩,
 List.forall_mem_cons.2 ⟨⟨Tryz.f47,Tryz.func47,ok_ref02_Same,by kernel_rfl⟩,
 List.forall_mem_cons.2 ⟨⟨Tryz.f19,Tryz.func19,ok_ref03_Same,by kernel_rfl⟩,
 List.forall_mem_cons.2 ⟨⟨Tryz.f50,Tryz.func50,ok_ref03_SameList,by kernel_rfl⟩,
 List.forall_mem_cons.2 ⟨⟨Tryz.f66,Tryz.func66,ok_poly_cut,by kernel_rfl⟩,
 List.forall_mem_cons.2 ⟨⟨Tryz.f33,Tryz.func33,ok_poly_Trim,by kernel_rfl⟩,
 List.forall_mem_cons.2 ⟨⟨Tryz.f34,Tryz.func34,ok_ref05_Trim,by kernel_rfl⟩,
 List.forall_mem_cons.2 ⟨⟨Tryz.f22,Tryz.func22,ok_ref05_Equal,by kernel_rfl⟩,
 List.forall_mem_cons.2 ⟨⟨Tryz.f20,Tryz.func20,ok_ref05_Same,by kernel_rfl⟩,
 List.forall_mem_cons.2 ⟨⟨Tryz.f43,Tryz.func43,ok_ref05_At,by kernel_rfl⟩,
 List.forall_mem_cons.2 ⟨⟨Tryz.f17,Tryz.func17,ok_ref05_Add,by kernel_rfl⟩,
 List.forall_mem_cons.2 ⟨⟨Tryz.f84,Tryz.func84,ok_integer_Compare,by kernel_rfl⟩,
 List.forall_mem_cons.2 ⟨⟨Tryz.f53,Tryz.func53,ok_rational_Compare,by kernel_rfl⟩,
 List.forall_mem_cons.2 ⟨⟨Tryz.f51,Tryz.func51,ok_make_Mod,by kernel_rfl⟩,
 List.forall_mem_cons.2 ⟨⟨Tryz.f23,Tryz.func23,ok_make_Tape_Next,by kernel_rfl⟩,
 List.forall_mem_cons.2 ⟨⟨Tryz.f104,Tryz.func104,ok_slices_Grow_api_Rat_api_Rat,by kernel_rfl⟩,
 List.forall_mem_cons.2 ⟨⟨Tryz.f85,Tryz.func85,ok_slices_Concat_api_Rat_api_Rat,by kernel_rfl⟩,
 List.forall_mem_cons.2 ⟨⟨Tryz.f55,Tryz.func55,ok_linear_Valid,by kernel_rfl⟩,
 List.forall_mem_cons.2 ⟨⟨Tryz.f86,Tryz.func86,ok_linear_wholeRows,by kernel_rfl⟩,
 List.forall_mem_cons.2 ⟨⟨Tryz.f105,Tryz.func105,ok_linear_sweep,by kernel_rfl⟩,
 List.forall_mem_cons.2 ⟨⟨Tryz.f87,Tryz.func87,ok_linear_eliminate,by kernel_rfl⟩,
 List.forall_mem_cons.2 ⟨⟨Tryz.f88,Tryz.func88,ok_linear_column,by kernel_rfl⟩,
 List.forall_mem_cons.2 ⟨⟨Tryz.f56,Tryz.func56,ok_linear_solve,by kernel_rfl⟩,
 List.forall_mem_cons.2 ⟨⟨Tryz.f29,Tryz.func29,ok_linear_Solve,by kernel_rfl⟩,
 List.forall_mem_cons.2 ⟨⟨Tryz.f24,Tryz.func24,ok_make_Rat,by kernel_rfl⟩,
 List.forall_mem_cons.2 ⟨⟨Tryz.f35,Tryz.func35,ok_make_Rats,by kernel_rfl⟩,
 List.forall_mem_cons.2 ⟨⟨Tryz.f9,Tryz.func9,ok_make_Poly,by kernel_rfl⟩,
 List.forall_mem_cons.2 ⟨⟨Tryz.f6,Tryz.func6,ok_make_Grid,by kernel_rfl⟩,
 List.forall_mem_cons.2 ⟨⟨Tryz.f113,Tryz.func113,ok_rational_Abs,by kernel_rfl⟩,
 List.forall_mem_cons.2 ⟨⟨Tryz.f80,Tryz.func80,ok_poly_parts,by kernel_rfl⟩,
 List.forall_mem_cons.2 ⟨⟨Tryz.f98,Tryz.func98,ok_poly_common,by kernel_rfl⟩,
 List.forall_mem_cons.2 ⟨⟨Tryz.f79,Tryz.func79,ok_poly_split,by kernel_rfl⟩,
 List.forall_mem_cons.2 ⟨⟨Tryz.f45,Tryz.func45,ok_poly_Eval,by kernel_rfl⟩,
 List.forall_mem_cons.2 ⟨⟨Tryz.f26,Tryz.func26,ok_leastsq_Valid,by kernel_rfl⟩,
 List.forall_mem_cons.2 ⟨⟨Tryz.f18,Tryz.func18,ok_leastsq_Error,by kernel_rfl⟩,
 List.forall_mem_cons.2 ⟨⟨Tryz.f54,Tryz.func54,ok_leastsq_whole,by kernel_rfl⟩,
 List.forall_mem_cons.2 ⟨⟨Tryz.f27,Tryz.func27,ok_leastsq_wholeGrid,by kernel_rfl⟩,
 List.forall_mem_cons.2 ⟨⟨Tryz.f28,Tryz.func28,ok_leastsq_equations,by kernel_rfl⟩,
 List.forall_mem_cons.2 ⟨⟨Tryz.f7,Tryz.func7,ok_leastsq_Design,by kernel_rfl⟩,
 List.forall_mem_cons.2 ⟨⟨Tryz.f21,Tryz.func21,ok_ref03_Less,by kernel_rfl⟩,
 List.forall_mem_cons.2 ⟨⟨Tryz.f8,Tryz.func8,ok_law14_awake,by kernel_rfl⟩,
 List.forall_mem_cons.2 ⟨⟨Tryz.f4,Tryz.func4,ok_law14_LeastBest,by kernel_rfl⟩,
 List.forall_mem_nil _⟩⟩⟩⟩⟩⟩⟩⟩⟩⟩⟩⟩⟩⟩⟩⟩⟩⟩⟩⟩⟩⟩⟩⟩⟩⟩⟩⟩⟩⟩⟩⟩⟩⟩⟩⟩⟩⟩⟩⟩⟩⟩⟩⟩⟩⟩⟩⟩⟩⟩⟩⟩⟩⟩⟩⟩⟩⟩⟩⟩⟩⟩⟩⟩⟩⟩⟩⟩⟩⟩⟩⟩⟩⟩⟩⟩⟩⟩⟩⟩⟩⟩⟩⟩⟩⟩⟩⟩⟩⟩⟩⟩⟩⟩⟩⟩⟩⟩⟩⟩⟩⟩⟩⟩⟩⟩⟩⟩⟩⟩⟩⟩⟩⟩⟩)
theorem hasFixed:F.FixedLib L:={  }
theorem hasNet:F.NetLib L:={ hasFixed with  }
theorem hasWorld:F.WorldLib L:={ hasFixed with  }
theorem hasRunG:F.RunGLib L:={ hasNet,hasWorld with  }
theorem hasDirectG:F.DirectGLib L:={ hasRunG with  }
theorem hasNatG:F.NatGLib L:={ cmp_isNaN_int:=rfl,cmp_isNaN_uint32:=rfl,cmp_Compare_int:=rfl,cmp_Compare_uint32:=rfl,slices_Clone_uint32_uint32:=rfl,math_bits_Len32:=rfl,math_bits_LeadingZeros32:=rfl,nat_cut:=rfl,nat_Trim:=rfl,nat_Compare:=rfl,nat_Add:=rfl,nat_Sub:=rfl,nat_Mul:=rfl,nat_lift:=rfl,nat_lower:=rfl,nat_digit:=rfl,nat_divide:=rfl,nat_DivMod:=rfl,nat_small:=rfl,nat_leading_1:=rfl,nat_leading:=rfl,nat_cofactors:=rfl,nat_combine:=rfl,nat_shorten:=rfl,nat_Gcd:=rfl }
theorem hasRatG:F.RatGLib L:={ hasNatG with integer_signed:=rfl,integer_Trim:=rfl,integer_Of:=rfl,integer_Sign:=rfl,integer_Add:=rfl,integer_Mul:=rfl,rational_read:=rfl,rational_isOne:=rfl,rational_natural:=rfl,rational_whole:=rfl,rational_quotient:=rfl,rational_pair_lowest:=rfl,rational_Trim:=rfl,rational_Of:=rfl,rational_Sign:=rfl,rational_Add:=rfl,rational_Mul:=rfl,rational_Div:=rfl }
theorem hasRefG:F.RefGLib L:={ ref01_Trim:=rfl,ref01_Compare:=rfl,ref01_Add:=rfl,ref01_Sub:=rfl,ref01_Mul:=rfl,ref01_BitLen:=rfl,ref01_Shift:=rfl,ref01_small:=rfl,ref01_DivMod:=rfl,ref01_Gcd:=rfl,ref02_Trim:=rfl,ref02_Of:=rfl,ref02_Sign:=rfl,ref02_Neg:=rfl,ref02_Add:=rfl,ref02_Sub:=rfl,ref02_Compare:=rfl,ref02_Mul:=rfl,ref02_Div:=rfl,ref02_Gcd:=rfl,ref03_reduce:=rfl,ref03_parts:=rfl,ref03_Trim:=rfl,ref03_Of:=rfl,ref03_Frac:=rfl,ref03_Add:=rfl,ref03_Compare:=rfl }
theorem hasSysG:F.SysGLib L:={ hasRatG,hasRefG with  }
theorem hasLinG:F.LinGLib L:={ hasSysG,hasNet with  }
theorem hasRatH:F.RatHLib L:={ hasRatG with rational_flip:=rfl,rational_Sub:=rfl }
theorem hasRefH:F.RefHLib L:={ hasRefG with ref03_Sign:=rfl,ref01_Same:=rfl,ref02_Same:=rfl,ref03_Same:=rfl,ref03_SameList:=rfl }
theorem hasPolyG:F.PolyGLib L:={ hasRatG with poly_cut:=rfl,poly_Trim:=rfl }
theorem hasR05G:F.R05GLib L:={ hasRefH with ref05_Trim:=rfl,ref05_Equal:=rfl,ref05_Same:=rfl }
theorem hasTrG:F.TrGLib L:={ hasLinG,hasRatH,hasPolyG,hasR05G with ref05_At:=rfl,ref05_Add:=rfl }
theorem hasStG:F.StGLib L:={ hasTrG with integer_Compare:=rfl,rational_Compare:=rfl }
theorem hasMakG:F.MakGLib L:={ hasRefH with make_Mod:=rfl,make_Tape_Next:=rfl }
theorem hasMatG:F.MatGLib L:={ hasRatH,hasStG with slices_Grow_api_Rat_api_Rat:=rfl,slices_Concat_api_Rat_api_Rat:=rfl,linear_Valid:=rfl,linear_wholeRows:=rfl,linear_sweep:=rfl,linear_eliminate:=rfl,linear_column:=rfl,linear_solve:=rfl,linear_Solve:=rfl }
theorem hasGrdG:F.GrdGLib L:={ hasMakG,hasR05G with make_Rat:=rfl,make_Rats:=rfl,make_Poly:=rfl,make_Grid:=rfl }
theorem hasPolE:F.PolELib L:={ hasStG with rational_Abs:=rfl,poly_parts:=rfl,poly_common:=rfl,poly_split:=rfl,poly_Eval:=rfl }
theorem hasLsqG:F.LsqGLib L:={ hasMatG,hasPolE with leastsq_Valid:=rfl,leastsq_Error:=rfl,leastsq_whole:=rfl,leastsq_wholeGrid:=rfl,leastsq_equations:=rfl,leastsq_Design:=rfl }
theorem hasR05H:F.R05HLib L:={ hasStG with ref03_Less:=rfl }
theorem hasLawL:F.LawLLib L:={ hasLsqG,hasGrdG,hasR05H with law14_awake:=rfl,law14_LeastBest:=rfl }
end Go.Proofs.YtiadddpcmkfpjaaGreat
