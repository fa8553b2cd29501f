/-
  The functions of the groups are the program's own: checked by the kernel, function by function.
-/
import Derived.Test.YtdehnieflanifaaGreatProg
import Derived.KernelRfl
import Derived.Test.YtdehnieflanifaaGreatB3
import Derived.Test.YtdehnieflanifaaGreatB4
set_option linter.unusedSimpArgs false
set_option linter.unusedVariables false
set_option linter.unnecessarySimpa false








namespace Go.Proofs.YtdehnieflanifaaGreat
open Go.Eng

def num : Nat → Nat
  | 1 => 145
  | 2 => 106
  | 3 => 146
  | 4 => 147
  | 5 => 107
  | 6 => 143
  | 7 => 162
  | 8 => 163
  | 9 => 144
  | 10 => 73
  | 11 => 108
  | 12 => 101
  | 13 => 102
  | 14 => 119
  | 19 => 109
  | 20 => 52
  | 21 => 66
  | 22 => 103
  | 23 => 104
  | 25 => 105
  | 43 => 48
  | 58 => 168
  | 59 => 169
  | 60 => 157
  | 61 => 158
  | 62 => 164
  | 63 => 182
  | 64 => 175
  | 65 => 156
  | 66 => 149
  | 67 => 121
  | 71 => 176
  | 72 => 178
  | 73 => 177
  | 74 => 165
  | 75 => 150
  | 76 => 167
  | 77 => 183
  | 78 => 180
  | 79 => 179
  | 80 => 181
  | 81 => 166
  | 82 => 152
  | 83 => 148
  | 84 => 151
  | 85 => 112
  | 86 => 125
  | 89 => 117
  | 90 => 153
  | 92 => 111
  | 93 => 126
  | 94 => 118
  | 95 => 69
  | 96 => 60
  | 97 => 116
  | 101 => 133
  | 102 => 138
  | 103 => 137
  | 104 => 139
  | 106 => 171
  | 107 => 172
  | 108 => 170
  | 109 => 160
  | 110 => 159
  | 111 => 132
  | 112 => 93
  | 113 => 128
  | 114 => 136
  | 119 => 135
  | 120 => 134
  | 121 => 95
  | 122 => 94
  | 123 => 100
  | 124 => 38
  | 125 => 114
  | 46 => 53
  | 47 => 55
  | 48 => 54
  | 49 => 56
  | 50 => 9
  | 51 => 12
  | 52 => 14
  | 53 => 16
  | 54 => 8
  | 151 => 83
  | 155 => 131
  | 156 => 174
  | 157 => 173
  | 158 => 161
  | 159 => 142
  | 169 => 113
  | 170 => 61
  | 171 => 91
  | 172 => 99
  | 173 => 42
  | 174 => 18
  | 175 => 59
  | 176 => 20
  | 177 => 11
  | 178 => 110
  | 179 => 57
  | 180 => 58
  | 181 => 10
  | 182 => 13
  | 183 => 15
  | 184 => 17
  | 185 => 62
  | 186 => 19
  | 187 => 3
  | _ => 0
theorem ok_fixed_mode : okFn Tryz.prog num Tryz.f145 F.fixed_mode = true := by kernel_rfl
theorem ok_fixed_Valid : okFn Tryz.prog num Tryz.f106 F.fixed_Valid = true := by kernel_rfl
theorem ok_fixed_Low : okFn Tryz.prog num Tryz.f146 F.fixed_Low = true := by kernel_rfl
theorem ok_fixed_High : okFn Tryz.prog num Tryz.f147 F.fixed_High = true := by kernel_rfl
theorem ok_fixed_Fits : okFn Tryz.prog num Tryz.f107 F.fixed_Fits = true := by kernel_rfl
theorem ok_fixed_Shift : okFn Tryz.prog num Tryz.f143 F.fixed_Shift = true := by kernel_rfl
theorem ok_fixed_Wrap : okFn Tryz.prog num Tryz.f162 F.fixed_Wrap = true := by kernel_rfl
theorem ok_fixed_Saturate : okFn Tryz.prog num Tryz.f163 F.fixed_Saturate = true := by kernel_rfl
theorem ok_fixed_Reduce : okFn Tryz.prog num Tryz.f144 F.fixed_Reduce = true := by kernel_rfl
theorem ok_ref21_In : okFn Tryz.prog num Tryz.f73 F.ref21_In = true := by kernel_rfl
theorem ok_ref21_Valid : okFn Tryz.prog num Tryz.f108 F.ref21_Valid = true := by kernel_rfl
theorem ok_ref21_Low : okFn Tryz.prog num Tryz.f101 F.ref21_Low = true := by kernel_rfl
theorem ok_ref21_High : okFn Tryz.prog num Tryz.f102 F.ref21_High = true := by kernel_rfl
theorem ok_ref21_Fits : okFn Tryz.prog num Tryz.f119 F.ref21_Fits = true := by kernel_rfl
theorem ok_ref21_Words : okFn Tryz.prog num Tryz.f109 F.ref21_Words = true := by kernel_rfl
theorem ok_ref21_SameInts : okFn Tryz.prog num Tryz.f52 F.ref21_SameInts = true := by kernel_rfl
theorem ok_network_Valid : okFn Tryz.prog num Tryz.f66 F.network_Valid = true := by kernel_rfl
theorem ok_network_wrong : okFn Tryz.prog num Tryz.f103 F.network_wrong = true := by kernel_rfl
theorem ok_network_compute : okFn Tryz.prog num Tryz.f104 F.network_compute = true := by kernel_rfl
theorem ok_network_follow : okFn Tryz.prog num Tryz.f105 F.network_follow = true := by kernel_rfl
theorem ok_network_Run : okFn Tryz.prog num Tryz.f48 F.network_Run = true := by kernel_rfl
theorem ok_cmp_isNaN_int : okFn Tryz.prog num Tryz.f168 F.cmp_isNaN_int = true := by kernel_rfl
theorem ok_cmp_isNaN_uint32 : okFn Tryz.prog num Tryz.f169 F.cmp_isNaN_uint32 = true := by kernel_rfl
theorem ok_cmp_Compare_int : okFn Tryz.prog num Tryz.f157 F.cmp_Compare_int = true := by kernel_rfl
theorem ok_cmp_Compare_uint32 : okFn Tryz.prog num Tryz.f158 F.cmp_Compare_uint32 = true := by kernel_rfl
theorem ok_slices_Clone_uint32_uint32 : okFn Tryz.prog num Tryz.f164 F.slices_Clone_uint32_uint32 = true := by kernel_rfl
theorem ok_math_bits_Len32 : okFn Tryz.prog num Tryz.f182 F.math_bits_Len32 = true := by kernel_rfl
theorem ok_math_bits_LeadingZeros32 : okFn Tryz.prog num Tryz.f175 F.math_bits_LeadingZeros32 = true := by kernel_rfl
theorem ok_nat_cut : okFn Tryz.prog num Tryz.f156 F.nat_cut = true := by kernel_rfl
theorem ok_nat_Trim : okFn Tryz.prog num Tryz.f149 F.nat_Trim = true := by kernel_rfl
theorem ok_nat_Compare : okFn Tryz.prog num Tryz.f121 F.nat_Compare = true := by kernel_rfl
theorem ok_nat_lift : okFn Tryz.prog num Tryz.f176 F.nat_lift = true := by kernel_rfl
theorem ok_nat_lower : okFn Tryz.prog num Tryz.f178 F.nat_lower = true := by kernel_rfl
theorem ok_nat_digit : okFn Tryz.prog num Tryz.f177 F.nat_digit = true := by kernel_rfl
theorem ok_nat_divide : okFn Tryz.prog num Tryz.f165 F.nat_divide = true := by kernel_rfl
theorem ok_nat_DivMod : okFn Tryz.prog num Tryz.f150 F.nat_DivMod = true := by kernel_rfl
theorem ok_nat_small : okFn Tryz.prog num Tryz.f167 F.nat_small = true := by kernel_rfl
theorem ok_nat_leading_1 : okFn Tryz.prog num Tryz.f183 F.nat_leading_1 = true := by kernel_rfl
theorem ok_nat_leading : okFn Tryz.prog num Tryz.f180 F.nat_leading = true := by kernel_rfl
theorem ok_nat_cofactors : okFn Tryz.prog num Tryz.f179 F.nat_cofactors = true := by kernel_rfl
theorem ok_nat_combine : okFn Tryz.prog num Tryz.f181 F.nat_combine = true := by kernel_rfl
theorem ok_nat_shorten : okFn Tryz.prog num Tryz.f166 F.nat_shorten = true := by kernel_rfl
theorem ok_nat_Gcd : okFn Tryz.prog num Tryz.f152 F.nat_Gcd = true := by kernel_rfl
theorem ok_integer_signed : okFn Tryz.prog num Tryz.f148 F.integer_signed = true := by kernel_rfl
theorem ok_integer_Trim : okFn Tryz.prog num Tryz.f151 F.integer_Trim = true := by kernel_rfl
theorem ok_integer_Of : okFn Tryz.prog num Tryz.f112 F.integer_Of = true := by kernel_rfl
theorem ok_integer_Sign : okFn Tryz.prog num Tryz.f125 F.integer_Sign = true := by kernel_rfl
theorem ok_rational_read : okFn Tryz.prog num Tryz.f117 F.rational_read = true := by kernel_rfl
theorem ok_rational_isOne : okFn Tryz.prog num Tryz.f153 F.rational_isOne = true := by kernel_rfl
theorem ok_rational_whole : okFn Tryz.prog num Tryz.f111 F.rational_whole = true := by kernel_rfl
theorem ok_rational_quotient : okFn Tryz.prog num Tryz.f126 F.rational_quotient = true := by kernel_rfl
theorem ok_rational_pair_lowest : okFn Tryz.prog num Tryz.f118 F.rational_pair_lowest = true := by kernel_rfl
theorem ok_rational_Trim : okFn Tryz.prog num Tryz.f69 F.rational_Trim = true := by kernel_rfl
theorem ok_rational_Of : okFn Tryz.prog num Tryz.f60 F.rational_Of = true := by kernel_rfl
theorem ok_rational_Sign : okFn Tryz.prog num Tryz.f116 F.rational_Sign = true := by kernel_rfl
theorem ok_ref01_Trim : okFn Tryz.prog num Tryz.f133 F.ref01_Trim = true := by kernel_rfl
theorem ok_ref01_Compare : okFn Tryz.prog num Tryz.f138 F.ref01_Compare = true := by kernel_rfl
theorem ok_ref01_Add : okFn Tryz.prog num Tryz.f137 F.ref01_Add = true := by kernel_rfl
theorem ok_ref01_Sub : okFn Tryz.prog num Tryz.f139 F.ref01_Sub = true := by kernel_rfl
theorem ok_ref01_BitLen : okFn Tryz.prog num Tryz.f171 F.ref01_BitLen = true := by kernel_rfl
theorem ok_ref01_Shift : okFn Tryz.prog num Tryz.f172 F.ref01_Shift = true := by kernel_rfl
theorem ok_ref01_small : okFn Tryz.prog num Tryz.f170 F.ref01_small = true := by kernel_rfl
theorem ok_ref01_DivMod : okFn Tryz.prog num Tryz.f160 F.ref01_DivMod = true := by kernel_rfl
theorem ok_ref01_Gcd : okFn Tryz.prog num Tryz.f159 F.ref01_Gcd = true := by kernel_rfl
theorem ok_ref02_Trim : okFn Tryz.prog num Tryz.f132 F.ref02_Trim = true := by kernel_rfl
theorem ok_ref02_Of : okFn Tryz.prog num Tryz.f93 F.ref02_Of = true := by kernel_rfl
theorem ok_ref02_Sign : okFn Tryz.prog num Tryz.f128 F.ref02_Sign = true := by kernel_rfl
theorem ok_ref02_Neg : okFn Tryz.prog num Tryz.f136 F.ref02_Neg = true := by kernel_rfl
theorem ok_ref02_Div : okFn Tryz.prog num Tryz.f135 F.ref02_Div = true := by kernel_rfl
theorem ok_ref02_Gcd : okFn Tryz.prog num Tryz.f134 F.ref02_Gcd = true := by kernel_rfl
theorem ok_ref03_reduce : okFn Tryz.prog num Tryz.f95 F.ref03_reduce = true := by kernel_rfl
theorem ok_ref03_parts : okFn Tryz.prog num Tryz.f94 F.ref03_parts = true := by kernel_rfl
theorem ok_ref03_Trim : okFn Tryz.prog num Tryz.f100 F.ref03_Trim = true := by kernel_rfl
theorem ok_ref03_Of : okFn Tryz.prog num Tryz.f38 F.ref03_Of = true := by kernel_rfl
theorem ok_ref03_Frac : okFn Tryz.prog num Tryz.f114 F.ref03_Frac = true := by kernel_rfl
theorem ok_direct_wrong : okFn Tryz.prog num Tryz.f53 F.direct_wrong = true := by kernel_rfl
theorem ok_direct_row : okFn Tryz.prog num Tryz.f55 F.direct_row = true := by kernel_rfl
theorem ok_direct_join : okFn Tryz.prog num Tryz.f54 F.direct_join = true := by kernel_rfl
theorem ok_direct_delay : okFn Tryz.prog num Tryz.f56 F.direct_delay = true := by kernel_rfl
theorem ok_direct_FormOne : okFn Tryz.prog num Tryz.f9 F.direct_FormOne = true := by kernel_rfl
theorem ok_direct_FormTwo : okFn Tryz.prog num Tryz.f12 F.direct_FormTwo = true := by kernel_rfl
theorem ok_direct_Transposed : okFn Tryz.prog num Tryz.f14 F.direct_Transposed = true := by kernel_rfl
theorem ok_direct_FIR : okFn Tryz.prog num Tryz.f16 F.direct_FIR = true := by kernel_rfl
theorem ok_law23_known : okFn Tryz.prog num Tryz.f8 F.law23_known = true := by kernel_rfl
theorem ok_rational_Frac : okFn Tryz.prog num Tryz.f83 F.rational_Frac = true := by kernel_rfl
theorem ok_ref03_Sign : okFn Tryz.prog num Tryz.f131 F.ref03_Sign = true := by kernel_rfl
theorem ok_ref01_Same : okFn Tryz.prog num Tryz.f174 F.ref01_Same = true := by kernel_rfl
theorem ok_ref02_Same : okFn Tryz.prog num Tryz.f173 F.ref02_Same = true := by kernel_rfl
theorem ok_ref03_Same : okFn Tryz.prog num Tryz.f161 F.ref03_Same = true := by kernel_rfl
theorem ok_ref03_SameList : okFn Tryz.prog num Tryz.f142 F.ref03_SameList = true := by kernel_rfl
theorem ok_poly_cut : okFn Tryz.prog num Tryz.f113 F.poly_cut = true := by kernel_rfl
theorem ok_poly_Trim : okFn Tryz.prog num Tryz.f61 F.poly_Trim = true := by kernel_rfl
theorem ok_ref05_Trim : okFn Tryz.prog num Tryz.f91 F.ref05_Trim = true := by kernel_rfl
theorem ok_ref05_Equal : okFn Tryz.prog num Tryz.f99 F.ref05_Equal = true := by kernel_rfl
theorem ok_ref05_Same : okFn Tryz.prog num Tryz.f42 F.ref05_Same = true := by kernel_rfl
theorem ok_direct_Ideal : okFn Tryz.prog num Tryz.f18 F.direct_Ideal = true := by kernel_rfl
theorem ok_fixed_Value : okFn Tryz.prog num Tryz.f59 F.fixed_Value = true := by kernel_rfl
theorem ok_ref22_SameFilters : okFn Tryz.prog num Tryz.f20 F.ref22_SameFilters = true := by kernel_rfl
theorem ok_ref22_SameNets : okFn Tryz.prog num Tryz.f11 F.ref22_SameNets = true := by kernel_rfl
theorem ok_ref23_opposite : okFn Tryz.prog num Tryz.f110 F.ref23_opposite = true := by kernel_rfl
theorem ok_ref23_check : okFn Tryz.prog num Tryz.f57 F.ref23_check = true := by kernel_rfl
theorem ok_ref23_line : okFn Tryz.prog num Tryz.f58 F.ref23_line = true := by kernel_rfl
theorem ok_ref23_FormOne : okFn Tryz.prog num Tryz.f10 F.ref23_FormOne = true := by kernel_rfl
theorem ok_ref23_FormTwo : okFn Tryz.prog num Tryz.f13 F.ref23_FormTwo = true := by kernel_rfl
theorem ok_ref23_Transposed : okFn Tryz.prog num Tryz.f15 F.ref23_Transposed = true := by kernel_rfl
theorem ok_ref23_FIR : okFn Tryz.prog num Tryz.f17 F.ref23_FIR = true := by kernel_rfl
theorem ok_ref23_Numbers : okFn Tryz.prog num Tryz.f62 F.ref23_Numbers = true := by kernel_rfl
theorem ok_ref23_Ideal : okFn Tryz.prog num Tryz.f19 F.ref23_Ideal = true := by kernel_rfl
theorem ok_law23_DirectBuilds : okFn Tryz.prog num Tryz.f3 F.law23_DirectBuilds = true := by kernel_rfl

def lib : List (Nat × AFn) := [(1, F.fixed_mode), (2, F.fixed_Valid), (3, F.fixed_Low), (4, F.fixed_High), (5, F.fixed_Fits), (6, F.fixed_Shift), (7, F.fixed_Wrap), (8, F.fixed_Saturate), (9, F.fixed_Reduce), (10, F.ref21_In), (11, F.ref21_Valid), (12, F.ref21_Low), (13, F.ref21_High), (14, F.ref21_Fits), (19, F.ref21_Words), (20, F.ref21_SameInts), (21, F.network_Valid), (22, F.network_wrong), (23, F.network_compute), (25, F.network_follow), (43, F.network_Run), (58, F.cmp_isNaN_int), (59, F.cmp_isNaN_uint32), (60, F.cmp_Compare_int), (61, F.cmp_Compare_uint32), (62, F.slices_Clone_uint32_uint32), (63, F.math_bits_Len32), (64, F.math_bits_LeadingZeros32), (65, F.nat_cut), (66, F.nat_Trim), (67, F.nat_Compare), (71, F.nat_lift), (72, F.nat_lower), (73, F.nat_digit), (74, F.nat_divide), (75, F.nat_DivMod), (76, F.nat_small), (77, F.nat_leading_1), (78, F.nat_leading), (79, F.nat_cofactors), (80, F.nat_combine), (81, F.nat_shorten), (82, F.nat_Gcd), (83, F.integer_signed), (84, F.integer_Trim), (85, F.integer_Of), (86, F.integer_Sign), (89, F.rational_read), (90, F.rational_isOne), (92, F.rational_whole), (93, F.rational_quotient), (94, F.rational_pair_lowest), (95, F.rational_Trim), (96, F.rational_Of), (97, F.rational_Sign), (101, F.ref01_Trim), (102, F.ref01_Compare), (103, F.ref01_Add), (104, F.ref01_Sub), (106, F.ref01_BitLen), (107, F.ref01_Shift), (108, F.ref01_small), (109, F.ref01_DivMod), (110, F.ref01_Gcd), (111, F.ref02_Trim), (112, F.ref02_Of), (113, F.ref02_Sign), (114, F.ref02_Neg), (119, F.ref02_Div), (120, F.ref02_Gcd), (121, F.ref03_reduce), (122, F.ref03_parts), (123, F.ref03_Trim), (124, F.ref03_Of), (125, F.ref03_Frac), (46, F.direct_wrong), (47, F.direct_row), (48, F.direct_join), (49, F.direct_delay), (50, F.direct_FormOne), (51, F.direct_FormTwo), (52, F.direct_Transposed), (53, F.direct_FIR), (54, F.law23_known), (151, F.rational_Frac), (155, F.ref03_Sign), (156, F.ref01_Same), (157, F.ref02_Same), (158, F.ref03_Same), (159, F.ref03_SameList), (169, F.poly_cut), (170, F.poly_Trim), (171, F.ref05_Trim), (172, F.ref05_Equal), (173, F.ref05_Same), (174, F.direct_Ideal), (175, F.fixed_Value), (176, F.ref22_SameFilters), (177, F.ref22_SameNets), (178, F.ref23_opposite), (179, F.ref23_check), (180, F.ref23_line), (181, F.ref23_FormOne), (182, F.ref23_FormTwo), (183, F.ref23_Transposed), (184, F.ref23_FIR), (185, F.ref23_Numbers), (186, F.ref23_Ideal), (187, F.law23_DirectBuilds)]
def L : Lib := ⟨fun f => lib.lookup f, num⟩
set_option maxRecDepth 100000 in
theorem progOK : ProgOK Tryz.prog num L := progOK_of lib (
  List.forall_mem_cons.2 ⟨⟨Tryz.f145, Tryz.func145, ok_fixed_mode, by kernel_rfl⟩, 
  List.forall_mem_cons.2 ⟨⟨Tryz.f106, Tryz.func106, ok_fixed_Valid, by kernel_rfl⟩, 
  List.forall_mem_cons.2 ⟨⟨Tryz.f146, Tryz.func146, ok_fixed_Low, by kernel_rfl⟩, 
  List.forall_mem_cons.2 ⟨⟨Tryz.f147, Tryz.func147, ok_fixed_High, by kernel_rfl⟩, 
  List.forall_mem_cons.2 ⟨⟨Tryz.f107, Tryz.func107, ok_fixed_Fits, by kernel_rfl⟩, 
  List.forall_mem_cons.2 ⟨⟨Tryz.f143, Tryz.func143, ok_fixed_Shift, by kernel_rfl⟩, 
  List.forall_mem_cons.2 ⟨⟨Tryz.f162, Tryz.func162, ok_fixed_Wrap, by kernel_rfl⟩, 
  List.forall_mem_cons.2 ⟨⟨Tryz.f163, Tryz.func163, ok_fixed_Saturate, by kernel_rfl⟩, 
  List.forall_mem_cons.2 ⟨⟨Tryz.f144, Tryz.func144, ok_fixed_Reduce, by kernel_rfl⟩, 
  List.forall_mem_cons.2 ⟨⟨Tryz.f73, Tryz.func73, ok_ref21_In, by kernel_rfl⟩, 
  List.forall_mem_cons.2 ⟨⟨Tryz.f108, Tryz.func108, ok_ref21_Valid, by kernel_rfl⟩, 
  List.forall_mem_cons.2 ⟨⟨Tryz.f101, Tryz.func101, ok_ref21_Low, by kernel_rfl⟩, 
  List.forall_mem_cons.2 ⟨⟨Tryz.f102, Tryz.func102, ok_ref21_High, by kernel_rfl⟩, 
  List.forall_mem_cons.2 ⟨⟨Tryz.f119, Tryz.func119, ok_ref21_Fits, by kernel_rfl⟩, 
  List.forall_mem_cons.2 ⟨⟨Tryz.f109, Tryz.func109, ok_ref21_Words, by kernel_rfl⟩, 
  List.forall_mem_cons.2 ⟨⟨Tryz.f52, Tryz.func52, ok_ref21_SameInts, by kernel_rfl⟩, 
  List.forall_mem_cons.2 ⟨⟨Tryz.f66, Tryz.func66, ok_network_Valid, by kernel_rfl⟩, 
  List.forall_mem_cons.2 ⟨⟨Tryz.f103, Tryz.func103, ok_network_wrong, by kernel_rfl⟩, 
  List.forall_mem_cons.2 ⟨⟨Tryz.f104, Tryz.func104, ok_network_compute, by kernel_rfl⟩, 
  List.forall_mem_cons.2 ⟨⟨Tryz.f105, Tryz.func105, ok_network_follow, by kernel_rfl⟩, 
  List.forall_mem_cons.2 ⟨⟨Tryz.f48, Tryz.func48, ok_network_Run, by kernel_rfl⟩, 
  List.forall_mem_cons.2 ⟨⟨Tryz.f168, Tryz.func168, ok_cmp_isNaN_int, by kernel_rfl⟩, 
  List.forall_mem_cons.2 ⟨⟨Tryz.f169, Tryz.func169, ok_cmp_isNaN_uint32, by kernel_rfl⟩, 
  List.forall_mem_cons.2 ⟨⟨Tryz.f157, Tryz.func157, ok_cmp_Compare_int, by kernel_rfl⟩, 
  List.forall_mem_cons.2 ⟨⟨Tryz.f158, Tryz.func158, ok_cmp_Compare_uint32, by kernel_rfl⟩, 
  List.forall_mem_cons.2 ⟨⟨Tryz.f164, Tryz.func164, ok_slices_Clone_uint32_uint32, by kernel_rfl⟩, 
  List.forall_mem_cons.2 ⟨⟨Tryz.f182, Tryz.func182, ok_math_bits_Len32, by kernel_rfl⟩, 
  List.forall_mem_cons.2 ⟨⟨Tryz.f175, Tryz.func175, ok_math_bits_LeadingZeros32, by kernel_rfl⟩, 
  List.forall_mem_cons.2 ⟨⟨Tryz.f156, Tryz.func156, ok_nat_cut, by kernel_rfl⟩, 
  List.forall_mem_cons.2 ⟨⟨Tryz.f149, Tryz.func149, ok_nat_Trim, by kernel_rfl⟩, 
  List.forall_mem_cons.2 ⟨⟨Tryz.f121, Tryz.func121, ok_nat_Compare, by kernel_rfl⟩, 
  List.forall_mem_cons.2 ⟨⟨Tryz.f176, Tryz.func176, ok_nat_lift, by kernel_rfl⟩, 
  List.forall_mem_cons.2 ⟨⟨Tryz.f178, Tryz.func178, ok_nat_lower, by kernel_rfl⟩, 
  List.forall_mem_cons.2 ⟨⟨Tryz.f177, Tryz.func177, ok_nat_digit, by kernel_rfl⟩, 
  List.forall_mem_cons.2 ⟨⟨Tryz.f165, Tryz.func165, ok_nat_divide, by kernel_rfl⟩, 
  List.forall_mem_cons.2 ⟨⟨Tryz.f150, Tryz.func150, ok_nat_DivMod, by kernel_rfl⟩, 
  List.forall_mem_cons.2 ⟨⟨Tryz.f167, Tryz.func167, ok_nat_small, by kernel_rfl⟩, 
  List.forall_mem_cons.2 ⟨⟨Tryz.f183, Tryz.func183, ok_nat_leading_1, by kernel_rfl⟩, 
  List.forall_mem_cons.2 ⟨⟨Tryz.f180, Tryz.func180, ok_nat_leading, by kernel_rfl⟩, 
  List.forall_mem_cons.2 ⟨⟨Tryz.f179, Tryz.func179, ok_nat_cofactors, by kernel_rfl⟩, 
  List.forall_mem_cons.2 ⟨⟨Tryz.f181, Tryz.func181, ok_nat_combine, by kernel_rfl⟩, 
  List.forall_mem_cons.2 ⟨⟨Tryz.f166, Tryz.func166, ok_nat_shorten, by kernel_rfl⟩, 
  List.forall_mem_cons.2 ⟨⟨Tryz.f152, Tryz.func152, ok_nat_Gcd, by kernel_rfl⟩, 
  List.forall_mem_cons.2 ⟨⟨Tryz.f148, Tryz.func148, ok_integer_signed, by kernel_rfl⟩, 
  List.forall_mem_cons.2 ⟨⟨Tryz.f151, Tryz.func151, ok_integer_Trim, by kernel_rfl⟩, 
  List.forall_mem_cons.2 ⟨⟨Tryz.f112, Tryz.func112, ok_integer_Of, by kernel_rfl⟩, 
  List.forall_mem_cons.2 ⟨⟨Tryz.f125, Tryz.func125, ok_integer_Sign, by kernel_rfl⟩, 
  List.forall_mem_cons.2 ⟨⟨Tryz.f117, Tryz.func117, ok_rational_read, by kernel_rfl⟩, 
  List.forall_mem_cons.2 ⟨⟨Tryz.f153, Tryz.func153, ok_rational_isOne, by kernel_rfl⟩, 
  List.forall_mem_cons.2 ⟨⟨Tryz.f111, Tryz.func111, ok_rational_whole, by kernel_rfl⟩, 
  List.forall_mem_cons.2 ⟨⟨Tryz.f126, Tryz.func126, ok_rational_quotient, by kernel_rfl⟩, 
  List.forall_mem_cons.2 ⟨⟨Tryz.f118, Tryz.func118, ok_rational_pair_lowest, by kernel_rfl⟩, 
  List.forall_mem_cons.2 ⟨⟨Tryz.f69, Tryz.func69, ok_rational_Trim, by kernel_rfl⟩, 
  List.forall_mem_cons.2 ⟨⟨Tryz.f60, Tryz.func60, ok_rational_Of, by kernel_rfl⟩, 
  List.forall_mem_cons.2 ⟨⟨Tryz.f116, Tryz.func116, ok_rational_Sign, by kernel_rfl⟩, 
  List.forall_mem_cons.2 ⟨⟨Tryz.f133, Tryz.func133, ok_ref01_Trim, by kernel_rfl⟩, 
  List.forall_mem_cons.2 ⟨⟨Tryz.f138, Tryz.func138, ok_ref01_Compare, by kernel_rfl⟩, 
  List.forall_mem_cons.2 ⟨⟨Tryz.f137, Tryz.func137, ok_ref01_Add, by kernel_rfl⟩, 
  List.forall_mem_cons.2 ⟨⟨Tryz.f139, Tryz.func139, ok_ref01_Sub, by kernel_rfl⟩, 
  List.forall_mem_cons.2 ⟨⟨Tryz.f171, Tryz.func171, ok_ref01_BitLen, by kernel_rfl⟩, 
  List.forall_mem_cons.2 ⟨⟨Tryz.f172, Tryz.func172, ok_ref01_Shift, by kernel_rfl⟩, 
  List.forall_mem_cons.2 ⟨⟨Tryz.f170, Tryz.func170, ok_ref01_small, by kernel_rfl⟩, 
  List.forall_mem_cons.2 ⟨⟨Tryz.f160, Tryz.func160, ok_ref01_DivMod, by kernel_rfl⟩, 
  List.forall_mem_cons.2 ⟨⟨Tryz.f159, Tryz.func159, ok_ref01_Gcd, by kernel_rfl⟩, 
  List.forall_mem_cons.2 ⟨⟨Tryz.f132, Tryz.func132, ok_ref02_Trim, by kernel_rfl⟩, 
  List.forall_mem_cons.2 ⟨⟨Tryz.f93, Tryz.func93, ok_ref02_Of, by kernel_rfl⟩, 
  List.forall_mem_cons.2 ⟨⟨Tryz.f128, Tryz.func128, ok_ref02_Sign, by kernel_rfl⟩, 
  List.forall_mem_cons.2 ⟨⟨Tryz.f136, Tryz.func136, ok_ref02_Neg, by kernel_rfl⟩, 
  List.forall_mem_cons.2 ⟨⟨Tryz.f135, Tryz.func135, ok_ref02_Div, by kernel_rfl⟩, 
  List.forall_mem_cons.2 ⟨⟨Tryz.f134, Tryz.func134, ok_ref02_Gcd, by kernel_rfl⟩, 
  List.forall_mem_cons.2 ⟨⟨Tryz.f95, Tryz.func95, ok_ref03_reduce, by kernel_rfl⟩, 
  List.forall_mem_cons.2 ⟨⟨Tryz.f94, Tryz.func94, ok_ref03_parts, by kernel_rfl⟩, 
  List.forall_mem_cons.2 ⟨⟨Tryz.f100, Tryz.func100, ok_ref03_Trim, by kernel_rfl⟩, 
  List.forall_mem_cons.2 ⟨⟨Tryz.f38, Tryz.func38, ok_ref03_Of, by kernel_rfl⟩, 
  List.forall_mem_cons.2 ⟨⟨Tryz.f114, Tryz.func114, ok_ref03_Frac, by kernel_rfl⟩, 
  List.forall_mem_cons.2 ⟨⟨Tryz.f53, Tryz.func53, ok_direct_wrong, by kernel_rfl⟩, 
  List.forall_mem_cons.2 ⟨⟨Tryz.f55, Tryz.func55, ok_direct_row, by kernel_rfl⟩, 
  List.forall_mem_cons.2 ⟨⟨Tryz.f54, Tryz.func54, ok_direct_join, by kernel_rfl⟩, 
  List.forall_mem_cons.2 ⟨⟨Tryz.f56, Tryz.func56, ok_direct_delay, by kernel_rfl⟩, 
  List.forall_mem_cons.2 ⟨⟨Tryz.f9, Tryz.func9, ok_direct_FormOne, by kernel_rfl⟩, 
  List.forall_mem_cons.2 ⟨⟨Tryz.f12, Tryz.func12, ok_direct_FormTwo, by kernel_rfl⟩, 
  List.forall_mem_cons.2 ⟨⟨Tryz.f14, Tryz.func14, ok_direct_Transposed, by kernel_rfl⟩, 
  List.forall_mem_cons.2 ⟨⟨Tryz.f16, Tryz.func16, ok_direct_FIR, by kernel_rfl⟩, 
  List.forall_mem_cons.2 ⟨⟨Tryz.f8, Tryz.func8, ok_law23_known, by kernel_rfl⟩, 
  List.forall_mem_cons.2 ⟨⟨Tryz.f83, Tryz.func83, ok_rational_Frac, by kernel_rfl⟩, 
  List.forall_mem_cons.2 ⟨⟨Tryz.f131, Tryz.func131, ok_ref03_Sign, by kernel_rfl⟩, 
  List.forall_mem_cons.2 ⟨⟨Tryz.f174, Tryz.func174, ok_ref01_Same, by kernel_rfl⟩, 
  List.forall_mem_cons.2 ⟨⟨Tryz.f173, Tryz.func173, ok_ref02_Same, by kernel_rfl⟩, 
  List.forall_mem_cons.2 ⟨⟨Tryz.f161, Tryz.func161, ok_ref03_Same, by kernel_rfl⟩, 
  List.forall_mem_cons.2 ⟨⟨Tryz.f142, Tryz.func142, ok_ref03_SameList, by kernel_rfl⟩, 
  List.forall_mem_cons.2 ⟨⟨Tryz.f113, Tryz.func113, ok_poly_cut, by kernel_rfl⟩, 
  List.forall_mem_cons.2 ⟨⟨Tryz.f61, Tryz.func61, ok_poly_Trim, by kernel_rfl⟩, 
  List.forall_mem_cons.2 ⟨⟨Tryz.f91, Tryz.func91, ok_ref05_Trim, by kernel_rfl⟩, 
  List.forall_mem_cons.2 ⟨⟨Tryz.f99, Tryz.func99, ok_ref05_Equal, by kernel_rfl⟩, 
  List.forall_mem_cons.2 ⟨⟨Tryz.f42, Tryz.func42, ok_ref05_Same, by kernel_rfl⟩, 
  List.forall_mem_cons.2 ⟨⟨Tryz.f18, Tryz.func18, ok_direct_Ideal, by kernel_rfl⟩, 
  List.forall_mem_cons.2 ⟨⟨Tryz.f59, Tryz.func59, ok_fixed_Value, by kernel_rfl⟩, 
  List.forall_mem_cons.2 ⟨⟨Tryz.f20, Tryz.func20, ok_ref22_SameFilters, by kernel_rfl⟩, 
  List.forall_mem_cons.2 ⟨⟨Tryz.f11, Tryz.func11, ok_ref22_SameNets, by kernel_rfl⟩, 
  List.forall_mem_cons.2 ⟨⟨Tryz.f110, Tryz.func110, ok_ref23_opposite, by kernel_rfl⟩, 
  List.forall_mem_cons.2 ⟨⟨Tryz.f57, Tryz.func57, ok_ref23_check, by kernel_rfl⟩, 
  List.forall_mem_cons.2 ⟨⟨Tryz.f58, Tryz.func58, ok_ref23_line, by kernel_rfl⟩, 
  List.forall_mem_cons.2 ⟨⟨Tryz.f10, Tryz.func10, ok_ref23_FormOne, by kernel_rfl⟩, 
  List.forall_mem_cons.2 ⟨⟨Tryz.f13, Tryz.func13, ok_ref23_FormTwo, by kernel_rfl⟩, 
  List.forall_mem_cons.2 ⟨⟨Tryz.f15, Tryz.func15, ok_ref23_Transposed, by kernel_rfl⟩, 
  List.forall_mem_cons.2 ⟨⟨Tryz.f17, Tryz.func17, ok_ref23_FIR, by kernel_rfl⟩, 
  List.forall_mem_cons.2 ⟨⟨Tryz.f62, Tryz.func62, ok_ref23_Numbers, by kernel_rfl⟩, 
  List.forall_mem_cons.2 ⟨⟨Tryz.f19, Tryz.func19, ok_ref23_Ideal, by kernel_rfl⟩, 
  List.forall_mem_cons.2 ⟨⟨Tryz.f3, Tryz.func3, ok_law23_DirectBuilds, by kernel_rfl⟩, 
  List.forall_mem_nil _⟩⟩⟩⟩⟩⟩⟩⟩⟩⟩⟩⟩⟩⟩⟩⟩⟩⟩⟩⟩⟩⟩⟩⟩⟩⟩⟩⟩⟩⟩⟩⟩⟩⟩⟩⟩⟩⟩⟩⟩⟩⟩⟩⟩⟩⟩⟩⟩⟩⟩⟩⟩⟩⟩⟩⟩⟩⟩⟩⟩⟩⟩⟩⟩⟩⟩⟩⟩⟩⟩⟩⟩⟩⟩⟩⟩⟩⟩⟩⟩⟩⟩⟩⟩⟩⟩⟩⟩⟩⟩⟩⟩⟩⟩⟩⟩⟩⟩⟩⟩⟩⟩⟩⟩⟩⟩⟩⟩⟩)
theorem hasFixed : F.FixedLib L := { fixed_mode := rfl, fixed_Valid := rfl, fixed_Low := rfl, fixed_High := rfl, fixed_Fits := rfl, fixed_Shift := rfl, fixed_Wrap := rfl, fixed_Saturate := rfl, fixed_Reduce := rfl, ref21_In := rfl, ref21_Valid := rfl, ref21_Low := rfl, ref21_High := rfl, ref21_Fits := rfl, ref21_Words := rfl, ref21_SameInts := rfl }
theorem hasNet : F.NetLib L := { hasFixed with network_Valid := rfl, network_wrong := rfl, network_compute := rfl, network_follow := rfl }
theorem hasWorld : F.WorldLib L := { hasFixed with  }
theorem hasRunG : F.RunGLib L := { hasNet, hasWorld with network_Run := rfl }
theorem hasNatG : F.NatGLib L := { cmp_isNaN_int := rfl, cmp_isNaN_uint32 := rfl, cmp_Compare_int := rfl, cmp_Compare_uint32 := rfl, slices_Clone_uint32_uint32 := rfl, math_bits_Len32 := rfl, math_bits_LeadingZeros32 := rfl, nat_cut := rfl, nat_Trim := rfl, nat_Compare := rfl, nat_lift := rfl, nat_lower := rfl, nat_digit := rfl, nat_divide := rfl, nat_DivMod := rfl, nat_small := rfl, nat_leading_1 := rfl, nat_leading := rfl, nat_cofactors := rfl, nat_combine := rfl, nat_shorten := rfl, nat_Gcd := rfl }
theorem hasRatG : F.RatGLib L := { hasNatG with integer_signed := rfl, integer_Trim := rfl, integer_Of := rfl, integer_Sign := rfl, rational_read := rfl, rational_isOne := rfl, rational_whole := rfl, rational_quotient := rfl, rational_pair_lowest := rfl, rational_Trim := rfl, rational_Of := rfl, rational_Sign := rfl }
theorem hasRefG : F.RefGLib L := { ref01_Trim := rfl, ref01_Compare := rfl, ref01_Add := rfl, ref01_Sub := rfl, ref01_BitLen := rfl, ref01_Shift := rfl, ref01_small := rfl, ref01_DivMod := rfl, ref01_Gcd := rfl, ref02_Trim := rfl, ref02_Of := rfl, ref02_Sign := rfl, ref02_Neg := rfl, ref02_Div := rfl, ref02_Gcd := rfl, ref03_reduce := rfl, ref03_parts := rfl, ref03_Trim := rfl, ref03_Of := rfl, ref03_Frac := rfl }
theorem hasDirectG : F.DirectGLib L := { hasRunG with direct_wrong := rfl, direct_row := rfl, direct_join := rfl, direct_delay := rfl, direct_FormOne := rfl, direct_FormTwo := rfl, direct_Transposed := rfl, direct_FIR := rfl, law23_known := rfl }
theorem hasRatH : F.RatHLib L := { hasRatG with rational_Frac := rfl }
theorem hasRefH : F.RefHLib L := { hasRefG with ref03_Sign := rfl, ref01_Same := rfl, ref02_Same := rfl, ref03_Same := rfl, ref03_SameList := rfl }
theorem hasPolyG : F.PolyGLib L := { hasRatG with poly_cut := rfl, poly_Trim := rfl }
theorem hasR05G : F.R05GLib L := { hasRefH with ref05_Trim := rfl, ref05_Equal := rfl, ref05_Same := rfl }
theorem hasBldG : F.BldGLib L := { hasDirectG, hasRatH, hasPolyG, hasR05G with direct_Ideal := rfl, fixed_Value := rfl, ref22_SameFilters := rfl, ref22_SameNets := rfl, ref23_opposite := rfl, ref23_check := rfl, ref23_line := rfl, ref23_FormOne := rfl, ref23_FormTwo := rfl, ref23_Transposed := rfl, ref23_FIR := rfl, ref23_Numbers := rfl, ref23_Ideal := rfl }
theorem hasLawB : F.LawBLib L := { hasBldG with law23_DirectBuilds := rfl }

end Go.Proofs.YtdehnieflanifaaGreat

