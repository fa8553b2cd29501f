/-
  The functions of the groups are the program's own: checked by the kernel, function by function.
-/
import Derived.Test.YtdehnieflanifaaGreatProg
import Derived.KernelRfl
import Derived.Test.YtdehnieflanifaaGreatB3
import Derived.Test.YtdehnieflanifaaGreatB4
import Derived.Test.YtdehnieflanifaaGreatB5
set_option linter.unusedSimpArgs false
set_option linter.unusedVariables false
set_option linter.unnecessarySimpa false

namespace Go.Proofs.YtdehnieflanifaaGreat
open Go.Eng

def num : Nat → Nat
  | 1 => 145
  | 2 => 106
  | 3 => 146
  | 4 => 147
  | 5 => 107
  | 6 => 143
  | 7 => 162
  | 8 => 163
  | 9 => 144
  | 10 => 73
  | 11 => 108
  | 12 => 101
  | 13 => 102
  | 21 => 66
  | 22 => 103
  | 23 => 104
  | 24 => 50
  | 25 => 105
  | 26 => 51
  | 32 => 29
  | 34 => 33
  | 35 => 65
  | 36 => 115
  | 37 => 63
  | 38 => 64
  | 39 => 47
  | 58 => 168
  | 59 => 169
  | 60 => 157
  | 61 => 158
  | 62 => 164
  | 63 => 182
  | 64 => 175
  | 65 => 156
  | 66 => 149
  | 67 => 121
  | 68 => 154
  | 69 => 155
  | 70 => 124
  | 71 => 176
  | 72 => 178
  | 73 => 177
  | 74 => 165
  | 75 => 150
  | 76 => 167
  | 77 => 183
  | 78 => 180
  | 79 => 179
  | 80 => 181
  | 81 => 166
  | 82 => 152
  | 83 => 148
  | 84 => 151
  | 85 => 112
  | 86 => 125
  | 87 => 120
  | 88 => 122
  | 89 => 117
  | 90 => 153
  | 91 => 123
  | 92 => 111
  | 93 => 126
  | 94 => 118
  | 95 => 69
  | 96 => 60
  | 97 => 116
  | 98 => 74
  | 99 => 75
  | 100 => 76
  | 101 => 133
  | 102 => 138
  | 103 => 137
  | 104 => 139
  | 105 => 140
  | 106 => 171
  | 107 => 172
  | 108 => 170
  | 109 => 160
  | 110 => 159
  | 111 => 132
  | 112 => 93
  | 113 => 128
  | 114 => 136
  | 115 => 96
  | 116 => 141
  | 117 => 98
  | 118 => 97
  | 119 => 135
  | 120 => 134
  | 121 => 95
  | 122 => 94
  | 124 => 38
  | 126 => 39
  | 127 => 41
  | 129 => 31
  | 130 => 32
  | 131 => 92
  | 132 => 81
  | 133 => 44
  | 144 => 67
  | 145 => 68
  | 146 => 22
  | 147 => 49
  | 42 => 21
  | 43 => 48
  | 149 => 127
  | 150 => 77
  | 160 => 27
  | 161 => 24
  | 223 => 7
  | _ => 0
theorem ok_fixed_mode : okFn Tryz.prog num Tryz.f145 F.fixed_mode = true := by kernel_rfl
theorem ok_fixed_Valid : okFn Tryz.prog num Tryz.f106 F.fixed_Valid = true := by kernel_rfl
theorem ok_fixed_Low : okFn Tryz.prog num Tryz.f146 F.fixed_Low = true := by kernel_rfl
theorem ok_fixed_High : okFn Tryz.prog num Tryz.f147 F.fixed_High = true := by kernel_rfl
theorem ok_fixed_Fits : okFn Tryz.prog num Tryz.f107 F.fixed_Fits = true := by kernel_rfl
theorem ok_fixed_Shift : okFn Tryz.prog num Tryz.f143 F.fixed_Shift = true := by kernel_rfl
theorem ok_fixed_Wrap : okFn Tryz.prog num Tryz.f162 F.fixed_Wrap = true := by kernel_rfl
theorem ok_fixed_Saturate : okFn Tryz.prog num Tryz.f163 F.fixed_Saturate = true := by kernel_rfl
theorem ok_fixed_Reduce : okFn Tryz.prog num Tryz.f144 F.fixed_Reduce = true := by kernel_rfl
theorem ok_ref21_In : okFn Tryz.prog num Tryz.f73 F.ref21_In = true := by kernel_rfl
theorem ok_ref21_Valid : okFn Tryz.prog num Tryz.f108 F.ref21_Valid = true := by kernel_rfl
theorem ok_ref21_Low : okFn Tryz.prog num Tryz.f101 F.ref21_Low = true := by kernel_rfl
theorem ok_ref21_High : okFn Tryz.prog num Tryz.f102 F.ref21_High = true := by kernel_rfl
theorem ok_network_Valid : okFn Tryz.prog num Tryz.f66 F.network_Valid = true := by kernel_rfl
theorem ok_network_wrong : okFn Tryz.prog num Tryz.f103 F.network_wrong = true := by kernel_rfl
theorem ok_network_compute : okFn Tryz.prog num Tryz.f104 F.network_compute = true := by kernel_rfl
theorem ok_network_Values : okFn Tryz.prog num Tryz.f50 F.network_Values = true := by kernel_rfl
theorem ok_network_follow : okFn Tryz.prog num Tryz.f105 F.network_follow = true := by kernel_rfl
theorem ok_network_Step : okFn Tryz.prog num Tryz.f51 F.network_Step = true := by kernel_rfl
theorem ok_law22_known : okFn Tryz.prog num Tryz.f29 F.law22_known = true := by kernel_rfl
theorem ok_world_Within : okFn Tryz.prog num Tryz.f33 F.world_Within = true := by kernel_rfl
theorem ok_world_At : okFn Tryz.prog num Tryz.f65 F.world_At = true := by kernel_rfl
theorem ok_world_Word : okFn Tryz.prog num Tryz.f115 F.world_Word = true := by kernel_rfl
theorem ok_world_Data : okFn Tryz.prog num Tryz.f63 F.world_Data = true := by kernel_rfl
theorem ok_world_Coef : okFn Tryz.prog num Tryz.f64 F.world_Coef = true := by kernel_rfl
theorem ok_world_Words : okFn Tryz.prog num Tryz.f47 F.world_Words = true := by kernel_rfl
theorem ok_cmp_isNaN_int : okFn Tryz.prog num Tryz.f168 F.cmp_isNaN_int = true := by kernel_rfl
theorem ok_cmp_isNaN_uint32 : okFn Tryz.prog num Tryz.f169 F.cmp_isNaN_uint32 = true := by kernel_rfl
theorem ok_cmp_Compare_int : okFn Tryz.prog num Tryz.f157 F.cmp_Compare_int = true := by kernel_rfl
theorem ok_cmp_Compare_uint32 : okFn Tryz.prog num Tryz.f158 F.cmp_Compare_uint32 = true := by kernel_rfl
theorem ok_slices_Clone_uint32_uint32 : okFn Tryz.prog num Tryz.f164 F.slices_Clone_uint32_uint32 = true := by kernel_rfl
theorem ok_math_bits_Len32 : okFn Tryz.prog num Tryz.f182 F.math_bits_Len32 = true := by kernel_rfl
theorem ok_math_bits_LeadingZeros32 : okFn Tryz.prog num Tryz.f175 F.math_bits_LeadingZeros32 = true := by kernel_rfl
theorem ok_nat_cut : okFn Tryz.prog num Tryz.f156 F.nat_cut = true := by kernel_rfl
theorem ok_nat_Trim : okFn Tryz.prog num Tryz.f149 F.nat_Trim = true := by kernel_rfl
theorem ok_nat_Compare : okFn Tryz.prog num Tryz.f121 F.nat_Compare = true := by kernel_rfl
theorem ok_nat_Add : okFn Tryz.prog num Tryz.f154 F.nat_Add = true := by kernel_rfl
theorem ok_nat_Sub : okFn Tryz.prog num Tryz.f155 F.nat_Sub = true := by kernel_rfl
theorem ok_nat_Mul : okFn Tryz.prog num Tryz.f124 F.nat_Mul = true := by kernel_rfl
theorem ok_nat_lift : okFn Tryz.prog num Tryz.f176 F.nat_lift = true := by kernel_rfl
theorem ok_nat_lower : okFn Tryz.prog num Tryz.f178 F.nat_lower = true := by kernel_rfl
theorem ok_nat_digit : okFn Tryz.prog num Tryz.f177 F.nat_digit = true := by kernel_rfl
theorem ok_nat_divide : okFn Tryz.prog num Tryz.f165 F.nat_divide = true := by kernel_rfl
theorem ok_nat_DivMod : okFn Tryz.prog num Tryz.f150 F.nat_DivMod = true := by kernel_rfl
theorem ok_nat_small : okFn Tryz.prog num Tryz.f167 F.nat_small = true := by kernel_rfl
theorem ok_nat_leading_1 : okFn Tryz.prog num Tryz.f183 F.nat_leading_1 = true := by kernel_rfl
theorem ok_nat_leading : okFn Tryz.prog num Tryz.f180 F.nat_leading = true := by kernel_rfl
theorem ok_nat_cofactors : okFn Tryz.prog num Tryz.f179 F.nat_cofactors = true := by kernel_rfl
theorem ok_nat_combine : okFn Tryz.prog num Tryz.f181 F.nat_combine = true := by kernel_rfl
theorem ok_nat_shorten : okFn Tryz.prog num Tryz.f166 F.nat_shorten = true := by kernel_rfl
theorem ok_nat_Gcd : okFn Tryz.prog num Tryz.f152 F.nat_Gcd = true := by kernel_rfl
theorem ok_integer_signed : okFn Tryz.prog num Tryz.f148 F.integer_signed = true := by kernel_rfl
theorem ok_integer_Trim : okFn Tryz.prog num Tryz.f151 F.integer_Trim = true := by kernel_rfl
theorem ok_integer_Of : okFn Tryz.prog num Tryz.f112 F.integer_Of = true := by kernel_rfl
theorem ok_integer_Sign : okFn Tryz.prog num Tryz.f125 F.integer_Sign = true := by kernel_rfl
theorem ok_integer_Add : okFn Tryz.prog num Tryz.f120 F.integer_Add = true := by kernel_rfl
theorem ok_integer_Mul : okFn Tryz.prog num Tryz.f122 F.integer_Mul = true := by kernel_rfl
theorem ok_rational_read : okFn Tryz.prog num Tryz.f117 F.rational_read = true := by kernel_rfl
theorem ok_rational_isOne : okFn Tryz.prog num Tryz.f153 F.rational_isOne = true := by kernel_rfl
theorem ok_rational_natural : okFn Tryz.prog num Tryz.f123 F.rational_natural = true := by kernel_rfl
theorem ok_rational_whole : okFn Tryz.prog num Tryz.f111 F.rational_whole = true := by kernel_rfl
theorem ok_rational_quotient : okFn Tryz.prog num Tryz.f126 F.rational_quotient = true := by kernel_rfl
theorem ok_rational_pair_lowest : okFn Tryz.prog num Tryz.f118 F.rational_pair_lowest = true := by kernel_rfl
theorem ok_rational_Trim : okFn Tryz.prog num Tryz.f69 F.rational_Trim = true := by kernel_rfl
theorem ok_rational_Of : okFn Tryz.prog num Tryz.f60 F.rational_Of = true := by kernel_rfl
theorem ok_rational_Sign : okFn Tryz.prog num Tryz.f116 F.rational_Sign = true := by kernel_rfl
theorem ok_rational_Add : okFn Tryz.prog num Tryz.f74 F.rational_Add = true := by kernel_rfl
theorem ok_rational_Mul : okFn Tryz.prog num Tryz.f75 F.rational_Mul = true := by kernel_rfl
theorem ok_rational_Div : okFn Tryz.prog num Tryz.f76 F.rational_Div = true := by kernel_rfl
theorem ok_ref01_Trim : okFn Tryz.prog num Tryz.f133 F.ref01_Trim = true := by kernel_rfl
theorem ok_ref01_Compare : okFn Tryz.prog num Tryz.f138 F.ref01_Compare = true := by kernel_rfl
theorem ok_ref01_Add : okFn Tryz.prog num Tryz.f137 F.ref01_Add = true := by kernel_rfl
theorem ok_ref01_Sub : okFn Tryz.prog num Tryz.f139 F.ref01_Sub = true := by kernel_rfl
theorem ok_ref01_Mul : okFn Tryz.prog num Tryz.f140 F.ref01_Mul = true := by kernel_rfl
theorem ok_ref01_BitLen : okFn Tryz.prog num Tryz.f171 F.ref01_BitLen = true := by kernel_rfl
theorem ok_ref01_Shift : okFn Tryz.prog num Tryz.f172 F.ref01_Shift = true := by kernel_rfl
theorem ok_ref01_small : okFn Tryz.prog num Tryz.f170 F.ref01_small = true := by kernel_rfl
theorem ok_ref01_DivMod : okFn Tryz.prog num Tryz.f160 F.ref01_DivMod = true := by kernel_rfl
theorem ok_ref01_Gcd : okFn Tryz.prog num Tryz.f159 F.ref01_Gcd = true := by kernel_rfl
theorem ok_ref02_Trim : okFn Tryz.prog num Tryz.f132 F.ref02_Trim = true := by kernel_rfl
theorem ok_ref02_Of : okFn Tryz.prog num Tryz.f93 F.ref02_Of = true := by kernel_rfl
theorem ok_ref02_Sign : okFn Tryz.prog num Tryz.f128 F.ref02_Sign = true := by kernel_rfl
theorem ok_ref02_Neg : okFn Tryz.prog num Tryz.f136 F.ref02_Neg = true := by kernel_rfl
theorem ok_ref02_Add : okFn Tryz.prog num Tryz.f96 F.ref02_Add = true := by kernel_rfl
theorem ok_ref02_Sub : okFn Tryz.prog num Tryz.f141 F.ref02_Sub = true := by kernel_rfl
theorem ok_ref02_Compare : okFn Tryz.prog num Tryz.f98 F.ref02_Compare = true := by kernel_rfl
theorem ok_ref02_Mul : okFn Tryz.prog num Tryz.f97 F.ref02_Mul = true := by kernel_rfl
theorem ok_ref02_Div : okFn Tryz.prog num Tryz.f135 F.ref02_Div = true := by kernel_rfl
theorem ok_ref02_Gcd : okFn Tryz.prog num Tryz.f134 F.ref02_Gcd = true := by kernel_rfl
theorem ok_ref03_reduce : okFn Tryz.prog num Tryz.f95 F.ref03_reduce = true := by kernel_rfl
theorem ok_ref03_parts : okFn Tryz.prog num Tryz.f94 F.ref03_parts = true := by kernel_rfl
theorem ok_ref03_Of : okFn Tryz.prog num Tryz.f38 F.ref03_Of = true := by kernel_rfl
theorem ok_ref03_Add : okFn Tryz.prog num Tryz.f39 F.ref03_Add = true := by kernel_rfl
theorem ok_ref03_Compare : okFn Tryz.prog num Tryz.f41 F.ref03_Compare = true := by kernel_rfl
theorem ok_ref21_SameRats : okFn Tryz.prog num Tryz.f31 F.ref21_SameRats = true := by kernel_rfl
theorem ok_network_Sound : okFn Tryz.prog num Tryz.f32 F.network_Sound = true := by kernel_rfl
theorem ok_network_zeros : okFn Tryz.prog num Tryz.f92 F.network_zeros = true := by kernel_rfl
theorem ok_network_product : okFn Tryz.prog num Tryz.f81 F.network_product = true := by kernel_rfl
theorem ok_network_Respond : okFn Tryz.prog num Tryz.f44 F.network_Respond = true := by kernel_rfl
theorem ok_network_spread : okFn Tryz.prog num Tryz.f67 F.network_spread = true := by kernel_rfl
theorem ok_network_zero : okFn Tryz.prog num Tryz.f68 F.network_zero = true := by kernel_rfl
theorem ok_network_Linear : okFn Tryz.prog num Tryz.f22 F.network_Linear = true := by kernel_rfl
theorem ok_world_Ints : okFn Tryz.prog num Tryz.f49 F.world_Ints = true := by kernel_rfl
theorem ok_world_Raw_Net : okFn Tryz.prog num Tryz.f21 F.world_Raw_Net = true := by kernel_rfl
theorem ok_network_Run : okFn Tryz.prog num Tryz.f48 F.network_Run = true := by kernel_rfl
theorem ok_rational_flip : okFn Tryz.prog num Tryz.f127 F.rational_flip = true := by kernel_rfl
theorem ok_rational_Sub : okFn Tryz.prog num Tryz.f77 F.rational_Sub = true := by kernel_rfl
theorem ok_network_Errors : okFn Tryz.prog num Tryz.f27 F.network_Errors = true := by kernel_rfl
theorem ok_network_Inject : okFn Tryz.prog num Tryz.f24 F.network_Inject = true := by kernel_rfl
theorem ok_law22_NetworkErrorsAddUp : okFn Tryz.prog num Tryz.f7 F.law22_NetworkErrorsAddUp = true := by kernel_rfl

def lib : List (Nat × AFn) := [(1, F.fixed_mode), (2, F.fixed_Valid), (3, F.fixed_Low), (4, F.fixed_High), (5, F.fixed_Fits), (6, F.fixed_Shift), (7, F.fixed_Wrap), (8, F.fixed_Saturate), (9, F.fixed_Reduce), (10, F.ref21_In), (11, F.ref21_Valid), (12, F.ref21_Low), (13, F.ref21_High), (21, F.network_Valid), (22, F.network_wrong), (23, F.network_compute), (24, F.network_Values), (25, F.network_follow), (26, F.network_Step), (32, F.law22_known), (34, F.world_Within), (35, F.world_At), (36, F.world_Word), (37, F.world_Data), (38, F.world_Coef), (39, F.world_Words), (58, F.cmp_isNaN_int), (59, F.cmp_isNaN_uint32), (60, F.cmp_Compare_int), (61, F.cmp_Compare_uint32), (62, F.slices_Clone_uint32_uint32), (63, F.math_bits_Len32), (64, F.math_bits_LeadingZeros32), (65, F.nat_cut), (66, F.nat_Trim), (67, F.nat_Compare), (68, F.nat_Add), (69, F.nat_Sub), (70, F.nat_Mul), (71, F.nat_lift), (72, F.nat_lower), (73, F.nat_digit), (74, F.nat_divide), (75, F.nat_DivMod), (76, F.nat_small), (77, F.nat_leading_1), (78, F.nat_leading), (79, F.nat_cofactors), (80, F.nat_combine), (81, F.nat_shorten), (82, F.nat_Gcd), (83, F.integer_signed), (84, F.integer_Trim), (85, F.integer_Of), (86, F.integer_Sign), (87, F.integer_Add), (88, F.integer_Mul), (89, F.rational_read), (90, F.rational_isOne), (91, F.rational_natural), (92, F.rational_whole), (93, F.rational_quotient), (94, F.rational_pair_lowest), (95, F.rational_Trim), (96, F.rational_Of), (97, F.rational_Sign), (98, F.rational_Add), (99, F.rational_Mul), (100, F.rational_Div), (101, F.ref01_Trim), (102, F.ref01_Compare), (103, F.ref01_Add), (104, F.ref01_Sub), (105, F.ref01_Mul), (106, F.ref01_BitLen), (107, F.ref01_Shift), (108, F.ref01_small), (109, F.ref01_DivMod), (110, F.ref01_Gcd), (111, F.ref02_Trim), (112, F.ref02_Of), (113, F.ref02_Sign), (114, F.ref02_Neg), (115, F.ref02_Add), (116, F.ref02_Sub), (117, F.ref02_Compare), (118, F.ref02_Mul), (119, F.ref02_Div), (120, F.ref02_Gcd), (121, F.ref03_reduce), (122, F.ref03_parts), (124, F.ref03_Of), (126, F.ref03_Add), (127, F.ref03_Compare), (129, F.ref21_SameRats), (130, F.network_Sound), (131, F.network_zeros), (132, F.network_product), (133, F.network_Respond), (144, F.network_spread), (145, F.network_zero), (146, F.network_Linear), (147, F.world_Ints), (42, F.world_Raw_Net), (43, F.network_Run), (149, F.rational_flip), (150, F.rational_Sub), (160, F.network_Errors), (161, F.network_Inject), (223, F.law22_NetworkErrorsAddUp)]
def L : Lib := ⟨fun f => lib.lookup f, num⟩
set_option maxRecDepth 100000 in
theorem progOK : ProgOK Tryz.prog num L := progOK_of lib (
  List.forall_mem_cons.2 ⟨⟨Tryz.f145, Tryz.func145, ok_fixed_mode, by kernel_rfl⟩, 
  List.forall_mem_cons.2 ⟨⟨Tryz.f106, Tryz.func106, ok_fixed_Valid, by kernel_rfl⟩, 
  List.forall_mem_cons.2 ⟨⟨Tryz.f146, Tryz.func146, ok_fixed_Low, by kernel_rfl⟩, 
  List.forall_mem_cons.2 ⟨⟨Tryz.f147, Tryz.func147, ok_fixed_High, by kernel_rfl⟩, 
  List.forall_mem_cons.2 ⟨⟨Tryz.f107, Tryz.func107, ok_fixed_Fits, by kernel_rfl⟩, 
  List.forall_mem_cons.2 ⟨⟨Tryz.f143, Tryz.func143, ok_fixed_Shift, by kernel_rfl⟩, 
  List.forall_mem_cons.2 ⟨⟨Tryz.f162, Tryz.func162, ok_fixed_Wrap, by kernel_rfl⟩, 
  List.forall_mem_cons.2 ⟨⟨Tryz.f163, Tryz.func163, ok_fixed_Saturate, by kernel_rfl⟩, 
  List.forall_mem_cons.2 ⟨⟨Tryz.f144, Tryz.func144, ok_fixed_Reduce, by kernel_rfl⟩, 
  List.forall_mem_cons.2 ⟨⟨Tryz.f73, Tryz.func73, ok_ref21_In, by kernel_rfl⟩, 
  List.forall_mem_cons.2 ⟨⟨Tryz.f108, Tryz.func108, ok_ref21_Valid, by kernel_rfl⟩, 
  List.forall_mem_cons.2 ⟨⟨Tryz.f101, Tryz.func101, ok_ref21_Low, by kernel_rfl⟩, 
  List.forall_mem_cons.2 ⟨⟨Tryz.f102, Tryz.func102, ok_ref21_High, by kernel_rfl⟩, 
  List.forall_mem_cons.2 ⟨⟨Tryz.f66, Tryz.func66, ok_network_Valid, by kernel_rfl⟩, 
  List.forall_mem_cons.2 ⟨⟨Tryz.f103, Tryz.func103, ok_network_wrong, by kernel_rfl⟩, 
  List.forall_mem_cons.2 ⟨⟨Tryz.f104, Tryz.func104, ok_network_compute, by kernel_rfl⟩, 
  List.forall_mem_cons.2 ⟨⟨Tryz.f50, Tryz.func50, ok_network_Values, by kernel_rfl⟩, 
  List.forall_mem_cons.2 ⟨⟨Tryz.f105, Tryz.func105, ok_network_follow, by kernel_rfl⟩, 
  List.forall_mem_cons.2 ⟨⟨Tryz.f51, Tryz.func51, ok_network_Step, by kernel_rfl⟩, 
  List.forall_mem_cons.2 ⟨⟨Tryz.f29, Tryz.func29, ok_law22_known, by kernel_rfl⟩, 
  List.forall_mem_cons.2 ⟨⟨Tryz.f33, Tryz.func33, ok_world_Within, by kernel_rfl⟩, 
  List.forall_mem_cons.2 ⟨⟨Tryz.f65, Tryz.func65, ok_world_At, by kernel_rfl⟩, 
  List.forall_mem_cons.2 ⟨⟨Tryz.f115, Tryz.func115, ok_world_Word, by kernel_rfl⟩, 
  List.forall_mem_cons.2 ⟨⟨Tryz.f63, Tryz.func63, ok_world_Data, by kernel_rfl⟩, 
  List.forall_mem_cons.2 ⟨⟨Tryz.f64, Tryz.func64, ok_world_Coef, by kernel_rfl⟩, 
  List.forall_mem_cons.2 ⟨⟨Tryz.f47, Tryz.func47, ok_world_Words, by kernel_rfl⟩, 
  List.forall_mem_cons.2 ⟨⟨Tryz.f168, Tryz.func168, ok_cmp_isNaN_int, by kernel_rfl⟩, 
  List.forall_mem_cons.2 ⟨⟨Tryz.f169, Tryz.func169, ok_cmp_isNaN_uint32, by kernel_rfl⟩, 
  List.forall_mem_cons.2 ⟨⟨Tryz.f157, Tryz.func157, ok_cmp_Compare_int, by kernel_rfl⟩, 
  List.forall_mem_cons.2 ⟨⟨Tryz.f158, Tryz.func158, ok_cmp_Compare_uint32, by kernel_rfl⟩, 
  List.forall_mem_cons.2 ⟨⟨Tryz.f164, Tryz.func164, ok_slices_Clone_uint32_uint32, by kernel_rfl⟩, 
  List.forall_mem_cons.2 ⟨⟨Tryz.f182, Tryz.func182, ok_math_bits_Len32, by kernel_rfl⟩, 
  List.forall_mem_cons.2 ⟨⟨Tryz.f175, Tryz.func175, ok_math_bits_LeadingZeros32, by kernel_rfl⟩, 
  List.forall_mem_cons.2 ⟨⟨Tryz.f156, Tryz.func156, ok_nat_cut, by kernel_rfl⟩, 
  List.forall_mem_cons.2 ⟨⟨Tryz.f149, Tryz.func149, ok_nat_Trim, by kernel_rfl⟩, 
  List.forall_mem_cons.2 ⟨⟨Tryz.f121, Tryz.func121, ok_nat_Compare, by kernel_rfl⟩, 
  List.forall_mem_cons.2 ⟨⟨Tryz.f154, Tryz.func154, ok_nat_Add, by kernel_rfl⟩, 
  List.forall_mem_cons.2 ⟨⟨Tryz.f155, Tryz.func155, ok_nat_Sub, by kernel_rfl⟩, 
  List.forall_mem_cons.2 ⟨⟨Tryz.f124, Tryz.func124, ok_nat_Mul, by kernel_rfl⟩, 
  List.forall_mem_cons.2 ⟨⟨Tryz.f176, Tryz.func176, ok_nat_lift, by kernel_rfl⟩, 
  List.forall_mem_cons.2 ⟨⟨Tryz.f178, Tryz.func178, ok_nat_lower, by kernel_rfl⟩, 
  List.forall_mem_cons.2 ⟨⟨Tryz.f177, Tryz.func177, ok_nat_digit, by kernel_rfl⟩, 
  List.forall_mem_cons.2 ⟨⟨Tryz.f165, Tryz.func165, ok_nat_divide, by kernel_rfl⟩, 
  List.forall_mem_cons.2 ⟨⟨Tryz.f150, Tryz.func150, ok_nat_DivMod, by kernel_rfl⟩, 
  List.forall_mem_cons.2 ⟨⟨Tryz.f167, Tryz.func167, ok_nat_small, by kernel_rfl⟩, 
  List.forall_mem_cons.2 ⟨⟨Tryz.f183, Tryz.func183, ok_nat_leading_1, by kernel_rfl⟩, 
  List.forall_mem_cons.2 ⟨⟨Tryz.f180, Tryz.func180, ok_nat_leading, by kernel_rfl⟩, 
  List.forall_mem_cons.2 ⟨⟨Tryz.f179, Tryz.func179, ok_nat_cofactors, by kernel_rfl⟩, 
  List.forall_mem_cons.2 ⟨⟨Tryz.f181, Tryz.func181, ok_nat_combine, by kernel_rfl⟩, 
  List.forall_mem_cons.2 ⟨⟨Tryz.f166, Tryz.func166, ok_nat_shorten, by kernel_rfl⟩, 
  List.forall_mem_cons.2 ⟨⟨Tryz.f152, Tryz.func152, ok_nat_Gcd, by kernel_rfl⟩, 
  List.forall_mem_cons.2 ⟨⟨Tryz.f148, Tryz.func148, ok_integer_signed, by kernel_rfl⟩, 
  List.forall_mem_cons.2 ⟨⟨Tryz.f151, Tryz.func151, ok_integer_Trim, by kernel_rfl⟩, 
  List.forall_mem_cons.2 ⟨⟨Tryz.f112, Tryz.func112, ok_integer_Of, by kernel_rfl⟩, 
  List.forall_mem_cons.2 ⟨⟨Tryz.f125, Tryz.func125, ok_integer_Sign, by kernel_rfl⟩, 
  List.forall_mem_cons.2 ⟨⟨Tryz.f120, Tryz.func120, ok_integer_Add, by kernel_rfl⟩, 
  List.forall_mem_cons.2 ⟨⟨Tryz.f122, Tryz.func122, ok_integer_Mul, by kernel_rfl⟩, 
  List.forall_mem_cons.2 ⟨⟨Tryz.f117, Tryz.func117, ok_rational_read, by kernel_rfl⟩, 
  List.forall_mem_cons.2 ⟨⟨Tryz.f153, Tryz.func153, ok_rational_isOne, by kernel_rfl⟩, 
  List.forall_mem_cons.2 ⟨⟨Tryz.f123, Tryz.func123, ok_rational_natural, by kernel_rfl⟩, 
  List.forall_mem_cons.2 ⟨⟨Tryz.f111, Tryz.func111, ok_rational_whole, by kernel_rfl⟩, 
  List.forall_mem_cons.2 ⟨⟨Tryz.f126, Tryz.func126, ok_rational_quotient, by kernel_rfl⟩, 
  List.forall_mem_cons.2 ⟨⟨Tryz.f118, Tryz.func118, ok_rational_pair_lowest, by kernel_rfl⟩, 
  List.forall_mem_cons.2 ⟨⟨Tryz.f69, Tryz.func69, ok_rational_Trim, by kernel_rfl⟩, 
  List.forall_mem_cons.2 ⟨⟨Tryz.f60, Tryz.func60, ok_rational_Of, by kernel_rfl⟩, 
  List.forall_mem_cons.2 ⟨⟨Tryz.f116, Tryz.func116, ok_rational_Sign, by kernel_rfl⟩, 
  List.forall_mem_cons.2 ⟨⟨Tryz.f74, Tryz.func74, ok_rational_Add, by kernel_rfl⟩, 
  List.forall_mem_cons.2 ⟨⟨Tryz.f75, Tryz.func75, ok_rational_Mul, by kernel_rfl⟩, 
  List.forall_mem_cons.2 ⟨⟨Tryz.f76, Tryz.func76, ok_rational_Div, by kernel_rfl⟩, 
  List.forall_mem_cons.2 ⟨⟨Tryz.f133, Tryz.func133, ok_ref01_Trim, by kernel_rfl⟩, 
  List.forall_mem_cons.2 ⟨⟨Tryz.f138, Tryz.func138, ok_ref01_Compare, by kernel_rfl⟩, 
  List.forall_mem_cons.2 ⟨⟨Tryz.f137, Tryz.func137, ok_ref01_Add, by kernel_rfl⟩, 
  List.forall_mem_cons.2 ⟨⟨Tryz.f139, Tryz.func139, ok_ref01_Sub, by kernel_rfl⟩, 
  List.forall_mem_cons.2 ⟨⟨Tryz.f140, Tryz.func140, ok_ref01_Mul, by kernel_rfl⟩, 
  List.forall_mem_cons.2 ⟨⟨Tryz.f171, Tryz.func171, ok_ref01_BitLen, by kernel_rfl⟩, 
  List.forall_mem_cons.2 ⟨⟨Tryz.f172, Tryz.func172, ok_ref01_Shift, by kernel_rfl⟩, 
  List.forall_mem_cons.2 ⟨⟨Tryz.f170, Tryz.func170, ok_ref01_small, by kernel_rfl⟩, 
  List.forall_mem_cons.2 ⟨⟨Tryz.f160, Tryz.func160, ok_ref01_DivMod, by kernel_rfl⟩, 
  List.forall_mem_cons.2 ⟨⟨Tryz.f159, Tryz.func159, ok_ref01_Gcd, by kernel_rfl⟩, 
  List.forall_mem_cons.2 ⟨⟨Tryz.f132, Tryz.func132, ok_ref02_Trim, by kernel_rfl⟩, 
  List.forall_mem_cons.2 ⟨⟨Tryz.f93, Tryz.func93, ok_ref02_Of, by kernel_rfl⟩, 
  List.forall_mem_cons.2 ⟨⟨Tryz.f128, Tryz.func128, ok_ref02_Sign, by kernel_rfl⟩, 
  List.forall_mem_cons.2 ⟨⟨Tryz.f136, Tryz.func136, ok_ref02_Neg, by kernel_rfl⟩, 
  List.forall_mem_cons.2 ⟨⟨Tryz.f96, Tryz.func96, ok_ref02_Add, by kernel_rfl⟩, 
  List.forall_mem_cons.2 ⟨⟨Tryz.f141, Tryz.func141, ok_ref02_Sub, by kernel_rfl⟩, 
  List.forall_mem_cons.2 ⟨⟨Tryz.f98, Tryz.func98, ok_ref02_Compare, by kernel_rfl⟩, 
  List.forall_mem_cons.2 ⟨⟨Tryz.f97, Tryz.func97, ok_ref02_Mul, by kernel_rfl⟩, 
  List.forall_mem_cons.2 ⟨⟨Tryz.f135, Tryz.func135, ok_ref02_Div, by kernel_rfl⟩, 
  List.forall_mem_cons.2 ⟨⟨Tryz.f134, Tryz.func134, ok_ref02_Gcd, by kernel_rfl⟩, 
  List.forall_mem_cons.2 ⟨⟨Tryz.f95, Tryz.func95, ok_ref03_reduce, by kernel_rfl⟩, 
  List.forall_mem_cons.2 ⟨⟨Tryz.f94, Tryz.func94, ok_ref03_parts, by kernel_rfl⟩, 
  List.forall_mem_cons.2 ⟨⟨Tryz.f38, Tryz.func38, ok_ref03_Of, by kernel_rfl⟩, 
  List.forall_mem_cons.2 ⟨⟨Tryz.f39, Tryz.func39, ok_ref03_Add, by kernel_rfl⟩, 
  List.forall_mem_cons.2 ⟨⟨Tryz.f41, Tryz.func41, ok_ref03_Compare, by kernel_rfl⟩, 
  List.forall_mem_cons.2 ⟨⟨Tryz.f31, Tryz.func31, ok_ref21_SameRats, by kernel_rfl⟩, 
  List.forall_mem_cons.2 ⟨⟨Tryz.f32, Tryz.func32, ok_network_Sound, by kernel_rfl⟩, 
  List.forall_mem_cons.2 ⟨⟨Tryz.f92, Tryz.func92, ok_network_zeros, by kernel_rfl⟩, 
  List.forall_mem_cons.2 ⟨⟨Tryz.f81, Tryz.func81, ok_network_product, by kernel_rfl⟩, 
  List.forall_mem_cons.2 ⟨⟨Tryz.f44, Tryz.func44, ok_network_Respond, by kernel_rfl⟩, 
  List.forall_mem_cons.2 ⟨⟨Tryz.f67, Tryz.func67, ok_network_spread, by kernel_rfl⟩, 
  List.forall_mem_cons.2 ⟨⟨Tryz.f68, Tryz.func68, ok_network_zero, by kernel_rfl⟩, 
  List.forall_mem_cons.2 ⟨⟨Tryz.f22, Tryz.func22, ok_network_Linear, by kernel_rfl⟩, 
  List.forall_mem_cons.2 ⟨⟨Tryz.f49, Tryz.func49, ok_world_Ints, by kernel_rfl⟩, 
  List.forall_mem_cons.2 ⟨⟨Tryz.f21, Tryz.func21, ok_world_Raw_Net, by kernel_rfl⟩, 
  List.forall_mem_cons.2 ⟨⟨Tryz.f48, Tryz.func48, ok_network_Run, by kernel_rfl⟩, 
  List.forall_mem_cons.2 ⟨⟨Tryz.f127, Tryz.func127, ok_rational_flip, by kernel_rfl⟩, 
  List.forall_mem_cons.2 ⟨⟨Tryz.f77, Tryz.func77, ok_rational_Sub, by kernel_rfl⟩, 
  List.forall_mem_cons.2 ⟨⟨Tryz.f27, Tryz.func27, ok_network_Errors, by kernel_rfl⟩, 
  List.forall_mem_cons.2 ⟨⟨Tryz.f24, Tryz.func24, ok_network_Inject, by kernel_rfl⟩, 
  List.forall_mem_cons.2 ⟨⟨Tryz.f7, Tryz.func7, ok_law22_NetworkErrorsAddUp, by kernel_rfl⟩, 
  List.forall_mem_nil _⟩⟩⟩⟩⟩⟩⟩⟩⟩⟩⟩⟩⟩⟩⟩⟩⟩⟩⟩⟩⟩⟩⟩⟩⟩⟩⟩⟩⟩⟩⟩⟩⟩⟩⟩⟩⟩⟩⟩⟩⟩⟩⟩⟩⟩⟩⟩⟩⟩⟩⟩⟩⟩⟩⟩⟩⟩⟩⟩⟩⟩⟩⟩⟩⟩⟩⟩⟩⟩⟩⟩⟩⟩⟩⟩⟩⟩⟩⟩⟩⟩⟩⟩⟩⟩⟩⟩⟩⟩⟩⟩⟩⟩⟩⟩⟩⟩⟩⟩⟩⟩⟩⟩⟩⟩⟩⟩⟩⟩⟩)
theorem hasFixed : F.FixedLib L := { fixed_mode := rfl, fixed_Valid := rfl, fixed_Low := rfl, fixed_High := rfl, fixed_Fits := rfl, fixed_Shift := rfl, fixed_Wrap := rfl, fixed_Saturate := rfl, fixed_Reduce := rfl, ref21_In := rfl, ref21_Valid := rfl, ref21_Low := rfl, ref21_High := rfl }
theorem hasNet : F.NetLib L := { hasFixed with network_Valid := rfl, network_wrong := rfl, network_compute := rfl, network_Values := rfl, network_follow := rfl, network_Step := rfl, law22_known := rfl }
theorem hasWorld : F.WorldLib L := { hasFixed with world_Within := rfl, world_At := rfl, world_Word := rfl, world_Data := rfl, world_Coef := rfl, world_Words := rfl }
theorem hasNatG : F.NatGLib L := { cmp_isNaN_int := rfl, cmp_isNaN_uint32 := rfl, cmp_Compare_int := rfl, cmp_Compare_uint32 := rfl, slices_Clone_uint32_uint32 := rfl, math_bits_Len32 := rfl, math_bits_LeadingZeros32 := rfl, nat_cut := rfl, nat_Trim := rfl, nat_Compare := rfl, nat_Add := rfl, nat_Sub := rfl, nat_Mul := rfl, nat_lift := rfl, nat_lower := rfl, nat_digit := rfl, nat_divide := rfl, nat_DivMod := rfl, nat_small := rfl, nat_leading_1 := rfl, nat_leading := rfl, nat_cofactors := rfl, nat_combine := rfl, nat_shorten := rfl, nat_Gcd := rfl }
theorem hasRatG : F.RatGLib L := { hasNatG with integer_signed := rfl, integer_Trim := rfl, integer_Of := rfl, integer_Sign := rfl, integer_Add := rfl, integer_Mul := rfl, rational_read := rfl, rational_isOne := rfl, rational_natural := rfl, rational_whole := rfl, rational_quotient := rfl, rational_pair_lowest := rfl, rational_Trim := rfl, rational_Of := rfl, rational_Sign := rfl, rational_Add := rfl, rational_Mul := rfl, rational_Div := rfl }
theorem hasRefG : F.RefGLib L := { ref01_Trim := rfl, ref01_Compare := rfl, ref01_Add := rfl, ref01_Sub := rfl, ref01_Mul := rfl, ref01_BitLen := rfl, ref01_Shift := rfl, ref01_small := rfl, ref01_DivMod := rfl, ref01_Gcd := rfl, ref02_Trim := rfl, ref02_Of := rfl, ref02_Sign := rfl, ref02_Neg := rfl, ref02_Add := rfl, ref02_Sub := rfl, ref02_Compare := rfl, ref02_Mul := rfl, ref02_Div := rfl, ref02_Gcd := rfl, ref03_reduce := rfl, ref03_parts := rfl, ref03_Of := rfl, ref03_Add := rfl, ref03_Compare := rfl, ref21_SameRats := rfl }
theorem hasSysG : F.SysGLib L := { hasRatG, hasRefG with network_Sound := rfl, network_zeros := rfl, network_product := rfl, network_Respond := rfl }
theorem hasLinG : F.LinGLib L := { hasSysG, hasNet with network_spread := rfl, network_zero := rfl, network_Linear := rfl }
theorem hasIntsG : F.IntsGLib L := { hasRefG with world_Ints := rfl }
theorem hasRunG : F.RunGLib L := { hasNet, hasWorld with world_Raw_Net := rfl, network_Run := rfl }
theorem hasRatH : F.RatHLib L := { hasRatG with rational_flip := rfl, rational_Sub := rfl }
theorem hasRefH : F.RefHLib L := { hasRefG with  }
theorem hasModG : F.ModGLib L := { hasLinG, hasRatH, hasRefH with network_Errors := rfl, network_Inject := rfl }
theorem hasLawA : F.LawALib L := { hasModG, hasIntsG, hasRunG with law22_NetworkErrorsAddUp := rfl }

end Go.Proofs.YtdehnieflanifaaGreat

