/-
  The functions of the groups are the program's own: checked by the kernel, function by function.
-/
import Derived.Test.YtdgodemmncmlaaaGreatProg
import Derived.KernelRfl
import Derived.Test.YtdgodemmncmlaaaGreatB3
import Derived.Test.YtdgodemmncmlaaaGreatB4
set_option linter.unusedSimpArgs false
set_option linter.unusedVariables false
set_option linter.unnecessarySimpa false












namespace Go.Proofs.YtdgodemmncmlaaaGreat
open Go.Eng

def num : Nat → Nat
  | 34 => 17
  | 35 => 72
  | 58 => 182
  | 59 => 183
  | 60 => 159
  | 61 => 160
  | 62 => 178
  | 63 => 203
  | 64 => 194
  | 65 => 152
  | 66 => 151
  | 67 => 116
  | 68 => 157
  | 69 => 158
  | 70 => 111
  | 71 => 195
  | 72 => 197
  | 73 => 196
  | 74 => 179
  | 75 => 153
  | 76 => 181
  | 77 => 204
  | 78 => 199
  | 79 => 198
  | 80 => 200
  | 81 => 180
  | 82 => 155
  | 83 => 150
  | 84 => 154
  | 85 => 107
  | 86 => 149
  | 87 => 115
  | 88 => 110
  | 89 => 109
  | 90 => 156
  | 91 => 117
  | 92 => 106
  | 93 => 118
  | 94 => 112
  | 95 => 84
  | 96 => 47
  | 97 => 105
  | 98 => 62
  | 99 => 49
  | 101 => 126
  | 102 => 174
  | 103 => 165
  | 104 => 166
  | 105 => 127
  | 106 => 186
  | 107 => 187
  | 108 => 185
  | 109 => 164
  | 110 => 163
  | 111 => 125
  | 112 => 71
  | 113 => 122
  | 114 => 114
  | 115 => 136
  | 116 => 161
  | 117 => 120
  | 118 => 74
  | 119 => 124
  | 120 => 123
  | 121 => 70
  | 122 => 73
  | 123 => 102
  | 124 => 25
  | 125 => 21
  | 126 => 90
  | 127 => 67
  | 128 => 24
  | 129 => 40
  | 130 => 58
  | 131 => 98
  | 132 => 60
  | 145 => 59
  | 149 => 108
  | 150 => 50
  | 151 => 63
  | 152 => 55
  | 153 => 56
  | 155 => 101
  | 156 => 202
  | 157 => 201
  | 158 => 184
  | 159 => 162
  | 169 => 119
  | 170 => 66
  | 171 => 41
  | 172 => 121
  | 173 => 68
  | 188 => 61
  | 189 => 13
  | 191 => 64
  | 190 => 65
  | 192 => 113
  | 141 => 42
  | 167 => 15
  | 176 => 16
  | 197 => 148
  | 198 => 104
  | 199 => 48
  | 200 => 103
  | 201 => 43
  | 202 => 52
  | 203 => 51
  | 204 => 44
  | 205 => 45
  | 206 => 46
  | 207 => 9
  | 208 => 11
  | 209 => 53
  | 210 => 54
  | 211 => 10
  | 212 => 57
  | 213 => 12
  | 214 => 8
  | 215 => 14
  | 216 => 3
  | _ => 0
theorem ok_world_Within : okFn Tryz.prog num Tryz.f17 F.world_Within = true := by kernel_rfl
theorem ok_world_At : okFn Tryz.prog num Tryz.f72 F.world_At = true := by kernel_rfl
theorem ok_cmp_isNaN_int : okFn Tryz.prog num Tryz.f182 F.cmp_isNaN_int = true := by kernel_rfl
theorem ok_cmp_isNaN_uint32 : okFn Tryz.prog num Tryz.f183 F.cmp_isNaN_uint32 = true := by kernel_rfl
theorem ok_cmp_Compare_int : okFn Tryz.prog num Tryz.f159 F.cmp_Compare_int = true := by kernel_rfl
theorem ok_cmp_Compare_uint32 : okFn Tryz.prog num Tryz.f160 F.cmp_Compare_uint32 = true := by kernel_rfl
theorem ok_slices_Clone_uint32_uint32 : okFn Tryz.prog num Tryz.f178 F.slices_Clone_uint32_uint32 = true := by kernel_rfl
theorem ok_math_bits_Len32 : okFn Tryz.prog num Tryz.f203 F.math_bits_Len32 = true := by kernel_rfl
theorem ok_math_bits_LeadingZeros32 : okFn Tryz.prog num Tryz.f194 F.math_bits_LeadingZeros32 = true := by kernel_rfl
theorem ok_nat_cut : okFn Tryz.prog num Tryz.f152 F.nat_cut = true := by kernel_rfl
theorem ok_nat_Trim : okFn Tryz.prog num Tryz.f151 F.nat_Trim = true := by kernel_rfl
theorem ok_nat_Compare : okFn Tryz.prog num Tryz.f116 F.nat_Compare = true := by kernel_rfl
theorem ok_nat_Add : okFn Tryz.prog num Tryz.f157 F.nat_Add = true := by kernel_rfl
theorem ok_nat_Sub : okFn Tryz.prog num Tryz.f158 F.nat_Sub = true := by kernel_rfl
theorem ok_nat_Mul : okFn Tryz.prog num Tryz.f111 F.nat_Mul = true := by kernel_rfl
theorem ok_nat_lift : okFn Tryz.prog num Tryz.f195 F.nat_lift = true := by kernel_rfl
theorem ok_nat_lower : okFn Tryz.prog num Tryz.f197 F.nat_lower = true := by kernel_rfl
theorem ok_nat_digit : okFn Tryz.prog num Tryz.f196 F.nat_digit = true := by kernel_rfl
theorem ok_nat_divide : okFn Tryz.prog num Tryz.f179 F.nat_divide = true := by kernel_rfl
theorem ok_nat_DivMod : okFn Tryz.prog num Tryz.f153 F.nat_DivMod = true := by kernel_rfl
theorem ok_nat_small : okFn Tryz.prog num Tryz.f181 F.nat_small = true := by kernel_rfl
theorem ok_nat_leading_1 : okFn Tryz.prog num Tryz.f204 F.nat_leading_1 = true := by kernel_rfl
theorem ok_nat_leading : okFn Tryz.prog num Tryz.f199 F.nat_leading = true := by kernel_rfl
theorem ok_nat_cofactors : okFn Tryz.prog num Tryz.f198 F.nat_cofactors = true := by kernel_rfl
theorem ok_nat_combine : okFn Tryz.prog num Tryz.f200 F.nat_combine = true := by kernel_rfl
theorem ok_nat_shorten : okFn Tryz.prog num Tryz.f180 F.nat_shorten = true := by kernel_rfl
theorem ok_nat_Gcd : okFn Tryz.prog num Tryz.f155 F.nat_Gcd = true := by kernel_rfl
theorem ok_integer_signed : okFn Tryz.prog num Tryz.f150 F.integer_signed = true := by kernel_rfl
theorem ok_integer_Trim : okFn Tryz.prog num Tryz.f154 F.integer_Trim = true := by kernel_rfl
theorem ok_integer_Of : okFn Tryz.prog num Tryz.f107 F.integer_Of = true := by kernel_rfl
theorem ok_integer_Sign : okFn Tryz.prog num Tryz.f149 F.integer_Sign = true := by kernel_rfl
theorem ok_integer_Add : okFn Tryz.prog num Tryz.f115 F.integer_Add = true := by kernel_rfl
theorem ok_integer_Mul : okFn Tryz.prog num Tryz.f110 F.integer_Mul = true := by kernel_rfl
theorem ok_rational_read : okFn Tryz.prog num Tryz.f109 F.rational_read = true := by kernel_rfl
theorem ok_rational_isOne : okFn Tryz.prog num Tryz.f156 F.rational_isOne = true := by kernel_rfl
theorem ok_rational_natural : okFn Tryz.prog num Tryz.f117 F.rational_natural = true := by kernel_rfl
theorem ok_rational_whole : okFn Tryz.prog num Tryz.f106 F.rational_whole = true := by kernel_rfl
theorem ok_rational_quotient : okFn Tryz.prog num Tryz.f118 F.rational_quotient = true := by kernel_rfl
theorem ok_rational_pair_lowest : okFn Tryz.prog num Tryz.f112 F.rational_pair_lowest = true := by kernel_rfl
theorem ok_rational_Trim : okFn Tryz.prog num Tryz.f84 F.rational_Trim = true := by kernel_rfl
theorem ok_rational_Of : okFn Tryz.prog num Tryz.f47 F.rational_Of = true := by kernel_rfl
theorem ok_rational_Sign : okFn Tryz.prog num Tryz.f105 F.rational_Sign = true := by kernel_rfl
theorem ok_rational_Add : okFn Tryz.prog num Tryz.f62 F.rational_Add = true := by kernel_rfl
theorem ok_rational_Mul : okFn Tryz.prog num Tryz.f49 F.rational_Mul = true := by kernel_rfl
theorem ok_ref01_Trim : okFn Tryz.prog num Tryz.f126 F.ref01_Trim = true := by kernel_rfl
theorem ok_ref01_Compare : okFn Tryz.prog num Tryz.f174 F.ref01_Compare = true := by kernel_rfl
theorem ok_ref01_Add : okFn Tryz.prog num Tryz.f165 F.ref01_Add = true := by kernel_rfl
theorem ok_ref01_Sub : okFn Tryz.prog num Tryz.f166 F.ref01_Sub = true := by kernel_rfl
theorem ok_ref01_Mul : okFn Tryz.prog num Tryz.f127 F.ref01_Mul = true := by kernel_rfl
theorem ok_ref01_BitLen : okFn Tryz.prog num Tryz.f186 F.ref01_BitLen = true := by kernel_rfl
theorem ok_ref01_Shift : okFn Tryz.prog num Tryz.f187 F.ref01_Shift = true := by kernel_rfl
theorem ok_ref01_small : okFn Tryz.prog num Tryz.f185 F.ref01_small = true := by kernel_rfl
theorem ok_ref01_DivMod : okFn Tryz.prog num Tryz.f164 F.ref01_DivMod = true := by kernel_rfl
theorem ok_ref01_Gcd : okFn Tryz.prog num Tryz.f163 F.ref01_Gcd = true := by kernel_rfl
theorem ok_ref02_Trim : okFn Tryz.prog num Tryz.f125 F.ref02_Trim = true := by kernel_rfl
theorem ok_ref02_Of : okFn Tryz.prog num Tryz.f71 F.ref02_Of = true := by kernel_rfl
theorem ok_ref02_Sign : okFn Tryz.prog num Tryz.f122 F.ref02_Sign = true := by kernel_rfl
theorem ok_ref02_Neg : okFn Tryz.prog num Tryz.f114 F.ref02_Neg = true := by kernel_rfl
theorem ok_ref02_Add : okFn Tryz.prog num Tryz.f136 F.ref02_Add = true := by kernel_rfl
theorem ok_ref02_Sub : okFn Tryz.prog num Tryz.f161 F.ref02_Sub = true := by kernel_rfl
theorem ok_ref02_Compare : okFn Tryz.prog num Tryz.f120 F.ref02_Compare = true := by kernel_rfl
theorem ok_ref02_Mul : okFn Tryz.prog num Tryz.f74 F.ref02_Mul = true := by kernel_rfl
theorem ok_ref02_Div : okFn Tryz.prog num Tryz.f124 F.ref02_Div = true := by kernel_rfl
theorem ok_ref02_Gcd : okFn Tryz.prog num Tryz.f123 F.ref02_Gcd = true := by kernel_rfl
theorem ok_ref03_reduce : okFn Tryz.prog num Tryz.f70 F.ref03_reduce = true := by kernel_rfl
theorem ok_ref03_parts : okFn Tryz.prog num Tryz.f73 F.ref03_parts = true := by kernel_rfl
theorem ok_ref03_Trim : okFn Tryz.prog num Tryz.f102 F.ref03_Trim = true := by kernel_rfl
theorem ok_ref03_Of : okFn Tryz.prog num Tryz.f25 F.ref03_Of = true := by kernel_rfl
theorem ok_ref03_Frac : okFn Tryz.prog num Tryz.f21 F.ref03_Frac = true := by kernel_rfl
theorem ok_ref03_Add : okFn Tryz.prog num Tryz.f90 F.ref03_Add = true := by kernel_rfl
theorem ok_ref03_Compare : okFn Tryz.prog num Tryz.f67 F.ref03_Compare = true := by kernel_rfl
theorem ok_ref03_Mul : okFn Tryz.prog num Tryz.f24 F.ref03_Mul = true := by kernel_rfl
theorem ok_ref21_SameRats : okFn Tryz.prog num Tryz.f40 F.ref21_SameRats = true := by kernel_rfl
theorem ok_network_Sound : okFn Tryz.prog num Tryz.f58 F.network_Sound = true := by kernel_rfl
theorem ok_network_zeros : okFn Tryz.prog num Tryz.f98 F.network_zeros = true := by kernel_rfl
theorem ok_network_product : okFn Tryz.prog num Tryz.f60 F.network_product = true := by kernel_rfl
theorem ok_network_zero : okFn Tryz.prog num Tryz.f59 F.network_zero = true := by kernel_rfl
theorem ok_rational_flip : okFn Tryz.prog num Tryz.f108 F.rational_flip = true := by kernel_rfl
theorem ok_rational_Sub : okFn Tryz.prog num Tryz.f50 F.rational_Sub = true := by kernel_rfl
theorem ok_rational_Frac : okFn Tryz.prog num Tryz.f63 F.rational_Frac = true := by kernel_rfl
theorem ok_ref03_Neg : okFn Tryz.prog num Tryz.f55 F.ref03_Neg = true := by kernel_rfl
theorem ok_ref03_Sub : okFn Tryz.prog num Tryz.f56 F.ref03_Sub = true := by kernel_rfl
theorem ok_ref03_Sign : okFn Tryz.prog num Tryz.f101 F.ref03_Sign = true := by kernel_rfl
theorem ok_ref01_Same : okFn Tryz.prog num Tryz.f202 F.ref01_Same = true := by kernel_rfl
theorem ok_ref02_Same : okFn Tryz.prog num Tryz.f201 F.ref02_Same = true := by kernel_rfl
theorem ok_ref03_Same : okFn Tryz.prog num Tryz.f184 F.ref03_Same = true := by kernel_rfl
theorem ok_ref03_SameList : okFn Tryz.prog num Tryz.f162 F.ref03_SameList = true := by kernel_rfl
theorem ok_poly_cut : okFn Tryz.prog num Tryz.f119 F.poly_cut = true := by kernel_rfl
theorem ok_poly_Trim : okFn Tryz.prog num Tryz.f66 F.poly_Trim = true := by kernel_rfl
theorem ok_ref05_Trim : okFn Tryz.prog num Tryz.f41 F.ref05_Trim = true := by kernel_rfl
theorem ok_ref05_Equal : okFn Tryz.prog num Tryz.f121 F.ref05_Equal = true := by kernel_rfl
theorem ok_ref05_Same : okFn Tryz.prog num Tryz.f68 F.ref05_Same = true := by kernel_rfl
theorem ok_network_times : okFn Tryz.prog num Tryz.f61 F.network_times = true := by kernel_rfl
theorem ok_network_Transfer : okFn Tryz.prog num Tryz.f13 F.network_Transfer = true := by kernel_rfl
theorem ok_poly_Add : okFn Tryz.prog num Tryz.f64 F.poly_Add = true := by kernel_rfl
theorem ok_poly_Scale : okFn Tryz.prog num Tryz.f65 F.poly_Scale = true := by kernel_rfl
theorem ok_ref05_At : okFn Tryz.prog num Tryz.f113 F.ref05_At = true := by kernel_rfl
theorem ok_world_Rats : okFn Tryz.prog num Tryz.f42 F.world_Rats = true := by kernel_rfl
theorem ok_ref22_SameSystems : okFn Tryz.prog num Tryz.f15 F.ref22_SameSystems = true := by kernel_rfl
theorem ok_ref22_SameFilters : okFn Tryz.prog num Tryz.f16 F.ref22_SameFilters = true := by kernel_rfl
theorem ok_integer_Compare : okFn Tryz.prog num Tryz.f148 F.integer_Compare = true := by kernel_rfl
theorem ok_rational_Compare : okFn Tryz.prog num Tryz.f104 F.rational_Compare = true := by kernel_rfl
theorem ok_rational_Neg : okFn Tryz.prog num Tryz.f48 F.rational_Neg = true := by kernel_rfl
theorem ok_poly_Degree : okFn Tryz.prog num Tryz.f103 F.poly_Degree = true := by kernel_rfl
theorem ok_response_Valid : okFn Tryz.prog num Tryz.f43 F.response_Valid = true := by kernel_rfl
theorem ok_ref05_Degree : okFn Tryz.prog num Tryz.f52 F.ref05_Degree = true := by kernel_rfl
theorem ok_ref20_Valid : okFn Tryz.prog num Tryz.f51 F.ref20_Valid = true := by kernel_rfl
theorem ok_statespace_degree : okFn Tryz.prog num Tryz.f44 F.statespace_degree = true := by kernel_rfl
theorem ok_statespace_at : okFn Tryz.prog num Tryz.f45 F.statespace_at = true := by kernel_rfl
theorem ok_statespace_zeros : okFn Tryz.prog num Tryz.f46 F.statespace_zeros = true := by kernel_rfl
theorem ok_statespace_Controller : okFn Tryz.prog num Tryz.f9 F.statespace_Controller = true := by kernel_rfl
theorem ok_statespace_Observer : okFn Tryz.prog num Tryz.f11 F.statespace_Observer = true := by kernel_rfl
theorem ok_ref27_at : okFn Tryz.prog num Tryz.f53 F.ref27_at = true := by kernel_rfl
theorem ok_ref27_zeros : okFn Tryz.prog num Tryz.f54 F.ref27_zeros = true := by kernel_rfl
theorem ok_ref27_Controller : okFn Tryz.prog num Tryz.f10 F.ref27_Controller = true := by kernel_rfl
theorem ok_ref27_transposed : okFn Tryz.prog num Tryz.f57 F.ref27_transposed = true := by kernel_rfl
theorem ok_ref27_Observer : okFn Tryz.prog num Tryz.f12 F.ref27_Observer = true := by kernel_rfl
theorem ok_law27_filter : okFn Tryz.prog num Tryz.f8 F.law27_filter = true := by kernel_rfl
theorem ok_law27_known : okFn Tryz.prog num Tryz.f14 F.law27_known = true := by kernel_rfl
theorem ok_law27_StatespaceForms : okFn Tryz.prog num Tryz.f3 F.law27_StatespaceForms = true := by kernel_rfl

def lib : List (Nat × AFn) := [(34, F.world_Within), (35, F.world_At), (58, F.cmp_isNaN_int), (59, F.cmp_isNaN_uint32), (60, F.cmp_Compare_int), (61, F.cmp_Compare_uint32), (62, F.slices_Clone_uint32_uint32), (63, F.math_bits_Len32), (64, F.math_bits_LeadingZeros32), (65, F.nat_cut), (66, F.nat_Trim), (67, F.nat_Compare), (68, F.nat_Add), (69, F.nat_Sub), (70, F.nat_Mul), (71, F.nat_lift), (72, F.nat_lower), (73, F.nat_digit), (74, F.nat_divide), (75, F.nat_DivMod), (76, F.nat_small), (77, F.nat_leading_1), (78, F.nat_leading), (79, F.nat_cofactors), (80, F.nat_combine), (81, F.nat_shorten), (82, F.nat_Gcd), (83, F.integer_signed), (84, F.integer_Trim), (85, F.integer_Of), (86, F.integer_Sign), (87, F.integer_Add), (88, F.integer_Mul), (89, F.rational_read), (90, F.rational_isOne), (91, F.rational_natural), (92, F.rational_whole), (93, F.rational_quotient), (94, F.rational_pair_lowest), (95, F.rational_Trim), (96, F.rational_Of), (97, F.rational_Sign), (98, F.rational_Add), (99, F.rational_Mul), (101, F.ref01_Trim), (102, F.ref01_Compare), (103, F.ref01_Add), (104, F.ref01_Sub), (105, F.ref01_Mul), (106, F.ref01_BitLen), (107, F.ref01_Shift), (108, F.ref01_small), (109, F.ref01_DivMod), (110, F.ref01_Gcd), (111, F.ref02_Trim), (112, F.ref02_Of), (113, F.ref02_Sign), (114, F.ref02_Neg), (115, F.ref02_Add), (116, F.ref02_Sub), (117, F.ref02_Compare), (118, F.ref02_Mul), (119, F.ref02_Div), (120, F.ref02_Gcd), (121, F.ref03_reduce), (122, F.ref03_parts), (123, F.ref03_Trim), (124, F.ref03_Of), (125, F.ref03_Frac), (126, F.ref03_Add), (127, F.ref03_Compare), (128, F.ref03_Mul), (129, F.ref21_SameRats), (130, F.network_Sound), (131, F.network_zeros), (132, F.network_product), (145, F.network_zero), (149, F.rational_flip), (150, F.rational_Sub), (151, F.rational_Frac), (152, F.ref03_Neg), (153, F.ref03_Sub), (155, F.ref03_Sign), (156, F.ref01_Same), (157, F.ref02_Same), (158, F.ref03_Same), (159, F.ref03_SameList), (169, F.poly_cut), (170, F.poly_Trim), (171, F.ref05_Trim), (172, F.ref05_Equal), (173, F.ref05_Same), (188, F.network_times), (189, F.network_Transfer), (191, F.poly_Add), (190, F.poly_Scale), (192, F.ref05_At), (141, F.world_Rats), (167, F.ref22_SameSystems), (176, F.ref22_SameFilters), (197, F.integer_Compare), (198, F.rational_Compare), (199, F.rational_Neg), (200, F.poly_Degree), (201, F.response_Valid), (202, F.ref05_Degree), (203, F.ref20_Valid), (204, F.statespace_degree), (205, F.statespace_at), (206, F.statespace_zeros), (207, F.statespace_Controller), (208, F.statespace_Observer), (209, F.ref27_at), (210, F.ref27_zeros), (211, F.ref27_Controller), (212, F.ref27_transposed), (213, F.ref27_Observer), (214, F.law27_filter), (215, F.law27_known), (216, F.law27_StatespaceForms)]
def L : Lib := ⟨fun f => lib.lookup f, num⟩
set_option maxRecDepth 100000 in
theorem progOK : ProgOK Tryz.prog num L := progOK_of lib (
  List.forall_mem_cons.2 ⟨⟨Tryz.f17, Tryz.func17, ok_world_Within, by kernel_rfl⟩, 
  List.forall_mem_cons.2 ⟨⟨Tryz.f72, Tryz.func72, ok_world_At, by kernel_rfl⟩, 
  List.forall_mem_cons.2 ⟨⟨Tryz.f182, Tryz.func182, ok_cmp_isNaN_int, by kernel_rfl⟩, 
  List.forall_mem_cons.2 ⟨⟨Tryz.f183, Tryz.func183, ok_cmp_isNaN_uint32, by kernel_rfl⟩, 
  List.forall_mem_cons.2 ⟨⟨Tryz.f159, Tryz.func159, ok_cmp_Compare_int, by kernel_rfl⟩, 
  List.forall_mem_cons.2 ⟨⟨Tryz.f160, Tryz.func160, ok_cmp_Compare_uint32, by kernel_rfl⟩, 
  List.forall_mem_cons.2 ⟨⟨Tryz.f178, Tryz.func178, ok_slices_Clone_uint32_uint32, by kernel_rfl⟩, 
  List.forall_mem_cons.2 ⟨⟨Tryz.f203, Tryz.func203, ok_math_bits_Len32, by kernel_rfl⟩, 
  List.forall_mem_cons.2 ⟨⟨Tryz.f194, Tryz.func194, ok_math_bits_LeadingZeros32, by kernel_rfl⟩, 
  List.forall_mem_cons.2 ⟨⟨Tryz.f152, Tryz.func152, ok_nat_cut, by kernel_rfl⟩, 
  List.forall_mem_cons.2 ⟨⟨Tryz.f151, Tryz.func151, ok_nat_Trim, by kernel_rfl⟩, 
  List.forall_mem_cons.2 ⟨⟨Tryz.f116, Tryz.func116, ok_nat_Compare, by kernel_rfl⟩, 
  List.forall_mem_cons.2 ⟨⟨Tryz.f157, Tryz.func157, ok_nat_Add, by kernel_rfl⟩, 
  List.forall_mem_cons.2 ⟨⟨Tryz.f158, Tryz.func158, ok_nat_Sub, by kernel_rfl⟩, 
  List.forall_mem_cons.2 ⟨⟨Tryz.f111, Tryz.func111, ok_nat_Mul, by kernel_rfl⟩, 
  List.forall_mem_cons.2 ⟨⟨Tryz.f195, Tryz.func195, ok_nat_lift, by kernel_rfl⟩, 
  List.forall_mem_cons.2 ⟨⟨Tryz.f197, Tryz.func197, ok_nat_lower, by kernel_rfl⟩, 
  List.forall_mem_cons.2 ⟨⟨Tryz.f196, Tryz.func196, ok_nat_digit, by kernel_rfl⟩, 
  List.forall_mem_cons.2 ⟨⟨Tryz.f179, Tryz.func179, ok_nat_divide, by kernel_rfl⟩, 
  List.forall_mem_cons.2 ⟨⟨Tryz.f153, Tryz.func153, ok_nat_DivMod, by kernel_rfl⟩, 
  List.forall_mem_cons.2 ⟨⟨Tryz.f181, Tryz.func181, ok_nat_small, by kernel_rfl⟩, 
  List.forall_mem_cons.2 ⟨⟨Tryz.f204, Tryz.func204, ok_nat_leading_1, by kernel_rfl⟩, 
  List.forall_mem_cons.2 ⟨⟨Tryz.f199, Tryz.func199, ok_nat_leading, by kernel_rfl⟩, 
  List.forall_mem_cons.2 ⟨⟨Tryz.f198, Tryz.func198, ok_nat_cofactors, by kernel_rfl⟩, 
  List.forall_mem_cons.2 ⟨⟨Tryz.f200, Tryz.func200, ok_nat_combine, by kernel_rfl⟩, 
  List.forall_mem_cons.2 ⟨⟨Tryz.f180, Tryz.func180, ok_nat_shorten, by kernel_rfl⟩, 
  List.forall_mem_cons.2 ⟨⟨Tryz.f155, Tryz.func155, ok_nat_Gcd, by kernel_rfl⟩, 
  List.forall_mem_cons.2 ⟨⟨Tryz.f150, Tryz.func150, ok_integer_signed, by kernel_rfl⟩, 
  List.forall_mem_cons.2 ⟨⟨Tryz.f154, Tryz.func154, ok_integer_Trim, by kernel_rfl⟩, 
  List.forall_mem_cons.2 ⟨⟨Tryz.f107, Tryz.func107, ok_integer_Of, by kernel_rfl⟩, 
  List.forall_mem_cons.2 ⟨⟨Tryz.f149, Tryz.func149, ok_integer_Sign, by kernel_rfl⟩, 
  List.forall_mem_cons.2 ⟨⟨Tryz.f115, Tryz.func115, ok_integer_Add, by kernel_rfl⟩, 
  List.forall_mem_cons.2 ⟨⟨Tryz.f110, Tryz.func110, ok_integer_Mul, by kernel_rfl⟩, 
  List.forall_mem_cons.2 ⟨⟨Tryz.f109, Tryz.func109, ok_rational_read, by kernel_rfl⟩, 
  List.forall_mem_cons.2 ⟨⟨Tryz.f156, Tryz.func156, ok_rational_isOne, by kernel_rfl⟩, 
  List.forall_mem_cons.2 ⟨⟨Tryz.f117, Tryz.func117, ok_rational_natural, by kernel_rfl⟩, 
  List.forall_mem_cons.2 ⟨⟨Tryz.f106, Tryz.func106, ok_rational_whole, by kernel_rfl⟩, 
  List.forall_mem_cons.2 ⟨⟨Tryz.f118, Tryz.func118, ok_rational_quotient, by kernel_rfl⟩, 
  List.forall_mem_cons.2 ⟨⟨Tryz.f112, Tryz.func112, ok_rational_pair_lowest, by kernel_rfl⟩, 
  List.forall_mem_cons.2 ⟨⟨Tryz.f84, Tryz.func84, ok_rational_Trim, by kernel_rfl⟩, 
  List.forall_mem_cons.2 ⟨⟨Tryz.f47, Tryz.func47, ok_rational_Of, by kernel_rfl⟩, 
  List.forall_mem_cons.2 ⟨⟨Tryz.f105, Tryz.func105, ok_rational_Sign, by kernel_rfl⟩, 
  List.forall_mem_cons.2 ⟨⟨Tryz.f62, Tryz.func62, ok_rational_Add, by kernel_rfl⟩, 
  List.forall_mem_cons.2 ⟨⟨Tryz.f49, Tryz.func49, ok_rational_Mul, by kernel_rfl⟩, 
  List.forall_mem_cons.2 ⟨⟨Tryz.f126, Tryz.func126, ok_ref01_Trim, by kernel_rfl⟩, 
  List.forall_mem_cons.2 ⟨⟨Tryz.f174, Tryz.func174, ok_ref01_Compare, by kernel_rfl⟩, 
  List.forall_mem_cons.2 ⟨⟨Tryz.f165, Tryz.func165, ok_ref01_Add, by kernel_rfl⟩, 
  List.forall_mem_cons.2 ⟨⟨Tryz.f166, Tryz.func166, ok_ref01_Sub, by kernel_rfl⟩, 
  List.forall_mem_cons.2 ⟨⟨Tryz.f127, Tryz.func127, ok_ref01_Mul, by kernel_rfl⟩, 
  List.forall_mem_cons.2 ⟨⟨Tryz.f186, Tryz.func186, ok_ref01_BitLen, by kernel_rfl⟩, 
  List.forall_mem_cons.2 ⟨⟨Tryz.f187, Tryz.func187, ok_ref01_Shift, by kernel_rfl⟩, 
  List.forall_mem_cons.2 ⟨⟨Tryz.f185, Tryz.func185, ok_ref01_small, by kernel_rfl⟩, 
  List.forall_mem_cons.2 ⟨⟨Tryz.f164, Tryz.func164, ok_ref01_DivMod, by kernel_rfl⟩, 
  List.forall_mem_cons.2 ⟨⟨Tryz.f163, Tryz.func163, ok_ref01_Gcd, by kernel_rfl⟩, 
  List.forall_mem_cons.2 ⟨⟨Tryz.f125, Tryz.func125, ok_ref02_Trim, by kernel_rfl⟩, 
  List.forall_mem_cons.2 ⟨⟨Tryz.f71, Tryz.func71, ok_ref02_Of, by kernel_rfl⟩, 
  List.forall_mem_cons.2 ⟨⟨Tryz.f122, Tryz.func122, ok_ref02_Sign, by kernel_rfl⟩, 
  List.forall_mem_cons.2 ⟨⟨Tryz.f114, Tryz.func114, ok_ref02_Neg, by kernel_rfl⟩, 
  List.forall_mem_cons.2 ⟨⟨Tryz.f136, Tryz.func136, ok_ref02_Add, by kernel_rfl⟩, 
  List.forall_mem_cons.2 ⟨⟨Tryz.f161, Tryz.func161, ok_ref02_Sub, by kernel_rfl⟩, 
  List.forall_mem_cons.2 ⟨⟨Tryz.f120, Tryz.func120, ok_ref02_Compare, by kernel_rfl⟩, 
  List.forall_mem_cons.2 ⟨⟨Tryz.f74, Tryz.func74, ok_ref02_Mul, by kernel_rfl⟩, 
  List.forall_mem_cons.2 ⟨⟨Tryz.f124, Tryz.func124, ok_ref02_Div, by kernel_rfl⟩, 
  List.forall_mem_cons.2 ⟨⟨Tryz.f123, Tryz.func123, ok_ref02_Gcd, by kernel_rfl⟩, 
  List.forall_mem_cons.2 ⟨⟨Tryz.f70, Tryz.func70, ok_ref03_reduce, by kernel_rfl⟩, 
  List.forall_mem_cons.2 ⟨⟨Tryz.f73, Tryz.func73, ok_ref03_parts, by kernel_rfl⟩, 
  List.forall_mem_cons.2 ⟨⟨Tryz.f102, Tryz.func102, ok_ref03_Trim, by kernel_rfl⟩, 
  List.forall_mem_cons.2 ⟨⟨Tryz.f25, Tryz.func25, ok_ref03_Of, by kernel_rfl⟩, 
  List.forall_mem_cons.2 ⟨⟨Tryz.f21, Tryz.func21, ok_ref03_Frac, by kernel_rfl⟩, 
  List.forall_mem_cons.2 ⟨⟨Tryz.f90, Tryz.func90, ok_ref03_Add, by kernel_rfl⟩, 
  List.forall_mem_cons.2 ⟨⟨Tryz.f67, Tryz.func67, ok_ref03_Compare, by kernel_rfl⟩, 
  List.forall_mem_cons.2 ⟨⟨Tryz.f24, Tryz.func24, ok_ref03_Mul, by kernel_rfl⟩, 
  List.forall_mem_cons.2 ⟨⟨Tryz.f40, Tryz.func40, ok_ref21_SameRats, by kernel_rfl⟩, 
  List.forall_mem_cons.2 ⟨⟨Tryz.f58, Tryz.func58, ok_network_Sound, by kernel_rfl⟩, 
  List.forall_mem_cons.2 ⟨⟨Tryz.f98, Tryz.func98, ok_network_zeros, by kernel_rfl⟩, 
  List.forall_mem_cons.2 ⟨⟨Tryz.f60, Tryz.func60, ok_network_product, by kernel_rfl⟩, 
  List.forall_mem_cons.2 ⟨⟨Tryz.f59, Tryz.func59, ok_network_zero, by kernel_rfl⟩, 
  List.forall_mem_cons.2 ⟨⟨Tryz.f108, Tryz.func108, ok_rational_flip, by kernel_rfl⟩, 
  List.forall_mem_cons.2 ⟨⟨Tryz.f50, Tryz.func50, ok_rational_Sub, by kernel_rfl⟩, 
  List.forall_mem_cons.2 ⟨⟨Tryz.f63, Tryz.func63, ok_rational_Frac, by kernel_rfl⟩, 
  List.forall_mem_cons.2 ⟨⟨Tryz.f55, Tryz.func55, ok_ref03_Neg, by kernel_rfl⟩, 
  List.forall_mem_cons.2 ⟨⟨Tryz.f56, Tryz.func56, ok_ref03_Sub, by kernel_rfl⟩, 
  List.forall_mem_cons.2 ⟨⟨Tryz.f101, Tryz.func101, ok_ref03_Sign, by kernel_rfl⟩, 
  List.forall_mem_cons.2 ⟨⟨Tryz.f202, Tryz.func202, ok_ref01_Same, by kernel_rfl⟩, 
  List.forall_mem_cons.2 ⟨⟨Tryz.f201, Tryz.func201, ok_ref02_Same, by kernel_rfl⟩, 
  List.forall_mem_cons.2 ⟨⟨Tryz.f184, Tryz.func184, ok_ref03_Same, by kernel_rfl⟩, 
  List.forall_mem_cons.2 ⟨⟨Tryz.f162, Tryz.func162, ok_ref03_SameList, by kernel_rfl⟩, 
  List.forall_mem_cons.2 ⟨⟨Tryz.f119, Tryz.func119, ok_poly_cut, by kernel_rfl⟩, 
  List.forall_mem_cons.2 ⟨⟨Tryz.f66, Tryz.func66, ok_poly_Trim, by kernel_rfl⟩, 
  List.forall_mem_cons.2 ⟨⟨Tryz.f41, Tryz.func41, ok_ref05_Trim, by kernel_rfl⟩, 
  List.forall_mem_cons.2 ⟨⟨Tryz.f121, Tryz.func121, ok_ref05_Equal, by kernel_rfl⟩, 
  List.forall_mem_cons.2 ⟨⟨Tryz.f68, Tryz.func68, ok_ref05_Same, by kernel_rfl⟩, 
  List.forall_mem_cons.2 ⟨⟨Tryz.f61, Tryz.func61, ok_network_times, by kernel_rfl⟩, 
  List.forall_mem_cons.2 ⟨⟨Tryz.f13, Tryz.func13, ok_network_Transfer, by kernel_rfl⟩, 
  List.forall_mem_cons.2 ⟨⟨Tryz.f64, Tryz.func64, ok_poly_Add, by kernel_rfl⟩, 
  List.forall_mem_cons.2 ⟨⟨Tryz.f65, Tryz.func65, ok_poly_Scale, by kernel_rfl⟩, 
  List.forall_mem_cons.2 ⟨⟨Tryz.f113, Tryz.func113, ok_ref05_At, by kernel_rfl⟩, 
  List.forall_mem_cons.2 ⟨⟨Tryz.f42, Tryz.func42, ok_world_Rats, by kernel_rfl⟩, 
  List.forall_mem_cons.2 ⟨⟨Tryz.f15, Tryz.func15, ok_ref22_SameSystems, by kernel_rfl⟩, 
  List.forall_mem_cons.2 ⟨⟨Tryz.f16, Tryz.func16, ok_ref22_SameFilters, by kernel_rfl⟩, 
  List.forall_mem_cons.2 ⟨⟨Tryz.f148, Tryz.func148, ok_integer_Compare, by kernel_rfl⟩, 
  List.forall_mem_cons.2 ⟨⟨Tryz.f104, Tryz.func104, ok_rational_Compare, by kernel_rfl⟩, 
  List.forall_mem_cons.2 ⟨⟨Tryz.f48, Tryz.func48, ok_rational_Neg, by kernel_rfl⟩, 
  List.forall_mem_cons.2 ⟨⟨Tryz.f103, Tryz.func103, ok_poly_Degree, by kernel_rfl⟩, 
  List.forall_mem_cons.2 ⟨⟨Tryz.f43, Tryz.func43, ok_response_Valid, by kernel_rfl⟩, 
  List.forall_mem_cons.2 ⟨⟨Tryz.f52, Tryz.func52, ok_ref05_Degree, by kernel_rfl⟩, 
  List.forall_mem_cons.2 ⟨⟨Tryz.f51, Tryz.func51, ok_ref20_Valid, by kernel_rfl⟩, 
  List.forall_mem_cons.2 ⟨⟨Tryz.f44, Tryz.func44, ok_statespace_degree, by kernel_rfl⟩, 
  List.forall_mem_cons.2 ⟨⟨Tryz.f45, Tryz.func45, ok_statespace_at, by kernel_rfl⟩, 
  List.forall_mem_cons.2 ⟨⟨Tryz.f46, Tryz.func46, ok_statespace_zeros, by kernel_rfl⟩, 
  List.forall_mem_cons.2 ⟨⟨Tryz.f9, Tryz.func9, ok_statespace_Controller, by kernel_rfl⟩, 
  List.forall_mem_cons.2 ⟨⟨Tryz.f11, Tryz.func11, ok_statespace_Observer, by kernel_rfl⟩, 
  List.forall_mem_cons.2 ⟨⟨Tryz.f53, Tryz.func53, ok_ref27_at, by kernel_rfl⟩, 
  List.forall_mem_cons.2 ⟨⟨Tryz.f54, Tryz.func54, ok_ref27_zeros, by kernel_rfl⟩, 
  List.forall_mem_cons.2 ⟨⟨Tryz.f10, Tryz.func10, ok_ref27_Controller, by kernel_rfl⟩, 
  List.forall_mem_cons.2 ⟨⟨Tryz.f57, Tryz.func57, ok_ref27_transposed, by kernel_rfl⟩, 
  List.forall_mem_cons.2 ⟨⟨Tryz.f12, Tryz.func12, ok_ref27_Observer, by kernel_rfl⟩, 
  List.forall_mem_cons.2 ⟨⟨Tryz.f8, Tryz.func8, ok_law27_filter, by kernel_rfl⟩, 
  List.forall_mem_cons.2 ⟨⟨Tryz.f14, Tryz.func14, ok_law27_known, by kernel_rfl⟩, 
  List.forall_mem_cons.2 ⟨⟨Tryz.f3, Tryz.func3, ok_law27_StatespaceForms, by kernel_rfl⟩, 
  List.forall_mem_nil _⟩⟩⟩⟩⟩⟩⟩⟩⟩⟩⟩⟩⟩⟩⟩⟩⟩⟩⟩⟩⟩⟩⟩⟩⟩⟩⟩⟩⟩⟩⟩⟩⟩⟩⟩⟩⟩⟩⟩⟩⟩⟩⟩⟩⟩⟩⟩⟩⟩⟩⟩⟩⟩⟩⟩⟩⟩⟩⟩⟩⟩⟩⟩⟩⟩⟩⟩⟩⟩⟩⟩⟩⟩⟩⟩⟩⟩⟩⟩⟩⟩⟩⟩⟩⟩⟩⟩⟩⟩⟩⟩⟩⟩⟩⟩⟩⟩⟩⟩⟩⟩⟩⟩⟩⟩⟩⟩⟩⟩⟩⟩⟩⟩⟩⟩⟩⟩⟩⟩⟩)
theorem hasFixed : F.FixedLib L := {  }
theorem hasNet : F.NetLib L := { hasFixed with  }
theorem hasWorld : F.WorldLib L := { hasFixed with world_Within := rfl, world_At := rfl }
theorem hasRunG : F.RunGLib L := { hasNet, hasWorld with  }
theorem hasDirectG : F.DirectGLib L := { hasRunG with  }
theorem hasNatG : F.NatGLib L := { cmp_isNaN_int := rfl, cmp_isNaN_uint32 := rfl, cmp_Compare_int := rfl, cmp_Compare_uint32 := rfl, slices_Clone_uint32_uint32 := rfl, math_bits_Len32 := rfl, math_bits_LeadingZeros32 := rfl, nat_cut := rfl, nat_Trim := rfl, nat_Compare := rfl, nat_Add := rfl, nat_Sub := rfl, nat_Mul := rfl, nat_lift := rfl, nat_lower := rfl, nat_digit := rfl, nat_divide := rfl, nat_DivMod := rfl, nat_small := rfl, nat_leading_1 := rfl, nat_leading := rfl, nat_cofactors := rfl, nat_combine := rfl, nat_shorten := rfl, nat_Gcd := rfl }
theorem hasRatG : F.RatGLib L := { hasNatG with integer_signed := rfl, integer_Trim := rfl, integer_Of := rfl, integer_Sign := rfl, integer_Add := rfl, integer_Mul := rfl, rational_read := rfl, rational_isOne := rfl, rational_natural := rfl, rational_whole := rfl, rational_quotient := rfl, rational_pair_lowest := rfl, rational_Trim := rfl, rational_Of := rfl, rational_Sign := rfl, rational_Add := rfl, rational_Mul := rfl }
theorem hasRefG : F.RefGLib L := { ref01_Trim := rfl, ref01_Compare := rfl, ref01_Add := rfl, ref01_Sub := rfl, ref01_Mul := rfl, ref01_BitLen := rfl, ref01_Shift := rfl, ref01_small := rfl, ref01_DivMod := rfl, ref01_Gcd := rfl, ref02_Trim := rfl, ref02_Of := rfl, ref02_Sign := rfl, ref02_Neg := rfl, ref02_Add := rfl, ref02_Sub := rfl, ref02_Compare := rfl, ref02_Mul := rfl, ref02_Div := rfl, ref02_Gcd := rfl, ref03_reduce := rfl, ref03_parts := rfl, ref03_Trim := rfl, ref03_Of := rfl, ref03_Frac := rfl, ref03_Add := rfl, ref03_Compare := rfl, ref03_Mul := rfl, ref21_SameRats := rfl }
theorem hasSysG : F.SysGLib L := { hasRatG, hasRefG with network_Sound := rfl, network_zeros := rfl, network_product := rfl }
theorem hasLinG : F.LinGLib L := { hasSysG, hasNet with network_zero := rfl }
theorem hasRatH : F.RatHLib L := { hasRatG with rational_flip := rfl, rational_Sub := rfl, rational_Frac := rfl }
theorem hasRefH : F.RefHLib L := { hasRefG with ref03_Neg := rfl, ref03_Sub := rfl, ref03_Sign := rfl, ref01_Same := rfl, ref02_Same := rfl, ref03_Same := rfl, ref03_SameList := rfl }
theorem hasPolyG : F.PolyGLib L := { hasRatG with poly_cut := rfl, poly_Trim := rfl }
theorem hasR05G : F.R05GLib L := { hasRefH with ref05_Trim := rfl, ref05_Equal := rfl, ref05_Same := rfl }
theorem hasTrG : F.TrGLib L := { hasLinG, hasRatH, hasPolyG, hasR05G with network_times := rfl, network_Transfer := rfl, poly_Add := rfl, poly_Scale := rfl, ref05_At := rfl }
theorem hasRatsG : F.RatsGLib L := { hasWorld, hasRefG with world_Rats := rfl }
theorem hasModG : F.ModGLib L := { hasLinG, hasRatH, hasRefH with ref22_SameSystems := rfl }
theorem hasBldG : F.BldGLib L := { hasDirectG, hasRatH, hasPolyG, hasR05G with ref22_SameFilters := rfl }
theorem hasStG : F.StGLib L := { hasTrG with integer_Compare := rfl, rational_Compare := rfl, rational_Neg := rfl, poly_Degree := rfl, response_Valid := rfl, ref05_Degree := rfl, ref20_Valid := rfl, statespace_degree := rfl, statespace_at := rfl, statespace_zeros := rfl, statespace_Controller := rfl, statespace_Observer := rfl, ref27_at := rfl, ref27_zeros := rfl, ref27_Controller := rfl, ref27_transposed := rfl, ref27_Observer := rfl }
theorem hasLawF : F.LawFLib L := { hasStG, hasModG, hasBldG, hasRatsG with law27_filter := rfl, law27_known := rfl, law27_StatespaceForms := rfl }

end Go.Proofs.YtdgodemmncmlaaaGreat

