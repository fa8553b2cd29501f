/-
  The functions of the groups are the program's own: checked by the kernel, function by function.
-/
import Derived.Test.YtdgodemmncmlaaaGreatProg
import Derived.KernelRfl
import Derived.Test.YtdgodemmncmlaaaGreatB3
import Derived.Test.YtdgodemmncmlaaaGreatB4
set_option linter.unusedSimpArgs false
set_option linter.unusedVariables false
set_option linter.unnecessarySimpa false














namespace Go.Proofs.YtdgodemmncmlaaaGreat
open Go.Eng

def num : Nat → Nat
  | 1 => 128
  | 2 => 76
  | 3 => 172
  | 4 => 173
  | 5 => 132
  | 6 => 176
  | 7 => 192
  | 8 => 193
  | 9 => 177
  | 20 => 81
  | 21 => 82
  | 22 => 144
  | 23 => 145
  | 25 => 146
  | 34 => 17
  | 35 => 72
  | 36 => 69
  | 37 => 20
  | 38 => 19
  | 40 => 23
  | 43 => 97
  | 46 => 139
  | 47 => 142
  | 48 => 141
  | 49 => 143
  | 50 => 94
  | 51 => 95
  | 52 => 96
  | 54 => 37
  | 58 => 182
  | 59 => 183
  | 60 => 159
  | 61 => 160
  | 62 => 178
  | 63 => 203
  | 64 => 194
  | 65 => 152
  | 66 => 151
  | 67 => 116
  | 68 => 157
  | 69 => 158
  | 70 => 111
  | 71 => 195
  | 72 => 197
  | 73 => 196
  | 74 => 179
  | 75 => 153
  | 76 => 181
  | 77 => 204
  | 78 => 199
  | 79 => 198
  | 80 => 200
  | 81 => 180
  | 82 => 155
  | 83 => 150
  | 84 => 154
  | 85 => 107
  | 86 => 149
  | 87 => 115
  | 88 => 110
  | 89 => 109
  | 90 => 156
  | 91 => 117
  | 92 => 106
  | 93 => 118
  | 94 => 112
  | 95 => 84
  | 96 => 47
  | 97 => 105
  | 98 => 62
  | 99 => 49
  | 100 => 133
  | 101 => 126
  | 102 => 174
  | 103 => 165
  | 104 => 166
  | 105 => 127
  | 111 => 125
  | 113 => 122
  | 114 => 114
  | 115 => 136
  | 116 => 161
  | 117 => 120
  | 118 => 74
  | 122 => 73
  | 127 => 67
  | 129 => 40
  | 130 => 58
  | 131 => 98
  | 132 => 60
  | 133 => 99
  | 134 => 38
  | 144 => 83
  | 145 => 59
  | 146 => 29
  | 149 => 108
  | 150 => 50
  | 151 => 63
  | 169 => 119
  | 170 => 66
  | 174 => 93
  | 175 => 140
  | 217 => 36
  | 197 => 148
  | 198 => 104
  | 200 => 103
  | 201 => 43
  | 219 => 147
  | 220 => 100
  | 221 => 39
  | 222 => 7
  | _ => 0
theorem ok_fixed_mode : okFn Tryz.prog num Tryz.f128 F.fixed_mode = true := by kernel_rfl
theorem ok_fixed_Valid : okFn Tryz.prog num Tryz.f76 F.fixed_Valid = true := by kernel_rfl
theorem ok_fixed_Low : okFn Tryz.prog num Tryz.f172 F.fixed_Low = true := by kernel_rfl
theorem ok_fixed_High : okFn Tryz.prog num Tryz.f173 F.fixed_High = true := by kernel_rfl
theorem ok_fixed_Fits : okFn Tryz.prog num Tryz.f132 F.fixed_Fits = true := by kernel_rfl
theorem ok_fixed_Shift : okFn Tryz.prog num Tryz.f176 F.fixed_Shift = true := by kernel_rfl
theorem ok_fixed_Wrap : okFn Tryz.prog num Tryz.f192 F.fixed_Wrap = true := by kernel_rfl
theorem ok_fixed_Saturate : okFn Tryz.prog num Tryz.f193 F.fixed_Saturate = true := by kernel_rfl
theorem ok_fixed_Reduce : okFn Tryz.prog num Tryz.f177 F.fixed_Reduce = true := by kernel_rfl
theorem ok_ref21_SameInts : okFn Tryz.prog num Tryz.f81 F.ref21_SameInts = true := by kernel_rfl
theorem ok_network_Valid : okFn Tryz.prog num Tryz.f82 F.network_Valid = true := by kernel_rfl
theorem ok_network_wrong : okFn Tryz.prog num Tryz.f144 F.network_wrong = true := by kernel_rfl
theorem ok_network_compute : okFn Tryz.prog num Tryz.f145 F.network_compute = true := by kernel_rfl
theorem ok_network_follow : okFn Tryz.prog num Tryz.f146 F.network_follow = true := by kernel_rfl
theorem ok_world_Within : okFn Tryz.prog num Tryz.f17 F.world_Within = true := by kernel_rfl
theorem ok_world_At : okFn Tryz.prog num Tryz.f72 F.world_At = true := by kernel_rfl
theorem ok_world_Word : okFn Tryz.prog num Tryz.f69 F.world_Word = true := by kernel_rfl
theorem ok_world_Data : okFn Tryz.prog num Tryz.f20 F.world_Data = true := by kernel_rfl
theorem ok_world_Coef : okFn Tryz.prog num Tryz.f19 F.world_Coef = true := by kernel_rfl
theorem ok_world_Below : okFn Tryz.prog num Tryz.f23 F.world_Below = true := by kernel_rfl
theorem ok_network_Run : okFn Tryz.prog num Tryz.f97 F.network_Run = true := by kernel_rfl
theorem ok_direct_wrong : okFn Tryz.prog num Tryz.f139 F.direct_wrong = true := by kernel_rfl
theorem ok_direct_row : okFn Tryz.prog num Tryz.f142 F.direct_row = true := by kernel_rfl
theorem ok_direct_join : okFn Tryz.prog num Tryz.f141 F.direct_join = true := by kernel_rfl
theorem ok_direct_delay : okFn Tryz.prog num Tryz.f143 F.direct_delay = true := by kernel_rfl
theorem ok_direct_FormOne : okFn Tryz.prog num Tryz.f94 F.direct_FormOne = true := by kernel_rfl
theorem ok_direct_FormTwo : okFn Tryz.prog num Tryz.f95 F.direct_FormTwo = true := by kernel_rfl
theorem ok_direct_Transposed : okFn Tryz.prog num Tryz.f96 F.direct_Transposed = true := by kernel_rfl
theorem ok_law23_known : okFn Tryz.prog num Tryz.f37 F.law23_known = true := by kernel_rfl
theorem ok_cmp_isNaN_int : okFn Tryz.prog num Tryz.f182 F.cmp_isNaN_int = true := by kernel_rfl
theorem ok_cmp_isNaN_uint32 : okFn Tryz.prog num Tryz.f183 F.cmp_isNaN_uint32 = true := by kernel_rfl
theorem ok_cmp_Compare_int : okFn Tryz.prog num Tryz.f159 F.cmp_Compare_int = true := by kernel_rfl
theorem ok_cmp_Compare_uint32 : okFn Tryz.prog num Tryz.f160 F.cmp_Compare_uint32 = true := by kernel_rfl
theorem ok_slices_Clone_uint32_uint32 : okFn Tryz.prog num Tryz.f178 F.slices_Clone_uint32_uint32 = true := by kernel_rfl
theorem ok_math_bits_Len32 : okFn Tryz.prog num Tryz.f203 F.math_bits_Len32 = true := by kernel_rfl
theorem ok_math_bits_LeadingZeros32 : okFn Tryz.prog num Tryz.f194 F.math_bits_LeadingZeros32 = true := by kernel_rfl
theorem ok_nat_cut : okFn Tryz.prog num Tryz.f152 F.nat_cut = true := by kernel_rfl
theorem ok_nat_Trim : okFn Tryz.prog num Tryz.f151 F.nat_Trim = true := by kernel_rfl
theorem ok_nat_Compare : okFn Tryz.prog num Tryz.f116 F.nat_Compare = true := by kernel_rfl
theorem ok_nat_Add : okFn Tryz.prog num Tryz.f157 F.nat_Add = true := by kernel_rfl
theorem ok_nat_Sub : okFn Tryz.prog num Tryz.f158 F.nat_Sub = true := by kernel_rfl
theorem ok_nat_Mul : okFn Tryz.prog num Tryz.f111 F.nat_Mul = true := by kernel_rfl
theorem ok_nat_lift : okFn Tryz.prog num Tryz.f195 F.nat_lift = true := by kernel_rfl
theorem ok_nat_lower : okFn Tryz.prog num Tryz.f197 F.nat_lower = true := by kernel_rfl
theorem ok_nat_digit : okFn Tryz.prog num Tryz.f196 F.nat_digit = true := by kernel_rfl
theorem ok_nat_divide : okFn Tryz.prog num Tryz.f179 F.nat_divide = true := by kernel_rfl
theorem ok_nat_DivMod : okFn Tryz.prog num Tryz.f153 F.nat_DivMod = true := by kernel_rfl
theorem ok_nat_small : okFn Tryz.prog num Tryz.f181 F.nat_small = true := by kernel_rfl
theorem ok_nat_leading_1 : okFn Tryz.prog num Tryz.f204 F.nat_leading_1 = true := by kernel_rfl
theorem ok_nat_leading : okFn Tryz.prog num Tryz.f199 F.nat_leading = true := by kernel_rfl
theorem ok_nat_cofactors : okFn Tryz.prog num Tryz.f198 F.nat_cofactors = true := by kernel_rfl
theorem ok_nat_combine : okFn Tryz.prog num Tryz.f200 F.nat_combine = true := by kernel_rfl
theorem ok_nat_shorten : okFn Tryz.prog num Tryz.f180 F.nat_shorten = true := by kernel_rfl
theorem ok_nat_Gcd : okFn Tryz.prog num Tryz.f155 F.nat_Gcd = true := by kernel_rfl
theorem ok_integer_signed : okFn Tryz.prog num Tryz.f150 F.integer_signed = true := by kernel_rfl
theorem ok_integer_Trim : okFn Tryz.prog num Tryz.f154 F.integer_Trim = true := by kernel_rfl
theorem ok_integer_Of : okFn Tryz.prog num Tryz.f107 F.integer_Of = true := by kernel_rfl
theorem ok_integer_Sign : okFn Tryz.prog num Tryz.f149 F.integer_Sign = true := by kernel_rfl
theorem ok_integer_Add : okFn Tryz.prog num Tryz.f115 F.integer_Add = true := by kernel_rfl
theorem ok_integer_Mul : okFn Tryz.prog num Tryz.f110 F.integer_Mul = true := by kernel_rfl
theorem ok_rational_read : okFn Tryz.prog num Tryz.f109 F.rational_read = true := by kernel_rfl
theorem ok_rational_isOne : okFn Tryz.prog num Tryz.f156 F.rational_isOne = true := by kernel_rfl
theorem ok_rational_natural : okFn Tryz.prog num Tryz.f117 F.rational_natural = true := by kernel_rfl
theorem ok_rational_whole : okFn Tryz.prog num Tryz.f106 F.rational_whole = true := by kernel_rfl
theorem ok_rational_quotient : okFn Tryz.prog num Tryz.f118 F.rational_quotient = true := by kernel_rfl
theorem ok_rational_pair_lowest : okFn Tryz.prog num Tryz.f112 F.rational_pair_lowest = true := by kernel_rfl
theorem ok_rational_Trim : okFn Tryz.prog num Tryz.f84 F.rational_Trim = true := by kernel_rfl
theorem ok_rational_Of : okFn Tryz.prog num Tryz.f47 F.rational_Of = true := by kernel_rfl
theorem ok_rational_Sign : okFn Tryz.prog num Tryz.f105 F.rational_Sign = true := by kernel_rfl
theorem ok_rational_Add : okFn Tryz.prog num Tryz.f62 F.rational_Add = true := by kernel_rfl
theorem ok_rational_Mul : okFn Tryz.prog num Tryz.f49 F.rational_Mul = true := by kernel_rfl
theorem ok_rational_Div : okFn Tryz.prog num Tryz.f133 F.rational_Div = true := by kernel_rfl
theorem ok_ref01_Trim : okFn Tryz.prog num Tryz.f126 F.ref01_Trim = true := by kernel_rfl
theorem ok_ref01_Compare : okFn Tryz.prog num Tryz.f174 F.ref01_Compare = true := by kernel_rfl
theorem ok_ref01_Add : okFn Tryz.prog num Tryz.f165 F.ref01_Add = true := by kernel_rfl
theorem ok_ref01_Sub : okFn Tryz.prog num Tryz.f166 F.ref01_Sub = true := by kernel_rfl
theorem ok_ref01_Mul : okFn Tryz.prog num Tryz.f127 F.ref01_Mul = true := by kernel_rfl
theorem ok_ref02_Trim : okFn Tryz.prog num Tryz.f125 F.ref02_Trim = true := by kernel_rfl
theorem ok_ref02_Sign : okFn Tryz.prog num Tryz.f122 F.ref02_Sign = true := by kernel_rfl
theorem ok_ref02_Neg : okFn Tryz.prog num Tryz.f114 F.ref02_Neg = true := by kernel_rfl
theorem ok_ref02_Add : okFn Tryz.prog num Tryz.f136 F.ref02_Add = true := by kernel_rfl
theorem ok_ref02_Sub : okFn Tryz.prog num Tryz.f161 F.ref02_Sub = true := by kernel_rfl
theorem ok_ref02_Compare : okFn Tryz.prog num Tryz.f120 F.ref02_Compare = true := by kernel_rfl
theorem ok_ref02_Mul : okFn Tryz.prog num Tryz.f74 F.ref02_Mul = true := by kernel_rfl
theorem ok_ref03_parts : okFn Tryz.prog num Tryz.f73 F.ref03_parts = true := by kernel_rfl
theorem ok_ref03_Compare : okFn Tryz.prog num Tryz.f67 F.ref03_Compare = true := by kernel_rfl
theorem ok_ref21_SameRats : okFn Tryz.prog num Tryz.f40 F.ref21_SameRats = true := by kernel_rfl
theorem ok_network_Sound : okFn Tryz.prog num Tryz.f58 F.network_Sound = true := by kernel_rfl
theorem ok_network_zeros : okFn Tryz.prog num Tryz.f98 F.network_zeros = true := by kernel_rfl
theorem ok_network_product : okFn Tryz.prog num Tryz.f60 F.network_product = true := by kernel_rfl
theorem ok_network_Respond : okFn Tryz.prog num Tryz.f99 F.network_Respond = true := by kernel_rfl
theorem ok_network_Impulse : okFn Tryz.prog num Tryz.f38 F.network_Impulse = true := by kernel_rfl
theorem ok_network_spread : okFn Tryz.prog num Tryz.f83 F.network_spread = true := by kernel_rfl
theorem ok_network_zero : okFn Tryz.prog num Tryz.f59 F.network_zero = true := by kernel_rfl
theorem ok_network_Linear : okFn Tryz.prog num Tryz.f29 F.network_Linear = true := by kernel_rfl
theorem ok_rational_flip : okFn Tryz.prog num Tryz.f108 F.rational_flip = true := by kernel_rfl
theorem ok_rational_Sub : okFn Tryz.prog num Tryz.f50 F.rational_Sub = true := by kernel_rfl
theorem ok_rational_Frac : okFn Tryz.prog num Tryz.f63 F.rational_Frac = true := by kernel_rfl
theorem ok_poly_cut : okFn Tryz.prog num Tryz.f119 F.poly_cut = true := by kernel_rfl
theorem ok_poly_Trim : okFn Tryz.prog num Tryz.f66 F.poly_Trim = true := by kernel_rfl
theorem ok_direct_Ideal : okFn Tryz.prog num Tryz.f93 F.direct_Ideal = true := by kernel_rfl
theorem ok_fixed_Value : okFn Tryz.prog num Tryz.f140 F.fixed_Value = true := by kernel_rfl
theorem ok_law23_form : okFn Tryz.prog num Tryz.f36 F.law23_form = true := by kernel_rfl
theorem ok_integer_Compare : okFn Tryz.prog num Tryz.f148 F.integer_Compare = true := by kernel_rfl
theorem ok_rational_Compare : okFn Tryz.prog num Tryz.f104 F.rational_Compare = true := by kernel_rfl
theorem ok_poly_Degree : okFn Tryz.prog num Tryz.f103 F.poly_Degree = true := by kernel_rfl
theorem ok_response_Valid : okFn Tryz.prog num Tryz.f43 F.response_Valid = true := by kernel_rfl
theorem ok_response_of : okFn Tryz.prog num Tryz.f147 F.response_of = true := by kernel_rfl
theorem ok_response_Run : okFn Tryz.prog num Tryz.f100 F.response_Run = true := by kernel_rfl
theorem ok_response_Impulse : okFn Tryz.prog num Tryz.f39 F.response_Impulse = true := by kernel_rfl
theorem ok_law23_DirectImpulses : okFn Tryz.prog num Tryz.f7 F.law23_DirectImpulses = true := by kernel_rfl

def lib : List (Nat × AFn) := [(1, F.fixed_mode), (2, F.fixed_Valid), (3, F.fixed_Low), (4, F.fixed_High), (5, F.fixed_Fits), (6, F.fixed_Shift), (7, F.fixed_Wrap), (8, F.fixed_Saturate), (9, F.fixed_Reduce), (20, F.ref21_SameInts), (21, F.network_Valid), (22, F.network_wrong), (23, F.network_compute), (25, F.network_follow), (34, F.world_Within), (35, F.world_At), (36, F.world_Word), (37, F.world_Data), (38, F.world_Coef), (40, F.world_Below), (43, F.network_Run), (46, F.direct_wrong), (47, F.direct_row), (48, F.direct_join), (49, F.direct_delay), (50, F.direct_FormOne), (51, F.direct_FormTwo), (52, F.direct_Transposed), (54, F.law23_known), (58, F.cmp_isNaN_int), (59, F.cmp_isNaN_uint32), (60, F.cmp_Compare_int), (61, F.cmp_Compare_uint32), (62, F.slices_Clone_uint32_uint32), (63, F.math_bits_Len32), (64, F.math_bits_LeadingZeros32), (65, F.nat_cut), (66, F.nat_Trim), (67, F.nat_Compare), (68, F.nat_Add), (69, F.nat_Sub), (70, F.nat_Mul), (71, F.nat_lift), (72, F.nat_lower), (73, F.nat_digit), (74, F.nat_divide), (75, F.nat_DivMod), (76, F.nat_small), (77, F.nat_leading_1), (78, F.nat_leading), (79, F.nat_cofactors), (80, F.nat_combine), (81, F.nat_shorten), (82, F.nat_Gcd), (83, F.integer_signed), (84, F.integer_Trim), (85, F.integer_Of), (86, F.integer_Sign), (87, F.integer_Add), (88, F.integer_Mul), (89, F.rational_read), (90, F.rational_isOne), (91, F.rational_natural), (92, F.rational_whole), (93, F.rational_quotient), (94, F.rational_pair_lowest), (95, F.rational_Trim), (96, F.rational_Of), (97, F.rational_Sign), (98, F.rational_Add), (99, F.rational_Mul), (100, F.rational_Div), (101, F.ref01_Trim), (102, F.ref01_Compare), (103, F.ref01_Add), (104, F.ref01_Sub), (105, F.ref01_Mul), (111, F.ref02_Trim), (113, F.ref02_Sign), (114, F.ref02_Neg), (115, F.ref02_Add), (116, F.ref02_Sub), (117, F.ref02_Compare), (118, F.ref02_Mul), (122, F.ref03_parts), (127, F.ref03_Compare), (129, F.ref21_SameRats), (130, F.network_Sound), (131, F.network_zeros), (132, F.network_product), (133, F.network_Respond), (134, F.network_Impulse), (144, F.network_spread), (145, F.network_zero), (146, F.network_Linear), (149, F.rational_flip), (150, F.rational_Sub), (151, F.rational_Frac), (169, F.poly_cut), (170, F.poly_Trim), (174, F.direct_Ideal), (175, F.fixed_Value), (217, F.law23_form), (197, F.integer_Compare), (198, F.rational_Compare), (200, F.poly_Degree), (201, F.response_Valid), (219, F.response_of), (220, F.response_Run), (221, F.response_Impulse), (222, F.law23_DirectImpulses)]
def L : Lib := ⟨fun f => lib.lookup f, num⟩
set_option maxRecDepth 100000 in
theorem progOK : ProgOK Tryz.prog num L := progOK_of lib (
  List.forall_mem_cons.2 ⟨⟨Tryz.f128, Tryz.func128, ok_fixed_mode, by kernel_rfl⟩, 
  List.forall_mem_cons.2 ⟨⟨Tryz.f76, Tryz.func76, ok_fixed_Valid, by kernel_rfl⟩, 
  List.forall_mem_cons.2 ⟨⟨Tryz.f172, Tryz.func172, ok_fixed_Low, by kernel_rfl⟩, 
  List.forall_mem_cons.2 ⟨⟨Tryz.f173, Tryz.func173, ok_fixed_High, by kernel_rfl⟩, 
  List.forall_mem_cons.2 ⟨⟨Tryz.f132, Tryz.func132, ok_fixed_Fits, by kernel_rfl⟩, 
  List.forall_mem_cons.2 ⟨⟨Tryz.f176, Tryz.func176, ok_fixed_Shift, by kernel_rfl⟩, 
  List.forall_mem_cons.2 ⟨⟨Tryz.f192, Tryz.func192, ok_fixed_Wrap, by kernel_rfl⟩, 
  List.forall_mem_cons.2 ⟨⟨Tryz.f193, Tryz.func193, ok_fixed_Saturate, by kernel_rfl⟩, 
  List.forall_mem_cons.2 ⟨⟨Tryz.f177, Tryz.func177, ok_fixed_Reduce, by kernel_rfl⟩, 
  List.forall_mem_cons.2 ⟨⟨Tryz.f81, Tryz.func81, ok_ref21_SameInts, by kernel_rfl⟩, 
  List.forall_mem_cons.2 ⟨⟨Tryz.f82, Tryz.func82, ok_network_Valid, by kernel_rfl⟩, 
  List.forall_mem_cons.2 ⟨⟨Tryz.f144, Tryz.func144, ok_network_wrong, by kernel_rfl⟩, 
  List.forall_mem_cons.2 ⟨⟨Tryz.f145, Tryz.func145, ok_network_compute, by kernel_rfl⟩, 
  List.forall_mem_cons.2 ⟨⟨Tryz.f146, Tryz.func146, ok_network_follow, by kernel_rfl⟩, 
  List.forall_mem_cons.2 ⟨⟨Tryz.f17, Tryz.func17, ok_world_Within, by kernel_rfl⟩, 
  List.forall_mem_cons.2 ⟨⟨Tryz.f72, Tryz.func72, ok_world_At, by kernel_rfl⟩, 
  List.forall_mem_cons.2 ⟨⟨Tryz.f69, Tryz.func69, ok_world_Word, by kernel_rfl⟩, 
  List.forall_mem_cons.2 ⟨⟨Tryz.f20, Tryz.func20, ok_world_Data, by kernel_rfl⟩, 
  List.forall_mem_cons.2 ⟨⟨Tryz.f19, Tryz.func19, ok_world_Coef, by kernel_rfl⟩, 
  List.forall_mem_cons.2 ⟨⟨Tryz.f23, Tryz.func23, ok_world_Below, by kernel_rfl⟩, 
  List.forall_mem_cons.2 ⟨⟨Tryz.f97, Tryz.func97, ok_network_Run, by kernel_rfl⟩, 
  List.forall_mem_cons.2 ⟨⟨Tryz.f139, Tryz.func139, ok_direct_wrong, by kernel_rfl⟩, 
  List.forall_mem_cons.2 ⟨⟨Tryz.f142, Tryz.func142, ok_direct_row, by kernel_rfl⟩, 
  List.forall_mem_cons.2 ⟨⟨Tryz.f141, Tryz.func141, ok_direct_join, by kernel_rfl⟩, 
  List.forall_mem_cons.2 ⟨⟨Tryz.f143, Tryz.func143, ok_direct_delay, by kernel_rfl⟩, 
  List.forall_mem_cons.2 ⟨⟨Tryz.f94, Tryz.func94, ok_direct_FormOne, by kernel_rfl⟩, 
  List.forall_mem_cons.2 ⟨⟨Tryz.f95, Tryz.func95, ok_direct_FormTwo, by kernel_rfl⟩, 
  List.forall_mem_cons.2 ⟨⟨Tryz.f96, Tryz.func96, ok_direct_Transposed, by kernel_rfl⟩, 
  List.forall_mem_cons.2 ⟨⟨Tryz.f37, Tryz.func37, ok_law23_known, by kernel_rfl⟩, 
  List.forall_mem_cons.2 ⟨⟨Tryz.f182, Tryz.func182, ok_cmp_isNaN_int, by kernel_rfl⟩, 
  List.forall_mem_cons.2 ⟨⟨Tryz.f183, Tryz.func183, ok_cmp_isNaN_uint32, by kernel_rfl⟩, 
  List.forall_mem_cons.2 ⟨⟨Tryz.f159, Tryz.func159, ok_cmp_Compare_int, by kernel_rfl⟩, 
  List.forall_mem_cons.2 ⟨⟨Tryz.f160, Tryz.func160, ok_cmp_Compare_uint32, by kernel_rfl⟩, 
  List.forall_mem_cons.2 ⟨⟨Tryz.f178, Tryz.func178, ok_slices_Clone_uint32_uint32, by kernel_rfl⟩, 
  List.forall_mem_cons.2 ⟨⟨Tryz.f203, Tryz.func203, ok_math_bits_Len32, by kernel_rfl⟩, 
  List.forall_mem_cons.2 ⟨⟨Tryz.f194, Tryz.func194, ok_math_bits_LeadingZeros32, by kernel_rfl⟩, 
  List.forall_mem_cons.2 ⟨⟨Tryz.f152, Tryz.func152, ok_nat_cut, by kernel_rfl⟩, 
  List.forall_mem_cons.2 ⟨⟨Tryz.f151, Tryz.func151, ok_nat_Trim, by kernel_rfl⟩, 
  List.forall_mem_cons.2 ⟨⟨Tryz.f116, Tryz.func116, ok_nat_Compare, by kernel_rfl⟩, 
  List.forall_mem_cons.2 ⟨⟨Tryz.f157, Tryz.func157, ok_nat_Add, by kernel_rfl⟩, 
  List.forall_mem_cons.2 ⟨⟨Tryz.f158, Tryz.func158, ok_nat_Sub, by kernel_rfl⟩, 
  List.forall_mem_cons.2 ⟨⟨Tryz.f111, Tryz.func111, ok_nat_Mul, by kernel_rfl⟩, 
  List.forall_mem_cons.2 ⟨⟨Tryz.f195, Tryz.func195, ok_nat_lift, by kernel_rfl⟩, 
  List.forall_mem_cons.2 ⟨⟨Tryz.f197, Tryz.func197, ok_nat_lower, by kernel_rfl⟩, 
  List.forall_mem_cons.2 ⟨⟨Tryz.f196, Tryz.func196, ok_nat_digit, by kernel_rfl⟩, 
  List.forall_mem_cons.2 ⟨⟨Tryz.f179, Tryz.func179, ok_nat_divide, by kernel_rfl⟩, 
  List.forall_mem_cons.2 ⟨⟨Tryz.f153, Tryz.func153, ok_nat_DivMod, by kernel_rfl⟩, 
  List.forall_mem_cons.2 ⟨⟨Tryz.f181, Tryz.func181, ok_nat_small, by kernel_rfl⟩, 
  List.forall_mem_cons.2 ⟨⟨Tryz.f204, Tryz.func204, ok_nat_leading_1, by kernel_rfl⟩, 
  List.forall_mem_cons.2 ⟨⟨Tryz.f199, Tryz.func199, ok_nat_leading, by kernel_rfl⟩, 
  List.forall_mem_cons.2 ⟨⟨Tryz.f198, Tryz.func198, ok_nat_cofactors, by kernel_rfl⟩, 
  List.forall_mem_cons.2 ⟨⟨Tryz.f200, Tryz.func200, ok_nat_combine, by kernel_rfl⟩, 
  List.forall_mem_cons.2 ⟨⟨Tryz.f180, Tryz.func180, ok_nat_shorten, by kernel_rfl⟩, 
  List.forall_mem_cons.2 ⟨⟨Tryz.f155, Tryz.func155, ok_nat_Gcd, by kernel_rfl⟩, 
  List.forall_mem_cons.2 ⟨⟨Tryz.f150, Tryz.func150, ok_integer_signed, by kernel_rfl⟩, 
  List.forall_mem_cons.2 ⟨⟨Tryz.f154, Tryz.func154, ok_integer_Trim, by kernel_rfl⟩, 
  List.forall_mem_cons.2 ⟨⟨Tryz.f107, Tryz.func107, ok_integer_Of, by kernel_rfl⟩, 
  List.forall_mem_cons.2 ⟨⟨Tryz.f149, Tryz.func149, ok_integer_Sign, by kernel_rfl⟩, 
  List.forall_mem_cons.2 ⟨⟨Tryz.f115, Tryz.func115, ok_integer_Add, by kernel_rfl⟩, 
  List.forall_mem_cons.2 ⟨⟨Tryz.f110, Tryz.func110, ok_integer_Mul, by kernel_rfl⟩, 
  List.forall_mem_cons.2 ⟨⟨Tryz.f109, Tryz.func109, ok_rational_read, by kernel_rfl⟩, 
  List.forall_mem_cons.2 ⟨⟨Tryz.f156, Tryz.func156, ok_rational_isOne, by kernel_rfl⟩, 
  List.forall_mem_cons.2 ⟨⟨Tryz.f117, Tryz.func117, ok_rational_natural, by kernel_rfl⟩, 
  List.forall_mem_cons.2 ⟨⟨Tryz.f106, Tryz.func106, ok_rational_whole, by kernel_rfl⟩, 
  List.forall_mem_cons.2 ⟨⟨Tryz.f118, Tryz.func118, ok_rational_quotient, by kernel_rfl⟩, 
  List.forall_mem_cons.2 ⟨⟨Tryz.f112, Tryz.func112, ok_rational_pair_lowest, by kernel_rfl⟩, 
  List.forall_mem_cons.2 ⟨⟨Tryz.f84, Tryz.func84, ok_rational_Trim, by kernel_rfl⟩, 
  List.forall_mem_cons.2 ⟨⟨Tryz.f47, Tryz.func47, ok_rational_Of, by kernel_rfl⟩, 
  List.forall_mem_cons.2 ⟨⟨Tryz.f105, Tryz.func105, ok_rational_Sign, by kernel_rfl⟩, 
  List.forall_mem_cons.2 ⟨⟨Tryz.f62, Tryz.func62, ok_rational_Add, by kernel_rfl⟩, 
  List.forall_mem_cons.2 ⟨⟨Tryz.f49, Tryz.func49, ok_rational_Mul, by kernel_rfl⟩, 
  List.forall_mem_cons.2 ⟨⟨Tryz.f133, Tryz.func133, ok_rational_Div, by kernel_rfl⟩, 
  List.forall_mem_cons.2 ⟨⟨Tryz.f126, Tryz.func126, ok_ref01_Trim, by kernel_rfl⟩, 
  List.forall_mem_cons.2 ⟨⟨Tryz.f174, Tryz.func174, ok_ref01_Compare, by kernel_rfl⟩, 
  List.forall_mem_cons.2 ⟨⟨Tryz.f165, Tryz.func165, ok_ref01_Add, by kernel_rfl⟩, 
  List.forall_mem_cons.2 ⟨⟨Tryz.f166, Tryz.func166, ok_ref01_Sub, by kernel_rfl⟩, 
  List.forall_mem_cons.2 ⟨⟨Tryz.f127, Tryz.func127, ok_ref01_Mul, by kernel_rfl⟩, 
  List.forall_mem_cons.2 ⟨⟨Tryz.f125, Tryz.func125, ok_ref02_Trim, by kernel_rfl⟩, 
  List.forall_mem_cons.2 ⟨⟨Tryz.f122, Tryz.func122, ok_ref02_Sign, by kernel_rfl⟩, 
  List.forall_mem_cons.2 ⟨⟨Tryz.f114, Tryz.func114, ok_ref02_Neg, by kernel_rfl⟩, 
  List.forall_mem_cons.2 ⟨⟨Tryz.f136, Tryz.func136, ok_ref02_Add, by kernel_rfl⟩, 
  List.forall_mem_cons.2 ⟨⟨Tryz.f161, Tryz.func161, ok_ref02_Sub, by kernel_rfl⟩, 
  List.forall_mem_cons.2 ⟨⟨Tryz.f120, Tryz.func120, ok_ref02_Compare, by kernel_rfl⟩, 
  List.forall_mem_cons.2 ⟨⟨Tryz.f74, Tryz.func74, ok_ref02_Mul, by kernel_rfl⟩, 
  List.forall_mem_cons.2 ⟨⟨Tryz.f73, Tryz.func73, ok_ref03_parts, by kernel_rfl⟩, 
  List.forall_mem_cons.2 ⟨⟨Tryz.f67, Tryz.func67, ok_ref03_Compare, by kernel_rfl⟩, 
  List.forall_mem_cons.2 ⟨⟨Tryz.f40, Tryz.func40, ok_ref21_SameRats, by kernel_rfl⟩, 
  List.forall_mem_cons.2 ⟨⟨Tryz.f58, Tryz.func58, ok_network_Sound, by kernel_rfl⟩, 
  List.forall_mem_cons.2 ⟨⟨Tryz.f98, Tryz.func98, ok_network_zeros, by kernel_rfl⟩, 
  List.forall_mem_cons.2 ⟨⟨Tryz.f60, Tryz.func60, ok_network_product, by kernel_rfl⟩, 
  List.forall_mem_cons.2 ⟨⟨Tryz.f99, Tryz.func99, ok_network_Respond, by kernel_rfl⟩, 
  List.forall_mem_cons.2 ⟨⟨Tryz.f38, Tryz.func38, ok_network_Impulse, by kernel_rfl⟩, 
  List.forall_mem_cons.2 ⟨⟨Tryz.f83, Tryz.func83, ok_network_spread, by kernel_rfl⟩, 
  List.forall_mem_cons.2 ⟨⟨Tryz.f59, Tryz.func59, ok_network_zero, by kernel_rfl⟩, 
  List.forall_mem_cons.2 ⟨⟨Tryz.f29, Tryz.func29, ok_network_Linear, by kernel_rfl⟩, 
  List.forall_mem_cons.2 ⟨⟨Tryz.f108, Tryz.func108, ok_rational_flip, by kernel_rfl⟩, 
  List.forall_mem_cons.2 ⟨⟨Tryz.f50, Tryz.func50, ok_rational_Sub, by kernel_rfl⟩, 
  List.forall_mem_cons.2 ⟨⟨Tryz.f63, Tryz.func63, ok_rational_Frac, by kernel_rfl⟩, 
  List.forall_mem_cons.2 ⟨⟨Tryz.f119, Tryz.func119, ok_poly_cut, by kernel_rfl⟩, 
  List.forall_mem_cons.2 ⟨⟨Tryz.f66, Tryz.func66, ok_poly_Trim, by kernel_rfl⟩, 
  List.forall_mem_cons.2 ⟨⟨Tryz.f93, Tryz.func93, ok_direct_Ideal, by kernel_rfl⟩, 
  List.forall_mem_cons.2 ⟨⟨Tryz.f140, Tryz.func140, ok_fixed_Value, by kernel_rfl⟩, 
  List.forall_mem_cons.2 ⟨⟨Tryz.f36, Tryz.func36, ok_law23_form, by kernel_rfl⟩, 
  List.forall_mem_cons.2 ⟨⟨Tryz.f148, Tryz.func148, ok_integer_Compare, by kernel_rfl⟩, 
  List.forall_mem_cons.2 ⟨⟨Tryz.f104, Tryz.func104, ok_rational_Compare, by kernel_rfl⟩, 
  List.forall_mem_cons.2 ⟨⟨Tryz.f103, Tryz.func103, ok_poly_Degree, by kernel_rfl⟩, 
  List.forall_mem_cons.2 ⟨⟨Tryz.f43, Tryz.func43, ok_response_Valid, by kernel_rfl⟩, 
  List.forall_mem_cons.2 ⟨⟨Tryz.f147, Tryz.func147, ok_response_of, by kernel_rfl⟩, 
  List.forall_mem_cons.2 ⟨⟨Tryz.f100, Tryz.func100, ok_response_Run, by kernel_rfl⟩, 
  List.forall_mem_cons.2 ⟨⟨Tryz.f39, Tryz.func39, ok_response_Impulse, by kernel_rfl⟩, 
  List.forall_mem_cons.2 ⟨⟨Tryz.f7, Tryz.func7, ok_law23_DirectImpulses, by kernel_rfl⟩, 
  List.forall_mem_nil _⟩⟩⟩⟩⟩⟩⟩⟩⟩⟩⟩⟩⟩⟩⟩⟩⟩⟩⟩⟩⟩⟩⟩⟩⟩⟩⟩⟩⟩⟩⟩⟩⟩⟩⟩⟩⟩⟩⟩⟩⟩⟩⟩⟩⟩⟩⟩⟩⟩⟩⟩⟩⟩⟩⟩⟩⟩⟩⟩⟩⟩⟩⟩⟩⟩⟩⟩⟩⟩⟩⟩⟩⟩⟩⟩⟩⟩⟩⟩⟩⟩⟩⟩⟩⟩⟩⟩⟩⟩⟩⟩⟩⟩⟩⟩⟩⟩⟩⟩⟩⟩⟩⟩⟩⟩⟩⟩⟩⟩⟩⟩)
theorem hasFixed : F.FixedLib L := { fixed_mode := rfl, fixed_Valid := rfl, fixed_Low := rfl, fixed_High := rfl, fixed_Fits := rfl, fixed_Shift := rfl, fixed_Wrap := rfl, fixed_Saturate := rfl, fixed_Reduce := rfl, ref21_SameInts := rfl }
theorem hasNet : F.NetLib L := { hasFixed with network_Valid := rfl, network_wrong := rfl, network_compute := rfl, network_follow := rfl }
theorem hasWorld : F.WorldLib L := { hasFixed with world_Within := rfl, world_At := rfl, world_Word := rfl, world_Data := rfl, world_Coef := rfl, world_Below := rfl }
theorem hasRunG : F.RunGLib L := { hasNet, hasWorld with network_Run := rfl }
theorem hasDirectG : F.DirectGLib L := { hasRunG with direct_wrong := rfl, direct_row := rfl, direct_join := rfl, direct_delay := rfl, direct_FormOne := rfl, direct_FormTwo := rfl, direct_Transposed := rfl, law23_known := rfl }
theorem hasNatG : F.NatGLib L := { cmp_isNaN_int := rfl, cmp_isNaN_uint32 := rfl, cmp_Compare_int := rfl, cmp_Compare_uint32 := rfl, slices_Clone_uint32_uint32 := rfl, math_bits_Len32 := rfl, math_bits_LeadingZeros32 := rfl, nat_cut := rfl, nat_Trim := rfl, nat_Compare := rfl, nat_Add := rfl, nat_Sub := rfl, nat_Mul := rfl, nat_lift := rfl, nat_lower := rfl, nat_digit := rfl, nat_divide := rfl, nat_DivMod := rfl, nat_small := rfl, nat_leading_1 := rfl, nat_leading := rfl, nat_cofactors := rfl, nat_combine := rfl, nat_shorten := rfl, nat_Gcd := rfl }
theorem hasRatG : F.RatGLib L := { hasNatG with integer_signed := rfl, integer_Trim := rfl, integer_Of := rfl, integer_Sign := rfl, integer_Add := rfl, integer_Mul := rfl, rational_read := rfl, rational_isOne := rfl, rational_natural := rfl, rational_whole := rfl, rational_quotient := rfl, rational_pair_lowest := rfl, rational_Trim := rfl, rational_Of := rfl, rational_Sign := rfl, rational_Add := rfl, rational_Mul := rfl, rational_Div := rfl }
theorem hasRefG : F.RefGLib L := { ref01_Trim := rfl, ref01_Compare := rfl, ref01_Add := rfl, ref01_Sub := rfl, ref01_Mul := rfl, ref02_Trim := rfl, ref02_Sign := rfl, ref02_Neg := rfl, ref02_Add := rfl, ref02_Sub := rfl, ref02_Compare := rfl, ref02_Mul := rfl, ref03_parts := rfl, ref03_Compare := rfl, ref21_SameRats := rfl }
theorem hasSysG : F.SysGLib L := { hasRatG, hasRefG with network_Sound := rfl, network_zeros := rfl, network_product := rfl, network_Respond := rfl, network_Impulse := rfl }
theorem hasLinG : F.LinGLib L := { hasSysG, hasNet with network_spread := rfl, network_zero := rfl, network_Linear := rfl }
theorem hasRatH : F.RatHLib L := { hasRatG with rational_flip := rfl, rational_Sub := rfl, rational_Frac := rfl }
theorem hasRefH : F.RefHLib L := { hasRefG with  }
theorem hasPolyG : F.PolyGLib L := { hasRatG with poly_cut := rfl, poly_Trim := rfl }
theorem hasR05G : F.R05GLib L := { hasRefH with  }
theorem hasBldG : F.BldGLib L := { hasDirectG, hasRatH, hasPolyG, hasR05G with direct_Ideal := rfl, fixed_Value := rfl }
theorem hasTrG : F.TrGLib L := { hasLinG, hasRatH, hasPolyG, hasR05G with  }
theorem hasLawV : F.LawVLib L := { hasTrG, hasBldG with law23_form := rfl }
theorem hasStG : F.StGLib L := { hasTrG with integer_Compare := rfl, rational_Compare := rfl, poly_Degree := rfl, response_Valid := rfl }
theorem hasImpG : F.ImpGLib L := { hasStG with response_of := rfl, response_Run := rfl, response_Impulse := rfl }
theorem hasLawW : F.LawWLib L := { hasLawV, hasImpG with law23_DirectImpulses := rfl }

end Go.Proofs.YtdgodemmncmlaaaGreat

