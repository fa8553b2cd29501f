/-
  The functions of the groups are the program's own: checked by the kernel, function by function.
-/
import Derived.Test.YtajmlglkafhdhaaProg
import Derived.KernelRfl
import Derived.Test.YtajmlglkafhdhaaB3
import Derived.Test.YtajmlglkafhdhaaB4
set_option linter.unusedSimpArgs false
set_option linter.unusedVariables false
set_option linter.unnecessarySimpa false






namespace Go.Proofs.Ytajmlglkafhdhaa
open Go.Eng

def num : Nat → Nat
  | 1 => 90
  | 2 => 53
  | 3 => 91
  | 4 => 92
  | 5 => 54
  | 6 => 88
  | 7 => 116
  | 8 => 117
  | 9 => 89
  | 10 => 56
  | 11 => 55
  | 12 => 57
  | 13 => 58
  | 21 => 16
  | 22 => 47
  | 23 => 48
  | 24 => 12
  | 25 => 52
  | 32 => 11
  | 34 => 23
  | 35 => 32
  | 36 => 59
  | 37 => 25
  | 38 => 26
  | 39 => 20
  | 40 => 27
  | 58 => 140
  | 59 => 141
  | 60 => 129
  | 61 => 130
  | 62 => 139
  | 63 => 149
  | 64 => 142
  | 65 => 128
  | 66 => 124
  | 67 => 108
  | 68 => 126
  | 69 => 127
  | 70 => 111
  | 71 => 143
  | 72 => 145
  | 73 => 144
  | 74 => 136
  | 75 => 120
  | 76 => 138
  | 77 => 150
  | 78 => 147
  | 79 => 146
  | 80 => 148
  | 81 => 137
  | 82 => 122
  | 83 => 125
  | 84 => 121
  | 85 => 113
  | 86 => 131
  | 87 => 107
  | 88 => 109
  | 89 => 104
  | 90 => 123
  | 91 => 110
  | 92 => 106
  | 93 => 132
  | 94 => 105
  | 95 => 72
  | 96 => 82
  | 97 => 112
  | 98 => 73
  | 99 => 75
  | 100 => 115
  | 101 => 94
  | 102 => 101
  | 103 => 100
  | 104 => 102
  | 105 => 103
  | 111 => 99
  | 112 => 93
  | 113 => 95
  | 114 => 98
  | 115 => 69
  | 116 => 114
  | 117 => 84
  | 118 => 70
  | 122 => 67
  | 124 => 87
  | 127 => 43
  | 129 => 44
  | 130 => 71
  | 131 => 81
  | 132 => 74
  | 133 => 39
  | 144 => 85
  | 145 => 86
  | 146 => 45
  | 147 => 46
  | 42 => 19
  | 43 => 21
  | 148 => 9
  | _ => 0
theorem ok_fixed_mode : okFn Try.prog num Try.f90 F.fixed_mode = true := by kernel_rfl
theorem ok_fixed_Valid : okFn Try.prog num Try.f53 F.fixed_Valid = true := by kernel_rfl
theorem ok_fixed_Low : okFn Try.prog num Try.f91 F.fixed_Low = true := by kernel_rfl
theorem ok_fixed_High : okFn Try.prog num Try.f92 F.fixed_High = true := by kernel_rfl
theorem ok_fixed_Fits : okFn Try.prog num Try.f54 F.fixed_Fits = true := by kernel_rfl
theorem ok_fixed_Shift : okFn Try.prog num Try.f88 F.fixed_Shift = true := by kernel_rfl
theorem ok_fixed_Wrap : okFn Try.prog num Try.f116 F.fixed_Wrap = true := by kernel_rfl
theorem ok_fixed_Saturate : okFn Try.prog num Try.f117 F.fixed_Saturate = true := by kernel_rfl
theorem ok_fixed_Reduce : okFn Try.prog num Try.f89 F.fixed_Reduce = true := by kernel_rfl
theorem ok_ref21_In : okFn Try.prog num Try.f56 F.ref21_In = true := by kernel_rfl
theorem ok_ref21_Valid : okFn Try.prog num Try.f55 F.ref21_Valid = true := by kernel_rfl
theorem ok_ref21_Low : okFn Try.prog num Try.f57 F.ref21_Low = true := by kernel_rfl
theorem ok_ref21_High : okFn Try.prog num Try.f58 F.ref21_High = true := by kernel_rfl
theorem ok_network_Valid : okFn Try.prog num Try.f16 F.network_Valid = true := by kernel_rfl
theorem ok_network_wrong : okFn Try.prog num Try.f47 F.network_wrong = true := by kernel_rfl
theorem ok_network_compute : okFn Try.prog num Try.f48 F.network_compute = true := by kernel_rfl
theorem ok_network_Values : okFn Try.prog num Try.f12 F.network_Values = true := by kernel_rfl
theorem ok_network_follow : okFn Try.prog num Try.f52 F.network_follow = true := by kernel_rfl
theorem ok_law22_known : okFn Try.prog num Try.f11 F.law22_known = true := by kernel_rfl
theorem ok_world_Within : okFn Try.prog num Try.f23 F.world_Within = true := by kernel_rfl
theorem ok_world_At : okFn Try.prog num Try.f32 F.world_At = true := by kernel_rfl
theorem ok_world_Word : okFn Try.prog num Try.f59 F.world_Word = true := by kernel_rfl
theorem ok_world_Data : okFn Try.prog num Try.f25 F.world_Data = true := by kernel_rfl
theorem ok_world_Coef : okFn Try.prog num Try.f26 F.world_Coef = true := by kernel_rfl
theorem ok_world_Words : okFn Try.prog num Try.f20 F.world_Words = true := by kernel_rfl
theorem ok_world_Below : okFn Try.prog num Try.f27 F.world_Below = true := by kernel_rfl
theorem ok_cmp_isNaN_int : okFn Try.prog num Try.f140 F.cmp_isNaN_int = true := by kernel_rfl
theorem ok_cmp_isNaN_uint32 : okFn Try.prog num Try.f141 F.cmp_isNaN_uint32 = true := by kernel_rfl
theorem ok_cmp_Compare_int : okFn Try.prog num Try.f129 F.cmp_Compare_int = true := by kernel_rfl
theorem ok_cmp_Compare_uint32 : okFn Try.prog num Try.f130 F.cmp_Compare_uint32 = true := by kernel_rfl
theorem ok_slices_Clone_uint32_uint32 : okFn Try.prog num Try.f139 F.slices_Clone_uint32_uint32 = true := by kernel_rfl
theorem ok_math_bits_Len32 : okFn Try.prog num Try.f149 F.math_bits_Len32 = true := by kernel_rfl
theorem ok_math_bits_LeadingZeros32 : okFn Try.prog num Try.f142 F.math_bits_LeadingZeros32 = true := by kernel_rfl
theorem ok_nat_cut : okFn Try.prog num Try.f128 F.nat_cut = true := by kernel_rfl
theorem ok_nat_Trim : okFn Try.prog num Try.f124 F.nat_Trim = true := by kernel_rfl
theorem ok_nat_Compare : okFn Try.prog num Try.f108 F.nat_Compare = true := by kernel_rfl
theorem ok_nat_Add : okFn Try.prog num Try.f126 F.nat_Add = true := by kernel_rfl
theorem ok_nat_Sub : okFn Try.prog num Try.f127 F.nat_Sub = true := by kernel_rfl
theorem ok_nat_Mul : okFn Try.prog num Try.f111 F.nat_Mul = true := by kernel_rfl
theorem ok_nat_lift : okFn Try.prog num Try.f143 F.nat_lift = true := by kernel_rfl
theorem ok_nat_lower : okFn Try.prog num Try.f145 F.nat_lower = true := by kernel_rfl
theorem ok_nat_digit : okFn Try.prog num Try.f144 F.nat_digit = true := by kernel_rfl
theorem ok_nat_divide : okFn Try.prog num Try.f136 F.nat_divide = true := by kernel_rfl
theorem ok_nat_DivMod : okFn Try.prog num Try.f120 F.nat_DivMod = true := by kernel_rfl
theorem ok_nat_small : okFn Try.prog num Try.f138 F.nat_small = true := by kernel_rfl
theorem ok_nat_leading_1 : okFn Try.prog num Try.f150 F.nat_leading_1 = true := by kernel_rfl
theorem ok_nat_leading : okFn Try.prog num Try.f147 F.nat_leading = true := by kernel_rfl
theorem ok_nat_cofactors : okFn Try.prog num Try.f146 F.nat_cofactors = true := by kernel_rfl
theorem ok_nat_combine : okFn Try.prog num Try.f148 F.nat_combine = true := by kernel_rfl
theorem ok_nat_shorten : okFn Try.prog num Try.f137 F.nat_shorten = true := by kernel_rfl
theorem ok_nat_Gcd : okFn Try.prog num Try.f122 F.nat_Gcd = true := by kernel_rfl
theorem ok_integer_signed : okFn Try.prog num Try.f125 F.integer_signed = true := by kernel_rfl
theorem ok_integer_Trim : okFn Try.prog num Try.f121 F.integer_Trim = true := by kernel_rfl
theorem ok_integer_Of : okFn Try.prog num Try.f113 F.integer_Of = true := by kernel_rfl
theorem ok_integer_Sign : okFn Try.prog num Try.f131 F.integer_Sign = true := by kernel_rfl
theorem ok_integer_Add : okFn Try.prog num Try.f107 F.integer_Add = true := by kernel_rfl
theorem ok_integer_Mul : okFn Try.prog num Try.f109 F.integer_Mul = true := by kernel_rfl
theorem ok_rational_read : okFn Try.prog num Try.f104 F.rational_read = true := by kernel_rfl
theorem ok_rational_isOne : okFn Try.prog num Try.f123 F.rational_isOne = true := by kernel_rfl
theorem ok_rational_natural : okFn Try.prog num Try.f110 F.rational_natural = true := by kernel_rfl
theorem ok_rational_whole : okFn Try.prog num Try.f106 F.rational_whole = true := by kernel_rfl
theorem ok_rational_quotient : okFn Try.prog num Try.f132 F.rational_quotient = true := by kernel_rfl
theorem ok_rational_pair_lowest : okFn Try.prog num Try.f105 F.rational_pair_lowest = true := by kernel_rfl
theorem ok_rational_Trim : okFn Try.prog num Try.f72 F.rational_Trim = true := by kernel_rfl
theorem ok_rational_Of : okFn Try.prog num Try.f82 F.rational_Of = true := by kernel_rfl
theorem ok_rational_Sign : okFn Try.prog num Try.f112 F.rational_Sign = true := by kernel_rfl
theorem ok_rational_Add : okFn Try.prog num Try.f73 F.rational_Add = true := by kernel_rfl
theorem ok_rational_Mul : okFn Try.prog num Try.f75 F.rational_Mul = true := by kernel_rfl
theorem ok_rational_Div : okFn Try.prog num Try.f115 F.rational_Div = true := by kernel_rfl
theorem ok_ref01_Trim : okFn Try.prog num Try.f94 F.ref01_Trim = true := by kernel_rfl
theorem ok_ref01_Compare : okFn Try.prog num Try.f101 F.ref01_Compare = true := by kernel_rfl
theorem ok_ref01_Add : okFn Try.prog num Try.f100 F.ref01_Add = true := by kernel_rfl
theorem ok_ref01_Sub : okFn Try.prog num Try.f102 F.ref01_Sub = true := by kernel_rfl
theorem ok_ref01_Mul : okFn Try.prog num Try.f103 F.ref01_Mul = true := by kernel_rfl
theorem ok_ref02_Trim : okFn Try.prog num Try.f99 F.ref02_Trim = true := by kernel_rfl
theorem ok_ref02_Of : okFn Try.prog num Try.f93 F.ref02_Of = true := by kernel_rfl
theorem ok_ref02_Sign : okFn Try.prog num Try.f95 F.ref02_Sign = true := by kernel_rfl
theorem ok_ref02_Neg : okFn Try.prog num Try.f98 F.ref02_Neg = true := by kernel_rfl
theorem ok_ref02_Add : okFn Try.prog num Try.f69 F.ref02_Add = true := by kernel_rfl
theorem ok_ref02_Sub : okFn Try.prog num Try.f114 F.ref02_Sub = true := by kernel_rfl
theorem ok_ref02_Compare : okFn Try.prog num Try.f84 F.ref02_Compare = true := by kernel_rfl
theorem ok_ref02_Mul : okFn Try.prog num Try.f70 F.ref02_Mul = true := by kernel_rfl
theorem ok_ref03_parts : okFn Try.prog num Try.f67 F.ref03_parts = true := by kernel_rfl
theorem ok_ref03_Of : okFn Try.prog num Try.f87 F.ref03_Of = true := by kernel_rfl
theorem ok_ref03_Compare : okFn Try.prog num Try.f43 F.ref03_Compare = true := by kernel_rfl
theorem ok_ref21_SameRats : okFn Try.prog num Try.f44 F.ref21_SameRats = true := by kernel_rfl
theorem ok_network_Sound : okFn Try.prog num Try.f71 F.network_Sound = true := by kernel_rfl
theorem ok_network_zeros : okFn Try.prog num Try.f81 F.network_zeros = true := by kernel_rfl
theorem ok_network_product : okFn Try.prog num Try.f74 F.network_product = true := by kernel_rfl
theorem ok_network_Respond : okFn Try.prog num Try.f39 F.network_Respond = true := by kernel_rfl
theorem ok_network_spread : okFn Try.prog num Try.f85 F.network_spread = true := by kernel_rfl
theorem ok_network_zero : okFn Try.prog num Try.f86 F.network_zero = true := by kernel_rfl
theorem ok_network_Linear : okFn Try.prog num Try.f45 F.network_Linear = true := by kernel_rfl
theorem ok_world_Ints : okFn Try.prog num Try.f46 F.world_Ints = true := by kernel_rfl
theorem ok_world_Raw_Net : okFn Try.prog num Try.f19 F.world_Raw_Net = true := by kernel_rfl
theorem ok_network_Run : okFn Try.prog num Try.f21 F.network_Run = true := by kernel_rfl
theorem ok_law22_NetworkIsExact : okFn Try.prog num Try.f9 F.law22_NetworkIsExact = true := by kernel_rfl

def lib : List (Nat × AFn) := [(1, F.fixed_mode), (2, F.fixed_Valid), (3, F.fixed_Low), (4, F.fixed_High), (5, F.fixed_Fits), (6, F.fixed_Shift), (7, F.fixed_Wrap), (8, F.fixed_Saturate), (9, F.fixed_Reduce), (10, F.ref21_In), (11, F.ref21_Valid), (12, F.ref21_Low), (13, F.ref21_High), (21, F.network_Valid), (22, F.network_wrong), (23, F.network_compute), (24, F.network_Values), (25, F.network_follow), (32, F.law22_known), (34, F.world_Within), (35, F.world_At), (36, F.world_Word), (37, F.world_Data), (38, F.world_Coef), (39, F.world_Words), (40, F.world_Below), (58, F.cmp_isNaN_int), (59, F.cmp_isNaN_uint32), (60, F.cmp_Compare_int), (61, F.cmp_Compare_uint32), (62, F.slices_Clone_uint32_uint32), (63, F.math_bits_Len32), (64, F.math_bits_LeadingZeros32), (65, F.nat_cut), (66, F.nat_Trim), (67, F.nat_Compare), (68, F.nat_Add), (69, F.nat_Sub), (70, F.nat_Mul), (71, F.nat_lift), (72, F.nat_lower), (73, F.nat_digit), (74, F.nat_divide), (75, F.nat_DivMod), (76, F.nat_small), (77, F.nat_leading_1), (78, F.nat_leading), (79, F.nat_cofactors), (80, F.nat_combine), (81, F.nat_shorten), (82, F.nat_Gcd), (83, F.integer_signed), (84, F.integer_Trim), (85, F.integer_Of), (86, F.integer_Sign), (87, F.integer_Add), (88, F.integer_Mul), (89, F.rational_read), (90, F.rational_isOne), (91, F.rational_natural), (92, F.rational_whole), (93, F.rational_quotient), (94, F.rational_pair_lowest), (95, F.rational_Trim), (96, F.rational_Of), (97, F.rational_Sign), (98, F.rational_Add), (99, F.rational_Mul), (100, F.rational_Div), (101, F.ref01_Trim), (102, F.ref01_Compare), (103, F.ref01_Add), (104, F.ref01_Sub), (105, F.ref01_Mul), (111, F.ref02_Trim), (112, F.ref02_Of), (113, F.ref02_Sign), (114, F.ref02_Neg), (115, F.ref02_Add), (116, F.ref02_Sub), (117, F.ref02_Compare), (118, F.ref02_Mul), (122, F.ref03_parts), (124, F.ref03_Of), (127, F.ref03_Compare), (129, F.ref21_SameRats), (130, F.network_Sound), (131, F.network_zeros), (132, F.network_product), (133, F.network_Respond), (144, F.network_spread), (145, F.network_zero), (146, F.network_Linear), (147, F.world_Ints), (42, F.world_Raw_Net), (43, F.network_Run), (148, F.law22_NetworkIsExact)]
def L : Lib := ⟨fun f => lib.lookup f, num⟩
set_option maxRecDepth 100000 in
theorem progOK : ProgOK Try.prog num L := progOK_of lib (
  List.forall_mem_cons.2 ⟨⟨Try.f90, Try.func90, ok_fixed_mode, by kernel_rfl⟩, 
  List.forall_mem_cons.2 ⟨⟨Try.f53, Try.func53, ok_fixed_Valid, by kernel_rfl⟩, 
  List.forall_mem_cons.2 ⟨⟨Try.f91, Try.func91, ok_fixed_Low, by kernel_rfl⟩, 
  List.forall_mem_cons.2 ⟨⟨Try.f92, Try.func92, ok_fixed_High, by kernel_rfl⟩, 
  List.forall_mem_cons.2 ⟨⟨Try.f54, Try.func54, ok_fixed_Fits, by kernel_rfl⟩, 
  List.forall_mem_cons.2 ⟨⟨Try.f88, Try.func88, ok_fixed_Shift, by kernel_rfl⟩, 
  List.forall_mem_cons.2 ⟨⟨Try.f116, Try.func116, ok_fixed_Wrap, by kernel_rfl⟩, 
  List.forall_mem_cons.2 ⟨⟨Try.f117, Try.func117, ok_fixed_Saturate, by kernel_rfl⟩, 
  List.forall_mem_cons.2 ⟨⟨Try.f89, Try.func89, ok_fixed_Reduce, by kernel_rfl⟩, 
  List.forall_mem_cons.2 ⟨⟨Try.f56, Try.func56, ok_ref21_In, by kernel_rfl⟩, 
  List.forall_mem_cons.2 ⟨⟨Try.f55, Try.func55, ok_ref21_Valid, by kernel_rfl⟩, 
  List.forall_mem_cons.2 ⟨⟨Try.f57, Try.func57, ok_ref21_Low, by kernel_rfl⟩, 
  List.forall_mem_cons.2 ⟨⟨Try.f58, Try.func58, ok_ref21_High, by kernel_rfl⟩, 
  List.forall_mem_cons.2 ⟨⟨Try.f16, Try.func16, ok_network_Valid, by kernel_rfl⟩, 
  List.forall_mem_cons.2 ⟨⟨Try.f47, Try.func47, ok_network_wrong, by kernel_rfl⟩, 
  List.forall_mem_cons.2 ⟨⟨Try.f48, Try.func48, ok_network_compute, by kernel_rfl⟩, 
  List.forall_mem_cons.2 ⟨⟨Try.f12, Try.func12, ok_network_Values, by kernel_rfl⟩, 
  List.forall_mem_cons.2 ⟨⟨Try.f52, Try.func52, ok_network_follow, by kernel_rfl⟩, 
  List.forall_mem_cons.2 ⟨⟨Try.f11, Try.func11, ok_law22_known, by kernel_rfl⟩, 
  List.forall_mem_cons.2 ⟨⟨Try.f23, Try.func23, ok_world_Within, by kernel_rfl⟩, 
  List.forall_mem_cons.2 ⟨⟨Try.f32, Try.func32, ok_world_At, by kernel_rfl⟩, 
  List.forall_mem_cons.2 ⟨⟨Try.f59, Try.func59, ok_world_Word, by kernel_rfl⟩, 
  List.forall_mem_cons.2 ⟨⟨Try.f25, Try.func25, ok_world_Data, by kernel_rfl⟩, 
  List.forall_mem_cons.2 ⟨⟨Try.f26, Try.func26, ok_world_Coef, by kernel_rfl⟩, 
  List.forall_mem_cons.2 ⟨⟨Try.f20, Try.func20, ok_world_Words, by kernel_rfl⟩, 
  List.forall_mem_cons.2 ⟨⟨Try.f27, Try.func27, ok_world_Below, by kernel_rfl⟩, 
  List.forall_mem_cons.2 ⟨⟨Try.f140, Try.func140, ok_cmp_isNaN_int, by kernel_rfl⟩, 
  List.forall_mem_cons.2 ⟨⟨Try.f141, Try.func141, ok_cmp_isNaN_uint32, by kernel_rfl⟩, 
  List.forall_mem_cons.2 ⟨⟨Try.f129, Try.func129, ok_cmp_Compare_int, by kernel_rfl⟩, 
  List.forall_mem_cons.2 ⟨⟨Try.f130, Try.func130, ok_cmp_Compare_uint32, by kernel_rfl⟩, 
  List.forall_mem_cons.2 ⟨⟨Try.f139, Try.func139, ok_slices_Clone_uint32_uint32, by kernel_rfl⟩, 
  List.forall_mem_cons.2 ⟨⟨Try.f149, Try.func149, ok_math_bits_Len32, by kernel_rfl⟩, 
  List.forall_mem_cons.2 ⟨⟨Try.f142, Try.func142, ok_math_bits_LeadingZeros32, by kernel_rfl⟩, 
  List.forall_mem_cons.2 ⟨⟨Try.f128, Try.func128, ok_nat_cut, by kernel_rfl⟩, 
  List.forall_mem_cons.2 ⟨⟨Try.f124, Try.func124, ok_nat_Trim, by kernel_rfl⟩, 
  List.forall_mem_cons.2 ⟨⟨Try.f108, Try.func108, ok_nat_Compare, by kernel_rfl⟩, 
  List.forall_mem_cons.2 ⟨⟨Try.f126, Try.func126, ok_nat_Add, by kernel_rfl⟩, 
  List.forall_mem_cons.2 ⟨⟨Try.f127, Try.func127, ok_nat_Sub, by kernel_rfl⟩, 
  List.forall_mem_cons.2 ⟨⟨Try.f111, Try.func111, ok_nat_Mul, by kernel_rfl⟩, 
  List.forall_mem_cons.2 ⟨⟨Try.f143, Try.func143, ok_nat_lift, by kernel_rfl⟩, 
  List.forall_mem_cons.2 ⟨⟨Try.f145, Try.func145, ok_nat_lower, by kernel_rfl⟩, 
  List.forall_mem_cons.2 ⟨⟨Try.f144, Try.func144, ok_nat_digit, by kernel_rfl⟩, 
  List.forall_mem_cons.2 ⟨⟨Try.f136, Try.func136, ok_nat_divide, by kernel_rfl⟩, 
  List.forall_mem_cons.2 ⟨⟨Try.f120, Try.func120, ok_nat_DivMod, by kernel_rfl⟩, 
  List.forall_mem_cons.2 ⟨⟨Try.f138, Try.func138, ok_nat_small, by kernel_rfl⟩, 
  List.forall_mem_cons.2 ⟨⟨Try.f150, Try.func150, ok_nat_leading_1, by kernel_rfl⟩, 
  List.forall_mem_cons.2 ⟨⟨Try.f147, Try.func147, ok_nat_leading, by kernel_rfl⟩, 
  List.forall_mem_cons.2 ⟨⟨Try.f146, Try.func146, ok_nat_cofactors, by kernel_rfl⟩, 
  List.forall_mem_cons.2 ⟨⟨Try.f148, Try.func148, ok_nat_combine, by kernel_rfl⟩, 
  List.forall_mem_cons.2 ⟨⟨Try.f137, Try.func137, ok_nat_shorten, by kernel_rfl⟩, 
  List.forall_mem_cons.2 ⟨⟨Try.f122, Try.func122, ok_nat_Gcd, by kernel_rfl⟩, 
  List.forall_mem_cons.2 ⟨⟨Try.f125, Try.func125, ok_integer_signed, by kernel_rfl⟩, 
  List.forall_mem_cons.2 ⟨⟨Try.f121, Try.func121, ok_integer_Trim, by kernel_rfl⟩, 
  List.forall_mem_cons.2 ⟨⟨Try.f113, Try.func113, ok_integer_Of, by kernel_rfl⟩, 
  List.forall_mem_cons.2 ⟨⟨Try.f131, Try.func131, ok_integer_Sign, by kernel_rfl⟩, 
  List.forall_mem_cons.2 ⟨⟨Try.f107, Try.func107, ok_integer_Add, by kernel_rfl⟩, 
  List.forall_mem_cons.2 ⟨⟨Try.f109, Try.func109, ok_integer_Mul, by kernel_rfl⟩, 
  List.forall_mem_cons.2 ⟨⟨Try.f104, Try.func104, ok_rational_read, by kernel_rfl⟩, 
  List.forall_mem_cons.2 ⟨⟨Try.f123, Try.func123, ok_rational_isOne, by kernel_rfl⟩, 
  List.forall_mem_cons.2 ⟨⟨Try.f110, Try.func110, ok_rational_natural, by kernel_rfl⟩, 
  List.forall_mem_cons.2 ⟨⟨Try.f106, Try.func106, ok_rational_whole, by kernel_rfl⟩, 
  List.forall_mem_cons.2 ⟨⟨Try.f132, Try.func132, ok_rational_quotient, by kernel_rfl⟩, 
  List.forall_mem_cons.2 ⟨⟨Try.f105, Try.func105, ok_rational_pair_lowest, by kernel_rfl⟩, 
  List.forall_mem_cons.2 ⟨⟨Try.f72, Try.func72, ok_rational_Trim, by kernel_rfl⟩, 
  List.forall_mem_cons.2 ⟨⟨Try.f82, Try.func82, ok_rational_Of, by kernel_rfl⟩, 
  List.forall_mem_cons.2 ⟨⟨Try.f112, Try.func112, ok_rational_Sign, by kernel_rfl⟩, 
  List.forall_mem_cons.2 ⟨⟨Try.f73, Try.func73, ok_rational_Add, by kernel_rfl⟩, 
  List.forall_mem_cons.2 ⟨⟨Try.f75, Try.func75, ok_rational_Mul, by kernel_rfl⟩, 
  List.forall_mem_cons.2 ⟨⟨Try.f115, Try.func115, ok_rational_Div, by kernel_rfl⟩, 
  List.forall_mem_cons.2 ⟨⟨Try.f94, Try.func94, ok_ref01_Trim, by kernel_rfl⟩, 
  List.forall_mem_cons.2 ⟨⟨Try.f101, Try.func101, ok_ref01_Compare, by kernel_rfl⟩, 
  List.forall_mem_cons.2 ⟨⟨Try.f100, Try.func100, ok_ref01_Add, by kernel_rfl⟩, 
  List.forall_mem_cons.2 ⟨⟨Try.f102, Try.func102, ok_ref01_Sub, by kernel_rfl⟩, 
  List.forall_mem_cons.2 ⟨⟨Try.f103, Try.func103, ok_ref01_Mul, by kernel_rfl⟩, 
  List.forall_mem_cons.2 ⟨⟨Try.f99, Try.func99, ok_ref02_Trim, by kernel_rfl⟩, 
  List.forall_mem_cons.2 ⟨⟨Try.f93, Try.func93, ok_ref02_Of, by kernel_rfl⟩, 
  List.forall_mem_cons.2 ⟨⟨Try.f95, Try.func95, ok_ref02_Sign, by kernel_rfl⟩, 
  List.forall_mem_cons.2 ⟨⟨Try.f98, Try.func98, ok_ref02_Neg, by kernel_rfl⟩, 
  List.forall_mem_cons.2 ⟨⟨Try.f69, Try.func69, ok_ref02_Add, by kernel_rfl⟩, 
  List.forall_mem_cons.2 ⟨⟨Try.f114, Try.func114, ok_ref02_Sub, by kernel_rfl⟩, 
  List.forall_mem_cons.2 ⟨⟨Try.f84, Try.func84, ok_ref02_Compare, by kernel_rfl⟩, 
  List.forall_mem_cons.2 ⟨⟨Try.f70, Try.func70, ok_ref02_Mul, by kernel_rfl⟩, 
  List.forall_mem_cons.2 ⟨⟨Try.f67, Try.func67, ok_ref03_parts, by kernel_rfl⟩, 
  List.forall_mem_cons.2 ⟨⟨Try.f87, Try.func87, ok_ref03_Of, by kernel_rfl⟩, 
  List.forall_mem_cons.2 ⟨⟨Try.f43, Try.func43, ok_ref03_Compare, by kernel_rfl⟩, 
  List.forall_mem_cons.2 ⟨⟨Try.f44, Try.func44, ok_ref21_SameRats, by kernel_rfl⟩, 
  List.forall_mem_cons.2 ⟨⟨Try.f71, Try.func71, ok_network_Sound, by kernel_rfl⟩, 
  List.forall_mem_cons.2 ⟨⟨Try.f81, Try.func81, ok_network_zeros, by kernel_rfl⟩, 
  List.forall_mem_cons.2 ⟨⟨Try.f74, Try.func74, ok_network_product, by kernel_rfl⟩, 
  List.forall_mem_cons.2 ⟨⟨Try.f39, Try.func39, ok_network_Respond, by kernel_rfl⟩, 
  List.forall_mem_cons.2 ⟨⟨Try.f85, Try.func85, ok_network_spread, by kernel_rfl⟩, 
  List.forall_mem_cons.2 ⟨⟨Try.f86, Try.func86, ok_network_zero, by kernel_rfl⟩, 
  List.forall_mem_cons.2 ⟨⟨Try.f45, Try.func45, ok_network_Linear, by kernel_rfl⟩, 
  List.forall_mem_cons.2 ⟨⟨Try.f46, Try.func46, ok_world_Ints, by kernel_rfl⟩, 
  List.forall_mem_cons.2 ⟨⟨Try.f19, Try.func19, ok_world_Raw_Net, by kernel_rfl⟩, 
  List.forall_mem_cons.2 ⟨⟨Try.f21, Try.func21, ok_network_Run, by kernel_rfl⟩, 
  List.forall_mem_cons.2 ⟨⟨Try.f9, Try.func9, ok_law22_NetworkIsExact, by kernel_rfl⟩, 
  List.forall_mem_nil _⟩⟩⟩⟩⟩⟩⟩⟩⟩⟩⟩⟩⟩⟩⟩⟩⟩⟩⟩⟩⟩⟩⟩⟩⟩⟩⟩⟩⟩⟩⟩⟩⟩⟩⟩⟩⟩⟩⟩⟩⟩⟩⟩⟩⟩⟩⟩⟩⟩⟩⟩⟩⟩⟩⟩⟩⟩⟩⟩⟩⟩⟩⟩⟩⟩⟩⟩⟩⟩⟩⟩⟩⟩⟩⟩⟩⟩⟩⟩⟩⟩⟩⟩⟩⟩⟩⟩⟩⟩⟩⟩⟩⟩⟩⟩⟩⟩)
theorem hasFixed : F.FixedLib L := { fixed_mode := rfl, fixed_Valid := rfl, fixed_Low := rfl, fixed_High := rfl, fixed_Fits := rfl, fixed_Shift := rfl, fixed_Wrap := rfl, fixed_Saturate := rfl, fixed_Reduce := rfl, ref21_In := rfl, ref21_Valid := rfl, ref21_Low := rfl, ref21_High := rfl }
theorem hasNet : F.NetLib L := { hasFixed with network_Valid := rfl, network_wrong := rfl, network_compute := rfl, network_Values := rfl, network_follow := rfl, law22_known := rfl }
theorem hasWorld : F.WorldLib L := { hasFixed with world_Within := rfl, world_At := rfl, world_Word := rfl, world_Data := rfl, world_Coef := rfl, world_Words := rfl, world_Below := rfl }
theorem hasNatG : F.NatGLib L := { cmp_isNaN_int := rfl, cmp_isNaN_uint32 := rfl, cmp_Compare_int := rfl, cmp_Compare_uint32 := rfl, slices_Clone_uint32_uint32 := rfl, math_bits_Len32 := rfl, math_bits_LeadingZeros32 := rfl, nat_cut := rfl, nat_Trim := rfl, nat_Compare := rfl, nat_Add := rfl, nat_Sub := rfl, nat_Mul := rfl, nat_lift := rfl, nat_lower := rfl, nat_digit := rfl, nat_divide := rfl, nat_DivMod := rfl, nat_small := rfl, nat_leading_1 := rfl, nat_leading := rfl, nat_cofactors := rfl, nat_combine := rfl, nat_shorten := rfl, nat_Gcd := rfl }
theorem hasRatG : F.RatGLib L := { hasNatG with integer_signed := rfl, integer_Trim := rfl, integer_Of := rfl, integer_Sign := rfl, integer_Add := rfl, integer_Mul := rfl, rational_read := rfl, rational_isOne := rfl, rational_natural := rfl, rational_whole := rfl, rational_quotient := rfl, rational_pair_lowest := rfl, rational_Trim := rfl, rational_Of := rfl, rational_Sign := rfl, rational_Add := rfl, rational_Mul := rfl, rational_Div := rfl }
theorem hasRefG : F.RefGLib L := { ref01_Trim := rfl, ref01_Compare := rfl, ref01_Add := rfl, ref01_Sub := rfl, ref01_Mul := rfl, ref02_Trim := rfl, ref02_Of := rfl, ref02_Sign := rfl, ref02_Neg := rfl, ref02_Add := rfl, ref02_Sub := rfl, ref02_Compare := rfl, ref02_Mul := rfl, ref03_parts := rfl, ref03_Of := rfl, ref03_Compare := rfl, ref21_SameRats := rfl }
theorem hasSysG : F.SysGLib L := { hasRatG, hasRefG with network_Sound := rfl, network_zeros := rfl, network_product := rfl, network_Respond := rfl }
theorem hasLinG : F.LinGLib L := { hasSysG, hasNet with network_spread := rfl, network_zero := rfl, network_Linear := rfl }
theorem hasIntsG : F.IntsGLib L := { hasRefG with world_Ints := rfl }
theorem hasRunG : F.RunGLib L := { hasNet, hasWorld with world_Raw_Net := rfl, network_Run := rfl }
theorem hasLawE : F.LawELib L := { hasLinG, hasIntsG, hasRunG with law22_NetworkIsExact := rfl }

end Go.Proofs.Ytajmlglkafhdhaa

