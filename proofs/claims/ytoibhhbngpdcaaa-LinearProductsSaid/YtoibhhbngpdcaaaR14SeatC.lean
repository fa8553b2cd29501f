/-
  The functions of the groups are the program's own: checked by the kernel, function by function.
-/
import Derived.Test.YtoibhhbngpdcaaaProg
import Derived.KernelRfl
import Derived.Test.YtoibhhbngpdcaaaB3
import Derived.Test.YtoibhhbngpdcaaaB4
set_option linter.unusedSimpArgs false
set_option linter.unusedVariables false
set_option linter.unnecessarySimpa false















namespace Go.Proofs.Ytoibhhbngpdcaaa
open Go.Eng

def num : Nat → Nat
  | 58 => 97
  | 59 => 98
  | 60 => 88
  | 61 => 89
  | 62 => 90
  | 63 => 106
  | 64 => 99
  | 65 => 87
  | 66 => 78
  | 67 => 73
  | 68 => 85
  | 69 => 86
  | 70 => 74
  | 71 => 100
  | 72 => 102
  | 73 => 101
  | 74 => 91
  | 75 => 79
  | 76 => 93
  | 77 => 107
  | 78 => 104
  | 79 => 103
  | 80 => 105
  | 81 => 92
  | 82 => 81
  | 83 => 77
  | 84 => 80
  | 85 => 53
  | 86 => 55
  | 87 => 72
  | 88 => 56
  | 89 => 54
  | 90 => 82
  | 91 => 57
  | 92 => 52
  | 93 => 58
  | 94 => 59
  | 95 => 60
  | 96 => 30
  | 97 => 50
  | 98 => 43
  | 99 => 44
  | 100 => 31
  | 101 => 62
  | 102 => 68
  | 103 => 67
  | 104 => 69
  | 105 => 70
  | 106 => 95
  | 107 => 96
  | 108 => 94
  | 109 => 84
  | 110 => 83
  | 111 => 63
  | 112 => 36
  | 113 => 34
  | 114 => 66
  | 118 => 39
  | 119 => 65
  | 120 => 64
  | 121 => 37
  | 122 => 33
  | 124 => 12
  | 125 => 23
  | 128 => 14
  | 149 => 61
  | 150 => 76
  | 155 => 10
  | 156 => 46
  | 157 => 45
  | 158 => 22
  | 159 => 35
  | 199 => 32
  | 224 => 47
  | 225 => 24
  | 226 => 6
  | 227 => 75
  | 228 => 48
  | 229 => 25
  | 230 => 27
  | 231 => 28
  | 900 => 51
  | 233 => 29
  | 234 => 49
  | 235 => 26
  | 236 => 9
  | 237 => 7
  | 238 => 8
  | 243 => 11
  | 246 => 42
  | 247 => 21
  | 248 => 19
  | 249 => 20
  | 251 => 5
  | _ => 0
theorem ok_cmp_isNaN_int : okFn Try.prog num Try.f97 F.cmp_isNaN_int = true := by kernel_rfl
theorem ok_cmp_isNaN_uint32 : okFn Try.prog num Try.f98 F.cmp_isNaN_uint32 = true := by kernel_rfl
theorem ok_cmp_Compare_int : okFn Try.prog num Try.f88 F.cmp_Compare_int = true := by kernel_rfl
theorem ok_cmp_Compare_uint32 : okFn Try.prog num Try.f89 F.cmp_Compare_uint32 = true := by kernel_rfl
theorem ok_slices_Clone_uint32_uint32 : okFn Try.prog num Try.f90 F.slices_Clone_uint32_uint32 = true := by kernel_rfl
theorem ok_math_bits_Len32 : okFn Try.prog num Try.f106 F.math_bits_Len32 = true := by kernel_rfl
theorem ok_math_bits_LeadingZeros32 : okFn Try.prog num Try.f99 F.math_bits_LeadingZeros32 = true := by kernel_rfl
theorem ok_nat_cut : okFn Try.prog num Try.f87 F.nat_cut = true := by kernel_rfl
theorem ok_nat_Trim : okFn Try.prog num Try.f78 F.nat_Trim = true := by kernel_rfl
theorem ok_nat_Compare : okFn Try.prog num Try.f73 F.nat_Compare = true := by kernel_rfl
theorem ok_nat_Add : okFn Try.prog num Try.f85 F.nat_Add = true := by kernel_rfl
theorem ok_nat_Sub : okFn Try.prog num Try.f86 F.nat_Sub = true := by kernel_rfl
theorem ok_nat_Mul : okFn Try.prog num Try.f74 F.nat_Mul = true := by kernel_rfl
theorem ok_nat_lift : okFn Try.prog num Try.f100 F.nat_lift = true := by kernel_rfl
theorem ok_nat_lower : okFn Try.prog num Try.f102 F.nat_lower = true := by kernel_rfl
theorem ok_nat_digit : okFn Try.prog num Try.f101 F.nat_digit = true := by kernel_rfl
theorem ok_nat_divide : okFn Try.prog num Try.f91 F.nat_divide = true := by kernel_rfl
theorem ok_nat_DivMod : okFn Try.prog num Try.f79 F.nat_DivMod = true := by kernel_rfl
theorem ok_nat_small : okFn Try.prog num Try.f93 F.nat_small = true := by kernel_rfl
theorem ok_nat_leading_1 : okFn Try.prog num Try.f107 F.nat_leading_1 = true := by kernel_rfl
theorem ok_nat_leading : okFn Try.prog num Try.f104 F.nat_leading = true := by kernel_rfl
theorem ok_nat_cofactors : okFn Try.prog num Try.f103 F.nat_cofactors = true := by kernel_rfl
theorem ok_nat_combine : okFn Try.prog num Try.f105 F.nat_combine = true := by kernel_rfl
theorem ok_nat_shorten : okFn Try.prog num Try.f92 F.nat_shorten = true := by kernel_rfl
theorem ok_nat_Gcd : okFn Try.prog num Try.f81 F.nat_Gcd = true := by kernel_rfl
theorem ok_integer_signed : okFn Try.prog num Try.f77 F.integer_signed = true := by kernel_rfl
theorem ok_integer_Trim : okFn Try.prog num Try.f80 F.integer_Trim = true := by kernel_rfl
theorem ok_integer_Of : okFn Try.prog num Try.f53 F.integer_Of = true := by kernel_rfl
theorem ok_integer_Sign : okFn Try.prog num Try.f55 F.integer_Sign = true := by kernel_rfl
theorem ok_integer_Add : okFn Try.prog num Try.f72 F.integer_Add = true := by kernel_rfl
theorem ok_integer_Mul : okFn Try.prog num Try.f56 F.integer_Mul = true := by kernel_rfl
theorem ok_rational_read : okFn Try.prog num Try.f54 F.rational_read = true := by kernel_rfl
theorem ok_rational_isOne : okFn Try.prog num Try.f82 F.rational_isOne = true := by kernel_rfl
theorem ok_rational_natural : okFn Try.prog num Try.f57 F.rational_natural = true := by kernel_rfl
theorem ok_rational_whole : okFn Try.prog num Try.f52 F.rational_whole = true := by kernel_rfl
theorem ok_rational_quotient : okFn Try.prog num Try.f58 F.rational_quotient = true := by kernel_rfl
theorem ok_rational_pair_lowest : okFn Try.prog num Try.f59 F.rational_pair_lowest = true := by kernel_rfl
theorem ok_rational_Trim : okFn Try.prog num Try.f60 F.rational_Trim = true := by kernel_rfl
theorem ok_rational_Of : okFn Try.prog num Try.f30 F.rational_Of = true := by kernel_rfl
theorem ok_rational_Sign : okFn Try.prog num Try.f50 F.rational_Sign = true := by kernel_rfl
theorem ok_rational_Add : okFn Try.prog num Try.f43 F.rational_Add = true := by kernel_rfl
theorem ok_rational_Mul : okFn Try.prog num Try.f44 F.rational_Mul = true := by kernel_rfl
theorem ok_rational_Div : okFn Try.prog num Try.f31 F.rational_Div = true := by kernel_rfl
theorem ok_ref01_Trim : okFn Try.prog num Try.f62 F.ref01_Trim = true := by kernel_rfl
theorem ok_ref01_Compare : okFn Try.prog num Try.f68 F.ref01_Compare = true := by kernel_rfl
theorem ok_ref01_Add : okFn Try.prog num Try.f67 F.ref01_Add = true := by kernel_rfl
theorem ok_ref01_Sub : okFn Try.prog num Try.f69 F.ref01_Sub = true := by kernel_rfl
theorem ok_ref01_Mul : okFn Try.prog num Try.f70 F.ref01_Mul = true := by kernel_rfl
theorem ok_ref01_BitLen : okFn Try.prog num Try.f95 F.ref01_BitLen = true := by kernel_rfl
theorem ok_ref01_Shift : okFn Try.prog num Try.f96 F.ref01_Shift = true := by kernel_rfl
theorem ok_ref01_small : okFn Try.prog num Try.f94 F.ref01_small = true := by kernel_rfl
theorem ok_ref01_DivMod : okFn Try.prog num Try.f84 F.ref01_DivMod = true := by kernel_rfl
theorem ok_ref01_Gcd : okFn Try.prog num Try.f83 F.ref01_Gcd = true := by kernel_rfl
theorem ok_ref02_Trim : okFn Try.prog num Try.f63 F.ref02_Trim = true := by kernel_rfl
theorem ok_ref02_Of : okFn Try.prog num Try.f36 F.ref02_Of = true := by kernel_rfl
theorem ok_ref02_Sign : okFn Try.prog num Try.f34 F.ref02_Sign = true := by kernel_rfl
theorem ok_ref02_Neg : okFn Try.prog num Try.f66 F.ref02_Neg = true := by kernel_rfl
theorem ok_ref02_Mul : okFn Try.prog num Try.f39 F.ref02_Mul = true := by kernel_rfl
theorem ok_ref02_Div : okFn Try.prog num Try.f65 F.ref02_Div = true := by kernel_rfl
theorem ok_ref02_Gcd : okFn Try.prog num Try.f64 F.ref02_Gcd = true := by kernel_rfl
theorem ok_ref03_reduce : okFn Try.prog num Try.f37 F.ref03_reduce = true := by kernel_rfl
theorem ok_ref03_parts : okFn Try.prog num Try.f33 F.ref03_parts = true := by kernel_rfl
theorem ok_ref03_Of : okFn Try.prog num Try.f12 F.ref03_Of = true := by kernel_rfl
theorem ok_ref03_Frac : okFn Try.prog num Try.f23 F.ref03_Frac = true := by kernel_rfl
theorem ok_ref03_Mul : okFn Try.prog num Try.f14 F.ref03_Mul = true := by kernel_rfl
theorem ok_rational_flip : okFn Try.prog num Try.f61 F.rational_flip = true := by kernel_rfl
theorem ok_rational_Sub : okFn Try.prog num Try.f76 F.rational_Sub = true := by kernel_rfl
theorem ok_ref03_Sign : okFn Try.prog num Try.f10 F.ref03_Sign = true := by kernel_rfl
theorem ok_ref01_Same : okFn Try.prog num Try.f46 F.ref01_Same = true := by kernel_rfl
theorem ok_ref02_Same : okFn Try.prog num Try.f45 F.ref02_Same = true := by kernel_rfl
theorem ok_ref03_Same : okFn Try.prog num Try.f22 F.ref03_Same = true := by kernel_rfl
theorem ok_ref03_SameList : okFn Try.prog num Try.f35 F.ref03_SameList = true := by kernel_rfl
theorem ok_rational_Neg : okFn Try.prog num Try.f32 F.rational_Neg = true := by kernel_rfl
theorem ok_make_Mod : okFn Try.prog num Try.f47 F.make_Mod = true := by kernel_rfl
theorem ok_make_Tape_Next : okFn Try.prog num Try.f24 F.make_Tape_Next = true := by kernel_rfl
theorem ok_make_Matrix : okFn Try.prog num Try.f6 F.make_Matrix = true := by kernel_rfl
theorem ok_slices_Grow_api_Rat_api_Rat : okFn Try.prog num Try.f75 F.slices_Grow_api_Rat_api_Rat = true := by kernel_rfl
theorem ok_slices_Concat_api_Rat_api_Rat : okFn Try.prog num Try.f48 F.slices_Concat_api_Rat_api_Rat = true := by kernel_rfl
theorem ok_linear_Valid : okFn Try.prog num Try.f25 F.linear_Valid = true := by kernel_rfl
theorem ok_linear_Identity : okFn Try.prog num Try.f27 F.linear_Identity = true := by kernel_rfl
theorem ok_linear_wholeRows : okFn Try.prog num Try.f28 F.linear_wholeRows = true := by kernel_rfl
theorem ok_linear_sweep : okFn Try.prog num Try.f51 F.linear_sweep = true := by kernel_rfl
theorem ok_linear_eliminate : okFn Try.prog num Try.f29 F.linear_eliminate = true := by kernel_rfl
theorem ok_linear_column : okFn Try.prog num Try.f49 F.linear_column = true := by kernel_rfl
theorem ok_linear_solve : okFn Try.prog num Try.f26 F.linear_solve = true := by kernel_rfl
theorem ok_linear_Determinant : okFn Try.prog num Try.f9 F.linear_Determinant = true := by kernel_rfl
theorem ok_linear_Solve : okFn Try.prog num Try.f7 F.linear_Solve = true := by kernel_rfl
theorem ok_linear_Inverse : okFn Try.prog num Try.f8 F.linear_Inverse = true := by kernel_rfl
theorem ok_law09_awake : okFn Try.prog num Try.f11 F.law09_awake = true := by kernel_rfl
theorem ok_linear_transposed : okFn Try.prog num Try.f42 F.linear_transposed = true := by kernel_rfl
theorem ok_linear_Transpose : okFn Try.prog num Try.f21 F.linear_Transpose = true := by kernel_rfl
theorem ok_linear_Times : okFn Try.prog num Try.f19 F.linear_Times = true := by kernel_rfl
theorem ok_linear_Rank : okFn Try.prog num Try.f20 F.linear_Rank = true := by kernel_rfl
theorem ok_law09_LinearProducts : okFn Try.prog num Try.f5 F.law09_LinearProducts = true := by kernel_rfl

def lib : List (Nat × AFn) := [(58, F.cmp_isNaN_int), (59, F.cmp_isNaN_uint32), (60, F.cmp_Compare_int), (61, F.cmp_Compare_uint32), (62, F.slices_Clone_uint32_uint32), (63, F.math_bits_Len32), (64, F.math_bits_LeadingZeros32), (65, F.nat_cut), (66, F.nat_Trim), (67, F.nat_Compare), (68, F.nat_Add), (69, F.nat_Sub), (70, F.nat_Mul), (71, F.nat_lift), (72, F.nat_lower), (73, F.nat_digit), (74, F.nat_divide), (75, F.nat_DivMod), (76, F.nat_small), (77, F.nat_leading_1), (78, F.nat_leading), (79, F.nat_cofactors), (80, F.nat_combine), (81, F.nat_shorten), (82, F.nat_Gcd), (83, F.integer_signed), (84, F.integer_Trim), (85, F.integer_Of), (86, F.integer_Sign), (87, F.integer_Add), (88, F.integer_Mul), (89, F.rational_read), (90, F.rational_isOne), (91, F.rational_natural), (92, F.rational_whole), (93, F.rational_quotient), (94, F.rational_pair_lowest), (95, F.rational_Trim), (96, F.rational_Of), (97, F.rational_Sign), (98, F.rational_Add), (99, F.rational_Mul), (100, F.rational_Div), (101, F.ref01_Trim), (102, F.ref01_Compare), (103, F.ref01_Add), (104, F.ref01_Sub), (105, F.ref01_Mul), (106, F.ref01_BitLen), (107, F.ref01_Shift), (108, F.ref01_small), (109, F.ref01_DivMod), (110, F.ref01_Gcd), (111, F.ref02_Trim), (112, F.ref02_Of), (113, F.ref02_Sign), (114, F.ref02_Neg), (118, F.ref02_Mul), (119, F.ref02_Div), (120, F.ref02_Gcd), (121, F.ref03_reduce), (122, F.ref03_parts), (124, F.ref03_Of), (125, F.ref03_Frac), (128, F.ref03_Mul), (149, F.rational_flip), (150, F.rational_Sub), (155, F.ref03_Sign), (156, F.ref01_Same), (157, F.ref02_Same), (158, F.ref03_Same), (159, F.ref03_SameList), (199, F.rational_Neg), (224, F.make_Mod), (225, F.make_Tape_Next), (226, F.make_Matrix), (227, F.slices_Grow_api_Rat_api_Rat), (228, F.slices_Concat_api_Rat_api_Rat), (229, F.linear_Valid), (230, F.linear_Identity), (231, F.linear_wholeRows), (900, F.linear_sweep), (233, F.linear_eliminate), (234, F.linear_column), (235, F.linear_solve), (236, F.linear_Determinant), (237, F.linear_Solve), (238, F.linear_Inverse), (243, F.law09_awake), (246, F.linear_transposed), (247, F.linear_Transpose), (248, F.linear_Times), (249, F.linear_Rank), (251, F.law09_LinearProducts)]
def L : Lib := ⟨fun f => lib.lookup f, num⟩
set_option maxRecDepth 100000 in
theorem progOK : ProgOK Try.prog num L := progOK_of lib (
  List.forall_mem_cons.2 ⟨⟨Try.f97, Try.func97, ok_cmp_isNaN_int, by kernel_rfl⟩, 
  List.forall_mem_cons.2 ⟨⟨Try.f98, Try.func98, ok_cmp_isNaN_uint32, by kernel_rfl⟩, 
  List.forall_mem_cons.2 ⟨⟨Try.f88, Try.func88, ok_cmp_Compare_int, by kernel_rfl⟩, 
  List.forall_mem_cons.2 ⟨⟨Try.f89, Try.func89, ok_cmp_Compare_uint32, by kernel_rfl⟩, 
  List.forall_mem_cons.2 ⟨⟨Try.f90, Try.func90, ok_slices_Clone_uint32_uint32, by kernel_rfl⟩, 
  List.forall_mem_cons.2 ⟨⟨Try.f106, Try.func106, ok_math_bits_Len32, by kernel_rfl⟩, 
  List.forall_mem_cons.2 ⟨⟨Try.f99, Try.func99, ok_math_bits_LeadingZeros32, by kernel_rfl⟩, 
  List.forall_mem_cons.2 ⟨⟨Try.f87, Try.func87, ok_nat_cut, by kernel_rfl⟩, 
  List.forall_mem_cons.2 ⟨⟨Try.f78, Try.func78, ok_nat_Trim, by kernel_rfl⟩, 
  List.forall_mem_cons.2 ⟨⟨Try.f73, Try.func73, ok_nat_Compare, by kernel_rfl⟩, 
  List.forall_mem_cons.2 ⟨⟨Try.f85, Try.func85, ok_nat_Add, by kernel_rfl⟩, 
  List.forall_mem_cons.2 ⟨⟨Try.f86, Try.func86, ok_nat_Sub, by kernel_rfl⟩, 
  List.forall_mem_cons.2 ⟨⟨Try.f74, Try.func74, ok_nat_Mul, by kernel_rfl⟩, 
  List.forall_mem_cons.2 ⟨⟨Try.f100, Try.func100, ok_nat_lift, by kernel_rfl⟩, 
  List.forall_mem_cons.2 ⟨⟨Try.f102, Try.func102, ok_nat_lower, by kernel_rfl⟩, 
  List.forall_mem_cons.2 ⟨⟨Try.f101, Try.func101, ok_nat_digit, by kernel_rfl⟩, 
  List.forall_mem_cons.2 ⟨⟨Try.f91, Try.func91, ok_nat_divide, by kernel_rfl⟩, 
  List.forall_mem_cons.2 ⟨⟨Try.f79, Try.func79, ok_nat_DivMod, by kernel_rfl⟩, 
  List.forall_mem_cons.2 ⟨⟨Try.f93, Try.func93, ok_nat_small, by kernel_rfl⟩, 
  List.forall_mem_cons.2 ⟨⟨Try.f107, Try.func107, ok_nat_leading_1, by kernel_rfl⟩, 
  List.forall_mem_cons.2 ⟨⟨Try.f104, Try.func104, ok_nat_leading, by kernel_rfl⟩, 
  List.forall_mem_cons.2 ⟨⟨Try.f103, Try.func103, ok_nat_cofactors, by kernel_rfl⟩, 
  List.forall_mem_cons.2 ⟨⟨Try.f105, Try.func105, ok_nat_combine, by kernel_rfl⟩, 
  List.forall_mem_cons.2 ⟨⟨Try.f92, Try.func92, ok_nat_shorten, by kernel_rfl⟩, 
  List.forall_mem_cons.2 ⟨⟨Try.f81, Try.func81, ok_nat_Gcd, by kernel_rfl⟩, 
  List.forall_mem_cons.2 ⟨⟨Try.f77, Try.func77, ok_integer_signed, by kernel_rfl⟩, 
  List.forall_mem_cons.2 ⟨⟨Try.f80, Try.func80, ok_integer_Trim, by kernel_rfl⟩, 
  List.forall_mem_cons.2 ⟨⟨Try.f53, Try.func53, ok_integer_Of, by kernel_rfl⟩, 
  List.forall_mem_cons.2 ⟨⟨Try.f55, Try.func55, ok_integer_Sign, by kernel_rfl⟩, 
  List.forall_mem_cons.2 ⟨⟨Try.f72, Try.func72, ok_integer_Add, by kernel_rfl⟩, 
  List.forall_mem_cons.2 ⟨⟨Try.f56, Try.func56, ok_integer_Mul, by kernel_rfl⟩, 
  List.forall_mem_cons.2 ⟨⟨Try.f54, Try.func54, ok_rational_read, by kernel_rfl⟩, 
  List.forall_mem_cons.2 ⟨⟨Try.f82, Try.func82, ok_rational_isOne, by kernel_rfl⟩, 
  List.forall_mem_cons.2 ⟨⟨Try.f57, Try.func57, ok_rational_natural, by kernel_rfl⟩, 
  List.forall_mem_cons.2 ⟨⟨Try.f52, Try.func52, ok_rational_whole, by kernel_rfl⟩, 
  List.forall_mem_cons.2 ⟨⟨Try.f58, Try.func58, ok_rational_quotient, by kernel_rfl⟩, 
  List.forall_mem_cons.2 ⟨⟨Try.f59, Try.func59, ok_rational_pair_lowest, by kernel_rfl⟩, 
  List.forall_mem_cons.2 ⟨⟨Try.f60, Try.func60, ok_rational_Trim, by kernel_rfl⟩, 
  List.forall_mem_cons.2 ⟨⟨Try.f30, Try.func30, ok_rational_Of, by kernel_rfl⟩, 
  List.forall_mem_cons.2 ⟨⟨Try.f50, Try.func50, ok_rational_Sign, by kernel_rfl⟩, 
  List.forall_mem_cons.2 ⟨⟨Try.f43, Try.func43, ok_rational_Add, by kernel_rfl⟩, 
  List.forall_mem_cons.2 ⟨⟨Try.f44, Try.func44, ok_rational_Mul, by kernel_rfl⟩, 
  List.forall_mem_cons.2 ⟨⟨Try.f31, Try.func31, ok_rational_Div, by kernel_rfl⟩, 
  List.forall_mem_cons.2 ⟨⟨Try.f62, Try.func62, ok_ref01_Trim, by kernel_rfl⟩, 
  List.forall_mem_cons.2 ⟨⟨Try.f68, Try.func68, ok_ref01_Compare, by kernel_rfl⟩, 
  List.forall_mem_cons.2 ⟨⟨Try.f67, Try.func67, ok_ref01_Add, by kernel_rfl⟩, 
  List.forall_mem_cons.2 ⟨⟨Try.f69, Try.func69, ok_ref01_Sub, by kernel_rfl⟩, 
  List.forall_mem_cons.2 ⟨⟨Try.f70, Try.func70, ok_ref01_Mul, by kernel_rfl⟩, 
  List.forall_mem_cons.2 ⟨⟨Try.f95, Try.func95, ok_ref01_BitLen, by kernel_rfl⟩, 
  List.forall_mem_cons.2 ⟨⟨Try.f96, Try.func96, ok_ref01_Shift, by kernel_rfl⟩, 
  List.forall_mem_cons.2 ⟨⟨Try.f94, Try.func94, ok_ref01_small, by kernel_rfl⟩, 
  List.forall_mem_cons.2 ⟨⟨Try.f84, Try.func84, ok_ref01_DivMod, by kernel_rfl⟩, 
  List.forall_mem_cons.2 ⟨⟨Try.f83, Try.func83, ok_ref01_Gcd, by kernel_rfl⟩, 
  List.forall_mem_cons.2 ⟨⟨Try.f63, Try.func63, ok_ref02_Trim, by kernel_rfl⟩, 
  List.forall_mem_cons.2 ⟨⟨Try.f36, Try.func36, ok_ref02_Of, by kernel_rfl⟩, 
  List.forall_mem_cons.2 ⟨⟨Try.f34, Try.func34, ok_ref02_Sign, by kernel_rfl⟩, 
  List.forall_mem_cons.2 ⟨⟨Try.f66, Try.func66, ok_ref02_Neg, by kernel_rfl⟩, 
  List.forall_mem_cons.2 ⟨⟨Try.f39, Try.func39, ok_ref02_Mul, by kernel_rfl⟩, 
  List.forall_mem_cons.2 ⟨⟨Try.f65, Try.func65, ok_ref02_Div, by kernel_rfl⟩, 
  List.forall_mem_cons.2 ⟨⟨Try.f64, Try.func64, ok_ref02_Gcd, by kernel_rfl⟩, 
  List.forall_mem_cons.2 ⟨⟨Try.f37, Try.func37, ok_ref03_reduce, by kernel_rfl⟩, 
  List.forall_mem_cons.2 ⟨⟨Try.f33, Try.func33, ok_ref03_parts, by kernel_rfl⟩, 
  List.forall_mem_cons.2 ⟨⟨Try.f12, Try.func12, ok_ref03_Of, by kernel_rfl⟩, 
  List.forall_mem_cons.2 ⟨⟨Try.f23, Try.func23, ok_ref03_Frac, by kernel_rfl⟩, 
  List.forall_mem_cons.2 ⟨⟨Try.f14, Try.func14, ok_ref03_Mul, by kernel_rfl⟩, 
  List.forall_mem_cons.2 ⟨⟨Try.f61, Try.func61, ok_rational_flip, by kernel_rfl⟩, 
  List.forall_mem_cons.2 ⟨⟨Try.f76, Try.func76, ok_rational_Sub, by kernel_rfl⟩, 
  List.forall_mem_cons.2 ⟨⟨Try.f10, Try.func10, ok_ref03_Sign, by kernel_rfl⟩, 
  List.forall_mem_cons.2 ⟨⟨Try.f46, Try.func46, ok_ref01_Same, by kernel_rfl⟩, 
  List.forall_mem_cons.2 ⟨⟨Try.f45, Try.func45, ok_ref02_Same, by kernel_rfl⟩, 
  List.forall_mem_cons.2 ⟨⟨Try.f22, Try.func22, ok_ref03_Same, by kernel_rfl⟩, 
  List.forall_mem_cons.2 ⟨⟨Try.f35, Try.func35, ok_ref03_SameList, by kernel_rfl⟩, 
  List.forall_mem_cons.2 ⟨⟨Try.f32, Try.func32, ok_rational_Neg, by kernel_rfl⟩, 
  List.forall_mem_cons.2 ⟨⟨Try.f47, Try.func47, ok_make_Mod, by kernel_rfl⟩, 
  List.forall_mem_cons.2 ⟨⟨Try.f24, Try.func24, ok_make_Tape_Next, by kernel_rfl⟩, 
  List.forall_mem_cons.2 ⟨⟨Try.f6, Try.func6, ok_make_Matrix, by kernel_rfl⟩, 
  List.forall_mem_cons.2 ⟨⟨Try.f75, Try.func75, ok_slices_Grow_api_Rat_api_Rat, by kernel_rfl⟩, 
  List.forall_mem_cons.2 ⟨⟨Try.f48, Try.func48, ok_slices_Concat_api_Rat_api_Rat, by kernel_rfl⟩, 
  List.forall_mem_cons.2 ⟨⟨Try.f25, Try.func25, ok_linear_Valid, by kernel_rfl⟩, 
  List.forall_mem_cons.2 ⟨⟨Try.f27, Try.func27, ok_linear_Identity, by kernel_rfl⟩, 
  List.forall_mem_cons.2 ⟨⟨Try.f28, Try.func28, ok_linear_wholeRows, by kernel_rfl⟩, 
  List.forall_mem_cons.2 ⟨⟨Try.f51, Try.func51, ok_linear_sweep, by kernel_rfl⟩, 
  List.forall_mem_cons.2 ⟨⟨Try.f29, Try.func29, ok_linear_eliminate, by kernel_rfl⟩, 
  List.forall_mem_cons.2 ⟨⟨Try.f49, Try.func49, ok_linear_column, by kernel_rfl⟩, 
  List.forall_mem_cons.2 ⟨⟨Try.f26, Try.func26, ok_linear_solve, by kernel_rfl⟩, 
  List.forall_mem_cons.2 ⟨⟨Try.f9, Try.func9, ok_linear_Determinant, by kernel_rfl⟩, 
  List.forall_mem_cons.2 ⟨⟨Try.f7, Try.func7, ok_linear_Solve, by kernel_rfl⟩, 
  List.forall_mem_cons.2 ⟨⟨Try.f8, Try.func8, ok_linear_Inverse, by kernel_rfl⟩, 
  List.forall_mem_cons.2 ⟨⟨Try.f11, Try.func11, ok_law09_awake, by kernel_rfl⟩, 
  List.forall_mem_cons.2 ⟨⟨Try.f42, Try.func42, ok_linear_transposed, by kernel_rfl⟩, 
  List.forall_mem_cons.2 ⟨⟨Try.f21, Try.func21, ok_linear_Transpose, by kernel_rfl⟩, 
  List.forall_mem_cons.2 ⟨⟨Try.f19, Try.func19, ok_linear_Times, by kernel_rfl⟩, 
  List.forall_mem_cons.2 ⟨⟨Try.f20, Try.func20, ok_linear_Rank, by kernel_rfl⟩, 
  List.forall_mem_cons.2 ⟨⟨Try.f5, Try.func5, ok_law09_LinearProducts, by kernel_rfl⟩, 
  List.forall_mem_nil _⟩⟩⟩⟩⟩⟩⟩⟩⟩⟩⟩⟩⟩⟩⟩⟩⟩⟩⟩⟩⟩⟩⟩⟩⟩⟩⟩⟩⟩⟩⟩⟩⟩⟩⟩⟩⟩⟩⟩⟩⟩⟩⟩⟩⟩⟩⟩⟩⟩⟩⟩⟩⟩⟩⟩⟩⟩⟩⟩⟩⟩⟩⟩⟩⟩⟩⟩⟩⟩⟩⟩⟩⟩⟩⟩⟩⟩⟩⟩⟩⟩⟩⟩⟩⟩⟩⟩⟩⟩⟩⟩⟩⟩⟩)
theorem hasFixed : F.FixedLib L := {  }
theorem hasNet : F.NetLib L := { hasFixed with  }
theorem hasWorld : F.WorldLib L := { hasFixed with  }
theorem hasRunG : F.RunGLib L := { hasNet, hasWorld with  }
theorem hasDirectG : F.DirectGLib L := { hasRunG with  }
theorem hasNatG : F.NatGLib L := { cmp_isNaN_int := rfl, cmp_isNaN_uint32 := rfl, cmp_Compare_int := rfl, cmp_Compare_uint32 := rfl, slices_Clone_uint32_uint32 := rfl, math_bits_Len32 := rfl, math_bits_LeadingZeros32 := rfl, nat_cut := rfl, nat_Trim := rfl, nat_Compare := rfl, nat_Add := rfl, nat_Sub := rfl, nat_Mul := rfl, nat_lift := rfl, nat_lower := rfl, nat_digit := rfl, nat_divide := rfl, nat_DivMod := rfl, nat_small := rfl, nat_leading_1 := rfl, nat_leading := rfl, nat_cofactors := rfl, nat_combine := rfl, nat_shorten := rfl, nat_Gcd := rfl }
theorem hasRatG : F.RatGLib L := { hasNatG with integer_signed := rfl, integer_Trim := rfl, integer_Of := rfl, integer_Sign := rfl, integer_Add := rfl, integer_Mul := rfl, rational_read := rfl, rational_isOne := rfl, rational_natural := rfl, rational_whole := rfl, rational_quotient := rfl, rational_pair_lowest := rfl, rational_Trim := rfl, rational_Of := rfl, rational_Sign := rfl, rational_Add := rfl, rational_Mul := rfl, rational_Div := rfl }
theorem hasRefG : F.RefGLib L := { ref01_Trim := rfl, ref01_Compare := rfl, ref01_Add := rfl, ref01_Sub := rfl, ref01_Mul := rfl, ref01_BitLen := rfl, ref01_Shift := rfl, ref01_small := rfl, ref01_DivMod := rfl, ref01_Gcd := rfl, ref02_Trim := rfl, ref02_Of := rfl, ref02_Sign := rfl, ref02_Neg := rfl, ref02_Mul := rfl, ref02_Div := rfl, ref02_Gcd := rfl, ref03_reduce := rfl, ref03_parts := rfl, ref03_Of := rfl, ref03_Frac := rfl, ref03_Mul := rfl }
theorem hasSysG : F.SysGLib L := { hasRatG, hasRefG with  }
theorem hasLinG : F.LinGLib L := { hasSysG, hasNet with  }
theorem hasRatH : F.RatHLib L := { hasRatG with rational_flip := rfl, rational_Sub := rfl }
theorem hasRefH : F.RefHLib L := { hasRefG with ref03_Sign := rfl, ref01_Same := rfl, ref02_Same := rfl, ref03_Same := rfl, ref03_SameList := rfl }
theorem hasPolyG : F.PolyGLib L := { hasRatG with  }
theorem hasR05G : F.R05GLib L := { hasRefH with  }
theorem hasTrG : F.TrGLib L := { hasLinG, hasRatH, hasPolyG, hasR05G with  }
theorem hasStG : F.StGLib L := { hasTrG with rational_Neg := rfl }
theorem hasMakG : F.MakGLib L := { hasRefH with make_Mod := rfl, make_Tape_Next := rfl, make_Matrix := rfl }
theorem hasMatG : F.MatGLib L := { hasRatH, hasStG with slices_Grow_api_Rat_api_Rat := rfl, slices_Concat_api_Rat_api_Rat := rfl, linear_Valid := rfl, linear_Identity := rfl, linear_wholeRows := rfl, linear_sweep := rfl, linear_eliminate := rfl, linear_column := rfl, linear_solve := rfl, linear_Determinant := rfl, linear_Solve := rfl, linear_Inverse := rfl }
theorem hasR09G : F.R09GLib L := { hasRefH with  }
theorem hasLawH : F.LawHLib L := { hasMatG, hasMakG, hasR09G with law09_awake := rfl }
theorem hasMatH : F.MatHLib L := { hasMatG with linear_transposed := rfl, linear_Transpose := rfl, linear_Times := rfl, linear_Rank := rfl }
theorem hasLawP : F.LawPLib L := { hasLawH, hasMatH with law09_LinearProducts := rfl }

end Go.Proofs.Ytoibhhbngpdcaaa

