/-
  The functions of the groups are the program's own: checked by the kernel, function by function.
-/
import Derived.Test.YtlkfmmfmefobnaaProg
import Derived.KernelRfl
import Derived.Test.YtlkfmmfmefobnaaB3
import Derived.Test.YtlkfmmfmefobnaaB4
set_option linter.unusedSimpArgs false
set_option linter.unusedVariables false
set_option linter.unnecessarySimpa false
namespace Go.Proofs.Ytlkfmmfmefobnaa
open Go.Eng

def num : Nat → Nat
  | 1 => 55
  | 2 => 40
  | 3 => 56
  | 4 => 57
  | 5 => 41
  | 6 => 53
  | 7 => 58
  | 8 => 59
  | 9 => 54
  | 10 => 43
  | 11 => 42
  | 12 => 44
  | 13 => 45
  | 14 => 37
  | 15 => 51
  | 16 => 52
  | 17 => 27
  | 18 => 28
  | 19 => 36
  | 20 => 16
  | 21 => 14
  | 22 => 34
  | 23 => 35
  | 24 => 10
  | 25 => 39
  | 26 => 12
  | 27 => 15
  | 28 => 38
  | 29 => 11
  | 30 => 13
  | 31 => 8
  | 32 => 9
  | 34 => 21
  | 35 => 30
  | 36 => 46
  | 37 => 23
  | 38 => 24
  | 39 => 18
  | 40 => 25
  | 41 => 29
  | 42 => 17
  | 43 => 19
  | 44 => 20
  | 45 => 4
  | 46 => 47
  | 47 => 49
  | 48 => 48
  | 49 => 50
  | 50 => 26
  | 51 => 32
  | 52 => 33
  | 53 => 31
  | 54 => 22
  | 55 => 5
  | 56 => 6
  | 57 => 7
  | _ => 0
theorem ok_fixed_mode : okFn Try.prog num Try.f55 F.fixed_mode = true := by kernel_rfl
theorem ok_fixed_Valid : okFn Try.prog num Try.f40 F.fixed_Valid = true := by kernel_rfl
theorem ok_fixed_Low : okFn Try.prog num Try.f56 F.fixed_Low = true := by kernel_rfl
theorem ok_fixed_High : okFn Try.prog num Try.f57 F.fixed_High = true := by kernel_rfl
theorem ok_fixed_Fits : okFn Try.prog num Try.f41 F.fixed_Fits = true := by kernel_rfl
theorem ok_fixed_Shift : okFn Try.prog num Try.f53 F.fixed_Shift = true := by kernel_rfl
theorem ok_fixed_Wrap : okFn Try.prog num Try.f58 F.fixed_Wrap = true := by kernel_rfl
theorem ok_fixed_Saturate : okFn Try.prog num Try.f59 F.fixed_Saturate = true := by kernel_rfl
theorem ok_fixed_Reduce : okFn Try.prog num Try.f54 F.fixed_Reduce = true := by kernel_rfl
theorem ok_ref21_In : okFn Try.prog num Try.f43 F.ref21_In = true := by kernel_rfl
theorem ok_ref21_Valid : okFn Try.prog num Try.f42 F.ref21_Valid = true := by kernel_rfl
theorem ok_ref21_Low : okFn Try.prog num Try.f44 F.ref21_Low = true := by kernel_rfl
theorem ok_ref21_High : okFn Try.prog num Try.f45 F.ref21_High = true := by kernel_rfl
theorem ok_ref21_Fits : okFn Try.prog num Try.f37 F.ref21_Fits = true := by kernel_rfl
theorem ok_ref21_Wrap : okFn Try.prog num Try.f51 F.ref21_Wrap = true := by kernel_rfl
theorem ok_ref21_Saturate : okFn Try.prog num Try.f52 F.ref21_Saturate = true := by kernel_rfl
theorem ok_ref21_Reduce : okFn Try.prog num Try.f27 F.ref21_Reduce = true := by kernel_rfl
theorem ok_ref21_Shift : okFn Try.prog num Try.f28 F.ref21_Shift = true := by kernel_rfl
theorem ok_ref21_Words : okFn Try.prog num Try.f36 F.ref21_Words = true := by kernel_rfl
theorem ok_ref21_SameInts : okFn Try.prog num Try.f16 F.ref21_SameInts = true := by kernel_rfl
theorem ok_network_Valid : okFn Try.prog num Try.f14 F.network_Valid = true := by kernel_rfl
theorem ok_network_wrong : okFn Try.prog num Try.f34 F.network_wrong = true := by kernel_rfl
theorem ok_network_compute : okFn Try.prog num Try.f35 F.network_compute = true := by kernel_rfl
theorem ok_network_Values : okFn Try.prog num Try.f10 F.network_Values = true := by kernel_rfl
theorem ok_network_follow : okFn Try.prog num Try.f39 F.network_follow = true := by kernel_rfl
theorem ok_network_Step : okFn Try.prog num Try.f12 F.network_Step = true := by kernel_rfl
theorem ok_ref22_Valid : okFn Try.prog num Try.f15 F.ref22_Valid = true := by kernel_rfl
theorem ok_ref22_total : okFn Try.prog num Try.f38 F.ref22_total = true := by kernel_rfl
theorem ok_ref22_Values : okFn Try.prog num Try.f11 F.ref22_Values = true := by kernel_rfl
theorem ok_ref22_Step : okFn Try.prog num Try.f13 F.ref22_Step = true := by kernel_rfl
theorem ok_law22_light : okFn Try.prog num Try.f8 F.law22_light = true := by kernel_rfl
theorem ok_law22_known : okFn Try.prog num Try.f9 F.law22_known = true := by kernel_rfl
theorem ok_world_Within : okFn Try.prog num Try.f21 F.world_Within = true := by kernel_rfl
theorem ok_world_At : okFn Try.prog num Try.f30 F.world_At = true := by kernel_rfl
theorem ok_world_Word : okFn Try.prog num Try.f46 F.world_Word = true := by kernel_rfl
theorem ok_world_Data : okFn Try.prog num Try.f23 F.world_Data = true := by kernel_rfl
theorem ok_world_Coef : okFn Try.prog num Try.f24 F.world_Coef = true := by kernel_rfl
theorem ok_world_Words : okFn Try.prog num Try.f18 F.world_Words = true := by kernel_rfl
theorem ok_world_Below : okFn Try.prog num Try.f25 F.world_Below = true := by kernel_rfl
theorem ok_world_Unit : okFn Try.prog num Try.f29 F.world_Unit = true := by kernel_rfl
theorem ok_world_Raw_Net : okFn Try.prog num Try.f17 F.world_Raw_Net = true := by kernel_rfl
theorem ok_network_Run : okFn Try.prog num Try.f19 F.network_Run = true := by kernel_rfl
theorem ok_ref22_Run : okFn Try.prog num Try.f20 F.ref22_Run = true := by kernel_rfl
theorem ok_law22_NetworkRuns : okFn Try.prog num Try.f4 F.law22_NetworkRuns = true := by kernel_rfl
theorem ok_direct_wrong : okFn Try.prog num Try.f47 F.direct_wrong = true := by kernel_rfl
theorem ok_direct_row : okFn Try.prog num Try.f49 F.direct_row = true := by kernel_rfl
theorem ok_direct_join : okFn Try.prog num Try.f48 F.direct_join = true := by kernel_rfl
theorem ok_direct_delay : okFn Try.prog num Try.f50 F.direct_delay = true := by kernel_rfl
theorem ok_direct_FormOne : okFn Try.prog num Try.f26 F.direct_FormOne = true := by kernel_rfl
theorem ok_direct_FormTwo : okFn Try.prog num Try.f32 F.direct_FormTwo = true := by kernel_rfl
theorem ok_direct_Transposed : okFn Try.prog num Try.f33 F.direct_Transposed = true := by kernel_rfl
theorem ok_direct_FIR : okFn Try.prog num Try.f31 F.direct_FIR = true := by kernel_rfl
theorem ok_law23_known : okFn Try.prog num Try.f22 F.law23_known = true := by kernel_rfl
theorem ok_law23_DirectRecurs : okFn Try.prog num Try.f5 F.law23_DirectRecurs = true := by kernel_rfl
theorem ok_law23_DirectScales : okFn Try.prog num Try.f6 F.law23_DirectScales = true := by kernel_rfl
theorem ok_law23_DirectFormsAgree : okFn Try.prog num Try.f7 F.law23_DirectFormsAgree = true := by kernel_rfl

def lib : List (Nat × AFn) := [(1, F.fixed_mode), (2, F.fixed_Valid), (3, F.fixed_Low), (4, F.fixed_High), (5, F.fixed_Fits), (6, F.fixed_Shift), (7, F.fixed_Wrap), (8, F.fixed_Saturate), (9, F.fixed_Reduce), (10, F.ref21_In), (11, F.ref21_Valid), (12, F.ref21_Low), (13, F.ref21_High), (14, F.ref21_Fits), (15, F.ref21_Wrap), (16, F.ref21_Saturate), (17, F.ref21_Reduce), (18, F.ref21_Shift), (19, F.ref21_Words), (20, F.ref21_SameInts), (21, F.network_Valid), (22, F.network_wrong), (23, F.network_compute), (24, F.network_Values), (25, F.network_follow), (26, F.network_Step), (27, F.ref22_Valid), (28, F.ref22_total), (29, F.ref22_Values), (30, F.ref22_Step), (31, F.law22_light), (32, F.law22_known), (34, F.world_Within), (35, F.world_At), (36, F.world_Word), (37, F.world_Data), (38, F.world_Coef), (39, F.world_Words), (40, F.world_Below), (41, F.world_Unit), (42, F.world_Raw_Net), (43, F.network_Run), (44, F.ref22_Run), (45, F.law22_NetworkRuns), (46, F.direct_wrong), (47, F.direct_row), (48, F.direct_join), (49, F.direct_delay), (50, F.direct_FormOne), (51, F.direct_FormTwo), (52, F.direct_Transposed), (53, F.direct_FIR), (54, F.law23_known), (55, F.law23_DirectRecurs), (56, F.law23_DirectScales), (57, F.law23_DirectFormsAgree)]
def L : Lib := fun f => lib.lookup f
theorem progOK : ProgOK Try.prog num L := progOK_of lib (
  List.forall_mem_cons.2 ⟨⟨Try.f55, Try.func55, ok_fixed_mode, by kernel_rfl⟩, 
  List.forall_mem_cons.2 ⟨⟨Try.f40, Try.func40, ok_fixed_Valid, by kernel_rfl⟩, 
  List.forall_mem_cons.2 ⟨⟨Try.f56, Try.func56, ok_fixed_Low, by kernel_rfl⟩, 
  List.forall_mem_cons.2 ⟨⟨Try.f57, Try.func57, ok_fixed_High, by kernel_rfl⟩, 
  List.forall_mem_cons.2 ⟨⟨Try.f41, Try.func41, ok_fixed_Fits, by kernel_rfl⟩, 
  List.forall_mem_cons.2 ⟨⟨Try.f53, Try.func53, ok_fixed_Shift, by kernel_rfl⟩, 
  List.forall_mem_cons.2 ⟨⟨Try.f58, Try.func58, ok_fixed_Wrap, by kernel_rfl⟩, 
  List.forall_mem_cons.2 ⟨⟨Try.f59, Try.func59, ok_fixed_Saturate, by kernel_rfl⟩, 
  List.forall_mem_cons.2 ⟨⟨Try.f54, Try.func54, ok_fixed_Reduce, by kernel_rfl⟩, 
  List.forall_mem_cons.2 ⟨⟨Try.f43, Try.func43, ok_ref21_In, by kernel_rfl⟩, 
  List.forall_mem_cons.2 ⟨⟨Try.f42, Try.func42, ok_ref21_Valid, by kernel_rfl⟩, 
  List.forall_mem_cons.2 ⟨⟨Try.f44, Try.func44, ok_ref21_Low, by kernel_rfl⟩, 
  List.forall_mem_cons.2 ⟨⟨Try.f45, Try.func45, ok_ref21_High, by kernel_rfl⟩, 
  List.forall_mem_cons.2 ⟨⟨Try.f37, Try.func37, ok_ref21_Fits, by kernel_rfl⟩, 
  List.forall_mem_cons.2 ⟨⟨Try.f51, Try.func51, ok_ref21_Wrap, by kernel_rfl⟩, 
  List.forall_mem_cons.2 ⟨⟨Try.f52, Try.func52, ok_ref21_Saturate, by kernel_rfl⟩, 
  List.forall_mem_cons.2 ⟨⟨Try.f27, Try.func27, ok_ref21_Reduce, by kernel_rfl⟩, 
  List.forall_mem_cons.2 ⟨⟨Try.f28, Try.func28, ok_ref21_Shift, by kernel_rfl⟩, 
  List.forall_mem_cons.2 ⟨⟨Try.f36, Try.func36, ok_ref21_Words, by kernel_rfl⟩, 
  List.forall_mem_cons.2 ⟨⟨Try.f16, Try.func16, ok_ref21_SameInts, by kernel_rfl⟩, 
  List.forall_mem_cons.2 ⟨⟨Try.f14, Try.func14, ok_network_Valid, by kernel_rfl⟩, 
  List.forall_mem_cons.2 ⟨⟨Try.f34, Try.func34, ok_network_wrong, by kernel_rfl⟩, 
  List.forall_mem_cons.2 ⟨⟨Try.f35, Try.func35, ok_network_compute, by kernel_rfl⟩, 
  List.forall_mem_cons.2 ⟨⟨Try.f10, Try.func10, ok_network_Values, by kernel_rfl⟩, 
  List.forall_mem_cons.2 ⟨⟨Try.f39, Try.func39, ok_network_follow, by kernel_rfl⟩, 
  List.forall_mem_cons.2 ⟨⟨Try.f12, Try.func12, ok_network_Step, by kernel_rfl⟩, 
  List.forall_mem_cons.2 ⟨⟨Try.f15, Try.func15, ok_ref22_Valid, by kernel_rfl⟩, 
  List.forall_mem_cons.2 ⟨⟨Try.f38, Try.func38, ok_ref22_total, by kernel_rfl⟩, 
  List.forall_mem_cons.2 ⟨⟨Try.f11, Try.func11, ok_ref22_Values, by kernel_rfl⟩, 
  List.forall_mem_cons.2 ⟨⟨Try.f13, Try.func13, ok_ref22_Step, by kernel_rfl⟩, 
  List.forall_mem_cons.2 ⟨⟨Try.f8, Try.func8, ok_law22_light, by kernel_rfl⟩, 
  List.forall_mem_cons.2 ⟨⟨Try.f9, Try.func9, ok_law22_known, by kernel_rfl⟩, 
  List.forall_mem_cons.2 ⟨⟨Try.f21, Try.func21, ok_world_Within, by kernel_rfl⟩, 
  List.forall_mem_cons.2 ⟨⟨Try.f30, Try.func30, ok_world_At, by kernel_rfl⟩, 
  List.forall_mem_cons.2 ⟨⟨Try.f46, Try.func46, ok_world_Word, by kernel_rfl⟩, 
  List.forall_mem_cons.2 ⟨⟨Try.f23, Try.func23, ok_world_Data, by kernel_rfl⟩, 
  List.forall_mem_cons.2 ⟨⟨Try.f24, Try.func24, ok_world_Coef, by kernel_rfl⟩, 
  List.forall_mem_cons.2 ⟨⟨Try.f18, Try.func18, ok_world_Words, by kernel_rfl⟩, 
  List.forall_mem_cons.2 ⟨⟨Try.f25, Try.func25, ok_world_Below, by kernel_rfl⟩, 
  List.forall_mem_cons.2 ⟨⟨Try.f29, Try.func29, ok_world_Unit, by kernel_rfl⟩, 
  List.forall_mem_cons.2 ⟨⟨Try.f17, Try.func17, ok_world_Raw_Net, by kernel_rfl⟩, 
  List.forall_mem_cons.2 ⟨⟨Try.f19, Try.func19, ok_network_Run, by kernel_rfl⟩, 
  List.forall_mem_cons.2 ⟨⟨Try.f20, Try.func20, ok_ref22_Run, by kernel_rfl⟩, 
  List.forall_mem_cons.2 ⟨⟨Try.f4, Try.func4, ok_law22_NetworkRuns, by kernel_rfl⟩, 
  List.forall_mem_cons.2 ⟨⟨Try.f47, Try.func47, ok_direct_wrong, by kernel_rfl⟩, 
  List.forall_mem_cons.2 ⟨⟨Try.f49, Try.func49, ok_direct_row, by kernel_rfl⟩, 
  List.forall_mem_cons.2 ⟨⟨Try.f48, Try.func48, ok_direct_join, by kernel_rfl⟩, 
  List.forall_mem_cons.2 ⟨⟨Try.f50, Try.func50, ok_direct_delay, by kernel_rfl⟩, 
  List.forall_mem_cons.2 ⟨⟨Try.f26, Try.func26, ok_direct_FormOne, by kernel_rfl⟩, 
  List.forall_mem_cons.2 ⟨⟨Try.f32, Try.func32, ok_direct_FormTwo, by kernel_rfl⟩, 
  List.forall_mem_cons.2 ⟨⟨Try.f33, Try.func33, ok_direct_Transposed, by kernel_rfl⟩, 
  List.forall_mem_cons.2 ⟨⟨Try.f31, Try.func31, ok_direct_FIR, by kernel_rfl⟩, 
  List.forall_mem_cons.2 ⟨⟨Try.f22, Try.func22, ok_law23_known, by kernel_rfl⟩, 
  List.forall_mem_cons.2 ⟨⟨Try.f5, Try.func5, ok_law23_DirectRecurs, by kernel_rfl⟩, 
  List.forall_mem_cons.2 ⟨⟨Try.f6, Try.func6, ok_law23_DirectScales, by kernel_rfl⟩, 
  List.forall_mem_cons.2 ⟨⟨Try.f7, Try.func7, ok_law23_DirectFormsAgree, by kernel_rfl⟩, 
  List.forall_mem_nil _⟩⟩⟩⟩⟩⟩⟩⟩⟩⟩⟩⟩⟩⟩⟩⟩⟩⟩⟩⟩⟩⟩⟩⟩⟩⟩⟩⟩⟩⟩⟩⟩⟩⟩⟩⟩⟩⟩⟩⟩⟩⟩⟩⟩⟩⟩⟩⟩⟩⟩⟩⟩⟩⟩⟩⟩)
theorem hasFixed : F.FixedLib L := { fixed_mode := rfl, fixed_Valid := rfl, fixed_Low := rfl, fixed_High := rfl, fixed_Fits := rfl, fixed_Shift := rfl, fixed_Wrap := rfl, fixed_Saturate := rfl, fixed_Reduce := rfl, ref21_In := rfl, ref21_Valid := rfl, ref21_Low := rfl, ref21_High := rfl, ref21_Fits := rfl, ref21_Wrap := rfl, ref21_Saturate := rfl, ref21_Reduce := rfl, ref21_Shift := rfl, ref21_Words := rfl, ref21_SameInts := rfl }
theorem hasNet : F.NetLib L := { hasFixed with network_Valid := rfl, network_wrong := rfl, network_compute := rfl, network_Values := rfl, network_follow := rfl, network_Step := rfl, ref22_Valid := rfl, ref22_total := rfl, ref22_Values := rfl, ref22_Step := rfl, law22_light := rfl, law22_known := rfl }
theorem hasWorld : F.WorldLib L := { hasFixed with world_Within := rfl, world_At := rfl, world_Word := rfl, world_Data := rfl, world_Coef := rfl, world_Words := rfl, world_Below := rfl, world_Unit := rfl }
theorem hasRunG : F.RunGLib L := { hasNet, hasWorld with world_Raw_Net := rfl, network_Run := rfl, ref22_Run := rfl, law22_NetworkRuns := rfl }
theorem hasDirectG : F.DirectGLib L := { hasRunG with direct_wrong := rfl, direct_row := rfl, direct_join := rfl, direct_delay := rfl, direct_FormOne := rfl, direct_FormTwo := rfl, direct_Transposed := rfl, direct_FIR := rfl, law23_known := rfl }
theorem hasLawD : F.LawDLib L := { hasDirectG with law23_DirectRecurs := rfl, law23_DirectScales := rfl, law23_DirectFormsAgree := rfl }

end Go.Proofs.Ytlkfmmfmefobnaa
