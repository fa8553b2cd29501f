/-
  The functions of the groups are the program's own: checked by the kernel, function by function.
-/
import Derived.Test.YtjelffbnkmbgaaaDoorProg
import Derived.KernelRfl
import Derived.Test.YtjelffbnkmbgaaaDoorB3
import Derived.Test.YtjelffbnkmbgaaaDoorB1
import Derived.Test.YtjelffbnkmbgaaaDoorB6
set_option linter.unusedSimpArgs false
set_option linter.unusedVariables false
set_option linter.unnecessarySimpa false
namespace Go.Proofs.YtjelffbnkmbgaaaDoor
open Go.Eng

def num : Nat → Nat
  | 58 => 66
  | 60 => 49
  | 1 => 70
  | 2 => 53
  | 3 => 54
  | 4 => 55
  | 5 => 45
  | 6 => 67
  | 7 => 76
  | 8 => 77
  | 9 => 68
  | 10 => 42
  | 11 => 41
  | 12 => 24
  | 13 => 25
  | 14 => 43
  | 20 => 12
  | 21 => 44
  | 22 => 50
  | 23 => 51
  | 24 => 32
  | 25 => 33
  | 26 => 11
  | 27 => 21
  | 34 => 8
  | 35 => 9
  | 36 => 17
  | 40 => 18
  | 41 => 19
  | 424 => 31
  | 425 => 46
  | 426 => 27
  | 427 => 35
  | 428 => 26
  | 431 => 28
  | 433 => 10
  | 435 => 30
  | 437 => 14
  | 46 => 37
  | 47 => 39
  | 48 => 38
  | 49 => 40
  | 50 => 20
  | 441 => 5
  | 432 => 34
  | 434 => 29
  | _ => 0
theorem ok {p : Nat × AFn → Prop} {a : Nat × AFn} {l : List (Nat × AFn)} (h : p a) (t : ∀ x ∈ l, p x) : ∀ x ∈ a :: l, p x := List.forall_mem_cons.2 ⟨h, t⟩
theorem okk {p : Nat × AFn} {l : List (Nat × AFn)} {fn : Func} (hf : Tryd.prog.funcs[num p.1]? = some fn) (t : ∀ x ∈ l, OkF Tryd.prog num x) (h1 : okFn Tryd.prog num fn p.2 = true := by kernel_rfl) (h2 : (fn.name == "runtime.NumGoroutine") = false := by kernel_rfl) : ∀ x ∈ p :: l, OkF Tryd.prog num x := ok ⟨fn, hf, h1, h2⟩ t
def lib0 : List (Nat × AFn) := [(58, F.cmp_isNaN_int), (60, F.cmp_Compare_int), (1, F.fixed_mode), (2, F.fixed_Valid), (3, F.fixed_Low), (4, F.fixed_High), (5, F.fixed_Fits), (6, F.fixed_Shift), (7, F.fixed_Wrap), (8, F.fixed_Saturate), (9, F.fixed_Reduce), (10, F.ref21_In), (11, F.ref21_Valid), (12, F.ref21_Low), (13, F.ref21_High), (14, F.ref21_Fits), (20, F.ref21_SameInts), (21, F.network_Valid), (22, F.network_wrong), (23, F.network_compute), (24, F.network_Values), (25, F.network_follow), (26, F.network_Step), (27, F.ref22_Valid), (34, F.world_Within), (35, F.world_At), (36, F.world_Word), (40, F.world_Below), (41, F.world_Unit), (424, F.slices_Compare_int_int)]
set_option maxRecDepth 100000 in
theorem okp0 : ∀ x ∈ lib0, OkF Tryd.prog num x :=
 okk Tryd.func66 (
 okk Tryd.func49 (
 okk Tryd.func70 (
 okk Tryd.func53 (
 okk Tryd.func54 (
 okk Tryd.func55 (
 okk Tryd.func45 (
 okk Tryd.func67 (
 okk Tryd.func76 (
 okk Tryd.func77 (
 okk Tryd.func68 (
 okk Tryd.func42 (
 okk Tryd.func41 (
 okk Tryd.func24 (
 okk Tryd.func25 (
 okk Tryd.func43 (
 okk Tryd.func12 (
 okk Tryd.func44 (
 okk Tryd.func50 (
 okk Tryd.func51 (
 okk Tryd.func32 (
 okk Tryd.func33 (
 okk Tryd.func11 (
 okk Tryd.func21 (
 okk Tryd.func8 (
 okk Tryd.func9 (
 okk Tryd.func17 (
 okk Tryd.func18 (
 okk Tryd.func19 (
 okk Tryd.func31 (
  List.forall_mem_nil _))))))))))))))))))))))))))))))
def lib1 : List (Nat × AFn) := [(425, F.limitcycle_within), (426, F.limitcycle_next), (427, F.limitcycle_cycle), (428, F.limitcycle_check), (431, F.limitcycle_explorer_walk), (433, F.limitcycle_Cycles), (435, F.limitcycle_Cycles_1), (437, F.law31_known), (46, F.direct_wrong), (47, F.direct_row), (48, F.direct_join), (49, F.direct_delay), (50, F.direct_FormOne), (441, F.law31_LimitcycleTruncates)]
set_option maxRecDepth 100000 in
theorem okp1 : ∀ x ∈ lib1, OkF Tryd.prog num x :=
 okk Tryd.func46 (
 okk Tryd.func27 (
 okk Tryd.func35 (
 okk Tryd.func26 (
 okk Tryd.func28 (
 okk Tryd.func10 (
 okk Tryd.func30 (
 okk Tryd.func14 (
 okk Tryd.func37 (
 okk Tryd.func39 (
 okk Tryd.func38 (
 okk Tryd.func40 (
 okk Tryd.func20 (
 okk Tryd.func5 (
  List.forall_mem_nil _))))))))))))))
def lib : List (Nat × AFn) := lib0 ++ (lib1)
def fns : Nat → Option AFn := fun f => lib.lookup f
abbrev L0 : Lib := { fn := fns, num := num }
noncomputable def L : Lib := LibK fns num
theorem progOK : ProgOK Tryd.prog num L0 := progOK_of lib (List.forall_mem_append.2 ⟨okp0, okp1⟩)
theorem hsNatG (e c : Nat → List AV → Option AV) (s : Nat → Option Nat) : F.NatGLib (Lib.mk fns num e c s) := { cmp_isNaN_int := rfl, cmp_Compare_int := rfl }
theorem hasNatG : F.NatGLib L := hsNatG _ _ _
theorem hsFixed (e c : Nat → List AV → Option AV) (s : Nat → Option Nat) : F.FixedLib (Lib.mk fns num e c s) := { fixed_mode := rfl, fixed_Valid := rfl, fixed_Low := rfl, fixed_High := rfl, fixed_Fits := rfl, fixed_Shift := rfl, fixed_Wrap := rfl, fixed_Saturate := rfl, fixed_Reduce := rfl, ref21_In := rfl, ref21_Valid := rfl, ref21_Low := rfl, ref21_High := rfl, ref21_Fits := rfl, ref21_SameInts := rfl }
theorem hasFixed : F.FixedLib L := hsFixed _ _ _
theorem hsNet (e c : Nat → List AV → Option AV) (s : Nat → Option Nat) : F.NetLib (Lib.mk fns num e c s) := { hsFixed e c s with network_Valid := rfl, network_wrong := rfl, network_compute := rfl, network_Values := rfl, network_follow := rfl, network_Step := rfl, ref22_Valid := rfl }
theorem hasNet : F.NetLib L := hsNet _ _ _
theorem hsWorld (e c : Nat → List AV → Option AV) (s : Nat → Option Nat) : F.WorldLib (Lib.mk fns num e c s) := { hsFixed e c s with world_Within := rfl, world_At := rfl, world_Word := rfl, world_Below := rfl, world_Unit := rfl }
theorem hasWorld : F.WorldLib L := hsWorld _ _ _
theorem hsRunG (e c : Nat → List AV → Option AV) (s : Nat → Option Nat) : F.RunGLib (Lib.mk fns num e c s) := { hsNet e c s, hsWorld e c s with  }
theorem hasRunG : F.RunGLib L := hsRunG _ _ _
theorem hsLimG (e c : Nat → List AV → Option AV) (s : Nat → Option Nat) : F.LimGLib (Lib.mk fns num e c s) := { hsNatG e c s, hsNet e c s, hsRunG e c s, hsWorld e c s with slices_Compare_int_int := rfl, limitcycle_within := rfl, limitcycle_next := rfl, limitcycle_cycle := rfl, limitcycle_check := rfl, limitcycle_explorer_walk := rfl, limitcycle_Cycles := rfl, limitcycle_Cycles_1 := rfl }
theorem hasLimG : F.LimGLib L := hsLimG _ _ _
theorem keyOK : KeyOK L keyB := keyOK_K (by rfl)
theorem srtOK : SrtOK L := srtOK_K (hsLimG _ _ _) rfl
theorem hsLawLC (e c : Nat → List AV → Option AV) (s : Nat → Option Nat) : F.LawLCLib (Lib.mk fns num e c s) := { hsLimG e c s with law31_known := rfl }
theorem hasLawLC : F.LawLCLib L := hsLawLC _ _ _
theorem hsDirectG (e c : Nat → List AV → Option AV) (s : Nat → Option Nat) : F.DirectGLib (Lib.mk fns num e c s) := { hsRunG e c s with direct_wrong := rfl, direct_row := rfl, direct_join := rfl, direct_delay := rfl, direct_FormOne := rfl }
theorem hasDirectG : F.DirectGLib L := hsDirectG _ _ _
theorem hsLawLT (e c : Nat → List AV → Option AV) (s : Nat → Option Nat) : F.LawLTLib (Lib.mk fns num e c s) := { hsLawLC e c s, hsDirectG e c s with law31_LimitcycleTruncates := rfl }
theorem hasLawLT : F.LawLTLib L := hsLawLT _ _ _

end Go.Proofs.YtjelffbnkmbgaaaDoor

