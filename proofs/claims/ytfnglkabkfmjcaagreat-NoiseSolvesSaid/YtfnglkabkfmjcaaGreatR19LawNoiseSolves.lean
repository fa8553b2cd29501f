/-
  NoiseSolves returns true for every input: Gram returns what is specified, is symmetric and satisfies its equation.
  Conditions: none.
-/
import Derived.Test.YtfnglkabkfmjcaaGreatRows
import Derived.Test.YtfnglkabkfmjcaaGreatR19SeatA
import Derived.Test.YtfnglkabkfmjcaaGreatB14
import Derived.Test.YtfnglkabkfmjcaaGreatB10
import Derived.ShutString
import Derived.Below
set_option linter.unusedSimpArgs false
set_option linter.unusedVariables false
set_option linter.unnecessarySimpa false
namespace Go.Proofs.YtfnglkabkfmjcaaGreat.az
open Go.ChangeShapes Go.WideShapes Go.ChangeAt Go.RowKit Go.c5
set_option linter.unusedVariables false
theorem own : ownKnob Tryz.prog.godebug = none := by kernel_rfl
theorem laidOut : laidOutB Tryz.prog = true := by kernel_rfl
set_option maxRecDepth 100000 in
theorem lifted (os : Os) (started : os.Started) (H : Type) (enc : TypeId × Value → H) :
    ReturnsInHanded {} Tryz.checked os 3 .any (Rows.noiseSolvesSpec.pre6 enc Tryz.prog Tryz.f3 Rows.noiseSolvesRow.domain false) (Rows.noiseSolvesSpec.post enc Tryz.prog Tryz.f3 false true false false) := by
  refine returnsInHanded_of_change (C := Tryz.checked) own started (by kernel_rfl) Tryz.func3
    (ChangeSpec.witness6 (enc := enc) (C := Tryz.checked) false ⟨#[], #[.slice none 0 0, .int .i64 0], []⟩ 8 (by kernel_rfl) (by kernel_rfl) (by kernel_rfl) (by kernel_rfl)) ?_
  intro W base args ds gs before hval0 hW hcnd _
  have hval : ∀ (j : Nat) t v, Tryz.f3.params[j]? = some t → args[j]? = some v → Value.okWide Tryz.prog W .any base t v := hval0
  have hW' := hW
  obtain ⟨p, q, hA0, hV, rfl, hfz, hnd⟩ := hW
  have hA : DataW.TrodAll enc Tryz.prog W 0 (fun _ => true) true Tryz.f3.params.toList args.toList ds p := hA0
  rw [Tryz.params3] at hA hval
  obtain ⟨v0, vs0, d0, ds0, p0, q0, jz, rfl, rfl, h0, r0⟩ := trodAll_cons hA
  obtain ⟨v1, Dc, d1, ds1, p1, q1, rfl, rfl, rfl, h1, r1⟩ := trodAll_cons r0
  obtain ⟨rfl, rfl, rfl⟩ := trodAll_nil r1
  obtain rfl : args = #[v0, v1] := by cases args; simp_all
  obtain ⟨rfl, rfl⟩ := trodVars_none hV
  have k0 := h0
  have lt0 : ∀ x ∈ p0, x.block < W.heap.size := by obtain ⟨m, hm⟩ := k0; exact DataW.trod_lt m _ _ _ hm
  obtain ⟨x0, Ng, Im, rfl⟩ := okWide_slice Tryz.underlying22 (hval 0 22 v0 rfl rfl)
  obtain ⟨a0, ha0, ca0⟩ := rF (S := fun _ => False) (ty := (.sl (.int .i64))) (m := 9) (by kernel_rfl) rfl h0
  have k1 := h1
  have lt1 : ∀ x ∈ p1, x.block < W.heap.size := by obtain ⟨m, hm⟩ := k1; exact DataW.trod_lt m _ _ _ hm
  obtain ⟨x1, rfl⟩ := okWide_int Tryz.underlying3 (hval 1 3 v1 rfl rfl)
  obtain ⟨a1, He, ca1⟩ := rF (S := fun _ => False) (ty := (.int .i64)) (m := 9) (by kernel_rfl) rfl h1
  clear hA0 hval0
  obtain ⟨l, e0, ll, vl⟩ := Zg ha0
  obtain rfl : a0 = _ := (List.cons.inj e0).1
  obtain ⟨z, e1, hz⟩ := pB He
  obtain rfl : a1 = _ := (List.cons.inj e1).1
  refine (AeN AfB (Xe AdO l z true vl hz) (us := [.slice x0 Ng Im, .int .i64 x1]) rfl (jO ca0 (jO ca1 zP))).mono fun e W' ⟨he, Il⟩ => ?_
  subst he
  exact ⟨_, rfl, _, _, _, [], _, [], hW', trodAll_mk1 (shut_bool Tryz.underlying4 _), (trodAll_cons_mk (Below.trod laidOut (by kernel_rfl) (of_decide_eq_true (by kernel_rfl)) k0 Il lt0) (trodAll_cons_mk (Below.trod laidOut (by kernel_rfl) (of_decide_eq_true (by kernel_rfl)) k1 Il lt1) trodAll_mk0)), rfl, Il.frame _, fun h => by cases h⟩
theorem over : Rows.noiseSolvesRow.holds Tryz.pinned (OpenSpec.ofChange Rows.noiseSolvesSpec) :=
  OpenClaim.holds_of_wide 3 Tryz.f3 rfl rfl rfl rfl rfl rfl rfl ⟨rfl, rfl, rfl, rfl, rfl⟩ rfl rfl rfl rfl rfl (by kernel_rfl) Tryz.func3 (by kernel_rfl)
    (of_decide_eq_true (by kernel_rfl)) (by unfold Func.isWrapper; first | (rw [if_pos (by decide +kernel)]; kernel_rfl) | (rw [if_neg (by decide +kernel)]; exact ⟨rfl, rfl⟩))
    (fun os started H enc _ => lifted os started H enc)
end Go.Proofs.YtfnglkabkfmjcaaGreat.az
namespace Go.Proofs.YtfnglkabkfmjcaaGreat
/-- the statement -/
theorem noiseSolves_holds : Rows.NoiseSolvesSaid := az.over
end Go.Proofs.YtfnglkabkfmjcaaGreat

