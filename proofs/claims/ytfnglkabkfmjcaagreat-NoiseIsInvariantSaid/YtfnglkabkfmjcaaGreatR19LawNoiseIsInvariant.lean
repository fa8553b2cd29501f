/-
  NoiseIsInvariant returns true for every input: the energy is the same for a system in another basis of its states.
  Conditions: none.
-/
import Derived.Test.YtfnglkabkfmjcaaGreatRows
import Derived.Test.YtfnglkabkfmjcaaGreatR19SeatD
import Derived.Test.YtfnglkabkfmjcaaGreatB14
import Derived.Test.YtfnglkabkfmjcaaGreatB10
import Derived.ShutString
import Derived.Below
set_option linter.unusedSimpArgs false
set_option linter.unusedVariables false
set_option linter.unnecessarySimpa false
namespace Go.Proofs.YtfnglkabkfmjcaaGreat.dz
open Go.ChangeShapes Go.WideShapes Go.ChangeAt Go.RowKit Go.e9
set_option linter.unusedVariables false
theorem own : ownKnob Tryz.prog.godebug = none := by kernel_rfl
theorem laidOut : laidOutB Tryz.prog = true := by kernel_rfl
set_option maxRecDepth 100000 in
theorem lifted (os : Os) (started : os.Started) (H : Type) (enc : TypeId × Value → H) :
    ReturnsInHanded {} Tryz.checked os 7 .any (Rows.noiseIsInvariantSpec.pre6 enc Tryz.prog Tryz.f7 Rows.noiseIsInvariantRow.domain false) (Rows.noiseIsInvariantSpec.post enc Tryz.prog Tryz.f7 false true false false) := by
  refine returnsInHanded_of_change (C := Tryz.checked) own started (by kernel_rfl) Tryz.func7
    (ChangeSpec.witness6 (enc := enc) (C := Tryz.checked) false ⟨#[], #[.slice none 0 0, .slice none 0 0, .int .i64 0], []⟩ 8 (by kernel_rfl) (by kernel_rfl) (by kernel_rfl) (by kernel_rfl)) ?_
  intro W base args ds gs before hval0 hW hcnd _
  have hval : ∀ (j : Nat) t v, Tryz.f7.params[j]? = some t → args[j]? = some v → Value.okWide Tryz.prog W .any base t v := hval0
  have hW' := hW
  obtain ⟨p, q, hA0, hV, rfl, hfz, hnd⟩ := hW
  have hA : DataW.TrodAll enc Tryz.prog W 0 (fun _ => true) true Tryz.f7.params.toList args.toList ds p := hA0
  rw [Tryz.params7] at hA hval
  obtain ⟨v0, vs0, d0, ds0, p0, q0, oe, rfl, rfl, h0, r0⟩ := trodAll_cons hA
  obtain ⟨v1, Hg, d1, ds1, p1, q1, rfl, rfl, rfl, h1, r1⟩ := trodAll_cons r0
  obtain ⟨v2, vs2, d2, ds2, p2, q2, rfl, rfl, rfl, h2, r2⟩ := trodAll_cons r1
  obtain ⟨rfl, rfl, rfl⟩ := trodAll_nil r2
  obtain rfl : args = #[v0, v1, v2] := by cases args; simp_all
  obtain ⟨rfl, rfl⟩ := trodVars_none hV
  have k0 := h0
  have lt0 : ∀ x ∈ p0, x.block < W.heap.size := by obtain ⟨m, hm⟩ := k0; exact DataW.trod_lt m _ _ _ hm
  obtain ⟨x0, Ui, Pc, rfl⟩ := okWide_slice Tryz.underlying22 (hval 0 22 v0 rfl rfl)
  obtain ⟨a0, ha0, ca0⟩ := zX (S := fun _ => False) (ty := (.sl (.int .i64))) (m := 9) (by kernel_rfl) rfl h0
  have k1 := h1
  have lt1 : ∀ x ∈ p1, x.block < W.heap.size := by obtain ⟨m, hm⟩ := k1; exact DataW.trod_lt m _ _ _ hm
  obtain ⟨x1, Aei, Pf, rfl⟩ := okWide_slice Tryz.underlying22 (hval 1 22 v1 rfl rfl)
  obtain ⟨a1, Li, ca1⟩ := zX (S := fun _ => False) (ty := (.sl (.int .i64))) (m := 9) (by kernel_rfl) rfl h1
  have k2 := h2
  have lt2 : ∀ x ∈ p2, x.block < W.heap.size := by obtain ⟨m, hm⟩ := k2; exact DataW.trod_lt m _ _ _ hm
  obtain ⟨x2, rfl⟩ := okWide_int Tryz.underlying3 (hval 2 3 v2 rfl rfl)
  obtain ⟨a2, Bg, ca2⟩ := zX (S := fun _ => False) (ty := (.int .i64)) (m := 9) (by kernel_rfl) rfl h2
  clear hA0 hval0
  obtain ⟨l, e0, ll, vl⟩ := Ad2 ha0
  obtain rfl : a0 = _ := (List.cons.inj e0).1
  obtain ⟨m, e1, lm, vm⟩ := Ad2 Li
  obtain rfl : a1 = _ := (List.cons.inj e1).1
  obtain ⟨z, e2, hz⟩ := Ad1 Bg
  obtain rfl : a2 = _ := (List.cons.inj e2).1
  refine (An7 Ao6 (AlQ Am8 rfl rfl l m z true true vl vm hz) (us := [.slice x0 Ui Pc, .slice x1 Aei Pf, .int .i64 x2]) rfl (uR ca0 (uR ca1 (uR ca2 AiI)))).mono fun e W' ⟨he, Kp⟩ => ?_
  subst he
  exact ⟨_, rfl, _, _, _, [], _, [], hW', trodAll_mk1 (shut_bool Tryz.underlying4 _), (trodAll_cons_mk (Below.trod laidOut (by kernel_rfl) (of_decide_eq_true (by kernel_rfl)) k0 Kp lt0) (trodAll_cons_mk (Below.trod laidOut (by kernel_rfl) (of_decide_eq_true (by kernel_rfl)) k1 Kp lt1) (trodAll_cons_mk (Below.trod laidOut (by kernel_rfl) (of_decide_eq_true (by kernel_rfl)) k2 Kp lt2) trodAll_mk0))), rfl, Kp.frame _, fun h => by cases h⟩
theorem over : Rows.noiseIsInvariantRow.holds Tryz.pinned (OpenSpec.ofChange Rows.noiseIsInvariantSpec) :=
  OpenClaim.holds_of_wide 7 Tryz.f7 rfl rfl rfl rfl rfl rfl rfl ⟨rfl, rfl, rfl, rfl, rfl⟩ rfl rfl rfl rfl rfl (by kernel_rfl) Tryz.func7 (by kernel_rfl)
    (of_decide_eq_true (by kernel_rfl)) (by unfold Func.isWrapper; first | (rw [if_pos (by decide +kernel)]; kernel_rfl) | (rw [if_neg (by decide +kernel)]; exact ⟨rfl, rfl⟩))
    (fun os started H enc _ => lifted os started H enc)
end Go.Proofs.YtfnglkabkfmjcaaGreat.dz
namespace Go.Proofs.YtfnglkabkfmjcaaGreat
/-- the statement -/
theorem noiseIsInvariant_holds : Rows.NoiseIsInvariantSaid := dz.over
end Go.Proofs.YtfnglkabkfmjcaaGreat

