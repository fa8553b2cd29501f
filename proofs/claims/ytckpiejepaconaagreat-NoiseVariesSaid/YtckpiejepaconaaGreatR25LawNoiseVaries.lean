/-
  NoiseVaries returns true for every input: Variance returns what is specified, and it is 0 exactly if no node rounds or no error of a node that rounds comes to the output.
  Conditions: none.
-/
import Derived.Test.YtckpiejepaconaaGreatRows
import Derived.Test.YtckpiejepaconaaGreatR25SeatA
import Derived.Test.YtckpiejepaconaaGreatB7
import Derived.Test.YtckpiejepaconaaGreatB5
import Derived.ShutString
import Derived.Below
set_option linter.unusedSimpArgs false
set_option linter.unusedVariables false
set_option linter.unnecessarySimpa false
namespace Go.Proofs.YtckpiejepaconaaGreat.bz
open Go.ChangeShapes Go.WideShapes Go.ChangeAt Go.RowKit Go.c6
set_option linter.unusedVariables false
theorem own : ownKnob Tryz.prog.godebug = none := by kernel_rfl
theorem laidOut : laidOutB Tryz.prog = true := by kernel_rfl
set_option maxRecDepth 100000 in
theorem lifted (os : Os) (started : os.Started) (H : Type) (enc : TypeId × Value → H) :
    ReturnsInHanded {} Tryz.checked os 4 .any (Rows.noiseVariesSpec.pre6 enc Tryz.prog Tryz.f4 Rows.noiseVariesRow.domain false) (Rows.noiseVariesSpec.post enc Tryz.prog Tryz.f4 false true false false) := by
  refine returnsInHanded_of_change (C := Tryz.checked) own started (by kernel_rfl) Tryz.func4
    (ChangeSpec.witness6 (enc := enc) (C := Tryz.checked) false ⟨#[], #[.agg #[.int .i64 0, .int .i64 0, .int .i64 0, .slice none 0 0, .slice none 0 0]], []⟩ 8 (by kernel_rfl) (by kernel_rfl) (by kernel_rfl) (by kernel_rfl)) ?_
  intro W base args ds gs before hval0 hW hcnd _
  have hval : ∀ (j : Nat) t v, Tryz.f4.params[j]? = some t → args[j]? = some v → Value.okWide Tryz.prog W .any base t v := hval0
  have hW' := hW
  obtain ⟨p, q, hA0, hV, rfl, hfz, hnd⟩ := hW
  have hA : DataW.TrodAll enc Tryz.prog W 0 (fun _ => true) true Tryz.f4.params.toList args.toList ds p := hA0
  rw [Tryz.params4] at hA hval
  obtain ⟨v0, vs0, d0, ds0, p0, q0, kz, rfl, rfl, h0, r0⟩ := trodAll_cons hA
  obtain ⟨rfl, rfl, rfl⟩ := trodAll_nil r0
  obtain rfl : args = #[v0] := by cases args; simp_all
  obtain ⟨rfl, rfl⟩ := trodVars_none hV
  have k0 := h0
  have lt0 : ∀ x ∈ p0, x.block < W.heap.size := by obtain ⟨m, hm⟩ := k0; exact DataW.trod_lt m _ _ _ hm
  obtain ⟨c0, rfl, _⟩ := okWide_struct Tryz.underlying40 (hval 0 40 v0 rfl rfl)
  obtain ⟨a0, Hh, ca0⟩ := Alm (S := fun _ => False) (ty := (.cons (.int .i64) (.cons (.int .i64) (.cons (.int .i64) (.cons (.sl (.int .i64)) (.cons (.sl (.int .i64)) .nil)))))) (m := 9) (by kernel_rfl) h0
  clear hA0 hval0
  obtain ⟨kd, dk, ck, b, a, rfl, i0, i1, i2, lb, la, y9⟩ := AjP Hh
  refine (Akv AlC (AhX nV oA AjA kd dk ck i0 i1 i2 b a true true lb la y9) (us := [.agg c0]) rfl (Ae6 ca0 Ae7)).mono fun e W' ⟨he, bel⟩ => ?_
  subst he
  exact ⟨_, rfl, _, _, _, [], _, [], hW', trodAll_mk1 (shut_bool Tryz.underlying4 _), (trodAll_cons_mk (Below.trod laidOut (by kernel_rfl) (of_decide_eq_true (by kernel_rfl)) k0 bel lt0) trodAll_mk0), rfl, bel.frame _, fun h => by cases h⟩
theorem over : Rows.noiseVariesRow.holds Tryz.pinned (OpenSpec.ofChange Rows.noiseVariesSpec) :=
  OpenClaim.holds_of_wide 4 Tryz.f4 rfl rfl rfl rfl rfl rfl rfl ⟨rfl, rfl, rfl, rfl, rfl⟩ rfl rfl rfl rfl rfl (by kernel_rfl) Tryz.func4 (by kernel_rfl)
    (of_decide_eq_true (by kernel_rfl)) (by unfold Func.isWrapper; first | (rw [if_pos (by decide +kernel)]; kernel_rfl) | (rw [if_neg (by decide +kernel)]; exact ⟨rfl, rfl⟩))
    (fun os started H enc _ => lifted os started H enc)
end Go.Proofs.YtckpiejepaconaaGreat.bz
namespace Go.Proofs.YtckpiejepaconaaGreat
/-- the statement -/
theorem noiseVaries_holds : Rows.NoiseVariesSaid := bz.over
end Go.Proofs.YtckpiejepaconaaGreat

