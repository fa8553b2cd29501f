/-
  OverflowIsExcluded returns true for every input: no run from the state 0 with inputs up to Limit has an overflow, and no value is greater than its Bound.
  Conditions: none.
-/
import Derived.Test.YtplhdlbnneoobaaGreatRows
import Derived.Test.YtplhdlbnneoobaaGreatR18SeatD
import Derived.Test.YtplhdlbnneoobaaGreatB14
import Derived.Test.YtplhdlbnneoobaaGreatB12
import Derived.Test.YtplhdlbnneoobaaGreatB11
import Derived.ShutString
import Derived.Below
set_option linter.unusedSimpArgs false
set_option linter.unusedVariables false
set_option linter.unnecessarySimpa false
namespace Go.Proofs.YtplhdlbnneoobaaGreat.w4
open Go.ChangeShapes Go.WideShapes Go.ChangeAt Go.RowKit Go.c6
set_option linter.unusedVariables false
theorem own : ownKnob Tryz.prog.godebug = none := by kernel_rfl
theorem laidOut : laidOutB Tryz.prog = true := by kernel_rfl
set_option maxRecDepth 100000 in
theorem lifted (os : Os) (started : os.Started) (H : Type) (enc : TypeId × Value → H) :
    ReturnsInHanded {} Tryz.checked os 6 .any (Rows.overflowIsExcludedSpec.pre6 enc Tryz.prog Tryz.f6 Rows.overflowIsExcludedRow.domain false) (Rows.overflowIsExcludedSpec.post enc Tryz.prog Tryz.f6 false true false false) := by
  refine returnsInHanded_of_change (C := Tryz.checked) own started (by kernel_rfl) Tryz.func6
    (ChangeSpec.witness6 (enc := enc) (C := Tryz.checked) false ⟨#[], #[.agg #[.int .i64 0, .int .i64 0, .int .i64 0, .slice none 0 0, .slice none 0 0], .slice none 0 0], []⟩ 8 (by kernel_rfl) (by kernel_rfl) (by kernel_rfl) (by kernel_rfl)) ?_
  intro W base args ds gs before hval0 hW hcnd _
  have hval : ∀ (j : Nat) t v, Tryz.f6.params[j]? = some t → args[j]? = some v → Value.okWide Tryz.prog W .any base t v := hval0
  have hW' := hW
  obtain ⟨p, q, hA0, hV, rfl, hfz, hnd⟩ := hW
  have hA : DataW.TrodAll enc Tryz.prog W 0 (fun _ => true) true Tryz.f6.params.toList args.toList ds p := hA0
  rw [Tryz.params6] at hA hval
  obtain ⟨v0, vs0, d0, ds0, p0, q0, im, rfl, rfl, h0, r0⟩ := trodAll_cons hA
  obtain ⟨v1, Bi, d1, ds1, p1, q1, rfl, rfl, rfl, h1, r1⟩ := trodAll_cons r0
  obtain ⟨rfl, rfl, rfl⟩ := trodAll_nil r1
  obtain rfl : args = #[v0, v1] := by cases args; simp_all
  obtain ⟨rfl, rfl⟩ := trodVars_none hV
  have k0 := h0
  have lt0 : ∀ x ∈ p0, x.block < W.heap.size := by obtain ⟨m, hm⟩ := k0; exact DataW.trod_lt m _ _ _ hm
  obtain ⟨c0, rfl, _⟩ := okWide_struct Tryz.underlying47 (hval 0 47 v0 rfl rfl)
  obtain ⟨a0, Ah, ca0⟩ := Ajz (S := fun _ => False) (ty := (.cons (.int .i64) (.cons (.int .i64) (.cons (.int .i64) (.cons (.sl (.int .i64)) (.cons (.sl (.int .i64)) .nil)))))) (m := 9) (by kernel_rfl) h0
  have k1 := h1
  have lt1 : ∀ x ∈ p1, x.block < W.heap.size := by obtain ⟨m, hm⟩ := k1; exact DataW.trod_lt m _ _ _ hm
  obtain ⟨x1, xY, Hk, rfl⟩ := okWide_slice Tryz.underlying22 (hval 1 22 v1 rfl rfl)
  obtain ⟨a1, Iy, ca1⟩ := Ajy (S := fun _ => False) (ty := (.sl (.int .i64))) (m := 9) (by kernel_rfl) rfl h1
  clear hA0 hval0
  obtain ⟨kd, dk, ck, b, a, rfl, i0, i1, i2, lb, la, bp⟩ := Aib Ah
  obtain ⟨l, e1, ll, _⟩ := kZ Iy
  obtain rfl : a1 = _ := (List.cons.inj e1).1
  refine (AiJ AjL (Agz kX xI AhZ kd dk ck i0 i1 i2 b a true true lb la bp l true ll) (us := [.agg c0, .slice x1 xY Hk]) rfl (qF ca0 (qF ca1 Zh))).mono fun e W' ⟨he, Hj⟩ => ?_
  subst he
  exact ⟨_, rfl, _, _, _, [], _, [], hW', trodAll_mk1 (shut_bool Tryz.underlying4 _), (trodAll_cons_mk (Below.trod laidOut (by kernel_rfl) (of_decide_eq_true (by kernel_rfl)) k0 Hj lt0) (trodAll_cons_mk (Below.trod laidOut (by kernel_rfl) (of_decide_eq_true (by kernel_rfl)) k1 Hj lt1) trodAll_mk0)), rfl, Hj.frame _, fun h => by cases h⟩
theorem over : Rows.overflowIsExcludedRow.holds Tryz.pinned (OpenSpec.ofChange Rows.overflowIsExcludedSpec) :=
  OpenClaim.holds_of_wide 6 Tryz.f6 rfl rfl rfl rfl rfl rfl rfl ⟨rfl, rfl, rfl, rfl, rfl⟩ rfl rfl rfl rfl rfl (by kernel_rfl) Tryz.func6 (by kernel_rfl)
    (of_decide_eq_true (by kernel_rfl)) (by unfold Func.isWrapper; first | (rw [if_pos (by decide +kernel)]; kernel_rfl) | (rw [if_neg (by decide +kernel)]; exact ⟨rfl, rfl⟩))
    (fun os started H enc _ => lifted os started H enc)
end Go.Proofs.YtplhdlbnneoobaaGreat.w4
namespace Go.Proofs.YtplhdlbnneoobaaGreat
/-- the statement -/
theorem overflowIsExcluded_holds : Rows.OverflowIsExcludedSaid := w4.over
end Go.Proofs.YtplhdlbnneoobaaGreat

