/-
  OverflowIsMonotone returns true for every input: Safe is true for every input up to Limit and false above it.
  Conditions: none.
-/
import Derived.Test.YtplhdlbnneoobaaGreatRows
import Derived.Test.YtplhdlbnneoobaaGreatR18SeatC
import Derived.Test.YtplhdlbnneoobaaGreatB13
import Derived.Test.YtplhdlbnneoobaaGreatB10
import Derived.ShutString
import Derived.Below
set_option linter.unusedSimpArgs false
set_option linter.unusedVariables false
set_option linter.unnecessarySimpa false
namespace Go.Proofs.YtplhdlbnneoobaaGreat.u7
open Go.ChangeShapes Go.WideShapes Go.ChangeAt Go.RowKit Go.b7
set_option linter.unusedVariables false
theorem own : ownKnob Tryz.prog.godebug = none := by kernel_rfl
theorem laidOut : laidOutB Tryz.prog = true := by kernel_rfl
set_option maxRecDepth 100000 in
theorem lifted (os : Os) (started : os.Started) (H : Type) (enc : TypeId × Value → H) :
    ReturnsInHanded {} Tryz.checked os 5 .any (Rows.overflowIsMonotoneSpec.pre6 enc Tryz.prog Tryz.f5 Rows.overflowIsMonotoneRow.domain false) (Rows.overflowIsMonotoneSpec.post enc Tryz.prog Tryz.f5 false true false false) := by
  refine returnsInHanded_of_change (C := Tryz.checked) own started (by kernel_rfl) Tryz.func5
    (ChangeSpec.witness6 (enc := enc) (C := Tryz.checked) false ⟨#[], #[.agg #[.int .i64 0, .int .i64 0, .int .i64 0, .slice none 0 0, .slice none 0 0], .int .i64 0], []⟩ 8 (by kernel_rfl) (by kernel_rfl) (by kernel_rfl) (by kernel_rfl)) ?_
  intro W base args ds gs before hval0 hW hcnd _
  have hval : ∀ (j : Nat) t v, Tryz.f5.params[j]? = some t → args[j]? = some v → Value.okWide Tryz.prog W .any base t v := hval0
  have hW' := hW
  obtain ⟨p, q, hA0, hV, rfl, hfz, hnd⟩ := hW
  have hA : DataW.TrodAll enc Tryz.prog W 0 (fun _ => true) true Tryz.f5.params.toList args.toList ds p := hA0
  rw [Tryz.params5] at hA hval
  obtain ⟨v0, vs0, d0, ds0, p0, q0, gf, rfl, rfl, h0, r0⟩ := trodAll_cons hA
  obtain ⟨v1, Ad, d1, ds1, p1, q1, rfl, rfl, rfl, h1, r1⟩ := trodAll_cons r0
  obtain ⟨rfl, rfl, rfl⟩ := trodAll_nil r1
  obtain rfl : args = #[v0, v1] := by cases args; simp_all
  obtain ⟨rfl, rfl⟩ := trodVars_none hV
  have k0 := h0
  have lt0 : ∀ x ∈ p0, x.block < W.heap.size := by obtain ⟨m, hm⟩ := k0; exact DataW.trod_lt m _ _ _ hm
  obtain ⟨c0, rfl, _⟩ := okWide_struct Tryz.underlying47 (hval 0 47 v0 rfl rfl)
  obtain ⟨a0, ha0, ca0⟩ := Ym (S := fun _ => False) (ty := (.cons (.int .i64) (.cons (.int .i64) (.cons (.int .i64) (.cons (.sl (.int .i64)) (.cons (.sl (.int .i64)) .nil)))))) (m := 9) (by kernel_rfl) h0
  have k1 := h1
  have lt1 : ∀ x ∈ p1, x.block < W.heap.size := by obtain ⟨m, hm⟩ := k1; exact DataW.trod_lt m _ _ _ hm
  obtain ⟨x1, rfl⟩ := okWide_int Tryz.underlying3 (hval 1 3 v1 rfl rfl)
  obtain ⟨a1, Dy, ca1⟩ := Yl (S := fun _ => False) (ty := (.int .i64)) (m := 9) (by kernel_rfl) rfl h1
  clear hA0 hval0
  obtain ⟨kd, dk, ck, b, a, rfl, i0, i1, i2, lb, la, df⟩ := Vn ha0
  obtain ⟨x, e1, hx⟩ := VN Dy
  obtain rfl : a1 = _ := (List.cons.inj e1).1
  refine (Yw Xl (Ui dB pA Xb kd dk ck i0 i1 i2 b a true true lb la df x hx) (us := [.agg c0, .int .i64 x1]) rfl (jM ca0 (jM ca1 zD))).mono fun e W' ⟨he, Fj⟩ => ?_
  subst he
  exact ⟨_, rfl, _, _, _, [], _, [], hW', trodAll_mk1 (shut_bool Tryz.underlying4 _), (trodAll_cons_mk (Below.trod laidOut (by kernel_rfl) (of_decide_eq_true (by kernel_rfl)) k0 Fj lt0) (trodAll_cons_mk (Below.trod laidOut (by kernel_rfl) (of_decide_eq_true (by kernel_rfl)) k1 Fj lt1) trodAll_mk0)), rfl, Fj.frame _, fun h => by cases h⟩
theorem over : Rows.overflowIsMonotoneRow.holds Tryz.pinned (OpenSpec.ofChange Rows.overflowIsMonotoneSpec) :=
  OpenClaim.holds_of_wide 5 Tryz.f5 rfl rfl rfl rfl rfl rfl rfl ⟨rfl, rfl, rfl, rfl, rfl⟩ rfl rfl rfl rfl rfl (by kernel_rfl) Tryz.func5 (by kernel_rfl)
    (of_decide_eq_true (by kernel_rfl)) (by unfold Func.isWrapper; first | (rw [if_pos (by decide +kernel)]; kernel_rfl) | (rw [if_neg (by decide +kernel)]; exact ⟨rfl, rfl⟩))
    (fun os started H enc _ => lifted os started H enc)
end Go.Proofs.YtplhdlbnneoobaaGreat.u7
namespace Go.Proofs.YtplhdlbnneoobaaGreat
/-- the statement -/
theorem overflowIsMonotone_holds : Rows.OverflowIsMonotoneSaid := u7.over
end Go.Proofs.YtplhdlbnneoobaaGreat

