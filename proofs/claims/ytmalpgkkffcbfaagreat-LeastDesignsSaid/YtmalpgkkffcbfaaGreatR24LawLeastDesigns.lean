/-
  LeastDesigns returns true for every input: Valid, Error and Design of layer 14 return what is specified, for any grids, and made ones.
  Conditions: none.
-/
import Derived.Test.YtmalpgkkffcbfaaGreatRows
import Derived.Test.YtmalpgkkffcbfaaGreatR24SeatA
import Derived.Test.YtmalpgkkffcbfaaGreatB13
import Derived.Test.YtmalpgkkffcbfaaGreatB10
import Derived.ShutString
import Derived.Below
set_option linter.unusedSimpArgs false
set_option linter.unusedVariables false
set_option linter.unnecessarySimpa false
namespace Go.Proofs.YtmalpgkkffcbfaaGreat.ag
open Go.ChangeShapes Go.WideShapes Go.ChangeAt Go.RowKit Go.b8
set_option linter.unusedVariables false
theorem own : ownKnob Tryz.prog.godebug = none := by kernel_rfl
theorem laidOut : laidOutB Tryz.prog = true := by kernel_rfl
set_option maxRecDepth 100000 in
theorem lifted (os : Os) (started : os.Started) (H : Type) (enc : TypeId × Value → H) :
    ReturnsInHanded {} Tryz.checked os 3 .any (Rows.leastDesignsSpec.pre6 enc Tryz.prog Tryz.f3 Rows.leastDesignsRow.domain false) (Rows.leastDesignsSpec.post enc Tryz.prog Tryz.f3 false true false false) := by
  refine returnsInHanded_of_change (C := Tryz.checked) own started (by kernel_rfl) Tryz.func3
    (ChangeSpec.witness6 (enc := enc) (C := Tryz.checked) false ⟨#[], #[.slice none 0 0, .slice none 0 0, .int .i64 0, .slice none 0 0], []⟩ 8 (by kernel_rfl) (by kernel_rfl) (by kernel_rfl) (by kernel_rfl)) ?_
  intro W base args ds gs before hval0 hW hcnd _
  have hval : ∀ (j : Nat) t v, Tryz.f3.params[j]? = some t → args[j]? = some v → Value.okWide Tryz.prog W .any base t v := hval0
  have hW' := hW
  obtain ⟨p, q, hA0, hV, rfl, hfz, hnd⟩ := hW
  have hA : DataW.TrodAll enc Tryz.prog W 0 (fun _ => true) true Tryz.f3.params.toList args.toList ds p := hA0
  rw [Tryz.params3] at hA hval
  obtain ⟨v0, vs0, d0, ds0, p0, q0, jt, rfl, rfl, h0, r0⟩ := trodAll_cons hA
  obtain ⟨v1, Ea, d1, ds1, p1, q1, rfl, rfl, rfl, h1, r1⟩ := trodAll_cons r0
  obtain ⟨v2, vs2, d2, ds2, p2, q2, rfl, rfl, rfl, h2, r2⟩ := trodAll_cons r1
  obtain ⟨v3, vs3, d3, ds3, p3, q3, rfl, rfl, rfl, h3, r3⟩ := trodAll_cons r2
  obtain ⟨rfl, rfl, rfl⟩ := trodAll_nil r3
  obtain rfl : args = #[v0, v1, v2, v3] := by cases args; simp_all
  obtain ⟨rfl, rfl⟩ := trodVars_none hV
  have k0 := h0
  have lt0 : ∀ x ∈ p0, x.block < W.heap.size := by obtain ⟨m, hm⟩ := k0; exact DataW.trod_lt m _ _ _ hm
  obtain ⟨x0, Nk, Jb, rfl⟩ := okWide_slice Tryz.underlying22 (hval 0 22 v0 rfl rfl)
  obtain ⟨a0, ha0, ca0⟩ := Y8 (ty := (.sl (.cons (.cons (.cons .bool (.cons (.sl (.int .u32)) .nil)) (.cons (.sl (.int .u32)) .nil)) (.cons (.cons (.cons .bool (.cons (.sl (.int .u32)) .nil)) (.cons (.sl (.int .u32)) .nil)) (.cons (.cons (.cons .bool (.cons (.sl (.int .u32)) .nil)) (.cons (.sl (.int .u32)) .nil)) .nil))))) (m := 9) (by kernel_rfl) rfl h0
  have k1 := h1
  have lt1 : ∀ x ∈ p1, x.block < W.heap.size := by obtain ⟨m, hm⟩ := k1; exact DataW.trod_lt m _ _ _ hm
  obtain ⟨x1, dY, Jc, rfl⟩ := okWide_slice Tryz.underlying24 (hval 1 24 v1 rfl rfl)
  obtain ⟨a1, ha1, ca1⟩ := Y8 (ty := (.sl (.cons (.cons .bool (.cons (.sl (.int .u32)) .nil)) (.cons (.sl (.int .u32)) .nil)))) (m := 9) (by kernel_rfl) rfl h1
  have k2 := h2
  have lt2 : ∀ x ∈ p2, x.block < W.heap.size := by obtain ⟨m, hm⟩ := k2; exact DataW.trod_lt m _ _ _ hm
  obtain ⟨x2, rfl⟩ := okWide_int Tryz.underlying3 (hval 2 3 v2 rfl rfl)
  obtain ⟨a2, ue, ca2⟩ := Y8 (ty := (.int .i64)) (m := 9) (by kernel_rfl) rfl h2
  have k3 := h3
  have lt3 : ∀ x ∈ p3, x.block < W.heap.size := by obtain ⟨m, hm⟩ := k3; exact DataW.trod_lt m _ _ _ hm
  obtain ⟨x3, qU, Je, rfl⟩ := okWide_slice Tryz.underlying25 (hval 3 25 v3 rfl rfl)
  obtain ⟨a3, ha3, ca3⟩ := Y8 (ty := (.sl (.int .i64))) (m := 9) (by kernel_rfl) rfl h3
  clear hA0 hval0
  obtain ⟨l, e0, ll, vl⟩ := AeK ha0
  obtain rfl : a0 = _ := (List.cons.inj e0).1
  obtain ⟨p, e1, lp, vp⟩ := AeL ha1
  obtain rfl : a1 = _ := (List.cons.inj e1).1
  obtain ⟨z, e2, hz⟩ := pZ ue
  obtain rfl : a2 = _ := (List.cons.inj e2).1
  obtain ⟨m, e3, lm, vm⟩ := AeI ha3
  obtain rfl : a3 = _ := (List.cons.inj e3).1
  refine (Afj Aga (Ads Aet l p z m ll vl lp vp hz lm vm) (us := [.slice x0 Nk Jb, .slice x1 dY Jc, .int .i64 x2, .slice x3 qU Je]) rfl (W8 ca0 (W8 ca1 (W8 ca2 (W8 ca3 Ta))))).mono fun e W' ⟨he, Ef⟩ => ?_
  subst he
  exact ⟨_, rfl, _, _, _, [], _, [], hW', trodAll_mk1 (shut_bool Tryz.underlying4 _), (trodAll_cons_mk (Below.trod laidOut (by kernel_rfl) (of_decide_eq_true (by kernel_rfl)) k0 Ef lt0) (trodAll_cons_mk (Below.trod laidOut (by kernel_rfl) (of_decide_eq_true (by kernel_rfl)) k1 Ef lt1) (trodAll_cons_mk (Below.trod laidOut (by kernel_rfl) (of_decide_eq_true (by kernel_rfl)) k2 Ef lt2) (trodAll_cons_mk (Below.trod laidOut (by kernel_rfl) (of_decide_eq_true (by kernel_rfl)) k3 Ef lt3) trodAll_mk0)))), rfl, Ef.frame _, fun h => by cases h⟩
theorem over : Rows.leastDesignsRow.holds Tryz.pinned (OpenSpec.ofChange Rows.leastDesignsSpec) :=
  OpenClaim.holds_of_wide 3 Tryz.f3 rfl rfl rfl rfl rfl rfl rfl ⟨rfl, rfl, rfl, rfl, rfl⟩ rfl rfl rfl rfl rfl (by kernel_rfl) Tryz.func3 (by kernel_rfl)
    (of_decide_eq_true (by kernel_rfl)) (by unfold Func.isWrapper; first | (rw [if_pos (by decide +kernel)]; kernel_rfl) | (rw [if_neg (by decide +kernel)]; exact ⟨rfl, rfl⟩))
    (fun os started H enc _ => lifted os started H enc)
end Go.Proofs.YtmalpgkkffcbfaaGreat.ag
namespace Go.Proofs.YtmalpgkkffcbfaaGreat
/-- the statement -/
theorem leastDesigns_holds : Rows.LeastDesignsSaid := ag.over
end Go.Proofs.YtmalpgkkffcbfaaGreat

