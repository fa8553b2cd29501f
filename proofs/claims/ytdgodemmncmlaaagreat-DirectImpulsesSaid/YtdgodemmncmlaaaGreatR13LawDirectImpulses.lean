/-
  DirectImpulses returns true for every input: the exact impulse response of each direct form is that of the filter of its words.
  Conditions: none.
-/
import Derived.Test.YtdgodemmncmlaaaGreatRows
import Derived.Test.YtdgodemmncmlaaaGreatR13SeatC
import Derived.Test.YtdgodemmncmlaaaGreatB12
import Derived.Test.YtdgodemmncmlaaaGreatB11
import Derived.ShutString
import Derived.Below
set_option linter.unusedSimpArgs false
set_option linter.unusedVariables false
set_option linter.unnecessarySimpa false
namespace Go.Proofs.YtdgodemmncmlaaaGreat.directImpulsesDone
open Go.ChangeShapes Go.WideShapes Go.ChangeAt Go.RowKit Go.Eng
set_option linter.unusedVariables false
theorem own : ownKnob Tryz.prog.godebug = none := by kernel_rfl
theorem laidOut : laidOutB Tryz.prog = true := by kernel_rfl
set_option maxRecDepth 100000 in
theorem lifted (os : Os) (started : os.Started) (H : Type) (enc : TypeId × Value → H) :
    ReturnsInHanded {} Tryz.checked os 7 .any (Rows.directImpulsesSpec.pre6 enc Tryz.prog Tryz.f7 Rows.directImpulsesRow.domain false) (Rows.directImpulsesSpec.post enc Tryz.prog Tryz.f7 false true false false) := by
  refine returnsInHanded_of_change (C := Tryz.checked) own started (by kernel_rfl) Tryz.func7
    (ChangeSpec.witness6 (enc := enc) (C := Tryz.checked) false ⟨#[], #[.int .i64 0, .int .i64 0, .int .i64 0, .slice none 0 0, .slice none 0 0], []⟩ 8 (by kernel_rfl) (by kernel_rfl) (by kernel_rfl) (by kernel_rfl)) ?_
  intro W base args ds gs before hval0 hW hcnd _
  have hval : ∀ (j : Nat) t v, Tryz.f7.params[j]? = some t → args[j]? = some v → Value.okWide Tryz.prog W .any base t v := hval0
  have hW' := hW
  obtain ⟨p, q, hA0, hV, rfl, hfz, hnd⟩ := hW
  have hA : DataW.TrodAll enc Tryz.prog W 0 (fun _ => true) true Tryz.f7.params.toList args.toList ds p := hA0
  rw [Tryz.params7] at hA hval
  obtain ⟨v0, vs0, d0, ds0, p0, q0, hargs, rfl, rfl, h0, r0⟩ := trodAll_cons hA
  obtain ⟨v1, vs1, d1, ds1, p1, q1, rfl, rfl, rfl, h1, r1⟩ := trodAll_cons r0
  obtain ⟨v2, vs2, d2, ds2, p2, q2, rfl, rfl, rfl, h2, r2⟩ := trodAll_cons r1
  obtain ⟨v3, vs3, d3, ds3, p3, q3, rfl, rfl, rfl, h3, r3⟩ := trodAll_cons r2
  obtain ⟨v4, vs4, d4, ds4, p4, q4, rfl, rfl, rfl, h4, r4⟩ := trodAll_cons r3
  obtain ⟨rfl, rfl, rfl⟩ := trodAll_nil r4
  obtain rfl : args = #[v0, v1, v2, v3, v4] := by cases args; simp_all
  obtain ⟨rfl, rfl⟩ := trodVars_none hV
  have k0 := h0
  have lt0 : ∀ x ∈ p0, x.block < W.heap.size := by obtain ⟨m, hm⟩ := k0; exact DataW.trod_lt m _ _ _ hm
  obtain ⟨x0, rfl⟩ := okWide_int Tryz.underlying3 (hval 0 3 v0 rfl rfl)
  obtain ⟨a0, ha0, ca0⟩ := open_cell (S := fun _ => False) (ty := (.int .i64)) (m := 9) (by kernel_rfl) rfl h0
  have k1 := h1
  have lt1 : ∀ x ∈ p1, x.block < W.heap.size := by obtain ⟨m, hm⟩ := k1; exact DataW.trod_lt m _ _ _ hm
  obtain ⟨x1, rfl⟩ := okWide_int Tryz.underlying3 (hval 1 3 v1 rfl rfl)
  obtain ⟨a1, ha1, ca1⟩ := open_cell (S := fun _ => False) (ty := (.int .i64)) (m := 9) (by kernel_rfl) rfl h1
  have k2 := h2
  have lt2 : ∀ x ∈ p2, x.block < W.heap.size := by obtain ⟨m, hm⟩ := k2; exact DataW.trod_lt m _ _ _ hm
  obtain ⟨x2, rfl⟩ := okWide_int Tryz.underlying3 (hval 2 3 v2 rfl rfl)
  obtain ⟨a2, ha2, ca2⟩ := open_cell (S := fun _ => False) (ty := (.int .i64)) (m := 9) (by kernel_rfl) rfl h2
  have k3 := h3
  have lt3 : ∀ x ∈ p3, x.block < W.heap.size := by obtain ⟨m, hm⟩ := k3; exact DataW.trod_lt m _ _ _ hm
  obtain ⟨x3, len3, cap3, rfl⟩ := okWide_slice Tryz.underlying22 (hval 3 22 v3 rfl rfl)
  obtain ⟨a3, ha3, ca3⟩ := open_cell (S := fun _ => False) (ty := (.sl (.int .i64))) (m := 9) (by kernel_rfl) rfl h3
  have k4 := h4
  have lt4 : ∀ x ∈ p4, x.block < W.heap.size := by obtain ⟨m, hm⟩ := k4; exact DataW.trod_lt m _ _ _ hm
  obtain ⟨x4, len4, cap4, rfl⟩ := okWide_slice Tryz.underlying22 (hval 4 22 v4 rfl rfl)
  obtain ⟨a4, ha4, ca4⟩ := open_cell (S := fun _ => False) (ty := (.sl (.int .i64))) (m := 9) (by kernel_rfl) rfl h4
  clear hA0 hval0
  obtain ⟨kd, e0, g0⟩ := has_iR ha0
  obtain rfl : a0 = _ := (List.cons.inj e0).1
  obtain ⟨dk, e1, g1⟩ := has_iR ha1
  obtain rfl : a1 = _ := (List.cons.inj e1).1
  obtain ⟨ck, e2, g2⟩ := has_iR ha2
  obtain rfl : a2 = _ := (List.cons.inj e2).1
  obtain ⟨b, e3, lb, _⟩ := has_intsR ha3
  obtain rfl : a3 = _ := (List.cons.inj e3).1
  obtain ⟨a, e4, la, _⟩ := has_intsR ha4
  obtain rfl : a4 = _ := (List.cons.inj e4).1
  refine (law_calls progOK (ev_law23_DirectImpulses hasFixed hasNet hasWorld hasRunG hasLawW kd dk ck g0 g1 g2 b a true true lb la) (us := [.int .i64 x0, .int .i64 x1, .int .i64 x2, .slice x3 len3 cap3, .slice x4 len4 cap4]) rfl (args_cons ca0 (args_cons ca1 (args_cons ca2 (args_cons ca3 (args_cons ca4 args_nil)))))).mono fun e W' ⟨he, bel⟩ => ?_
  subst he
  exact ⟨_, rfl, _, _, _, [], _, [], hW', trodAll_mk1 (shut_bool Tryz.underlying4 _), (trodAll_cons_mk (Below.trod laidOut (by kernel_rfl) (of_decide_eq_true (by kernel_rfl)) k0 bel lt0) (trodAll_cons_mk (Below.trod laidOut (by kernel_rfl) (of_decide_eq_true (by kernel_rfl)) k1 bel lt1) (trodAll_cons_mk (Below.trod laidOut (by kernel_rfl) (of_decide_eq_true (by kernel_rfl)) k2 bel lt2) (trodAll_cons_mk (Below.trod laidOut (by kernel_rfl) (of_decide_eq_true (by kernel_rfl)) k3 bel lt3) (trodAll_cons_mk (Below.trod laidOut (by kernel_rfl) (of_decide_eq_true (by kernel_rfl)) k4 bel lt4) trodAll_mk0))))), rfl, bel.frame _, fun h => by cases h⟩
theorem over : Rows.directImpulsesRow.holds Tryz.pinned (OpenSpec.ofChange Rows.directImpulsesSpec) :=
  OpenClaim.holds_of_wide 7 Tryz.f7 rfl rfl rfl rfl rfl rfl rfl ⟨rfl, rfl, rfl, rfl, rfl⟩ rfl rfl rfl rfl rfl (by kernel_rfl) Tryz.func7 (by kernel_rfl)
    (of_decide_eq_true (by kernel_rfl)) (by unfold Func.isWrapper; first | (rw [if_pos (by decide +kernel)]; kernel_rfl) | (rw [if_neg (by decide +kernel)]; exact ⟨rfl, rfl⟩))
    (fun os started H enc _ => lifted os started H enc)
end Go.Proofs.YtdgodemmncmlaaaGreat.directImpulsesDone
namespace Go.Proofs.YtdgodemmncmlaaaGreat
/-- the statement -/
theorem directImpulses_holds : Rows.DirectImpulsesSaid := directImpulsesDone.over
end Go.Proofs.YtdgodemmncmlaaaGreat

