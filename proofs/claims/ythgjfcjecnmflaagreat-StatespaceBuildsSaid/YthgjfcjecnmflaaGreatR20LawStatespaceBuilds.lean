/-
  StatespaceBuilds returns true for every input: Build returns what is specified, and its system is the given one if all coefficients are multiples of the step of the words.
  Conditions: none.
-/
import Derived.Test.YthgjfcjecnmflaaGreatRows
import Derived.Test.YthgjfcjecnmflaaGreatR20SeatB
import Derived.Test.YthgjfcjecnmflaaGreatB11
import Derived.Test.YthgjfcjecnmflaaGreatB10
import Derived.ShutString
import Derived.Below
set_option linter.unusedSimpArgs false
set_option linter.unusedVariables false
set_option linter.unnecessarySimpa false
namespace Go.Proofs.YthgjfcjecnmflaaGreat.al
open Go.ChangeShapes Go.WideShapes Go.ChangeAt Go.RowKit Go.e6
set_option linter.unusedVariables false
theorem own : ownKnob Tryz.prog.godebug = none := by kernel_rfl
theorem laidOut : laidOutB Tryz.prog = true := by kernel_rfl
set_option maxRecDepth 100000 in
theorem lifted (os : Os) (started : os.Started) (H : Type) (enc : TypeId × Value → H) :
    ReturnsInHanded {} Tryz.checked os 4 .any (Rows.statespaceBuildsSpec.pre6 enc Tryz.prog Tryz.f4 Rows.statespaceBuildsRow.domain false) (Rows.statespaceBuildsSpec.post enc Tryz.prog Tryz.f4 false true false false) := by
  refine returnsInHanded_of_change (C := Tryz.checked) own started (by kernel_rfl) Tryz.func4
    (ChangeSpec.witness6 (enc := enc) (C := Tryz.checked) false ⟨#[], #[.slice none 0 0, .int .i64 0, .int .i64 0, .int .i64 0, .bool false], []⟩ 8 (by kernel_rfl) (by kernel_rfl) (by kernel_rfl) (by kernel_rfl)) ?_
  intro W base args ds gs before hval0 hW hcnd _
  have hval : ∀ (j : Nat) t v, Tryz.f4.params[j]? = some t → args[j]? = some v → Value.okWide Tryz.prog W .any base t v := hval0
  have hW' := hW
  obtain ⟨p, q, hA0, hV, rfl, hfz, hnd⟩ := hW
  have hA : DataW.TrodAll enc Tryz.prog W 0 (fun _ => true) true Tryz.f4.params.toList args.toList ds p := hA0
  rw [Tryz.params4] at hA hval
  obtain ⟨v0, vs0, d0, ds0, p0, q0, km, rfl, rfl, h0, r0⟩ := trodAll_cons hA
  obtain ⟨v1, Dl, d1, ds1, p1, q1, rfl, rfl, rfl, h1, r1⟩ := trodAll_cons r0
  obtain ⟨v2, vs2, d2, ds2, p2, q2, rfl, rfl, rfl, h2, r2⟩ := trodAll_cons r1
  obtain ⟨v3, vs3, d3, ds3, p3, q3, rfl, rfl, rfl, h3, r3⟩ := trodAll_cons r2
  obtain ⟨v4, vs4, d4, ds4, p4, q4, rfl, rfl, rfl, h4, r4⟩ := trodAll_cons r3
  obtain ⟨rfl, rfl, rfl⟩ := trodAll_nil r4
  obtain rfl : args = #[v0, v1, v2, v3, v4] := by cases args; simp_all
  obtain ⟨rfl, rfl⟩ := trodVars_none hV
  have k0 := h0
  have lt0 : ∀ x ∈ p0, x.block < W.heap.size := by obtain ⟨m, hm⟩ := k0; exact DataW.trod_lt m _ _ _ hm
  obtain ⟨x0, Lh, Ic, rfl⟩ := okWide_slice Tryz.underlying22 (hval 0 22 v0 rfl rfl)
  obtain ⟨a0, ha0, ca0⟩ := dS (S := fun _ => False) (ty := (.sl (.int .i64))) (m := 9) (by kernel_rfl) rfl h0
  have k1 := h1
  have lt1 : ∀ x ∈ p1, x.block < W.heap.size := by obtain ⟨m, hm⟩ := k1; exact DataW.trod_lt m _ _ _ hm
  obtain ⟨x1, rfl⟩ := okWide_int Tryz.underlying3 (hval 1 3 v1 rfl rfl)
  obtain ⟨a1, Ir, ca1⟩ := dS (S := fun _ => False) (ty := (.int .i64)) (m := 9) (by kernel_rfl) rfl h1
  have k2 := h2
  have lt2 : ∀ x ∈ p2, x.block < W.heap.size := by obtain ⟨m, hm⟩ := k2; exact DataW.trod_lt m _ _ _ hm
  obtain ⟨x2, rfl⟩ := okWide_int Tryz.underlying3 (hval 2 3 v2 rfl rfl)
  obtain ⟨a2, xg, ca2⟩ := dS (S := fun _ => False) (ty := (.int .i64)) (m := 9) (by kernel_rfl) rfl h2
  have k3 := h3
  have lt3 : ∀ x ∈ p3, x.block < W.heap.size := by obtain ⟨m, hm⟩ := k3; exact DataW.trod_lt m _ _ _ hm
  obtain ⟨x3, rfl⟩ := okWide_int Tryz.underlying3 (hval 3 3 v3 rfl rfl)
  obtain ⟨a3, ha3, ca3⟩ := dS (S := fun _ => False) (ty := (.int .i64)) (m := 9) (by kernel_rfl) rfl h3
  have k4 := h4
  have lt4 : ∀ x ∈ p4, x.block < W.heap.size := by obtain ⟨m, hm⟩ := k4; exact DataW.trod_lt m _ _ _ hm
  obtain ⟨x4, rfl⟩ := okWide_bool Tryz.underlying4 (hval 4 4 v4 rfl rfl)
  obtain ⟨a4, ha4, ca4⟩ := dS (S := fun _ => False) (ty := .bool) (m := 9) (by kernel_rfl) rfl h4
  clear hA0 hval0
  obtain ⟨l, e0, ll, vl⟩ := AgR ha0
  obtain rfl : a0 = _ := (List.cons.inj e0).1
  obtain ⟨z, e1, hz⟩ := iB Ir
  obtain rfl : a1 = _ := (List.cons.inj e1).1
  obtain ⟨o, e2, ho⟩ := iB xg
  obtain rfl : a2 = _ := (List.cons.inj e2).1
  obtain ⟨p, e3, hp⟩ := iB ha3
  obtain rfl : a3 = _ := (List.cons.inj e3).1
  obtain ⟨sm, e4⟩ := ha4
  obtain rfl : a4 = _ := (List.cons.inj e4).1
  refine (Ahn Ah0 (Afy oH AgI l z o p sm true vl hz ho hp) (us := [.slice x0 Lh Ic, .int .i64 x1, .int .i64 x2, .int .i64 x3, .bool x4]) rfl (bX ca0 (bX ca1 (bX ca2 (bX ca3 (bX ca4 Adk)))))).mono fun e W' ⟨he, Ch⟩ => ?_
  subst he
  exact ⟨_, rfl, _, _, _, [], _, [], hW', trodAll_mk1 (shut_bool Tryz.underlying4 _), (trodAll_cons_mk (Below.trod laidOut (by kernel_rfl) (of_decide_eq_true (by kernel_rfl)) k0 Ch lt0) (trodAll_cons_mk (Below.trod laidOut (by kernel_rfl) (of_decide_eq_true (by kernel_rfl)) k1 Ch lt1) (trodAll_cons_mk (Below.trod laidOut (by kernel_rfl) (of_decide_eq_true (by kernel_rfl)) k2 Ch lt2) (trodAll_cons_mk (Below.trod laidOut (by kernel_rfl) (of_decide_eq_true (by kernel_rfl)) k3 Ch lt3) (trodAll_cons_mk (Below.trod laidOut (by kernel_rfl) (of_decide_eq_true (by kernel_rfl)) k4 Ch lt4) trodAll_mk0))))), rfl, Ch.frame _, fun h => by cases h⟩
theorem over : Rows.statespaceBuildsRow.holds Tryz.pinned (OpenSpec.ofChange Rows.statespaceBuildsSpec) :=
  OpenClaim.holds_of_wide 4 Tryz.f4 rfl rfl rfl rfl rfl rfl rfl ⟨rfl, rfl, rfl, rfl, rfl⟩ rfl rfl rfl rfl rfl (by kernel_rfl) Tryz.func4 (by kernel_rfl)
    (of_decide_eq_true (by kernel_rfl)) (by unfold Func.isWrapper; first | (rw [if_pos (by decide +kernel)]; kernel_rfl) | (rw [if_neg (by decide +kernel)]; exact ⟨rfl, rfl⟩))
    (fun os started H enc _ => lifted os started H enc)
end Go.Proofs.YthgjfcjecnmflaaGreat.al
namespace Go.Proofs.YthgjfcjecnmflaaGreat
/-- the statement -/
theorem statespaceBuilds_holds : Rows.StatespaceBuildsSaid := al.over
end Go.Proofs.YthgjfcjecnmflaaGreat

