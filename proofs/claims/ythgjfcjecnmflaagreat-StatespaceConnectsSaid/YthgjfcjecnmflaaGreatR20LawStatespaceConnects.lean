/-
  StatespaceConnects returns true for every input: Series and Parallel return what is specified, and their transfer functions are the product and the sum.
  Conditions: none.
-/
import Derived.Test.YthgjfcjecnmflaaGreatRows
import Derived.Test.YthgjfcjecnmflaaGreatR20SeatA
import Derived.Test.YthgjfcjecnmflaaGreatB12
import Derived.Test.YthgjfcjecnmflaaGreatB11
import Derived.ShutString
import Derived.Below
set_option linter.unusedSimpArgs false
set_option linter.unusedVariables false
set_option linter.unnecessarySimpa false
namespace Go.Proofs.YthgjfcjecnmflaaGreat.v7
open Go.ChangeShapes Go.WideShapes Go.ChangeAt Go.RowKit Go.e9
set_option linter.unusedVariables false
theorem own : ownKnob Tryz.prog.godebug = none := by kernel_rfl
theorem laidOut : laidOutB Tryz.prog = true := by kernel_rfl
set_option maxRecDepth 100000 in
theorem lifted (os : Os) (started : os.Started) (H : Type) (enc : TypeId × Value → H) :
    ReturnsInHanded {} Tryz.checked os 5 .any (Rows.statespaceConnectsSpec.pre6 enc Tryz.prog Tryz.f5 Rows.statespaceConnectsRow.domain false) (Rows.statespaceConnectsSpec.post enc Tryz.prog Tryz.f5 false true false false) := by
  refine returnsInHanded_of_change (C := Tryz.checked) own started (by kernel_rfl) Tryz.func5
    (ChangeSpec.witness6 (enc := enc) (C := Tryz.checked) false ⟨#[], #[.slice none 0 0, .slice none 0 0, .int .i64 0, .int .i64 0], []⟩ 8 (by kernel_rfl) (by kernel_rfl) (by kernel_rfl) (by kernel_rfl)) ?_
  intro W base args ds gs before hval0 hW hcnd _
  have hval : ∀ (j : Nat) t v, Tryz.f5.params[j]? = some t → args[j]? = some v → Value.okWide Tryz.prog W .any base t v := hval0
  have hW' := hW
  obtain ⟨p, q, hA0, hV, rfl, hfz, hnd⟩ := hW
  have hA : DataW.TrodAll enc Tryz.prog W 0 (fun _ => true) true Tryz.f5.params.toList args.toList ds p := hA0
  rw [Tryz.params5] at hA hval
  obtain ⟨v0, vs0, d0, ds0, p0, q0, il, rfl, rfl, h0, r0⟩ := trodAll_cons hA
  obtain ⟨v1, zk, d1, ds1, p1, q1, rfl, rfl, rfl, h1, r1⟩ := trodAll_cons r0
  obtain ⟨v2, vs2, d2, ds2, p2, q2, rfl, rfl, rfl, h2, r2⟩ := trodAll_cons r1
  obtain ⟨v3, vs3, d3, ds3, p3, q3, rfl, rfl, rfl, h3, r3⟩ := trodAll_cons r2
  obtain ⟨rfl, rfl, rfl⟩ := trodAll_nil r3
  obtain rfl : args = #[v0, v1, v2, v3] := by cases args; simp_all
  obtain ⟨rfl, rfl⟩ := trodVars_none hV
  have k0 := h0
  have lt0 : ∀ x ∈ p0, x.block < W.heap.size := by obtain ⟨m, hm⟩ := k0; exact DataW.trod_lt m _ _ _ hm
  obtain ⟨x0, Hb, Dn, rfl⟩ := okWide_slice Tryz.underlying22 (hval 0 22 v0 rfl rfl)
  obtain ⟨a0, Ya, Wl⟩ := XR (S := fun _ => False) (ty := (.sl (.int .i64))) (m := 9) (by kernel_rfl) rfl h0
  have k1 := h1
  have lt1 : ∀ x ∈ p1, x.block < W.heap.size := by obtain ⟨m, hm⟩ := k1; exact DataW.trod_lt m _ _ _ hm
  obtain ⟨x1, BW, Dp, rfl⟩ := okWide_slice Tryz.underlying22 (hval 1 22 v1 rfl rfl)
  obtain ⟨a1, Eg, Wm⟩ := XR (S := fun _ => False) (ty := (.sl (.int .i64))) (m := 9) (by kernel_rfl) rfl h1
  have k2 := h2
  have lt2 : ∀ x ∈ p2, x.block < W.heap.size := by obtain ⟨m, hm⟩ := k2; exact DataW.trod_lt m _ _ _ hm
  obtain ⟨x2, rfl⟩ := okWide_int Tryz.underlying3 (hval 2 3 v2 rfl rfl)
  obtain ⟨a2, sj, Wn⟩ := XR (S := fun _ => False) (ty := (.int .i64)) (m := 9) (by kernel_rfl) rfl h2
  have k3 := h3
  have lt3 : ∀ x ∈ p3, x.block < W.heap.size := by obtain ⟨m, hm⟩ := k3; exact DataW.trod_lt m _ _ _ hm
  obtain ⟨x3, rfl⟩ := okWide_int Tryz.underlying3 (hval 3 3 v3 rfl rfl)
  obtain ⟨a3, Yb, Wo⟩ := XR (S := fun _ => False) (ty := (.int .i64)) (m := 9) (by kernel_rfl) rfl h3
  clear hA0 hval0
  obtain ⟨l, e0, ll, vl⟩ := mB Ya
  obtain rfl : a0 = _ := (List.cons.inj e0).1
  obtain ⟨m, e1, lm, vm⟩ := mB Eg
  obtain rfl : a1 = _ := (List.cons.inj e1).1
  obtain ⟨z, e2, hz⟩ := aR sj
  obtain rfl : a2 = _ := (List.cons.inj e2).1
  obtain ⟨o, e3, ho⟩ := aR Yb
  obtain rfl : a3 = _ := (List.cons.inj e3).1
  refine (Qq Sr (Kr My rfl l m z o true true vl vm hz ho) (us := [.slice x0 Hb Dn, .slice x1 BW Dp, .int .i64 x2, .int .i64 x3]) rfl (V6 Wl (V6 Wm (V6 Wn (V6 Wo wH))))).mono fun e W' ⟨he, zo⟩ => ?_
  subst he
  exact ⟨_, rfl, _, _, _, [], _, [], hW', trodAll_mk1 (shut_bool Tryz.underlying4 _), (trodAll_cons_mk (Below.trod laidOut (by kernel_rfl) (of_decide_eq_true (by kernel_rfl)) k0 zo lt0) (trodAll_cons_mk (Below.trod laidOut (by kernel_rfl) (of_decide_eq_true (by kernel_rfl)) k1 zo lt1) (trodAll_cons_mk (Below.trod laidOut (by kernel_rfl) (of_decide_eq_true (by kernel_rfl)) k2 zo lt2) (trodAll_cons_mk (Below.trod laidOut (by kernel_rfl) (of_decide_eq_true (by kernel_rfl)) k3 zo lt3) trodAll_mk0)))), rfl, zo.frame _, fun h => by cases h⟩
theorem over : Rows.statespaceConnectsRow.holds Tryz.pinned (OpenSpec.ofChange Rows.statespaceConnectsSpec) :=
  OpenClaim.holds_of_wide 5 Tryz.f5 rfl rfl rfl rfl rfl rfl rfl ⟨rfl, rfl, rfl, rfl, rfl⟩ rfl rfl rfl rfl rfl (by kernel_rfl) Tryz.func5 (by kernel_rfl)
    (of_decide_eq_true (by kernel_rfl)) (by unfold Func.isWrapper; first | (rw [if_pos (by decide +kernel)]; kernel_rfl) | (rw [if_neg (by decide +kernel)]; exact ⟨rfl, rfl⟩))
    (fun os started H enc _ => lifted os started H enc)
end Go.Proofs.YthgjfcjecnmflaaGreat.v7
namespace Go.Proofs.YthgjfcjecnmflaaGreat
/-- the statement -/
theorem statespaceConnects_holds : Rows.StatespaceConnectsSaid := v7.over
end Go.Proofs.YthgjfcjecnmflaaGreat

