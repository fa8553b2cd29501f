/-
  StatespaceMinimal returns true for every input: Controller is minimal exactly if numerator and denominator have no common factor, and Minimal does not depend on the basis of the states.
  Conditions: none.
-/
import Derived.Test.YthgjfcjecnmflaaGreatRows
import Derived.Test.YthgjfcjecnmflaaGreatR20SeatC
import Derived.Test.YthgjfcjecnmflaaGreatB13
import Derived.Test.YthgjfcjecnmflaaGreatB11
import Derived.ShutString
import Derived.Below
set_option linter.unusedSimpArgs false
set_option linter.unusedVariables false
set_option linter.unnecessarySimpa false
namespace Go.Proofs.YthgjfcjecnmflaaGreat.x8
open Go.ChangeShapes Go.WideShapes Go.ChangeAt Go.RowKit Go.e8
set_option linter.unusedVariables false
theorem own : ownKnob Tryz.prog.godebug = none := by kernel_rfl
theorem laidOut : laidOutB Tryz.prog = true := by kernel_rfl
set_option maxRecDepth 100000 in
theorem lifted (os : Os) (started : os.Started) (H : Type) (enc : TypeId × Value → H) :
    ReturnsInHanded {} Tryz.checked os 3 .any (Rows.statespaceMinimalSpec.pre6 enc Tryz.prog Tryz.f3 Rows.statespaceMinimalRow.domain false) (Rows.statespaceMinimalSpec.post enc Tryz.prog Tryz.f3 false true false false) := by
  refine returnsInHanded_of_change (C := Tryz.checked) own started (by kernel_rfl) Tryz.func3
    (ChangeSpec.witness6 (enc := enc) (C := Tryz.checked) false ⟨#[], #[.slice none 0 0, .slice none 0 0, .slice none 0 0], []⟩ 8 (by kernel_rfl) (by kernel_rfl) (by kernel_rfl) (by kernel_rfl)) ?_
  intro W base args ds gs before hval0 hW hcnd _
  have hval : ∀ (j : Nat) t v, Tryz.f3.params[j]? = some t → args[j]? = some v → Value.okWide Tryz.prog W .any base t v := hval0
  have hW' := hW
  obtain ⟨p, q, hA0, hV, rfl, hfz, hnd⟩ := hW
  have hA : DataW.TrodAll enc Tryz.prog W 0 (fun _ => true) true Tryz.f3.params.toList args.toList ds p := hA0
  rw [Tryz.params3] at hA hval
  obtain ⟨v0, vs0, d0, ds0, p0, q0, kh, rfl, rfl, h0, r0⟩ := trodAll_cons hA
  obtain ⟨v1, Dc, d1, ds1, p1, q1, rfl, rfl, rfl, h1, r1⟩ := trodAll_cons r0
  obtain ⟨v2, vs2, d2, ds2, p2, q2, rfl, rfl, rfl, h2, r2⟩ := trodAll_cons r1
  obtain ⟨rfl, rfl, rfl⟩ := trodAll_nil r2
  obtain rfl : args = #[v0, v1, v2] := by cases args; simp_all
  obtain ⟨rfl, rfl⟩ := trodVars_none hV
  have k0 := h0
  have lt0 : ∀ x ∈ p0, x.block < W.heap.size := by obtain ⟨m, hm⟩ := k0; exact DataW.trod_lt m _ _ _ hm
  obtain ⟨x0, Md, Hz, rfl⟩ := okWide_slice Tryz.underlying22 (hval 0 22 v0 rfl rfl)
  obtain ⟨a0, ha0, ca0⟩ := kI (S := fun _ => False) (ty := (.sl (.int .i64))) (m := 9) (by kernel_rfl) rfl h0
  have k1 := h1
  have lt1 : ∀ x ∈ p1, x.block < W.heap.size := by obtain ⟨m, hm⟩ := k1; exact DataW.trod_lt m _ _ _ hm
  obtain ⟨x1, jJ, Ia, rfl⟩ := okWide_slice Tryz.underlying22 (hval 1 22 v1 rfl rfl)
  obtain ⟨a1, Iv, ca1⟩ := kI (S := fun _ => False) (ty := (.sl (.int .i64))) (m := 9) (by kernel_rfl) rfl h1
  have k2 := h2
  have lt2 : ∀ x ∈ p2, x.block < W.heap.size := by obtain ⟨m, hm⟩ := k2; exact DataW.trod_lt m _ _ _ hm
  obtain ⟨x2, uJ, Ae, rfl⟩ := okWide_slice Tryz.underlying22 (hval 2 22 v2 rfl rfl)
  obtain ⟨a2, xh, ca2⟩ := kI (S := fun _ => False) (ty := (.sl (.int .i64))) (m := 9) (by kernel_rfl) rfl h2
  clear hA0 hval0
  obtain ⟨b, e0, lb, g0⟩ := jB ha0
  obtain rfl : a0 = _ := (List.cons.inj e0).1
  obtain ⟨a, e1, la, g1⟩ := jB Iv
  obtain rfl : a1 = _ := (List.cons.inj e1).1
  obtain ⟨t, e2, lt, g2⟩ := jB xh
  obtain rfl : a2 = _ := (List.cons.inj e2).1
  refine (Af0 Ag1 (Aeg jA Ae6 rfl rfl rfl rfl b a t true true true g0 g1 g2 lb la) (us := [.slice x0 Md Hz, .slice x1 jJ Ia, .slice x2 uJ Ae]) rfl (eT ca0 (eT ca1 (eT ca2 Tu)))).mono fun e W' ⟨he, Gm⟩ => ?_
  subst he
  exact ⟨_, rfl, _, _, _, [], _, [], hW', trodAll_mk1 (shut_bool Tryz.underlying4 _), (trodAll_cons_mk (Below.trod laidOut (by kernel_rfl) (of_decide_eq_true (by kernel_rfl)) k0 Gm lt0) (trodAll_cons_mk (Below.trod laidOut (by kernel_rfl) (of_decide_eq_true (by kernel_rfl)) k1 Gm lt1) (trodAll_cons_mk (Below.trod laidOut (by kernel_rfl) (of_decide_eq_true (by kernel_rfl)) k2 Gm lt2) trodAll_mk0))), rfl, Gm.frame _, fun h => by cases h⟩
theorem over : Rows.statespaceMinimalRow.holds Tryz.pinned (OpenSpec.ofChange Rows.statespaceMinimalSpec) :=
  OpenClaim.holds_of_wide 3 Tryz.f3 rfl rfl rfl rfl rfl rfl rfl ⟨rfl, rfl, rfl, rfl, rfl⟩ rfl rfl rfl rfl rfl (by kernel_rfl) Tryz.func3 (by kernel_rfl)
    (of_decide_eq_true (by kernel_rfl)) (by unfold Func.isWrapper; first | (rw [if_pos (by decide +kernel)]; kernel_rfl) | (rw [if_neg (by decide +kernel)]; exact ⟨rfl, rfl⟩))
    (fun os started H enc _ => lifted os started H enc)
end Go.Proofs.YthgjfcjecnmflaaGreat.x8
namespace Go.Proofs.YthgjfcjecnmflaaGreat
/-- the statement -/
theorem statespaceMinimal_holds : Rows.StatespaceMinimalSaid := x8.over
end Go.Proofs.YthgjfcjecnmflaaGreat

