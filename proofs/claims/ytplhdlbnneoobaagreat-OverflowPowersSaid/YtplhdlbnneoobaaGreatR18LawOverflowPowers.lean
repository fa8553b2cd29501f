/-
  OverflowPowers returns true for every input: Power returns what is specified.
  Conditions: none.
-/
import Derived.Test.YtplhdlbnneoobaaGreatRows
import Derived.Test.YtplhdlbnneoobaaGreatR18SeatA
import Derived.Test.YtplhdlbnneoobaaGreatB12
import Derived.Test.YtplhdlbnneoobaaGreatB11
import Derived.ShutString
import Derived.Below
set_option linter.unusedSimpArgs false
set_option linter.unusedVariables false
set_option linter.unnecessarySimpa false
namespace Go.Proofs.YtplhdlbnneoobaaGreat.u7
open Go.ChangeShapes Go.WideShapes Go.ChangeAt Go.RowKit Go.c4
set_option linter.unusedVariables false
theorem own : ownKnob Tryz.prog.godebug = none := by kernel_rfl
theorem laidOut : laidOutB Tryz.prog = true := by kernel_rfl
set_option maxRecDepth 100000 in
theorem lifted (os : Os) (started : os.Started) (H : Type) (enc : TypeId × Value → H) :
    ReturnsInHanded {} Tryz.checked os 3 .any (Rows.overflowPowersSpec.pre6 enc Tryz.prog Tryz.f3 Rows.overflowPowersRow.domain false) (Rows.overflowPowersSpec.post enc Tryz.prog Tryz.f3 false true false false) := by
  refine returnsInHanded_of_change (C := Tryz.checked) own started (by kernel_rfl) Tryz.func3
    (ChangeSpec.witness6 (enc := enc) (C := Tryz.checked) false ⟨#[], #[.slice none 0 0, .int .i64 0, .bool false], []⟩ 8 (by kernel_rfl) (by kernel_rfl) (by kernel_rfl) (by kernel_rfl)) ?_
  intro W base args ds gs before hval0 hW hcnd _
  have hval : ∀ (j : Nat) t v, Tryz.f3.params[j]? = some t → args[j]? = some v → Value.okWide Tryz.prog W .any base t v := hval0
  have hW' := hW
  obtain ⟨p, q, hA0, hV, rfl, hfz, hnd⟩ := hW
  have hA : DataW.TrodAll enc Tryz.prog W 0 (fun _ => true) true Tryz.f3.params.toList args.toList ds p := hA0
  rw [Tryz.params3] at hA hval
  obtain ⟨v0, Um, d0, Tk, p0, q0, fh, rfl, rfl, h0, r0⟩ := trodAll_cons hA
  obtain ⟨v1, wz, d1, Tl, p1, q1, rfl, rfl, rfl, h1, r1⟩ := trodAll_cons r0
  obtain ⟨v2, Un, d2, Tn, p2, q2, rfl, rfl, rfl, h2, r2⟩ := trodAll_cons r1
  obtain ⟨rfl, rfl, rfl⟩ := trodAll_nil r2
  obtain rfl : args = #[v0, v1, v2] := by cases args; simp_all
  obtain ⟨rfl, rfl⟩ := trodVars_none hV
  have k0 := h0
  have Ss : ∀ x ∈ p0, x.block < W.heap.size := by obtain ⟨m, hm⟩ := k0; exact DataW.trod_lt m _ _ _ hm
  obtain ⟨x0, Fe, Cc, rfl⟩ := okWide_slice Tryz.underlying22 (hval 0 22 v0 rfl rfl)
  obtain ⟨a0, Ps, Oo⟩ := ZB (S := fun _ => False) (ty := (.sl (.int .i64))) (m := 9) (by kernel_rfl) rfl h0
  have k1 := h1
  have Su : ∀ x ∈ p1, x.block < W.heap.size := by obtain ⟨m, hm⟩ := k1; exact DataW.trod_lt m _ _ _ hm
  obtain ⟨x1, rfl⟩ := okWide_int Tryz.underlying3 (hval 1 3 v1 rfl rfl)
  obtain ⟨a1, Az, Oq⟩ := ZB (S := fun _ => False) (ty := (.int .i64)) (m := 9) (by kernel_rfl) rfl h1
  have k2 := h2
  have Sv : ∀ x ∈ p2, x.block < W.heap.size := by obtain ⟨m, hm⟩ := k2; exact DataW.trod_lt m _ _ _ hm
  obtain ⟨x2, rfl⟩ := okWide_bool Tryz.underlying4 (hval 2 4 v2 rfl rfl)
  obtain ⟨a2, qi, Ot⟩ := ZB (S := fun _ => False) (ty := .bool) (m := 9) (by kernel_rfl) rfl h2
  clear hA0 hval0
  obtain ⟨l, e0, ll, vl⟩ := zQ Ps
  obtain rfl : a0 = _ := (List.cons.inj e0).1
  obtain ⟨z, e1, hz⟩ := iI Az
  obtain rfl : a1 = _ := (List.cons.inj e1).1
  obtain ⟨sm, e2⟩ := qi
  obtain rfl : a2 = _ := (List.cons.inj e2).1
  refine (Je Mr (wO yZ l z sm true vl hz) (us := [.slice x0 Fe Cc, .int .i64 x1, .bool x2]) rfl (WI Oo (WI Oq (WI Ot rG)))).mono fun e W' ⟨he, Am⟩ => ?_
  subst he
  exact ⟨_, rfl, _, _, _, [], _, [], hW', trodAll_mk1 (shut_bool Tryz.underlying4 _), (trodAll_cons_mk (Below.trod laidOut (by kernel_rfl) (of_decide_eq_true (by kernel_rfl)) k0 Am Ss) (trodAll_cons_mk (Below.trod laidOut (by kernel_rfl) (of_decide_eq_true (by kernel_rfl)) k1 Am Su) (trodAll_cons_mk (Below.trod laidOut (by kernel_rfl) (of_decide_eq_true (by kernel_rfl)) k2 Am Sv) trodAll_mk0))), rfl, Am.frame _, fun h => by cases h⟩
theorem over : Rows.overflowPowersRow.holds Tryz.pinned (OpenSpec.ofChange Rows.overflowPowersSpec) :=
  OpenClaim.holds_of_wide 3 Tryz.f3 rfl rfl rfl rfl rfl rfl rfl ⟨rfl, rfl, rfl, rfl, rfl⟩ rfl rfl rfl rfl rfl (by kernel_rfl) Tryz.func3 (by kernel_rfl)
    (of_decide_eq_true (by kernel_rfl)) (by unfold Func.isWrapper; first | (rw [if_pos (by decide +kernel)]; kernel_rfl) | (rw [if_neg (by decide +kernel)]; exact ⟨rfl, rfl⟩))
    (fun os started H enc _ => lifted os started H enc)
end Go.Proofs.YtplhdlbnneoobaaGreat.u7
namespace Go.Proofs.YtplhdlbnneoobaaGreat
/-- the statement -/
theorem overflowPowers_holds : Rows.OverflowPowersSaid := u7.over
end Go.Proofs.YtplhdlbnneoobaaGreat

