/-
  LinearActs returns true for every input: every function of layer 9 returns what is specified, for any matrices and lists.
  Conditions: none.
-/
import Derived.Test.YtcoldcgafbbjoaaGreatRows
import Derived.Test.YtcoldcgafbbjoaaGreatR23SeatA
import Derived.Test.YtcoldcgafbbjoaaGreatB14
import Derived.Test.YtcoldcgafbbjoaaGreatB13
import Derived.Test.YtcoldcgafbbjoaaGreatB11
import Derived.ShutString
import Derived.Below
set_option linter.unusedSimpArgs false
set_option linter.unusedVariables false
set_option linter.unnecessarySimpa false
namespace Go.Proofs.YtcoldcgafbbjoaaGreat.er
open Go.ChangeShapes Go.WideShapes Go.ChangeAt Go.RowKit Go.g6
set_option linter.unusedVariables false
theorem own : ownKnob Tryz.prog.godebug = none := by kernel_rfl
theorem laidOut : laidOutB Tryz.prog = true := by kernel_rfl
set_option maxRecDepth 100000 in
theorem lifted (os : Os) (started : os.Started) (H : Type) (enc : TypeId × Value → H) :
    ReturnsInHanded {} Tryz.checked os 3 .any (Rows.linearActsSpec.pre6 enc Tryz.prog Tryz.f3 Rows.linearActsRow.domain false) (Rows.linearActsSpec.post enc Tryz.prog Tryz.f3 false true false false) := by
  refine returnsInHanded_of_change (C := Tryz.checked) own started (by kernel_rfl) Tryz.func3
    (ChangeSpec.witness6 (enc := enc) (C := Tryz.checked) false ⟨#[], #[.slice none 0 0, .slice none 0 0, .slice none 0 0, .slice none 0 0, .slice none 0 0, .int .i64 0], []⟩ 8 (by kernel_rfl) (by kernel_rfl) (by kernel_rfl) (by kernel_rfl)) ?_
  intro W base args ds gs before hval0 hW hcnd _
  have hval : ∀ (j : Nat) t v, Tryz.f3.params[j]? = some t → args[j]? = some v → Value.okWide Tryz.prog W .any base t v := hval0
  have hW' := hW
  obtain ⟨p, q, hA0, hV, rfl, hfz, hnd⟩ := hW
  have hA : DataW.TrodAll enc Tryz.prog W 0 (fun _ => true) true Tryz.f3.params.toList args.toList ds p := hA0
  rw [Tryz.params3] at hA hval
  obtain ⟨v0, vs0, d0, ds0, p0, q0, lj, rfl, rfl, h0, r0⟩ := trodAll_cons hA
  obtain ⟨v1, El, d1, ds1, p1, q1, rfl, rfl, rfl, h1, r1⟩ := trodAll_cons r0
  obtain ⟨v2, vs2, d2, ds2, p2, q2, rfl, rfl, rfl, h2, r2⟩ := trodAll_cons r1
  obtain ⟨v3, vs3, d3, ds3, p3, q3, rfl, rfl, rfl, h3, r3⟩ := trodAll_cons r2
  obtain ⟨v4, vs4, d4, ds4, p4, q4, rfl, rfl, rfl, h4, r4⟩ := trodAll_cons r3
  obtain ⟨v5, vs5, d5, ds5, p5, q5, rfl, rfl, rfl, h5, r5⟩ := trodAll_cons r4
  obtain ⟨rfl, rfl, rfl⟩ := trodAll_nil r5
  obtain rfl : args = #[v0, v1, v2, v3, v4, v5] := by cases args; simp_all
  obtain ⟨rfl, rfl⟩ := trodVars_none hV
  have k0 := h0
  have lt0 : ∀ x ∈ p0, x.block < W.heap.size := by obtain ⟨m, hm⟩ := k0; exact DataW.trod_lt m _ _ _ hm
  obtain ⟨x0, Ny, Js, rfl⟩ := okWide_slice Tryz.underlying22 (hval 0 22 v0 rfl rfl)
  obtain ⟨a0, ha0, ca0⟩ := TP (ty := (.sl (.sl (.cons (.cons .bool (.cons (.sl (.int .u32)) .nil)) (.cons (.sl (.int .u32)) .nil))))) (m := 9) (by kernel_rfl) rfl h0
  have k1 := h1
  have lt1 : ∀ x ∈ p1, x.block < W.heap.size := by obtain ⟨m, hm⟩ := k1; exact DataW.trod_lt m _ _ _ hm
  obtain ⟨x1, eF, Jt, rfl⟩ := okWide_slice Tryz.underlying22 (hval 1 22 v1 rfl rfl)
  obtain ⟨a1, ha1, ca1⟩ := TP (ty := (.sl (.sl (.cons (.cons .bool (.cons (.sl (.int .u32)) .nil)) (.cons (.sl (.int .u32)) .nil))))) (m := 9) (by kernel_rfl) rfl h1
  have k2 := h2
  have RJ : ∀ x ∈ p2, x.block < W.heap.size := by obtain ⟨m, hm⟩ := k2; exact DataW.trod_lt m _ _ _ hm
  obtain ⟨x2, eG, Br, rfl⟩ := okWide_slice Tryz.underlying23 (hval 2 23 v2 rfl rfl)
  obtain ⟨a2, za, ca2⟩ := TP (ty := (.sl (.cons (.cons .bool (.cons (.sl (.int .u32)) .nil)) (.cons (.sl (.int .u32)) .nil)))) (m := 9) (by kernel_rfl) rfl h2
  have k3 := h3
  have lt3 : ∀ x ∈ p3, x.block < W.heap.size := by obtain ⟨m, hm⟩ := k3; exact DataW.trod_lt m _ _ _ hm
  obtain ⟨x3, eH, Ju, rfl⟩ := okWide_slice Tryz.underlying24 (hval 3 24 v3 rfl rfl)
  obtain ⟨a3, ha3, ca3⟩ := TP (ty := (.sl (.int .i64))) (m := 9) (by kernel_rfl) rfl h3
  have k4 := h4
  have lt4 : ∀ x ∈ p4, x.block < W.heap.size := by obtain ⟨m, hm⟩ := k4; exact DataW.trod_lt m _ _ _ hm
  obtain ⟨x4, qT, Jv, rfl⟩ := okWide_slice Tryz.underlying24 (hval 4 24 v4 rfl rfl)
  obtain ⟨a4, ha4, ca4⟩ := TP (ty := (.sl (.int .i64))) (m := 9) (by kernel_rfl) rfl h4
  have k5 := h5
  have lt5 : ∀ x ∈ p5, x.block < W.heap.size := by obtain ⟨m, hm⟩ := k5; exact DataW.trod_lt m _ _ _ hm
  obtain ⟨x5, rfl⟩ := okWide_int Tryz.underlying3 (hval 5 3 v5 rfl rfl)
  obtain ⟨a5, ha5, ca5⟩ := TP (ty := (.int .i64)) (m := 9) (by kernel_rfl) rfl h5
  clear hA0 hval0
  obtain ⟨a, e0, la, va⟩ := pX ha0
  obtain rfl : a0 = _ := (List.cons.inj e0).1
  obtain ⟨b, e1, lb, vb⟩ := pX ha1
  obtain rfl : a1 = _ := (List.cons.inj e1).1
  obtain ⟨x, e2, lx, vx⟩ := pY za
  obtain rfl : a2 = _ := (List.cons.inj e2).1
  obtain ⟨l, e3, ll, vl⟩ := pW ha3
  obtain rfl : a3 = _ := (List.cons.inj e3).1
  obtain ⟨m, e4, lm, vm⟩ := pW ha4
  obtain rfl : a4 = _ := (List.cons.inj e4).1
  obtain ⟨z, e5, hz⟩ := pV ha5
  obtain rfl : a5 = _ := (List.cons.inj e5).1
  refine (AeI Afy (Wy AdU a b x l m z la va lb vb lx vx ll vl lm vm hz) (us := [.slice x0 Ny Js, .slice x1 eF Jt, .slice x2 eG Br, .slice x3 eH Ju, .slice x4 qT Jv, .int .i64 x5]) rfl (ST ca0 (ST ca1 (ST ca2 (ST ca3 (ST ca4 (ST ca5 Sl))))))).mono fun e W' ⟨he, Bq⟩ => ?_
  subst he
  exact ⟨_, rfl, _, _, _, [], _, [], hW', trodAll_mk1 (shut_bool Tryz.underlying4 _), (trodAll_cons_mk (Below.trod laidOut (by kernel_rfl) (of_decide_eq_true (by kernel_rfl)) k0 Bq lt0) (trodAll_cons_mk (Below.trod laidOut (by kernel_rfl) (of_decide_eq_true (by kernel_rfl)) k1 Bq lt1) (trodAll_cons_mk (Below.trod laidOut (by kernel_rfl) (of_decide_eq_true (by kernel_rfl)) k2 Bq RJ) (trodAll_cons_mk (Below.trod laidOut (by kernel_rfl) (of_decide_eq_true (by kernel_rfl)) k3 Bq lt3) (trodAll_cons_mk (Below.trod laidOut (by kernel_rfl) (of_decide_eq_true (by kernel_rfl)) k4 Bq lt4) (trodAll_cons_mk (Below.trod laidOut (by kernel_rfl) (of_decide_eq_true (by kernel_rfl)) k5 Bq lt5) trodAll_mk0)))))), rfl, Bq.frame _, fun h => by cases h⟩
theorem over : Rows.linearActsRow.holds Tryz.pinned (OpenSpec.ofChange Rows.linearActsSpec) :=
  OpenClaim.holds_of_wide 3 Tryz.f3 rfl rfl rfl rfl rfl rfl rfl ⟨rfl, rfl, rfl, rfl, rfl⟩ rfl rfl rfl rfl rfl (by kernel_rfl) Tryz.func3 (by kernel_rfl)
    (of_decide_eq_true (by kernel_rfl)) (by unfold Func.isWrapper; first | (rw [if_pos (by decide +kernel)]; kernel_rfl) | (rw [if_neg (by decide +kernel)]; exact ⟨rfl, rfl⟩))
    (fun os started H enc _ => lifted os started H enc)
end Go.Proofs.YtcoldcgafbbjoaaGreat.er
namespace Go.Proofs.YtcoldcgafbbjoaaGreat
/-- the statement -/
theorem linearActs_holds : Rows.LinearActsSaid := er.over
end Go.Proofs.YtcoldcgafbbjoaaGreat

