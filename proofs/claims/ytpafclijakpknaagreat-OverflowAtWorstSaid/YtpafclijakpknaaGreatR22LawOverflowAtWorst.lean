/-
  OverflowAtWorst returns true for every input: no run from the state 0 with inputs up to Limit that drive a value as far as possible has an overflow.
  Conditions: none.
-/
import Derived.Test.YtpafclijakpknaaGreatRows
import Derived.Test.YtpafclijakpknaaGreatR22SeatA
import Derived.Test.YtpafclijakpknaaGreatB14
import Derived.Test.YtpafclijakpknaaGreatB12
import Derived.Test.YtpafclijakpknaaGreatB11
import Derived.ShutString
import Derived.Below
set_option linter.unusedSimpArgs false
set_option linter.unusedVariables false
set_option linter.unnecessarySimpa false
namespace Go.Proofs.YtpafclijakpknaaGreat.bm
open Go.ChangeShapes Go.WideShapes Go.ChangeAt Go.RowKit Go.b8
set_option linter.unusedVariables false
theorem own : ownKnob Tryz.prog.godebug = none := by kernel_rfl
theorem laidOut : laidOutB Tryz.prog = true := by kernel_rfl
set_option maxRecDepth 100000 in
theorem lifted (os : Os) (started : os.Started) (H : Type) (enc : TypeId × Value → H) :
    ReturnsInHanded {} Tryz.checked os 4 .any (Rows.overflowAtWorstSpec.pre6 enc Tryz.prog Tryz.f4 Rows.overflowAtWorstRow.domain false) (Rows.overflowAtWorstSpec.post enc Tryz.prog Tryz.f4 false true false false) := by
  refine returnsInHanded_of_change (C := Tryz.checked) own started (by kernel_rfl) Tryz.func4
    (ChangeSpec.witness6 (enc := enc) (C := Tryz.checked) false ⟨#[], #[.agg #[.int .i64 0, .int .i64 0, .int .i64 0, .slice none 0 0, .slice none 0 0], .int .i64 0, .int .i64 0], []⟩ 8 (by kernel_rfl) (by kernel_rfl) (by kernel_rfl) (by kernel_rfl)) ?_
  intro W base args ds gs before hval0 hW hcnd _
  have hval : ∀ (j : Nat) t v, Tryz.f4.params[j]? = some t → args[j]? = some v → Value.okWide Tryz.prog W .any base t v := hval0
  have hW' := hW
  obtain ⟨p, q, hA0, hV, rfl, hfz, hnd⟩ := hW
  have hA : DataW.TrodAll enc Tryz.prog W 0 (fun _ => true) true Tryz.f4.params.toList args.toList ds p := hA0
  rw [Tryz.params4] at hA hval
  obtain ⟨v0, vs0, d0, ds0, p0, q0, nj, rfl, rfl, h0, r0⟩ := trodAll_cons hA
  obtain ⟨v1, Jl, d1, ds1, p1, q1, rfl, rfl, rfl, h1, r1⟩ := trodAll_cons r0
  obtain ⟨v2, vs2, d2, ds2, p2, q2, rfl, rfl, rfl, h2, r2⟩ := trodAll_cons r1
  obtain ⟨rfl, rfl, rfl⟩ := trodAll_nil r2
  obtain rfl : args = #[v0, v1, v2] := by cases args; simp_all
  obtain ⟨rfl, rfl⟩ := trodVars_none hV
  have k0 := h0
  have lt0 : ∀ x ∈ p0, x.block < W.heap.size := by obtain ⟨m, hm⟩ := k0; exact DataW.trod_lt m _ _ _ hm
  obtain ⟨c0, rfl, _⟩ := okWide_struct Tryz.underlying24 (hval 0 24 v0 rfl rfl)
  obtain ⟨a0, Hx, ca0⟩ := Aps (S := fun _ => False) (ty := (.cons (.int .i64) (.cons (.int .i64) (.cons (.int .i64) (.cons (.sl (.int .i64)) (.cons (.sl (.int .i64)) .nil)))))) (m := 9) (by kernel_rfl) h0
  have k1 := h1
  have lt1 : ∀ x ∈ p1, x.block < W.heap.size := by obtain ⟨m, hm⟩ := k1; exact DataW.trod_lt m _ _ _ hm
  obtain ⟨x1, rfl⟩ := okWide_int Tryz.underlying3 (hval 1 3 v1 rfl rfl)
  obtain ⟨a1, ha1, ca1⟩ := Ae5 (S := fun _ => False) (ty := (.int .i64)) (m := 9) (by kernel_rfl) rfl h1
  have k2 := h2
  have lt2 : ∀ x ∈ p2, x.block < W.heap.size := by obtain ⟨m, hm⟩ := k2; exact DataW.trod_lt m _ _ _ hm
  obtain ⟨x2, rfl⟩ := okWide_int Tryz.underlying3 (hval 2 3 v2 rfl rfl)
  obtain ⟨a2, Bq, ca2⟩ := Ae5 (S := fun _ => False) (ty := (.int .i64)) (m := 9) (by kernel_rfl) rfl h2
  clear hA0 hval0
  obtain ⟨kd, dk, ck, b, a, rfl, i0, i1, i2, lb, la, gq⟩ := An0 Hx
  obtain ⟨vv, e1, vi⟩ := fQ ha1
  obtain rfl : a1 = _ := (List.cons.inj e1).1
  obtain ⟨ln, e2, Ge⟩ := fQ Bq
  obtain rfl : a2 = _ := (List.cons.inj e2).1
  refine (AoA ApD (Amc wE AdU AnO kd dk ck i0 i1 i2 b a true true lb la gq vv ln vi Ge) (us := [.agg c0, .int .i64 x1, .int .i64 x2]) rfl (sX ca0 (sX ca1 (sX ca2 Ajf)))).mono fun e W' ⟨he, Ni⟩ => ?_
  subst he
  exact ⟨_, rfl, _, _, _, [], _, [], hW', trodAll_mk1 (shut_bool Tryz.underlying4 _), (trodAll_cons_mk (Below.trod laidOut (by kernel_rfl) (of_decide_eq_true (by kernel_rfl)) k0 Ni lt0) (trodAll_cons_mk (Below.trod laidOut (by kernel_rfl) (of_decide_eq_true (by kernel_rfl)) k1 Ni lt1) (trodAll_cons_mk (Below.trod laidOut (by kernel_rfl) (of_decide_eq_true (by kernel_rfl)) k2 Ni lt2) trodAll_mk0))), rfl, Ni.frame _, fun h => by cases h⟩
theorem over : Rows.overflowAtWorstRow.holds Tryz.pinned (OpenSpec.ofChange Rows.overflowAtWorstSpec) :=
  OpenClaim.holds_of_wide 4 Tryz.f4 rfl rfl rfl rfl rfl rfl rfl ⟨rfl, rfl, rfl, rfl, rfl⟩ rfl rfl rfl rfl rfl (by kernel_rfl) Tryz.func4 (by kernel_rfl)
    (of_decide_eq_true (by kernel_rfl)) (by unfold Func.isWrapper; first | (rw [if_pos (by decide +kernel)]; kernel_rfl) | (rw [if_neg (by decide +kernel)]; exact ⟨rfl, rfl⟩))
    (fun os started H enc _ => lifted os started H enc)
end Go.Proofs.YtpafclijakpknaaGreat.bm
namespace Go.Proofs.YtpafclijakpknaaGreat
/-- the statement -/
theorem overflowAtWorst_holds : Rows.OverflowAtWorstSaid := bm.over
end Go.Proofs.YtpafclijakpknaaGreat

