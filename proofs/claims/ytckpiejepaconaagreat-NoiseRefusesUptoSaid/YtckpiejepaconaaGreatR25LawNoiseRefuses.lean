/-
  NoiseRefuses returns true where what it reads is of bulk at most 1048576: Gram and Tail return the specified errors for systems of any shape.
  Conditions: none.
-/
import Derived.Test.YtckpiejepaconaaGreatRows
import Derived.Test.YtckpiejepaconaaGreatR25SeatB
import Derived.Test.YtckpiejepaconaaGreatB6
import Derived.Test.YtckpiejepaconaaGreatB5
import Derived.JoinedCond
import Derived.ShutString
import Derived.Below
set_option linter.unusedSimpArgs false
set_option linter.unusedVariables false
set_option linter.unnecessarySimpa false
namespace Go.Proofs.YtckpiejepaconaaGreat.ij
open Go.ChangeShapes Go.WideShapes Go.ChangeAt Go.RowKit Go.j4
set_option linter.unusedVariables false
theorem own : ownKnob Tryz.prog.godebug = none := by kernel_rfl
theorem laidOut : laidOutB Tryz.prog = true := by kernel_rfl
theorem bulkF (H : Type) : pP (Rows.uptoBulk (H := H)) := by
  have all : ∀ l : List (DataW H), Rows.uptoBulkAll l = (l.map Rows.uptoBulk).sum := fun l => by
    induction l with
    | nil => simp only [Rows.uptoBulkAll, List.map_nil, List.sum_nil]
    | cons d r ih => rw [Rows.uptoBulkAll, ih, List.map_cons, List.sum_cons]
  refine ⟨fun l => ?_, ?_, fun es sp => ?_, fun ps => ?_⟩
  · cases l <;> simp only [Rows.uptoBulk] <;> omega
  · simp only [Rows.uptoBulk]; omega
  · rw [Rows.uptoBulk, all]; omega
  · rw [Rows.uptoBulk, all]; omega
set_option maxRecDepth 100000 in
theorem lifted (os : Os) (started : os.Started) (H : Type) (enc : TypeId × Value → H) (F0 : Stop.Interp) :
    ReturnsInHanded {} Tryz.checked os 3 .any ((Rows.OpenSpec.upto Rows.noiseRefusesSpec).pre6 enc Tryz.prog Tryz.f3 Rows.noiseRefusesUptoRow.domain false) (((Rows.OpenSpec.upto Rows.noiseRefusesSpec).at F0).post enc Tryz.prog Tryz.f3 false true false false) := by
  refine returnsInHanded_of_cond (C := Tryz.checked) (s := Rows.OpenSpec.upto Rows.noiseRefusesSpec) (k := Rows.uptoSmall) rfl own started (by kernel_rfl) Tryz.func3
    (OpenSpec.witness (enc := enc) (C := Tryz.checked) (s := Rows.OpenSpec.upto Rows.noiseRefusesSpec) (k := Rows.uptoSmall) rfl false ⟨#[], #[.agg #[.slice none 0 0, .slice none 0 0, .slice none 0 0, .bool false, .slice none 0 0, .slice none 0 0], .int .i64 0], []⟩ 8 (by kernel_rfl) (by kernel_rfl) (by kernel_rfl) (x := ([.agg [.nil, .nil, .nil, .agg [.agg [.lit (.bool false), .nil], .nil]], .lit (.int .i64 0)], [], [])) (by kernel_rfl) (by kernel_rfl) (by kernel_rfl)) ?_
  intro W base args ds gs before hval0 hW hcnd hk _
  have hval : ∀ (j : Nat) t v, Tryz.f3.params[j]? = some t → args[j]? = some v → Value.okWide Tryz.prog W .any base t v := hval0
  have hW' := hW
  obtain ⟨p, q, hA0, hV, rfl, hfz, hnd⟩ := hW
  have hA : DataW.TrodAll enc Tryz.prog W 0 (fun _ => true) true Tryz.f3.params.toList args.toList ds p := hA0
  rw [Tryz.params3] at hA hval
  obtain ⟨v0, vs0, d0, ds0, p0, q0, uc, rfl, rfl, h0, r0⟩ := trodAll_cons hA
  obtain ⟨v1, Qy, d1, ds1, p1, q1, rfl, rfl, rfl, h1, r1⟩ := trodAll_cons r0
  obtain ⟨rfl, rfl, rfl⟩ := trodAll_nil r1
  obtain rfl : args = #[v0, v1] := by cases args; simp_all
  obtain ⟨rfl, rfl⟩ := trodVars_none hV
  have k0 := h0
  have lt0 : ∀ x ∈ p0, x.block < W.heap.size := by obtain ⟨m, hm⟩ := k0; exact DataW.trod_lt m _ _ _ hm
  obtain ⟨c0, rfl, _⟩ := okWide_struct Tryz.underlying30 (hval 0 30 v0 rfl rfl)
  obtain ⟨a0, ha0, ca0⟩ := Arb (bulkF H) (ty := (.cons (.sl (.sl (.cons (.cons .bool (.cons (.sl (.int .u32)) .nil)) (.cons (.sl (.int .u32)) .nil)))) (.cons (.sl (.cons (.cons .bool (.cons (.sl (.int .u32)) .nil)) (.cons (.sl (.int .u32)) .nil))) (.cons (.sl (.cons (.cons .bool (.cons (.sl (.int .u32)) .nil)) (.cons (.sl (.int .u32)) .nil))) (.cons (.cons (.cons .bool (.cons (.sl (.int .u32)) .nil)) (.cons (.sl (.int .u32)) .nil)) .nil))))) (m := 9) (by kernel_rfl) h0
  have k1 := h1
  have lt1 : ∀ x ∈ p1, x.block < W.heap.size := by obtain ⟨m, hm⟩ := k1; exact DataW.trod_lt m _ _ _ hm
  obtain ⟨x1, rfl⟩ := okWide_int Tryz.underlying3 (hval 1 3 v1 rfl rfl)
  obtain ⟨a1, ha1, ca1⟩ := Ara (bulkF H) (ty := (.int .i64)) (m := 9) (by kernel_rfl) rfl h1
  clear hA0 hval0
  have pc : Rows.uptoBulk d0 + Rows.uptoBulk d1 ≤ 1048576 := by simpa [Rows.uptoSmall, Rows.uptoBulkAll, Nat.add_assoc] using hk
  obtain ⟨S, rfl, rS, zS⟩ := ApJ ha0.1
  obtain ⟨z, e1, hz⟩ := ApI ha1.1
  obtain rfl : a1 = _ := (List.cons.inj e1).1
  have hzS : S.sz ≤ 1048576 := Nat.le_trans zS (Nat.le_trans ha0.2 (by omega))
  refine (Aqp Arl (AnW Aps S z rS hzS (Nat.le_refl _)) (us := [.agg c0, .int .i64 x1]) rfl (Acm ca0 (Acm ca1 AkF))).mono fun e W' ⟨he, bel⟩ => ?_
  subst he
  exact ⟨_, rfl, _, _, _, [], _, [], hW', trodAll_mk1 (shut_bool Tryz.underlying4 _), (trodAll_cons_mk (Below.trod laidOut (by kernel_rfl) (of_decide_eq_true (by kernel_rfl)) k0 bel lt0) (trodAll_cons_mk (Below.trod laidOut (by kernel_rfl) (of_decide_eq_true (by kernel_rfl)) k1 bel lt1) trodAll_mk0)), rfl, bel.frame _, fun h => by cases h⟩
theorem over : Rows.noiseRefusesUptoRow.holds Tryz.pinned (Rows.OpenSpec.upto Rows.noiseRefusesSpec) :=
  OpenClaim.holds_of_cond 3 Tryz.f3 rfl rfl rfl rfl rfl rfl rfl ⟨rfl, rfl, rfl, rfl, rfl⟩ rfl rfl rfl rfl rfl (by kernel_rfl) Tryz.func3 (by kernel_rfl)
    (of_decide_eq_true (by kernel_rfl)) (by unfold Func.isWrapper; first | (rw [if_pos (by decide +kernel)]; kernel_rfl) | (rw [if_neg (by decide +kernel)]; exact ⟨rfl, rfl⟩))
    (fun os started H enc _ F => lifted os started H enc F)
end Go.Proofs.YtckpiejepaconaaGreat.ij
namespace Go.Proofs.YtckpiejepaconaaGreat
/-- the statement -/
theorem noiseRefuses_holds : Rows.NoiseRefusesUptoSaid := ij.over
end Go.Proofs.YtckpiejepaconaaGreat

