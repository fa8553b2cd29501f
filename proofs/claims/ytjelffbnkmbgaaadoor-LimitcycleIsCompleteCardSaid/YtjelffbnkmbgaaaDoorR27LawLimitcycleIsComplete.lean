/-
  LimitcycleIsComplete returns true for every input: the cycle to which a run comes is one of Cycles, if all its states lie in the box; a larger box has the cycles of the smaller one.
  Conditions: none.
-/
import Derived.Test.YtjelffbnkmbgaaaDoorRows
import Derived.Test.YtjelffbnkmbgaaaDoorR27SeatB
import Derived.Test.YtjelffbnkmbgaaaDoorB6
import Derived.Test.YtjelffbnkmbgaaaDoorCards
import Derived.Test.YtjelffbnkmbgaaaDoorTie
import Derived.Test.YtjelffbnkmbgaaaDoorR27Key
import Derived.Lay
import Derived.LaidOnce
import Derived.SevenTiedAt
import Derived.ShutString
import Derived.Below
set_option linter.unusedSimpArgs false
set_option linter.unusedVariables false
set_option linter.unnecessarySimpa false
namespace Go.Proofs.YtjelffbnkmbgaaaDoor.limitcycleIsCompleteDone
open Go.ChangeShapes Go.WideShapes Go.ChangeAt Go.RowKit Go.Eng
set_option linter.unusedVariables false
theorem own : ownKnob Tryd.prog.godebug = none := by kernel_rfl
theorem laidOut : laidOutB Tryd.prog = true := by kernel_rfl
set_option maxRecDepth 100000 in
theorem lifted (os : Os) (started : os.Started) (H : Type) (enc : TypeId × Value → H) :
    ReturnsInHanded {} Tryd.checked os 4 .any (fun w args => (Rows.limitcycleIsCompleteSpec.pre enc Tryd.prog Tryd.f4 [] false w args ∧ laidMetH Tryd.prog Rows.limitcycleIsCompleteRow.laid w) ∧ sizedMet enc Tryd.prog Tryd.f4 (OpenSpec.ofChange Rows.limitcycleIsCompleteSpec) false w args)
      (Rows.limitcycleIsCompleteSpec.post enc Tryd.prog Tryd.f4 false true false false) := by
  refine returnsInHanded_of_change_and (C := Tryd.checked) (X := fun w _ => laidMetH Tryd.prog Rows.limitcycleIsCompleteRow.laid w) (fun _ _ _ hh h => h.of_heap hh) own started (by kernel_rfl) Tryd.func4
    (ChangeSpec.witness_shaped (enc := enc) (C := Tryd.checked) (os := os) (X := fun w _ => laidMetH Tryd.prog Rows.limitcycleIsCompleteRow.laid w) false (World.laidAll Tryd.prog os Rows.limitcycleIsCompleteRow.laid) #[.agg #[.int .i64 0, .int .i64 0, .int .i64 0, .slice none 0 0, .slice none 0 0, .int .i64 0, .bool false], .int .i64 0, .slice none 0 0, .slice none 0 0] 8 (World.laidAll_os _ _ _)
      (World.shaped_of_ZipB (by kernel_rfl) (by kernel_rfl)) (by kernel_rfl) (by kernel_rfl) (by kernel_rfl)
      (by rw [MakeChecks.laidMetH_plain _ _ _ (by kernel_rfl)]; exact laidMet_laidAll _ (by kernel_rfl) (by kernel_rfl))) ?_
  intro W base args ds gs before hval0 hW _ _ hL _
  rw [MakeChecks.laidMetH_plain _ _ _ (by kernel_rfl)] at hL
  have hI := tab_of hL
  clear hL
  have hval : ∀ (j : Nat) t v, Tryd.f4.params[j]? = some t → args[j]? = some v → Value.okWide Tryd.prog W .any base t v := hval0
  have hW' := hW
  obtain ⟨p, q, hA0, hV, rfl, hfz, hnd⟩ := hW
  have hA : DataW.TrodAll enc Tryd.prog W 0 (fun _ => true) true Tryd.f4.params.toList args.toList ds p := hA0
  rw [Tryd.params4] at hA hval
  obtain ⟨v0, vs0, d0, ds0, p0, q0, hargs, rfl, rfl, h0, r0⟩ := trodAll_cons hA
  obtain ⟨v1, vs1, d1, ds1, p1, q1, rfl, rfl, rfl, h1, r1⟩ := trodAll_cons r0
  obtain ⟨v2, vs2, d2, ds2, p2, q2, rfl, rfl, rfl, h2, r2⟩ := trodAll_cons r1
  obtain ⟨v3, vs3, d3, ds3, p3, q3, rfl, rfl, rfl, h3, r3⟩ := trodAll_cons r2
  obtain ⟨rfl, rfl, rfl⟩ := trodAll_nil r3
  obtain rfl : args = #[v0, v1, v2, v3] := by cases args; simp_all
  obtain ⟨rfl, rfl⟩ := trodVars_none hV
  have k0 := h0
  have lt0 : ∀ x ∈ p0, x.block < W.heap.size := by obtain ⟨m, hm⟩ := k0; exact DataW.trod_lt m _ _ _ hm
  obtain ⟨c0, rfl, _⟩ := okWide_struct Tryd.underlying25 (hval 0 25 v0 rfl rfl)
  obtain ⟨a0, ha0, ca0⟩ := open_st (S := fun _ => False) (ty := (.cons (.int .i64) (.cons (.int .i64) (.cons (.int .i64) (.cons (.sl (.cons (.sl (.int .i64)) (.cons (.sl (.int .i64)) .nil))) (.cons (.sl (.int .i64)) (.cons (.int .i64) (.cons .bool .nil)))))))) (m := 9) (by kernel_rfl) h0
  have k1 := h1
  have lt1 : ∀ x ∈ p1, x.block < W.heap.size := by obtain ⟨m, hm⟩ := k1; exact DataW.trod_lt m _ _ _ hm
  obtain ⟨x1, rfl⟩ := okWide_int Tryd.underlying3 (hval 1 3 v1 rfl rfl)
  obtain ⟨a1, ha1, ca1⟩ := open_cell (S := fun _ => False) (ty := (.int .i64)) (m := 9) (by kernel_rfl) rfl h1
  have k2 := h2
  have lt2 : ∀ x ∈ p2, x.block < W.heap.size := by obtain ⟨m, hm⟩ := k2; exact DataW.trod_lt m _ _ _ hm
  obtain ⟨x2, len2, cap2, rfl⟩ := okWide_slice Tryd.underlying23 (hval 2 23 v2 rfl rfl)
  obtain ⟨a2, ha2, ca2⟩ := open_cell (S := fun _ => False) (ty := (.sl (.int .i64))) (m := 9) (by kernel_rfl) rfl h2
  have k3 := h3
  have lt3 : ∀ x ∈ p3, x.block < W.heap.size := by obtain ⟨m, hm⟩ := k3; exact DataW.trod_lt m _ _ _ hm
  obtain ⟨x3, len3, cap3, rfl⟩ := okWide_slice Tryd.underlying23 (hval 3 23 v3 rfl rfl)
  obtain ⟨a3, ha3, ca3⟩ := open_cell (S := fun _ => False) (ty := (.sl (.int .i64))) (m := 9) (by kernel_rfl) rfl h3
  clear hA0 hval0
  obtain ⟨r, rfl, g1, g2, g3, g4, g5, g6, gl⟩ := has_raw ha0
  obtain ⟨x0, e1, hx0⟩ := has_iI ha1
  obtain rfl : a1 = _ := (List.cons.inj e1).1
  obtain ⟨st, e2, l2, hst⟩ := has_intsI ha2
  obtain rfl : a2 = _ := (List.cons.inj e2).1
  obtain ⟨bx, e3, l3, hb⟩ := has_intsI ha3
  obtain rfl : a3 = _ := (List.cons.inj e3).1
  refine (law_callsX (progX_K progOK (I := keepT W.heap.size) (fun h => h) (keyAt _) sortsAt) (ev_law31_IsComplete hasFixed hasNet hasWorld hasRunG hasLimG hasLawLM keyOK srtOK r g1 g2 g3 g4 g5 g6 gl x0 st bx true true hx0 hst hb) hI (us := [.agg c0, .int .i64 x1, .slice x2 len2 cap2, .slice x3 len3 cap3]) rfl (args_cons ca0 (args_cons ca1 (args_cons ca2 (args_cons ca3 args_nil))))).mono fun e W' ⟨he, bel⟩ => ?_
  subst he
  exact ⟨_, rfl, _, _, _, [], _, [], hW', trodAll_mk1 (shut_bool Tryd.underlying4 _), (trodAll_cons_mk (Below.trod laidOut (by kernel_rfl) (of_decide_eq_true (by kernel_rfl)) k0 bel lt0) (trodAll_cons_mk (Below.trod laidOut (by kernel_rfl) (of_decide_eq_true (by kernel_rfl)) k1 bel lt1) (trodAll_cons_mk (Below.trod laidOut (by kernel_rfl) (of_decide_eq_true (by kernel_rfl)) k2 bel lt2) (trodAll_cons_mk (Below.trod laidOut (by kernel_rfl) (of_decide_eq_true (by kernel_rfl)) k3 bel lt3) trodAll_mk0)))), rfl, bel.frame _, fun h => by cases h⟩
theorem over : Rows.limitcycleIsCompleteRow.holds Tryd.pinned (OpenSpec.ofChange Rows.limitcycleIsCompleteSpec) :=
  OpenClaim.holds_of_wide 4 Tryd.f4 rfl rfl rfl rfl rfl rfl rfl ⟨rfl, rfl, rfl, rfl, rfl⟩ rfl rfl rfl rfl rfl (by kernel_rfl) Tryd.func4 (by kernel_rfl)
    (of_decide_eq_true (by kernel_rfl)) (by unfold Func.isWrapper; first | (rw [if_pos (by decide +kernel)]; kernel_rfl) | (rw [if_neg (by decide +kernel)]; exact ⟨rfl, rfl⟩))
    (fun os started H enc _ => lifted os started H enc)
end Go.Proofs.YtjelffbnkmbgaaaDoor.limitcycleIsCompleteDone
namespace Go.Proofs.YtjelffbnkmbgaaaDoor
/-- the card -/
theorem limitcycleIsComplete_holds : Rows.LimitcycleIsCompleteCardSaid :=
  Claim7.holds_tied_plain_at .later [] [.data, .data, .data] true Rows.limitcycleIsCompleteCard.stood.harness false limitcycleIsCompleteDone.over (fun _ h => by cases h) (by kernel_rfl) (fun _ h => by cases h) limitcycleIsComplete_row_tie rfl ⟨rfl, rfl⟩ (by kernel_rfl) rfl
    (fun f fn hf hfn => by
      obtain rfl : f = 4 := Option.some.inj ((show Tryd.prog.funcNamed Rows.limitcycleIsCompleteRow.func = some 4 by kernel_rfl).symm.trans hf) |>.symm
      obtain rfl : fn = Tryd.f4 := (Option.some.inj (Tryd.func4.symm.trans hfn)).symm
      exact ⟨by kernel_rfl, fun j t ht => by
        rw [Tryd.params4] at ht
        have hm : t ∈ [25, 3, 23, 23] := by simpa using Array.mem_of_getElem? ht
        have hall : ([25, 3, 23, 23].all fun u => !Tryd.prog.wantsStandIn u) = true := by kernel_rfl
        exact (show Tryd.prog.wantsStandIn t = false by simpa using List.all_eq_true.1 hall t hm)⟩)
    (by kernel_rfl)
end Go.Proofs.YtjelffbnkmbgaaaDoor

