/-
  LimitcycleRefuses returns true for every input: Box, Cycles and Settle have the specified errors, for any network in numbers, input, box and state.
  Conditions: none.
-/
import Derived.Test.YtmhfodhmngfoiaaGreatDoorRows
import Derived.Test.YtmhfodhmngfoiaaGreatDoorR28SeatA
import Derived.Test.YtmhfodhmngfoiaaGreatDoorB7
import Derived.Test.YtmhfodhmngfoiaaGreatDoorB6
import Derived.Test.YtmhfodhmngfoiaaGreatDoorCards
import Derived.Test.YtmhfodhmngfoiaaGreatDoorTie
import Derived.Test.YtmhfodhmngfoiaaGreatDoorR28Key
import Derived.Lay
import Derived.LaidOnce
import Derived.SevenTiedAt
import Derived.ShutString
import Derived.Below
set_option linter.unusedSimpArgs false
set_option linter.unusedVariables false
set_option linter.unnecessarySimpa false
namespace Go.Proofs.YtmhfodhmngfoiaaGreatDoor.aj
open Go.ChangeShapes Go.WideShapes Go.ChangeAt Go.RowKit Go.Eng
set_option linter.unusedVariables false
theorem own : ownKnob Tryz.prog.godebug = none := by kernel_rfl
theorem laidOut : laidOutB Tryz.prog = true := by kernel_rfl
set_option maxRecDepth 100000 in
theorem lifted (os : Os) (started : os.Started) (H : Type) (enc : TypeId × Value → H) :
    ReturnsInHanded {} Tryz.checked os 3 .any (fun w args => (Rows.limitcycleRefusesSpec.pre enc Tryz.prog Tryz.f3 [] false w args ∧ laidMetH Tryz.prog Rows.limitcycleRefusesRow.laid w) ∧ sizedMet enc Tryz.prog Tryz.f3 (OpenSpec.ofChange Rows.limitcycleRefusesSpec) false w args)
      (Rows.limitcycleRefusesSpec.post enc Tryz.prog Tryz.f3 false true false false) := by
  refine returnsInHanded_of_change_and (C := Tryz.checked) (X := fun w _ => laidMetH Tryz.prog Rows.limitcycleRefusesRow.laid w) (fun _ _ _ hh h => h.of_heap hh) own started (by kernel_rfl) Tryz.func3
    (ChangeSpec.witness_shaped (enc := enc) (C := Tryz.checked) (os := os) (X := fun w _ => laidMetH Tryz.prog Rows.limitcycleRefusesRow.laid w) false (World.laidAll Tryz.prog os Rows.limitcycleRefusesRow.laid) #[.agg #[.int .i64 0, .int .i64 0, .int .i64 0, .slice none 0 0, .slice none 0 0, .int .i64 0, .bool false], .int .i64 0, .slice none 0 0, .slice none 0 0] 8 (World.laidAll_os _ _ _)
      (World.shaped_of_ZipB (by kernel_rfl) (by kernel_rfl)) (by kernel_rfl) (by kernel_rfl) (by kernel_rfl)
      (by rw [MakeChecks.laidMetH_plain _ _ _ (by kernel_rfl)]; exact laidMet_laidAll _ (by kernel_rfl) (by kernel_rfl))) ?_
  intro W base args ds gs before hval0 hW _ _ hL _
  rw [MakeChecks.laidMetH_plain _ _ _ (by kernel_rfl)] at hL
  have hI := AnT hL
  clear hL
  have hval : ∀ (j : Nat) t v, Tryz.f3.params[j]? = some t → args[j]? = some v → Value.okWide Tryz.prog W .any base t v := hval0
  have hW' := hW
  obtain ⟨p, q, hA0, hV, rfl, hfz, hnd⟩ := hW
  have hA : DataW.TrodAll enc Tryz.prog W 0 (fun _ => true) true Tryz.f3.params.toList args.toList ds p := hA0
  rw [Tryz.params3] at hA hval
  obtain ⟨v0, vs0, d0, ds0, p0, q0, lg, rfl, rfl, h0, r0⟩ := trodAll_cons hA
  obtain ⟨v1, Ee, d1, ds1, p1, q1, rfl, rfl, rfl, h1, r1⟩ := trodAll_cons r0
  obtain ⟨v2, vs2, d2, ds2, p2, q2, rfl, rfl, rfl, h2, r2⟩ := trodAll_cons r1
  obtain ⟨v3, vs3, d3, ds3, p3, q3, rfl, rfl, rfl, h3, r3⟩ := trodAll_cons r2
  obtain ⟨rfl, rfl, rfl⟩ := trodAll_nil r3
  obtain rfl : args = #[v0, v1, v2, v3] := by cases args; simp_all
  obtain ⟨rfl, rfl⟩ := trodVars_none hV
  have k0 := h0
  have lt0 : ∀ x ∈ p0, x.block < W.heap.size := by obtain ⟨m, hm⟩ := k0; exact DataW.trod_lt m _ _ _ hm
  obtain ⟨c0, rfl, _⟩ := okWide_struct Tryz.underlying25 (hval 0 25 v0 rfl rfl)
  obtain ⟨a0, zu, ca0⟩ := Amd (S := fun _ => False) (ty := (.cons (.int .i64) (.cons (.int .i64) (.cons (.int .i64) (.cons (.sl (.cons (.sl (.int .i64)) (.cons (.sl (.int .i64)) .nil))) (.cons (.sl (.int .i64)) (.cons (.int .i64) (.cons .bool .nil)))))))) (m := 9) (by kernel_rfl) h0
  have k1 := h1
  have lt1 : ∀ x ∈ p1, x.block < W.heap.size := by obtain ⟨m, hm⟩ := k1; exact DataW.trod_lt m _ _ _ hm
  obtain ⟨x1, rfl⟩ := okWide_int Tryz.underlying3 (hval 1 3 v1 rfl rfl)
  obtain ⟨a1, ha1, ca1⟩ := qI (S := fun _ => False) (ty := (.int .i64)) (m := 9) (by kernel_rfl) rfl h1
  have k2 := h2
  have lt2 : ∀ x ∈ p2, x.block < W.heap.size := by obtain ⟨m, hm⟩ := k2; exact DataW.trod_lt m _ _ _ hm
  obtain ⟨x2, oS, Aw, rfl⟩ := okWide_slice Tryz.underlying23 (hval 2 23 v2 rfl rfl)
  obtain ⟨a2, qu, ca2⟩ := qI (S := fun _ => False) (ty := (.sl (.int .i64))) (m := 9) (by kernel_rfl) rfl h2
  have k3 := h3
  have lt3 : ∀ x ∈ p3, x.block < W.heap.size := by obtain ⟨m, hm⟩ := k3; exact DataW.trod_lt m _ _ _ hm
  obtain ⟨x3, Ug, Kl, rfl⟩ := okWide_slice Tryz.underlying23 (hval 3 23 v3 rfl rfl)
  obtain ⟨a3, ha3, ca3⟩ := qI (S := fun _ => False) (ty := (.sl (.int .i64))) (m := 9) (by kernel_rfl) rfl h3
  clear hA0 hval0
  obtain ⟨r, rfl, g1, g2, g3, g4, g5, g6, gl⟩ := Akw zu
  obtain ⟨x0, e1, nc⟩ := YG ha1
  obtain rfl : a1 = _ := (List.cons.inj e1).1
  obtain ⟨bx, e2, l2, ke⟩ := aT qu
  obtain rfl : a2 = _ := (List.cons.inj e2).1
  obtain ⟨st, e3, l3, o4⟩ := aT ha3
  obtain rfl : a3 = _ := (List.cons.inj e3).1
  refine (Alh (Amp Amn (I := oQ W.heap.size) (fun h => h) (Ak7 _) Anp) (AiT Akq Akt Akv Aku Aks Akr Alb Ant r g1 g2 g3 g4 g5 g6 gl x0 bx st true true nc l2 l3) hI (us := [.agg c0, .int .i64 x1, .slice x2 oS Aw, .slice x3 Ug Kl]) rfl (dS ca0 (dS ca1 (dS ca2 (dS ca3 Af7))))).mono fun e W' ⟨he, Eh⟩ => ?_
  subst he
  exact ⟨_, rfl, _, _, _, [], _, [], hW', trodAll_mk1 (shut_bool Tryz.underlying4 _), (trodAll_cons_mk (Below.trod laidOut (by kernel_rfl) (of_decide_eq_true (by kernel_rfl)) k0 Eh lt0) (trodAll_cons_mk (Below.trod laidOut (by kernel_rfl) (of_decide_eq_true (by kernel_rfl)) k1 Eh lt1) (trodAll_cons_mk (Below.trod laidOut (by kernel_rfl) (of_decide_eq_true (by kernel_rfl)) k2 Eh lt2) (trodAll_cons_mk (Below.trod laidOut (by kernel_rfl) (of_decide_eq_true (by kernel_rfl)) k3 Eh lt3) trodAll_mk0)))), rfl, Eh.frame _, fun h => by cases h⟩
theorem over : Rows.limitcycleRefusesRow.holds Tryz.pinned (OpenSpec.ofChange Rows.limitcycleRefusesSpec) :=
  OpenClaim.holds_of_wide 3 Tryz.f3 rfl rfl rfl rfl rfl rfl rfl ⟨rfl, rfl, rfl, rfl, rfl⟩ rfl rfl rfl rfl rfl (by kernel_rfl) Tryz.func3 (by kernel_rfl)
    (of_decide_eq_true (by kernel_rfl)) (by unfold Func.isWrapper; first | (rw [if_pos (by decide +kernel)]; kernel_rfl) | (rw [if_neg (by decide +kernel)]; exact ⟨rfl, rfl⟩))
    (fun os started H enc _ => lifted os started H enc)
end Go.Proofs.YtmhfodhmngfoiaaGreatDoor.aj
namespace Go.Proofs.YtmhfodhmngfoiaaGreatDoor
/-- the card -/
theorem limitcycleRefuses_holds : Rows.LimitcycleRefusesCardSaid :=
  Claim7.holds_tied_plain_at .later [] [.data, .data, .data] true Rows.limitcycleRefusesCard.stood.harness false aj.over (fun _ h => by cases h) (by kernel_rfl) (fun _ h => by cases h) limitcycleRefuses_row_tie rfl ⟨rfl, rfl⟩ (by kernel_rfl) rfl
    (fun f fn hf hfn => by
      obtain rfl : f = 3 := Option.some.inj ((show Tryz.prog.funcNamed Rows.limitcycleRefusesRow.func = some 3 by kernel_rfl).symm.trans hf) |>.symm
      obtain rfl : fn = Tryz.f3 := (Option.some.inj (Tryz.func3.symm.trans hfn)).symm
      exact ⟨by kernel_rfl, fun j t ht => by
        rw [Tryz.params3] at ht
        have hm : t ∈ [25, 3, 23, 23] := by simpa using Array.mem_of_getElem? ht
        have jc : ([25, 3, 23, 23].all fun u => !Tryz.prog.wantsStandIn u) = true := by kernel_rfl
        exact (show Tryz.prog.wantsStandIn t = false by simpa using List.all_eq_true.1 jc t hm)⟩)
    (by kernel_rfl)
end Go.Proofs.YtmhfodhmngfoiaaGreatDoor

