/-
  The law NetworkRuns, evaluated.
-/
import Derived.Test.YtlkfmmfmefobnaaXRaw
import Derived.Test.YtlkfmmfmefobnaaXL1
set_option linter.unusedSimpArgs false
set_option linter.unusedVariables false
set_option linter.unnecessarySimpa false
namespace Go.Eng
open F
attribute [local irreducible] AKM CmpP Req OpP UnP ConvP RdP LdR StR MkR LenP AppR AppN CpyR RowP SnR Bds SlS CallP CalP FinP pw LdM GetM SetM PutM MkM AppM SnM
set_option maxHeartbeats 4000000
variable {L : Lib}
section
variable (n : Nt)
theorem runA_acc : ∀ (xs outs st : List Int) (c : Int), runA n outs st c xs = (outs ++ (runA n [] st 0 xs).1, (runA n [] st 0 xs).2.1, c + (runA n [] st 0 xs).2.2)
  | [], outs, st, c => by simp [runA]
  | x :: xs, outs, st, c => by
    rw [runA, runA_acc xs (outs ++ _), runA, runA_acc xs ([] ++ _)]
    simp only [List.append_assoc, List.nil_append, Prod.mk.injEq, true_and]
    split <;> omega
theorem runA_app (xs ys outs st : List Int) (c : Int) : runA n outs st c (xs ++ ys) = runA n (runA n outs st c xs).1 (runA n outs st c xs).2.1 (runA n outs st c xs).2.2 ys := by
  induction xs generalizing outs st c with
  | nil => rfl
  | cons x xs ih => rw [List.cons_append, runA, runA, ih]
theorem runA_len (xs outs st : List Int) (c : Int) : (runA n outs st c xs).1.length = outs.length + xs.length := by
  induction xs generalizing outs st c with
  | nil => rfl
  | cons x xs ih => rw [runA, ih]; simp; omega
theorem runA_cnt (xs outs st : List Int) (c : Int) : c ≤ (runA n outs st c xs).2.2 ∧ (runA n outs st c xs).2.2 ≤ c + xs.length := by
  induction xs generalizing outs st c with
  | nil => simp [runA]
  | cons x xs ih =>
    rw [runA]
    have := ih (outs ++ [(compS n (x :: st) false n.nodes).1.getD n.out.toNat 0]) (follS n (compS n (x :: st) false n.nodes).1) (if (compS n (x :: st) false n.nodes).2 then c + 1 else c)
    simp only [List.length_cons]
    split at this <;> rename_i h <;> simp only [h, if_true, Bool.false_eq_true, if_false] <;> omega
theorem runA_ok (hn : netB n = true) (xs : List Int) (hx : wordsB n.d xs = true) (outs st : List Int) (c : Int) (h1 : (st.length : Int) = n.s) (h2 : wordsB n.d st = true) : ((runA n outs st c xs).2.1.length : Int) = n.s ∧ wordsB n.d (runA n outs st c xs).2.1 = true := by
  obtain ⟨g1, g2, g3, g4, g5, g6⟩ := (netB_iff n).1 hn
  induction xs generalizing outs st c with
  | nil => exact ⟨h1, h2⟩
  | cons x xs ih =>
    have hx' := hx
    simp only [wordsB, List.all_cons, Bool.and_eq_true] at hx'
    rw [runA]
    have hcl : ((compS n (x :: st) false n.nodes).1.length : Int) = 1 + n.s + n.nodes.length := by rw [comp_len]; simp; omega
    have hcw := comp_words n g1 n.nodes (x :: st) false (by
      simp only [wordsB, List.all_cons, Bool.and_eq_true]
      exact ⟨hx'.1, h2⟩)
    exact ih hx'.2 _ _ _ (by simp [follS]; omega) (foll_words n hcw g5 hcl)
end
theorem wordsS_ok {w : Wd} (h : WV w) (l : List Int) (k : Nat) : wordsB w (wordsS w l k) = true := by
  unfold wordsB wordsS
  rw [List.all_eq_true]
  intro v hv
  obtain ⟨i, _, rfl⟩ := List.mem_map.1 hv
  simpa using toW_ok h _
theorem netR_ok (r : Rw) : netB (netR r) = true := by
  obtain ⟨d1, d2, d3⟩ := data_ok r.data
  obtain ⟨c1, c2, c3⟩ := coef_ok r.coef
  have hs := with_range (v := r.states) (m := 4) (by omega)
  rw [netB_iff]
  refine ⟨d1, c1, ⟨hs.1, by show withS r.states 4 ≤ 64; omega, by simp [netR, nodesR]; omega, by simp [netR]; omega⟩, ?_, ?_, ?_⟩
  · have key : ∀ (m j : Nat), m + j = min r.nodes.length 4 → nodesB (coefS r.coef) (withS r.states 4) j (((List.range' j m).map (nodeR r)).map fun ts => (⟨false, ts⟩ : Nd)) = true := by
      intro m
      induction m with
      | zero => intro j _; rfl
      | succ m ih =>
        intro j hj
        rw [List.range'_succ, List.map_cons, List.map_cons, nodesB, ih (j + 1) (by omega), Bool.and_true]
        simp only [Bool.and_eq_true, decide_eq_true_eq]
        unfold nodeR
        have hjl : j < r.nodes.length := by omega
        rw [List.getElem?_eq_getElem hjl]
        simp only
        refine ⟨by simp [termsR]; omega, ?_⟩
        rw [List.all_eq_true]
        intro t ht
        obtain ⟨i, _, rfl⟩ := List.mem_map.1 ht
        rw [termB]
        apply decide_eq_true
        simp only [termR]
        have h1 := with_range (v := r.nodes[j].1.2.getD i 0) (m := 1 + withS r.states 4 + j) (by omega)
        refine ⟨by omega, by omega, ?_⟩
        split
        · have h2 := with_range (v := atS r.nodes[j].2.2 (i : Int)) (m := 3) (by omega)
          obtain ⟨e1, e2, e3, e4⟩ := low_high c1
          have c1' := c1
          unfold WV at c1'
          have h3 := pw_pos (coefS r.coef).f
          have h4 := pw_le (n := (coefS r.coef).f) (m := (coefS r.coef).b - 1) (by omega)
          rcases (by omega : withS (atS r.nodes[j].2.2 (i : Int)) 3 = 0 ∨ withS (atS r.nodes[j].2.2 (i : Int)) 3 = 1 ∨ withS (atS r.nodes[j].2.2 (i : Int)) 3 = 2) with h | h | h
          all_goals rw [h]
          · refine Or.inr ?_
            unfold FT
            exact ⟨c1, by omega, by omega⟩
          · refine Or.inr ?_
            unfold FT
            exact ⟨c1, by omega, by omega⟩
          · exact Or.inl (by omega)
        · exact Or.inr (toW_ok c1 _)
    have := key (min r.nodes.length 4) 0 (by omega)
    rw [← List.range_eq_range'] at this
    exact this
  · unfold nextB
    rw [List.all_eq_true]
    intro v hv
    obtain ⟨i, _, rfl⟩ := List.mem_map.1 hv
    have h1 := with_range (v := atS r.next (i : Int)) (m := 1 + withS r.states 4 + (min r.nodes.length 4 : Nat)) (by omega)
    have : (netR r).nodes.length = min r.nodes.length 4 := by simp [netR, nodesR]
    rw [decide_eq_true_eq, this]
    show _ ∧ _ ≤ withS r.states 4 + _
    omega
  · have h1 := with_range (v := r.out) (m := 1 + withS r.states 4 + (min r.nodes.length 4 : Nat)) (by omega)
    have : (netR r).nodes.length = min r.nodes.length 4 := by simp [netR, nodesR]
    rw [this]
    show 0 ≤ withS r.out _ ∧ withS r.out _ ≤ withS r.states 4 + _
    omega
theorem ev_law22_NetworkRuns (I : FixedLib L) (J : NetLib L) (W : WorldLib L) (R : RunGLib L) (r : Rw) (h1 : InI r.data) (h2 : InI r.coef) (h3 : InI r.states) (h4 : InI r.out) (h5 : allI r.next) (h6 : ∀ w ∈ r.nodes, allI w.1.2 ∧ allI w.2.2) (hl : r.nodes.length < 9223372036854775808)
    (st ins : List Int) (q1 q2 : Bool) (cut : Int) (hcut : InI cut) : Ev L 45 [.agg (encR r), .sl q1 (st.map encInt), .sl q2 (ins.map encInt), .int .i64 cut] (.bool true) := by
  refine Ev.x R.law22_NetworkRuns rfl rfl ?_
  have hok := netR_ok r
  have hrw := ev_world_Raw_Net I W R r h1 h2 h3 h4 h5 h6 hl
  generalize netR r = n at *
  obtain ⟨g1, g2, g3, g4, g5, g6⟩ := (netB_iff n).1 hok
  have hs' : ((n.s.toNat : Nat) : Int) = n.s := by omega
  by_cases h60 : ins.length ≤ 60
  · have ew1 := fun q => ev_world_Words I W n.d g1 st q n.s.toNat (by omega)
    rw [hs'] at ew1
    have ew2 := fun q => ev_world_Words I W n.d g1 ins q ins.length (by omega)
    have hSl : ((wordsS n.d st n.s.toNat).length : Int) = n.s := by simp [wordsS]; omega
    have hXl : (wordsS n.d ins ins.length).length = ins.length := by simp [wordsS]
    have hSw := wordsS_ok g1 st n.s.toNat
    have hXw := wordsS_ok g1 ins ins.length
    generalize wordsS n.d st n.s.toNat = S at *
    generalize wordsS n.d ins ins.length = X at *
    have hk := with_range (v := cut) (m := (X.length : Int) + 1) (by omega)
    obtain ⟨k, hk1⟩ : ∃ k : Nat, withS cut ((X.length : Int) + 1) = k := ⟨(withS cut ((X.length : Int) + 1)).toNat, by omega⟩
    have hwk := ev_world_Within W cut ((X.length : Int) + 1) hcut (by omega)
    rw [hk1] at hwk hk
    have hXk : wordsB n.d (X.take k) = true ∧ wordsB n.d (X.drop k) = true := by
      have : wordsB n.d (X.take k ++ X.drop k) = true := by rw [List.take_append_drop]; exact hXw
      simp only [wordsB, List.all_append, Bool.and_eq_true] at this
      exact this
    have hz : ∀ (s x : List Int), (s.length : Int) = n.s → wordsB n.d s = true → wordsB n.d x = true → x.length ≤ 60 → rrS n s x = ((runA n [] s 0 x).1, (runA n [] s 0 x).2.1, (runA n [] s 0 x).2.2, 0) := fun s x a b c d => rrS_ok n hok (by omega) ((wrong_zero n).2 ⟨a, b, c⟩)
    obtain ⟨m1, m2⟩ := runA_ok n hok (X.take k) hXk.1 [] S 0 hSl hSw
    obtain ⟨m3, m4⟩ := runA_ok n hok (X.drop k) hXk.2 [] (runA n [] S 0 (X.take k)).2.1 0 m1 m2
    have r1 := fun q q' => ev_network_Run n I J R S X q q' (by omega) (by omega)
    have r2 := fun q q' => ev_ref22_Run n I J R S X q q' (by omega) (by omega)
    have r3 := fun q q' => ev_network_Run n I J R S (X.take k) q q' (by omega) (by simp; omega)
    have r4 := fun q q' => ev_network_Run n I J R (runA n [] S 0 (X.take k)).2.1 (X.drop k) q q' (by omega) (by simp; omega)
    rw [hz S X hSl hSw hXw (by omega)] at r1 r2
    rw [hz S _ hSl hSw hXk.1 (by simp; omega)] at r3
    rw [hz _ _ m1 m2 hXk.2 (by simp; omega)] at r4
    have hA : runA n [] S 0 X = ((runA n [] S 0 (X.take k)).1 ++ (runA n [] (runA n [] S 0 (X.take k)).2.1 0 (X.drop k)).1, (runA n [] (runA n [] S 0 (X.take k)).2.1 0 (X.drop k)).2.1, (runA n [] S 0 (X.take k)).2.2 + (runA n [] (runA n [] S 0 (X.take k)).2.1 0 (X.drop k)).2.2) := by
      conv => lhs; rw [← List.take_append_drop k X, runA_app, runA_acc]
    have b1 := runA_len n (X.take k) [] S 0
    have b2 := runA_cnt n (X.take k) [] S 0
    have b3 := runA_len n (X.drop k) [] (runA n [] S 0 (X.take k)).2.1 0
    have b4 := runA_cnt n (X.drop k) [] (runA n [] S 0 (X.take k)).2.1 0
    rw [hA] at r1 r2
    generalize runA n [] S 0 (X.take k) = B at *
    obtain ⟨B1, B2, B3⟩ := B
    simp only at *
    generalize runA n [] B2 0 (X.drop k) = C at *
    obtain ⟨C1, C2, C3⟩ := C
    simp only [List.length_nil, Nat.zero_add, List.length_take, List.length_drop] at *
    (repeat' (first | (refine CmpP.go (fun hc => ?_) (fun hc => ?_) <;> first | (exfalso; omega) | (conv => whnf)) | (refine Req.go (by omega) ?_; conv => whnf) | (refine OpP.add (by omega) ?_; conv => whnf) | (refine OpP.sub (by omega) ?_; conv => whnf) | (refine OpP.mul (by omega) ?_; conv => whnf) | (refine OpP.shr (by omega) ?_; conv => whnf) | (refine OpP.shl1 (by omega) (fun _ _ => ?_); conv => whnf) | (refine OpP.andm (by omega) (fun _ _ => ?_); conv => whnf) | (refine OpP.rem (by omega) (fun _ _ _ => ?_) (fun _ _ _ _ => ?_) <;> first | (exfalso; omega) | (conv => whnf)) | (refine OpP.quo (by omega) (by omega) (fun _ => ?_) (fun _ _ => ?_) <;> first | (exfalso; omega) | (conv => whnf)) | (refine OpP.and1 ?_; conv => whnf) | (refine OpP.wadd ?_; conv => whnf) | (refine OpP.wsub ?_; conv => whnf) | (refine OpP.wmul ?_; conv => whnf) | (refine UnP.neg (by omega) ?_; conv => whnf) | (refine ConvP.u64 (by omega) ?_; conv => whnf) | (refine ConvP.i64 (by omega) ?_; conv => whnf) | (refine LenP.go ?_; conv => whnf) | (refine RdP.at (by assumption) (by omega) rfl ?_; conv => whnf) | (refine RdP.nat (by omega) (fun _ => rfl) (fun e he => ?_); conv => whnf) | (refine RdP.go (by omega) (fun _ => rfl) (fun e he => ?_); conv => whnf) | (refine LdR.nat (by omega) (fun _ => rfl) (fun v hv => ?_); conv => whnf) | (refine LdR.int (by omega) (fun _ => rfl) (fun v hv => ?_); conv => whnf) | (refine SnR.all (fun _ => rfl) rfl (by first | rfl | simp) ?_; conv => whnf) | (refine RowP.all rfl (by first | rfl | simp) ?_; conv => whnf) | (refine RowP.e1 ?_; conv => whnf) | (refine LdM.nat (by omega) (fun r hr => ?_); conv => whnf) | (refine GetM.ati (by assumption) ?_; conv => whnf) | (refine SnM.all (fun _ => rfl) rfl (by first | rfl | simp) ?_; conv => whnf) | (refine SnR.e1 rfl ?_; conv => whnf) | (refine AKM.x ?_; conv => whnf) | (refine AKM.y ?_; conv => whnf) | (refine CallP.go (ev_law22_known I J) ?_; conv => whnf) | (refine CallP.go (hrw) ?_; conv => whnf) | (refine CallP.go (ew1 _) ?_; conv => whnf) | (refine CallP.go (ew2 _) ?_; conv => whnf) | (refine CallP.go (r1 _ _) ?_; conv => whnf) | (refine CallP.go (r2 _ _) ?_; conv => whnf) | (refine CallP.go (hwk) ?_; conv => whnf)))
    have hBC : (B1 ++ C1).length < 9223372036854775808 := by simp; omega
    have hC2 : C2.length < 9223372036854775808 := by omega
    refine SlS.to (fun _ => rfl) (by omega) ?_
    (conv => whnf)
    (repeat' (first | (refine CmpP.go (fun hc => ?_) (fun hc => ?_) <;> first | (exfalso; omega) | (conv => whnf)) | (refine Req.go (by omega) ?_; conv => whnf) | (refine OpP.add (by omega) ?_; conv => whnf) | (refine OpP.sub (by omega) ?_; conv => whnf) | (refine OpP.mul (by omega) ?_; conv => whnf) | (refine OpP.shr (by omega) ?_; conv => whnf) | (refine OpP.shl1 (by omega) (fun _ _ => ?_); conv => whnf) | (refine OpP.andm (by omega) (fun _ _ => ?_); conv => whnf) | (refine OpP.rem (by omega) (fun _ _ _ => ?_) (fun _ _ _ _ => ?_) <;> first | (exfalso; omega) | (conv => whnf)) | (refine OpP.quo (by omega) (by omega) (fun _ => ?_) (fun _ _ => ?_) <;> first | (exfalso; omega) | (conv => whnf)) | (refine OpP.and1 ?_; conv => whnf) | (refine OpP.wadd ?_; conv => whnf) | (refine OpP.wsub ?_; conv => whnf) | (refine OpP.wmul ?_; conv => whnf) | (refine UnP.neg (by omega) ?_; conv => whnf) | (refine ConvP.u64 (by omega) ?_; conv => whnf) | (refine ConvP.i64 (by omega) ?_; conv => whnf) | (refine LenP.go ?_; conv => whnf) | (refine RdP.at (by assumption) (by omega) rfl ?_; conv => whnf) | (refine RdP.nat (by omega) (fun _ => rfl) (fun e he => ?_); conv => whnf) | (refine RdP.go (by omega) (fun _ => rfl) (fun e he => ?_); conv => whnf) | (refine LdR.nat (by omega) (fun _ => rfl) (fun v hv => ?_); conv => whnf) | (refine LdR.int (by omega) (fun _ => rfl) (fun v hv => ?_); conv => whnf) | (refine SnR.all (fun _ => rfl) rfl (by first | rfl | simp) ?_; conv => whnf) | (refine RowP.all rfl (by first | rfl | simp) ?_; conv => whnf) | (refine RowP.e1 ?_; conv => whnf) | (refine LdM.nat (by omega) (fun r hr => ?_); conv => whnf) | (refine GetM.ati (by assumption) ?_; conv => whnf) | (refine SnM.all (fun _ => rfl) rfl (by first | rfl | simp) ?_; conv => whnf) | (refine SnR.e1 rfl ?_; conv => whnf) | (refine AKM.x ?_; conv => whnf) | (refine AKM.y ?_; conv => whnf) | (refine CallP.go (r3 _ _) ?_; conv => whnf)))
    refine SlS.off (fun _ => rfl) (by omega) ?_
    (conv => whnf)
    (repeat' (first | (refine CmpP.go (fun hc => ?_) (fun hc => ?_) <;> first | (exfalso; omega) | (conv => whnf)) | (refine Req.go (by omega) ?_; conv => whnf) | (refine OpP.add (by omega) ?_; conv => whnf) | (refine OpP.sub (by omega) ?_; conv => whnf) | (refine OpP.mul (by omega) ?_; conv => whnf) | (refine OpP.shr (by omega) ?_; conv => whnf) | (refine OpP.shl1 (by omega) (fun _ _ => ?_); conv => whnf) | (refine OpP.andm (by omega) (fun _ _ => ?_); conv => whnf) | (refine OpP.rem (by omega) (fun _ _ _ => ?_) (fun _ _ _ _ => ?_) <;> first | (exfalso; omega) | (conv => whnf)) | (refine OpP.quo (by omega) (by omega) (fun _ => ?_) (fun _ _ => ?_) <;> first | (exfalso; omega) | (conv => whnf)) | (refine OpP.and1 ?_; conv => whnf) | (refine OpP.wadd ?_; conv => whnf) | (refine OpP.wsub ?_; conv => whnf) | (refine OpP.wmul ?_; conv => whnf) | (refine UnP.neg (by omega) ?_; conv => whnf) | (refine ConvP.u64 (by omega) ?_; conv => whnf) | (refine ConvP.i64 (by omega) ?_; conv => whnf) | (refine LenP.go ?_; conv => whnf) | (refine RdP.at (by assumption) (by omega) rfl ?_; conv => whnf) | (refine RdP.nat (by omega) (fun _ => rfl) (fun e he => ?_); conv => whnf) | (refine RdP.go (by omega) (fun _ => rfl) (fun e he => ?_); conv => whnf) | (refine LdR.nat (by omega) (fun _ => rfl) (fun v hv => ?_); conv => whnf) | (refine LdR.int (by omega) (fun _ => rfl) (fun v hv => ?_); conv => whnf) | (refine SnR.all (fun _ => rfl) rfl (by first | rfl | simp) ?_; conv => whnf) | (refine RowP.all rfl (by first | rfl | simp) ?_; conv => whnf) | (refine RowP.e1 ?_; conv => whnf) | (refine LdM.nat (by omega) (fun r hr => ?_); conv => whnf) | (refine GetM.ati (by assumption) ?_; conv => whnf) | (refine SnM.all (fun _ => rfl) rfl (by first | rfl | simp) ?_; conv => whnf) | (refine SnR.e1 rfl ?_; conv => whnf) | (refine AKM.x ?_; conv => whnf) | (refine AKM.y ?_; conv => whnf) | (refine CallP.go (r4 _ _) ?_; conv => whnf) | (refine CallP.go (ev_law22_known I J) ?_; conv => whnf) | (refine CallP.b (ev_ref21_SameInts I (B1 ++ C1) (B1 ++ C1) _ _ hBC hBC) (fun hf => ?_) (fun hf => ?_) <;> (conv => whnf)) | (refine CallP.b (ev_ref21_SameInts I C2 C2 _ _ hC2 hC2) (fun hf => ?_) (fun hf => ?_) <;> (conv => whnf))))
    all_goals first | exact FinP.b rfl | (exfalso; rename_i hf; exact hf rfl) | skip
    refine AppR.many (enc := encInt) (l := []) rfl (fun _ => rfl) (by simp; omega) (by simp; omega) ?_
    (conv => whnf)
    refine AppR.many (enc := encInt) (l := [] ++ B1) rfl (fun _ => rfl) (by simp; omega) (by simp; omega) ?_
    (conv => whnf)
    (repeat' (first | (refine CmpP.go (fun hc => ?_) (fun hc => ?_) <;> first | (exfalso; omega) | (conv => whnf)) | (refine Req.go (by omega) ?_; conv => whnf) | (refine OpP.add (by omega) ?_; conv => whnf) | (refine OpP.sub (by omega) ?_; conv => whnf) | (refine OpP.mul (by omega) ?_; conv => whnf) | (refine OpP.shr (by omega) ?_; conv => whnf) | (refine OpP.shl1 (by omega) (fun _ _ => ?_); conv => whnf) | (refine OpP.andm (by omega) (fun _ _ => ?_); conv => whnf) | (refine OpP.rem (by omega) (fun _ _ _ => ?_) (fun _ _ _ _ => ?_) <;> first | (exfalso; omega) | (conv => whnf)) | (refine OpP.quo (by omega) (by omega) (fun _ => ?_) (fun _ _ => ?_) <;> first | (exfalso; omega) | (conv => whnf)) | (refine OpP.and1 ?_; conv => whnf) | (refine OpP.wadd ?_; conv => whnf) | (refine OpP.wsub ?_; conv => whnf) | (refine OpP.wmul ?_; conv => whnf) | (refine UnP.neg (by omega) ?_; conv => whnf) | (refine ConvP.u64 (by omega) ?_; conv => whnf) | (refine ConvP.i64 (by omega) ?_; conv => whnf) | (refine LenP.go ?_; conv => whnf) | (refine RdP.at (by assumption) (by omega) rfl ?_; conv => whnf) | (refine RdP.nat (by omega) (fun _ => rfl) (fun e he => ?_); conv => whnf) | (refine RdP.go (by omega) (fun _ => rfl) (fun e he => ?_); conv => whnf) | (refine LdR.nat (by omega) (fun _ => rfl) (fun v hv => ?_); conv => whnf) | (refine LdR.int (by omega) (fun _ => rfl) (fun v hv => ?_); conv => whnf) | (refine SnR.all (fun _ => rfl) rfl (by first | rfl | simp) ?_; conv => whnf) | (refine RowP.all rfl (by first | rfl | simp) ?_; conv => whnf) | (refine RowP.e1 ?_; conv => whnf) | (refine LdM.nat (by omega) (fun r hr => ?_); conv => whnf) | (refine GetM.ati (by assumption) ?_; conv => whnf) | (refine SnM.all (fun _ => rfl) rfl (by first | rfl | simp) ?_; conv => whnf) | (refine SnR.e1 rfl ?_; conv => whnf) | (refine AKM.x ?_; conv => whnf) | (refine AKM.y ?_; conv => whnf) | (refine CallP.b (ev_ref21_SameInts I (B1 ++ C1) (B1 ++ C1) _ _ hBC hBC) (fun hf => ?_) (fun hf => ?_) <;> (conv => whnf)) | (refine CallP.b (ev_ref21_SameInts I C2 C2 _ _ hC2 hC2) (fun hf => ?_) (fun hf => ?_) <;> (conv => whnf))))
    all_goals first | exact FinP.b rfl | (exfalso; rename_i hf; exact hf rfl)
  · (repeat' (first | (refine CmpP.go (fun hc => ?_) (fun hc => ?_) <;> first | (exfalso; omega) | (conv => whnf)) | (refine Req.go (by omega) ?_; conv => whnf) | (refine OpP.add (by omega) ?_; conv => whnf) | (refine OpP.sub (by omega) ?_; conv => whnf) | (refine OpP.mul (by omega) ?_; conv => whnf) | (refine OpP.shr (by omega) ?_; conv => whnf) | (refine OpP.shl1 (by omega) (fun _ _ => ?_); conv => whnf) | (refine OpP.andm (by omega) (fun _ _ => ?_); conv => whnf) | (refine OpP.rem (by omega) (fun _ _ _ => ?_) (fun _ _ _ _ => ?_) <;> first | (exfalso; omega) | (conv => whnf)) | (refine OpP.quo (by omega) (by omega) (fun _ => ?_) (fun _ _ => ?_) <;> first | (exfalso; omega) | (conv => whnf)) | (refine OpP.and1 ?_; conv => whnf) | (refine OpP.wadd ?_; conv => whnf) | (refine OpP.wsub ?_; conv => whnf) | (refine OpP.wmul ?_; conv => whnf) | (refine UnP.neg (by omega) ?_; conv => whnf) | (refine ConvP.u64 (by omega) ?_; conv => whnf) | (refine ConvP.i64 (by omega) ?_; conv => whnf) | (refine LenP.go ?_; conv => whnf) | (refine RdP.at (by assumption) (by omega) rfl ?_; conv => whnf) | (refine RdP.nat (by omega) (fun _ => rfl) (fun e he => ?_); conv => whnf) | (refine RdP.go (by omega) (fun _ => rfl) (fun e he => ?_); conv => whnf) | (refine LdR.nat (by omega) (fun _ => rfl) (fun v hv => ?_); conv => whnf) | (refine LdR.int (by omega) (fun _ => rfl) (fun v hv => ?_); conv => whnf) | (refine SnR.all (fun _ => rfl) rfl (by first | rfl | simp) ?_; conv => whnf) | (refine RowP.all rfl (by first | rfl | simp) ?_; conv => whnf) | (refine RowP.e1 ?_; conv => whnf) | (refine LdM.nat (by omega) (fun r hr => ?_); conv => whnf) | (refine GetM.ati (by assumption) ?_; conv => whnf) | (refine SnM.all (fun _ => rfl) rfl (by first | rfl | simp) ?_; conv => whnf) | (refine SnR.e1 rfl ?_; conv => whnf) | (refine AKM.x ?_; conv => whnf) | (refine AKM.y ?_; conv => whnf) | (refine CallP.go (ev_law22_known I J) ?_; conv => whnf)))
    exact FinP.b rfl
end Go.Eng
