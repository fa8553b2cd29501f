/-
  The law NetworkIsExact.
-/
import Derived.Test.YtajmlglkafhdhaaB6
import Derived.Test.YtajmlglkafhdhaaB7
import Derived.Test.YtajmlglkafhdhaaB9
import Derived.Test.YtajmlglkafhdhaaB4
set_option linter.unusedSimpArgs false
set_option linter.unusedVariables false
set_option linter.unnecessarySimpa false
namespace Go.Eng
open F
attribute [local irreducible] AKM CmpP Req OpP UnP ConvP RdP LdR StR MkR LenP AppR AppN CpyR RowP SnR Bds SlS CallP CalP FinP pw LdM GetM SetM PutM MkM AppM SnM FlP CallR
set_option maxHeartbeats 8000000
variable {L : Lib}
theorem coef_rng {n : Nt} (hb : netB n = true) {nd : Nd} (h : nd ∈ n.nodes) {t : Int × Int} (ht : t ∈ nd.ts) : -16777216 ≤ t.2 ∧ t.2 ≤ 16777216 := by
  obtain ⟨h1, h2, h3, h4, h5, h6⟩ := (netB_iff n).1 hb
  obtain ⟨i, hi⟩ := List.getElem?_of_mem h
  have := List.all_eq_true.1 (nodesB_at h4 hi) t ht
  simp only [termB, decide_eq_true_eq] at this
  have h2' := h2
  unfold WV at h2'
  have e := pw_le (n := n.c.f) (m := 23) (by omega)
  have e2 : pw 23 = 8388608 := by unfold pw; rfl
  have e3 := pw_pos n.c.f
  rcases this with ⟨_, _, h | h⟩
  · omega
  · have := FT_le h; omega
theorem netR_nodesL (r : Rw) : (netR r).nodes.length ≤ 4 := by simp [netR, nodesR]; omega
theorem netR_tsl (r : Rw) {nd : Nd} (h : nd ∈ (netR r).nodes) : nd.ts.length ≤ 4 := by
  simp only [netR, nodesR, List.map_map, List.mem_map] at h
  obtain ⟨k, _, rfl⟩ := h
  simp only [Function.comp, nodeR]
  split
  · simp [termsR]; omega
  · simp
theorem netR_small (r : Rw) : SmallN (tsOf (netR r)) := by
  constructor
  · intro ts h
    obtain ⟨nd, h1, rfl⟩ := List.mem_map.1 h
    exact netR_tsl r h1
  · intro ts h t ht
    obtain ⟨nd, h1, rfl⟩ := List.mem_map.1 h
    have := coef_rng (netR_ok r) h1 ht
    have e : (2 : Nat) ^ 24 = 16777216 := rfl
    omega
theorem netR_mult (r : Rw) (hw : r.whole = true) : Mult (pw (netR r).c.f) (netR r).nodes := by
  intro nd h
  refine ⟨by have := netR_tsl r h; omega, fun t ht => ⟨coef_rng (netR_ok r) h ht, ?_⟩⟩
  simp only [netR, nodesR, List.map_map, List.mem_map] at h
  obtain ⟨k, _, rfl⟩ := h
  simp only [Function.comp, nodeR] at ht
  split at ht
  · simp only [termsR, List.mem_map] at ht
    obtain ⟨i, _, rfl⟩ := ht
    simp only [termR, hw, if_true]
    exact ⟨_, rfl⟩
  · simp at ht
theorem linQ_ok {n : Nt} (hb : netB n = true) (hsm : SmallN (tsOf n)) (hnl : n.nodes.length ≤ 4) : (linQ n).Ok n.s.toNat 10625 := by
  obtain ⟨h1, h2, h3, h4, h5, h6⟩ := (netB_iff n).1 hb
  have hB := fun j => spreadQ_bs n j (-1) h2 hsm hnl
  refine ⟨by simp [linQ]; omega, ?_, by simp [linQ]; omega, by simp [linQ], ?_, ?_, ?_, (hB 0).getD _⟩
  · intro r hr
    obtain ⟨e, _, rfl⟩ := List.mem_map.1 hr
    simp
  · intro r hr x hx
    obtain ⟨e, _, rfl⟩ := List.mem_map.1 hr
    obtain ⟨j, _, rfl⟩ := List.mem_map.1 hx
    exact (hB _).getD _
  · intro x hx
    obtain ⟨e, _, rfl⟩ := List.mem_map.1 hx
    exact (hB _).getD _
  · intro x hx
    obtain ⟨j, _, rfl⟩ := List.mem_map.1 hx
    exact (hB _).getD _
theorem intsQ_bs {l : List Int} {k : Nat} (h : ∀ v ∈ l, v.natAbs ≤ 2 ^ k) : Bs k (intsQ l) := by
  intro x hx
  obtain ⟨v, hv, rfl⟩ := List.mem_map.1 hx
  exact Bt.ofInt (h v hv)
theorem runA_outs {n : Nt} (hb : netB n = true) : ∀ (xs outs st : List Int) (k : Int), wordsB n.d xs = true → wordsB n.d st = true → (st.length : Int) = n.s → (∀ v ∈ outs, InI v) → ∀ v ∈ (runA n outs st k xs).1, InI v
  | [], outs, st, k, _, _, _, h => h
  | x :: xs, outs, st, k, h1, h2, h3, h => by
    obtain ⟨g1, g2, g3, g4, g5, g6⟩ := (netB_iff n).1 hb
    simp only [wordsB, List.all_cons, Bool.and_eq_true] at h1
    have hw : wordsB n.d (x :: st) = true := by
      simp only [wordsB, List.all_cons, Bool.and_eq_true]; exact ⟨h1.1, h2⟩
    have hcl := comp_len n n.nodes (x :: st) false
    have hcw := comp_words n g1 n.nodes (x :: st) false hw
    rw [runA]
    refine runA_outs hb xs _ _ _ h1.2 (foll_words n hcw g5 (by simp at hcl; omega)) (by simp [follS]; omega) ?_
    intro v hv
    rcases List.mem_append.1 hv with hv | hv
    · exact h v hv
    · simp only [List.mem_singleton] at hv
      subst hv
      rw [List.getD_eq_getElem?_getD]
      cases e : (compS n (x :: st) false n.nodes).1[n.out.toNat]? with
      | none => simp only [Option.getD_none]; unfold InI; omega
      | some y =>
        have := FT_le (by simpa using List.all_eq_true.1 hcw y (List.mem_of_getElem? e) : FT n.d y)
        simp only [Option.getD_some]; unfold InI; omega
theorem respK_lin : ∀ n, n < 4 → ∀ i, i < 13 → respK n 10625 10625 i ≤ 100000000000 := by decide +kernel
theorem outs_bsE {S : SysQ} {n k K : Nat} (h : S.Ok n k) : ∀ (xs now : List Rat) (s : Nat), now.length = n → Bs s now → Bs k xs → (∀ i, i ≤ xs.length → respK n k s i ≤ K) → Bs K (S.outs now xs) ∧ Bs K (S.state now xs)
  | [], now, s, _, hs, _, hK => ⟨fun x hx => by simp [SysQ.outs] at hx, hs.le (hK 0 (by simp))⟩
  | x :: xs, now, s, hl, hs, hx, hK => by
    obtain ⟨b1, b2⟩ := h.next_bs hl hs (hx x (by simp))
    obtain ⟨c1, c2⟩ := outs_bsE h xs (S.next now x) (stepK n k s) (h.next_len now x) b1 (fun z hz => hx z (by simp [hz])) (fun i hi => hK (i + 1) (by simp; omega))
    refine ⟨?_, c2⟩
    intro z hz
    simp only [SysQ.outs, List.mem_cons] at hz
    rcases hz with rfl | hz
    · exact b2.le (hK 1 (by simp))
    · exact c1 z hz
theorem ev_law22_NetworkIsExact (I : FixedLib L) (J : NetLib L) (W : WorldLib L) (R : RunGLib L) (E : LawELib L) (r : Rw) (h1 : InI r.data) (h2 : InI r.coef) (h3 : InI r.states) (h4 : InI r.out) (h5 : allI r.next) (h6 : ∀ w ∈ r.nodes, allI w.1.2 ∧ allI w.2.2) (hl : r.nodes.length < 9223372036854775808)
    (st ins : List Int) (q1 q2 : Bool) : Ev L 148 [.agg (encR r), .sl q1 (st.map encInt), .sl q2 (ins.map encInt)] (.bool true) := by
  refine Ev.x E.law22_NetworkIsExact rfl rfl ?_
  have hrw : Ev L 42 [.agg [.int .i64 r.data, .int .i64 r.coef, .int .i64 r.states, .sl r.qn (r.nodes.map encWr), .sl r.qx (r.next.map encInt), .int .i64 r.out, .bool true]] _ := ev_world_Raw_Net I W R { r with whole := true } h1 h2 h3 h4 h5 h6 hl
  have hok := netR_ok { r with whole := true }
  have hsm := netR_small { r with whole := true }
  have hnl := netR_nodesL { r with whole := true }
  have hmu := netR_mult { r with whole := true } rfl
  have hdw : (netR { r with whole := true }).d = dataS r.data := rfl
  have hst3 : (netR { r with whole := true }).s ≤ 3 := by
    have := with_range (v := r.states) (m := 4) (by omega)
    show withS r.states 4 ≤ 3
    omega
  generalize netR { r with whole := true } = n at *
  obtain ⟨g1, g2, g3, g4, g5, g6⟩ := (netB_iff n).1 hok
  have hs' : ((n.s.toNat : Nat) : Int) = n.s := by omega
  by_cases h12 : ins.length ≤ 12
  · have ew1 := fun q => ev_world_Below W 2 (by omega) st q n.s.toNat (by omega)
    rw [hs'] at ew1
    have ew2 := fun q => ev_world_Below W 2 (by omega) ins q ins.length (by omega)
    have hSr : ∀ v ∈ belowS 2 st n.s.toNat, -2 ≤ v ∧ v ≤ 2 := fun v hv => below_rng (by omega) hv
    have hXr : ∀ v ∈ belowS 2 ins ins.length, -2 ≤ v ∧ v ≤ 2 := fun v hv => below_rng (by omega) hv
    have hSl : (belowS 2 st n.s.toNat).length = n.s.toNat := below_len _ _ _
    have hXl : (belowS 2 ins ins.length).length = ins.length := below_len _ _ _
    generalize belowS 2 st n.s.toNat = S at *
    generalize belowS 2 ins ins.length = X at *
    have hwd : ∀ l : List Int, (∀ v ∈ l, -2 ≤ v ∧ v ≤ 2) → wordsB n.d l = true := fun l h => by
      simp only [wordsB, List.all_eq_true, decide_eq_true_eq]
      intro v hv
      rw [hdw]
      exact small_FT (by have := h v hv; omega)
    have r1 := fun q q' => ev_network_Run n I J R S X q q' (by omega) (by omega)
    rw [rrS_ok n hok (by omega) ((wrong_zero n).2 ⟨by omega, hwd S hSr, hwd X hXr⟩)] at r1
    have r2 := ev_Linear I E.toLinGLib n hok hsm hnl
    have hSI : ∀ x ∈ S, InI x := fun v hv => by have := hSr v hv; unfold InI; omega
    have hXI : ∀ x ∈ X, InI x := fun v hv => by have := hXr v hv; unfold InI; omega
    have r3 := fun q => ev_Ints E.toIntsGLib S q hSI (by omega)
    have r4 := fun q => ev_Ints E.toIntsGLib X q hXI (by omega)
    have hlo := linQ_ok hok hsm hnl
    have bS : Bs 10625 (intsQ S) := (intsQ_bs (k := 2) fun v hv => by have := hSr v hv; omega).le (by omega)
    have bX : Bs 10625 (intsQ X) := (intsQ_bs (k := 2) fun v hv => by have := hXr v hv; omega).le (by omega)
    have lS := intsQ_len S
    have lX := intsQ_len X
    have hK : ∀ i, i ≤ (intsQ X).length → respK n.s.toNat 10625 10625 i ≤ 100000000000 := fun i hi => respK_lin _ (by omega) i (by omega)
    have r5 := fun q q' => ev_Respond E.toSysGLib (linQ n) n.s.toNat 10625 10625 hlo (by omega) (intsQ S) (intsQ X) q q' (by omega) bS bX (by omega) (fun i hi => by have := hK i hi; omega) (by omega) (by omega)
    obtain ⟨u1, u2⟩ := outs_bsE hlo (intsQ X) (intsQ S) 10625 (by omega) bS bX hK
    have lo := outs_len (linQ n) (intsQ X) (intsQ S)
    have ls := hlo.state_len (intsQ X) (intsQ S) (by omega)
    have hrun := run_exactQ hok hmu X S [] 0 (hwd X hXr) (hwd S hSr) (by omega)
    have lr := runA_len n X [] S 0
    have cr := runA_cnt n X [] S 0
    obtain ⟨m1, m2⟩ := runA_ok n hok X (hwd X hXr) [] S 0 (by omega) (hwd S hSr)
    have hkn := ev_example I J
    have G1 := fun q1 q2 => ev_SameRats E.toRefGLib _ _ q1 q2 100000000000 u1 u1 (by omega) (by omega)
    have G2 := fun q1 q2 => ev_SameRats E.toRefGLib _ _ q1 q2 100000000000 u2 u2 (by omega) (by omega)
    rw [decide_eq_true rfl] at G1 G2
    have hOw := runA_outs hok X [] S 0 (hwd X hXr) (hwd S hSr) (by omega) (by simp)
    have hLw : ∀ v ∈ (runA n [] S 0 X).2.1, InI v := by
      intro v hv
      have := FT_le (by simpa using List.all_eq_true.1 m2 v hv : FT n.d v)
      unfold InI; omega
    generalize (linQ n).outs (intsQ S) (intsQ X) = U at *
    generalize (linQ n).state (intsQ S) (intsQ X) = V at *
    generalize runA n [] S 0 X = B at *
    obtain ⟨B1, B2, B3⟩ := B
    simp only at *
    have r6 := fun q => ev_Ints E.toIntsGLib B1 q hOw (by simp at lr; omega)
    have r7 := fun q => ev_Ints E.toIntsGLib B2 q hLw (by omega)
    (repeat' (first | (refine CmpP.go (fun hc => ?_) (fun hc => ?_) <;> first | (exfalso; omega) | (conv => whnf)) | (refine LenP.go ?_; conv => whnf) | (refine AKM.x ?_; conv => whnf) | (refine CallP.go (hrw) ?_; conv => whnf) | (refine CallP.go (ew1 _) ?_; conv => whnf) | (refine CallP.go (ew2 _) ?_; conv => whnf) | (refine CallP.go (r1 _ _) ?_; conv => whnf) | (refine CallP.go (r2) ?_; conv => whnf) | (refine CallP.go (r3 _) ?_; conv => whnf) | (refine CallP.go (r4 _) ?_; conv => whnf) | (refine CallP.go (r5 _ _) ?_; conv => whnf) | (refine CallP.go (hkn) ?_; conv => whnf)))
    · exact FinP.b rfl
    · obtain rfl : B3 = 0 := by omega
      obtain ⟨e1, e2⟩ := hrun rfl
      rw [show intsQ ([] : List Int) = [] from rfl, List.nil_append] at e1
      subst e1
      subst e2
      (repeat' (first | (refine CallP.go (r6 _) ?_; conv => whnf) | (refine CallP.go (r7 _) ?_; conv => whnf) | (refine CallP.go (G1 _ _) ?_; conv => whnf) | (refine CallP.go (G2 _ _) ?_; conv => whnf)))
      exact FinP.b rfl
  · (repeat' (first | (refine CmpP.go (fun hc => ?_) (fun hc => ?_) <;> first | (exfalso; omega) | (conv => whnf)) | (refine LenP.go ?_; conv => whnf) | (refine AKM.x ?_; conv => whnf) | (refine CallP.go (hrw) ?_; conv => whnf) | (refine CallP.go (ev_example I J) ?_; conv => whnf)))
    exact FinP.b rfl
end Go.Eng

