/-
  Law 23: DirectScales.
-/
import Derived.Test.YtlkfmmfmefobnaaXL3
import Derived.Test.YtlkfmmfmefobnaaL24
set_option linter.unusedSimpArgs false
set_option linter.unusedVariables false
set_option linter.unnecessarySimpa false
namespace Go.Eng
open F
attribute [local irreducible] AKM CmpP Req OpP UnP ConvP RdP LdR StR MkR LenP AppR AppN CpyR RowP SnR Bds SlS CallP CalP FinP pw LdM GetM SetM PutM MkM AppM SnM
set_option maxHeartbeats 1000000
variable {L : Lib}
/-- coefficients made of numbers: 0 or minus one unit -/
def negS (b : List Int) (n : Nat) : List Int := (List.range n).map fun i : Nat => -withS (atS b i) 2
theorem negS_len (b : List Int) (n : Nat) : (negS b n).length = n := by simp [negS]
theorem negS_mem {b : List Int} {n : Nat} {v : Int} (h : v ∈ negS b n) : v = 0 ∨ v = -1 := by
  simp only [negS, List.mem_map] at h
  obtain ⟨i, _, rfl⟩ := h
  have := with_range (v := atS b i) (m := 2) (by omega)
  omega
theorem coef_f (k : Int) : (coefS k).f ≤ (coefS k).b - 2 := by
  have hr := with_range (v := k) (m := 1099511627776) (by omega)
  have h1 : 0 ≤ withS k 1099511627776 % (9 - 6 + 1) := Int.emod_nonneg _ (by omega)
  simp only [coefS, wordS]
  generalize withS k 1099511627776 / (9 - 6 + 1) = d
  omega
theorem neg_FT (ck : Int) (b : List Int) (n : Nat) : ∀ v ∈ scl (pw (coefS ck).f) (negS b n), FT (coefS ck) v := by
  intro v hv
  obtain ⟨hw, h6, h9⟩ := coef_ok ck
  obtain ⟨e1, e2, e3, e4⟩ := low_high hw
  have hf := coef_f ck
  have hp := pw_le (n := (coefS ck).f) (m := (coefS ck).b - 1) (by omega)
  have hp1 := pw_pos (coefS ck).f
  simp only [scl, List.mem_map] at hv
  obtain ⟨u, hu, rfl⟩ := hv
  rcases negS_mem hu with rfl | rfl
  · exact ⟨hw, by omega, by omega⟩
  · exact ⟨hw, by omega, by omega⟩
theorem small_FT {dk : Int} {v : Int} (h : -31 ≤ v ∧ v ≤ 31) : FT (dataS dk) v := by
  obtain ⟨hw, h6, h9⟩ := data_ok dk
  obtain ⟨e1, e2, e3, e4⟩ := low_high hw
  have hp := pw_le (n := 5) (m := (dataS dk).b - 1) (by omega)
  have e : pw 5 = 32 := by unfold pw; rfl
  exact ⟨hw, by omega, by omega⟩
theorem below_rng {m : Int} (hm : 0 ≤ m) {l : List Int} {n : Nat} {v : Int} (h : v ∈ belowS m l n) : -m ≤ v ∧ v ≤ m := by
  simp only [belowS, List.mem_map] at h
  obtain ⟨i, _, rfl⟩ := h
  exact toB_range hm _
theorem one_wrong {P : List Int} {d c : Wd} (hd : WV d) (hP : 1 ≤ P.length) {X : List Int} (hX : ∀ v ∈ X, FT d v) : wrongS (formOneS P [] d c) (List.replicate (P.length - 1) 0) X = 0 := by
  rw [wrong_zero]
  refine ⟨by simp [formOneS], ?_, ?_⟩
  · simp only [wordsB, List.all_eq_true, decide_eq_true_eq]
    intro v hv
    rw [(List.mem_replicate.1 hv).2]
    exact FT_zero hd
  · simp only [wordsB, List.all_eq_true, decide_eq_true_eq]
    exact hX
theorem recO_words {P Q : List Int} {d c : Wd} (hd : WV d) : ∀ (xs rx ry : List Int), ∀ v ∈ recO P Q d c rx ry xs, FT d v
  | [], _, _ => by simp [recO]
  | x :: xs, rx, ry => by
    intro v hv
    rw [recO] at hv
    rcases List.mem_cons.1 hv with rfl | h
    · exact red_ok hd _
    · exact recO_words hd xs _ _ v h
theorem ev_law23_DirectScales (I : FixedLib L) (J : NetLib L) (W : WorldLib L) (R : RunGLib L) (D : DirectGLib L) (E : LawDLib L) (dk ck : Int) (h1 : InI dk) (h2 : InI ck) (b ins : List Int) (q1 q3 : Bool) (hb : b.length < 9223372036854775808) (hbI : allI b) :
    Ev L 56 [.int .i64 dk, .int .i64 ck, .sl q1 (b.map encInt), .sl q3 (ins.map encInt)] (.bool true) := by
  refine Ev.x E.law23_DirectScales rfl rfl ?_
  by_cases h30 : ins.length ≤ 30
  · obtain ⟨hdw, hd1, hd2⟩ := data_ok dk
    obtain ⟨hcw, hc1, hc2⟩ := coef_ok ck
    have hcw' := hcw
    unfold WV at hcw'
    have hpu : pw (coefS ck).f ≤ 8388608 := by
      have := pw_le (n := (coefS ck).f) (m := 23) (by omega)
      have e : pw 23 = 8388608 := by unfold pw; rfl
      omega
    have hpp := pw_pos (coefS ck).f
    have hk1 := with_range (v := (b.length : Int)) (m := 4) (by omega)
    have eu := ev_world_Unit W (coefS ck) hcw
    have ex := fun q => ev_world_Below W 2 (by omega) ins q ins.length (by omega)
    have w1 := ev_world_Within W b.length 4 (by unfold InI; omega) (by omega)
    have hX : ∀ v ∈ belowS 2 ins ins.length, -2 ≤ v ∧ v ≤ 2 := fun v h => below_rng (by omega) h
    have lX : (belowS 2 ins ins.length).length = ins.length := by simp [belowS]
    generalize belowS 2 ins ins.length = X at *
    (repeat' (first | (refine CmpP.go (fun hc => ?_) (fun hc => ?_) <;> first | (exfalso; omega) | (conv => whnf)) | (refine Req.go (by omega) ?_; conv => whnf) | (refine OpP.add (by omega) ?_; conv => whnf) | (refine OpP.sub (by omega) ?_; conv => whnf) | (refine OpP.mul (by omega) ?_; conv => whnf) | (refine OpP.shr (by omega) ?_; conv => whnf) | (refine OpP.shl1 (by omega) (fun _ _ => ?_); conv => whnf) | (refine OpP.andm (by omega) (fun _ _ => ?_); conv => whnf) | (refine OpP.rem (by omega) (fun _ _ _ => ?_) (fun _ _ _ _ => ?_) <;> first | (exfalso; omega) | (conv => whnf)) | (refine OpP.quo (by omega) (by omega) (fun _ => ?_) (fun _ _ => ?_) <;> first | (exfalso; omega) | (conv => whnf)) | (refine OpP.and1 ?_; conv => whnf) | (refine OpP.wadd ?_; conv => whnf) | (refine OpP.wsub ?_; conv => whnf) | (refine OpP.wmul ?_; conv => whnf) | (refine UnP.neg (by omega) ?_; conv => whnf) | (refine ConvP.u64 (by omega) ?_; conv => whnf) | (refine ConvP.i64 (by omega) ?_; conv => whnf) | (refine LenP.go ?_; conv => whnf) | (refine RdP.at (by assumption) (by omega) rfl ?_; conv => whnf) | (refine RdP.nat (by omega) (fun _ => rfl) (fun e he => ?_); conv => whnf) | (refine RdP.go (by omega) (fun _ => rfl) (fun e he => ?_); conv => whnf) | (refine LdR.nat (by omega) (fun _ => rfl) (fun v hv => ?_); conv => whnf) | (refine LdR.int (by omega) (fun _ => rfl) (fun v hv => ?_); conv => whnf) | (refine SnR.all (fun _ => rfl) rfl (by first | rfl | simp) ?_; conv => whnf) | (refine RowP.all rfl (by first | rfl | simp) ?_; conv => whnf) | (refine RowP.e1 ?_; conv => whnf) | (refine LdM.nat (by omega) (fun r hr => ?_); conv => whnf) | (refine GetM.ati (by assumption) ?_; conv => whnf) | (refine SnM.all (fun _ => rfl) rfl (by first | rfl | simp) ?_; conv => whnf) | (refine SnR.e1 rfl ?_; conv => whnf) | (refine AKM.x ?_; conv => whnf) | (refine AKM.y ?_; conv => whnf) | (refine CallP.go (ev_law23_known I J R D) ?_; conv => whnf) | (refine CallP.go (ev_world_Data W dk h1) ?_; conv => whnf) | (refine CallP.go (ev_world_Coef W ck h2) ?_; conv => whnf)))
    refine AKM.loop2 (fun i _ => (1 + withS b.length 4).toNat - i) (fun (i : Nat) (o : List Int) => i ≤ (1 + withS b.length 4).toNat ∧ o.length = i ∧ o = scl (pw (coefS ck).f) (negS b i)) (fun i o => [(11, .row 11 0 1 0 o.length), (12, .int .i64 i)]) (fun i o => [(11, 11, .rw 1 (o.map encInt))]) [] [] 0 [] (by (conv => whnf); exact ⟨rfl, rfl, rfl⟩) ⟨by omega, rfl, rfl⟩ ?_
    intro i o ⟨p1, p2, p3⟩ ih
    have hat : InI (atS b i) := by
      unfold atS
      by_cases h : 0 ≤ (i : Int) ∧ (i : Int) < b.length
      · rw [if_pos h, List.getD_eq_getElem?_getD, Int.toNat_natCast, List.getElem?_eq_getElem (by omega)]
        exact hbI _ (List.getElem_mem _)
      · rw [if_neg h]; unfold InI; omega
    have wr := with_range (v := atS b i) (m := 2) (by omega)
    (repeat' (first | (refine CmpP.go (fun hc => ?_) (fun hc => ?_) <;> first | (exfalso; omega) | (conv => whnf)) | (refine Req.go (by omega) ?_; conv => whnf) | (refine OpP.add (by omega) ?_; conv => whnf) | (refine OpP.sub (by omega) ?_; conv => whnf) | (refine OpP.mul (by omega) ?_; conv => whnf) | (refine OpP.shr (by omega) ?_; conv => whnf) | (refine OpP.shl1 (by omega) (fun _ _ => ?_); conv => whnf) | (refine OpP.andm (by omega) (fun _ _ => ?_); conv => whnf) | (refine OpP.rem (by omega) (fun _ _ _ => ?_) (fun _ _ _ _ => ?_) <;> first | (exfalso; omega) | (conv => whnf)) | (refine OpP.quo (by omega) (by omega) (fun _ => ?_) (fun _ _ => ?_) <;> first | (exfalso; omega) | (conv => whnf)) | (refine OpP.and1 ?_; conv => whnf) | (refine OpP.wadd ?_; conv => whnf) | (refine OpP.wsub ?_; conv => whnf) | (refine OpP.wmul ?_; conv => whnf) | (refine UnP.neg (by omega) ?_; conv => whnf) | (refine ConvP.u64 (by omega) ?_; conv => whnf) | (refine ConvP.i64 (by omega) ?_; conv => whnf) | (refine LenP.go ?_; conv => whnf) | (refine RdP.at (by assumption) (by omega) rfl ?_; conv => whnf) | (refine RdP.nat (by omega) (fun _ => rfl) (fun e he => ?_); conv => whnf) | (refine RdP.go (by omega) (fun _ => rfl) (fun e he => ?_); conv => whnf) | (refine LdR.nat (by omega) (fun _ => rfl) (fun v hv => ?_); conv => whnf) | (refine LdR.int (by omega) (fun _ => rfl) (fun v hv => ?_); conv => whnf) | (refine SnR.all (fun _ => rfl) rfl (by first | rfl | simp) ?_; conv => whnf) | (refine RowP.all rfl (by first | rfl | simp) ?_; conv => whnf) | (refine RowP.e1 ?_; conv => whnf) | (refine LdM.nat (by omega) (fun r hr => ?_); conv => whnf) | (refine GetM.ati (by assumption) ?_; conv => whnf) | (refine SnM.all (fun _ => rfl) rfl (by first | rfl | simp) ?_; conv => whnf) | (refine SnR.e1 rfl ?_; conv => whnf) | (refine AKM.x ?_; conv => whnf) | (refine AKM.y ?_; conv => whnf) | (refine CallP.go (w1) ?_; conv => whnf) | (refine CallP.go (eu) ?_; conv => whnf) | (refine CallP.go (ev_world_At W b _ _) ?_; conv => whnf) | (refine CallP.go (ev_world_Within W _ _ hat (by omega)) ?_; conv => whnf)))
    · have hv : IntKind.i64.wrap (-pw (coefS ck).f * withS (atS b i) 2) = pw (coefS ck).f * -withS (atS b i) 2 := by
        rw [Int.neg_mul_comm]
        rcases (show withS (atS b i) 2 = 0 ∨ withS (atS b i) 2 = 1 by omega) with e | e <;> rw [e] <;> exact IntWalk.i64_in _ (by omega)
      refine AppR.one (enc := encInt) _ rfl rfl rfl (by omega) (by omega) ?_
      (conv => whnf)
      (repeat' (first | (refine CmpP.go (fun hc => ?_) (fun hc => ?_) <;> first | (exfalso; omega) | (conv => whnf)) | (refine Req.go (by omega) ?_; conv => whnf) | (refine OpP.add (by omega) ?_; conv => whnf) | (refine OpP.sub (by omega) ?_; conv => whnf) | (refine OpP.mul (by omega) ?_; conv => whnf) | (refine OpP.shr (by omega) ?_; conv => whnf) | (refine OpP.shl1 (by omega) (fun _ _ => ?_); conv => whnf) | (refine OpP.andm (by omega) (fun _ _ => ?_); conv => whnf) | (refine OpP.rem (by omega) (fun _ _ _ => ?_) (fun _ _ _ _ => ?_) <;> first | (exfalso; omega) | (conv => whnf)) | (refine OpP.quo (by omega) (by omega) (fun _ => ?_) (fun _ _ => ?_) <;> first | (exfalso; omega) | (conv => whnf)) | (refine OpP.and1 ?_; conv => whnf) | (refine OpP.wadd ?_; conv => whnf) | (refine OpP.wsub ?_; conv => whnf) | (refine OpP.wmul ?_; conv => whnf) | (refine UnP.neg (by omega) ?_; conv => whnf) | (refine ConvP.u64 (by omega) ?_; conv => whnf) | (refine ConvP.i64 (by omega) ?_; conv => whnf) | (refine LenP.go ?_; conv => whnf) | (refine RdP.at (by assumption) (by omega) rfl ?_; conv => whnf) | (refine RdP.nat (by omega) (fun _ => rfl) (fun e he => ?_); conv => whnf) | (refine RdP.go (by omega) (fun _ => rfl) (fun e he => ?_); conv => whnf) | (refine LdR.nat (by omega) (fun _ => rfl) (fun v hv => ?_); conv => whnf) | (refine LdR.int (by omega) (fun _ => rfl) (fun v hv => ?_); conv => whnf) | (refine SnR.all (fun _ => rfl) rfl (by first | rfl | simp) ?_; conv => whnf) | (refine RowP.all rfl (by first | rfl | simp) ?_; conv => whnf) | (refine RowP.e1 ?_; conv => whnf) | (refine LdM.nat (by omega) (fun r hr => ?_); conv => whnf) | (refine GetM.ati (by assumption) ?_; conv => whnf) | (refine SnM.all (fun _ => rfl) rfl (by first | rfl | simp) ?_; conv => whnf) | (refine SnR.e1 rfl ?_; conv => whnf) | (refine AKM.x ?_; conv => whnf) | (refine AKM.y ?_; conv => whnf)))
      refine AKM.back [(11, 53)] (by (conv => whnf); exact ⟨rfl, rfl, rfl⟩) (ih (i + 1) _ (by omega) ⟨by omega, by simp [p2], ?_⟩)
      rw [negS, range_snoc, scl, List.map_append, hv, p3]; rfl
    · have hi : i = (1 + withS b.length 4).toNat := by omega
      have lP : (scl (pw (coefS ck).f) (negS b i)).length = i := by rw [scl_len, negS_len]
      have hP := neg_FT ck b i
      have lN : (negS b i).length = i := negS_len b i
      clear ih
      generalize negS b i = N at *
      clear hi
      subst p3
      (repeat' (first | (refine CmpP.go (fun hc => ?_) (fun hc => ?_) <;> first | (exfalso; omega) | (conv => whnf)) | (refine Req.go (by omega) ?_; conv => whnf) | (refine OpP.add (by omega) ?_; conv => whnf) | (refine OpP.sub (by omega) ?_; conv => whnf) | (refine OpP.mul (by omega) ?_; conv => whnf) | (refine OpP.shr (by omega) ?_; conv => whnf) | (refine OpP.shl1 (by omega) (fun _ _ => ?_); conv => whnf) | (refine OpP.andm (by omega) (fun _ _ => ?_); conv => whnf) | (refine OpP.rem (by omega) (fun _ _ _ => ?_) (fun _ _ _ _ => ?_) <;> first | (exfalso; omega) | (conv => whnf)) | (refine OpP.quo (by omega) (by omega) (fun _ => ?_) (fun _ _ => ?_) <;> first | (exfalso; omega) | (conv => whnf)) | (refine OpP.and1 ?_; conv => whnf) | (refine OpP.wadd ?_; conv => whnf) | (refine OpP.wsub ?_; conv => whnf) | (refine OpP.wmul ?_; conv => whnf) | (refine UnP.neg (by omega) ?_; conv => whnf) | (refine ConvP.u64 (by omega) ?_; conv => whnf) | (refine ConvP.i64 (by omega) ?_; conv => whnf) | (refine LenP.go ?_; conv => whnf) | (refine RdP.at (by assumption) (by omega) rfl ?_; conv => whnf) | (refine RdP.nat (by omega) (fun _ => rfl) (fun e he => ?_); conv => whnf) | (refine RdP.go (by omega) (fun _ => rfl) (fun e he => ?_); conv => whnf) | (refine LdR.nat (by omega) (fun _ => rfl) (fun v hv => ?_); conv => whnf) | (refine LdR.int (by omega) (fun _ => rfl) (fun v hv => ?_); conv => whnf) | (refine SnR.all (fun _ => rfl) rfl (by first | rfl | simp) ?_; conv => whnf) | (refine RowP.all rfl (by first | rfl | simp) ?_; conv => whnf) | (refine RowP.e1 ?_; conv => whnf) | (refine LdM.nat (by omega) (fun r hr => ?_); conv => whnf) | (refine GetM.ati (by assumption) ?_; conv => whnf) | (refine SnM.all (fun _ => rfl) rfl (by first | rfl | simp) ?_; conv => whnf) | (refine SnR.e1 rfl ?_; conv => whnf) | (refine AKM.x ?_; conv => whnf) | (refine AKM.y ?_; conv => whnf) | (refine CallP.go (ex _) ?_; conv => whnf)))
      refine AKM.loop2 (fun i _ => X.length - i) (fun (k : Nat) (o : List Int) => k ≤ X.length ∧ o.length = k ∧ o = scl 2 (X.take k)) (fun i o => [(14, .row 14 0 1 0 o.length), (15, .int .i64 i)]) (fun i o => [(14, 14, .rw 1 (o.map encInt))]) [] [] 0 [] (by (conv => whnf); exact ⟨rfl, rfl, rfl⟩) ⟨by omega, rfl, rfl⟩ ?_
      intro k o ⟨s1, s2, s3⟩ ih
      by_cases hk : k < X.length
      · obtain ⟨x, hx⟩ : ∃ x, X[k]? = some x := ⟨_, List.getElem?_eq_getElem hk⟩
        have hxr := hX x (List.mem_of_getElem? hx)
        (repeat' (first | (refine CmpP.go (fun hc => ?_) (fun hc => ?_) <;> first | (exfalso; omega) | (conv => whnf)) | (refine Req.go (by omega) ?_; conv => whnf) | (refine OpP.add (by omega) ?_; conv => whnf) | (refine OpP.sub (by omega) ?_; conv => whnf) | (refine OpP.mul (by omega) ?_; conv => whnf) | (refine OpP.shr (by omega) ?_; conv => whnf) | (refine OpP.shl1 (by omega) (fun _ _ => ?_); conv => whnf) | (refine OpP.andm (by omega) (fun _ _ => ?_); conv => whnf) | (refine OpP.rem (by omega) (fun _ _ _ => ?_) (fun _ _ _ _ => ?_) <;> first | (exfalso; omega) | (conv => whnf)) | (refine OpP.quo (by omega) (by omega) (fun _ => ?_) (fun _ _ => ?_) <;> first | (exfalso; omega) | (conv => whnf)) | (refine OpP.and1 ?_; conv => whnf) | (refine OpP.wadd ?_; conv => whnf) | (refine OpP.wsub ?_; conv => whnf) | (refine OpP.wmul ?_; conv => whnf) | (refine UnP.neg (by omega) ?_; conv => whnf) | (refine ConvP.u64 (by omega) ?_; conv => whnf) | (refine ConvP.i64 (by omega) ?_; conv => whnf) | (refine LenP.go ?_; conv => whnf) | (refine RdP.at (by assumption) (by omega) rfl ?_; conv => whnf) | (refine RdP.nat (by omega) (fun _ => rfl) (fun e he => ?_); conv => whnf) | (refine RdP.go (by omega) (fun _ => rfl) (fun e he => ?_); conv => whnf) | (refine LdR.nat (by omega) (fun _ => rfl) (fun v hv => ?_); conv => whnf) | (refine LdR.int (by omega) (fun _ => rfl) (fun v hv => ?_); conv => whnf) | (refine SnR.all (fun _ => rfl) rfl (by first | rfl | simp) ?_; conv => whnf) | (refine RowP.all rfl (by first | rfl | simp) ?_; conv => whnf) | (refine RowP.e1 ?_; conv => whnf) | (refine LdM.nat (by omega) (fun r hr => ?_); conv => whnf) | (refine GetM.ati (by assumption) ?_; conv => whnf) | (refine SnM.all (fun _ => rfl) rfl (by first | rfl | simp) ?_; conv => whnf) | (refine SnR.e1 rfl ?_; conv => whnf) | (refine AKM.x ?_; conv => whnf) | (refine AKM.y ?_; conv => whnf)))
        refine AppR.one (enc := encInt) _ rfl rfl rfl (by omega) (by omega) ?_
        (conv => whnf)
        (repeat' (first | (refine CmpP.go (fun hc => ?_) (fun hc => ?_) <;> first | (exfalso; omega) | (conv => whnf)) | (refine Req.go (by omega) ?_; conv => whnf) | (refine OpP.add (by omega) ?_; conv => whnf) | (refine OpP.sub (by omega) ?_; conv => whnf) | (refine OpP.mul (by omega) ?_; conv => whnf) | (refine OpP.shr (by omega) ?_; conv => whnf) | (refine OpP.shl1 (by omega) (fun _ _ => ?_); conv => whnf) | (refine OpP.andm (by omega) (fun _ _ => ?_); conv => whnf) | (refine OpP.rem (by omega) (fun _ _ _ => ?_) (fun _ _ _ _ => ?_) <;> first | (exfalso; omega) | (conv => whnf)) | (refine OpP.quo (by omega) (by omega) (fun _ => ?_) (fun _ _ => ?_) <;> first | (exfalso; omega) | (conv => whnf)) | (refine OpP.and1 ?_; conv => whnf) | (refine OpP.wadd ?_; conv => whnf) | (refine OpP.wsub ?_; conv => whnf) | (refine OpP.wmul ?_; conv => whnf) | (refine UnP.neg (by omega) ?_; conv => whnf) | (refine ConvP.u64 (by omega) ?_; conv => whnf) | (refine ConvP.i64 (by omega) ?_; conv => whnf) | (refine LenP.go ?_; conv => whnf) | (refine RdP.at (by assumption) (by omega) rfl ?_; conv => whnf) | (refine RdP.nat (by omega) (fun _ => rfl) (fun e he => ?_); conv => whnf) | (refine RdP.go (by omega) (fun _ => rfl) (fun e he => ?_); conv => whnf) | (refine LdR.nat (by omega) (fun _ => rfl) (fun v hv => ?_); conv => whnf) | (refine LdR.int (by omega) (fun _ => rfl) (fun v hv => ?_); conv => whnf) | (refine SnR.all (fun _ => rfl) rfl (by first | rfl | simp) ?_; conv => whnf) | (refine RowP.all rfl (by first | rfl | simp) ?_; conv => whnf) | (refine RowP.e1 ?_; conv => whnf) | (refine LdM.nat (by omega) (fun r hr => ?_); conv => whnf) | (refine GetM.ati (by assumption) ?_; conv => whnf) | (refine SnM.all (fun _ => rfl) rfl (by first | rfl | simp) ?_; conv => whnf) | (refine SnR.e1 rfl ?_; conv => whnf) | (refine AKM.x ?_; conv => whnf) | (refine AKM.y ?_; conv => whnf)))
        refine AKM.back [(14, 71)] (by (conv => whnf); exact ⟨rfl, rfl, rfl⟩) (ih (k + 1) _ (by omega) ⟨by omega, by simp [s2], ?_⟩)
        rw [List.take_add_one, hx, s3]; simp [scl]
      · rw [List.take_of_length_le (by omega)] at s3
        subst s3
        clear ih
        have lY := scl_len 2 X
        have hX1 : ∀ v ∈ X, FT (dataS dk) v := fun v h => small_FT (by have := hX v h; omega)
        have hX2 : ∀ v ∈ scl 2 X, FT (dataS dk) v := by
          intro v h
          simp only [scl, List.mem_map] at h
          obtain ⟨u, hu, rfl⟩ := h
          exact small_FT (by have := hX u hu; omega)
        have ef := fun q => ev_direct_FIR I D (scl (pw (coefS ck).f) N) q (dataS dk) (coefS ck) hdw hcw (by omega) hP
        have hnet := form_net (b := scl (pw (coefS ck).f) N) (a := []) hdw hcw (by omega) (by simp) hP (by simp)
        have e1 := fun q q' => ev_network_Run (formOneS (scl (pw (coefS ck).f) N) [] (dataS dk) (coefS ck)) I J R (List.replicate (N.length - 1) 0) X q q' (by simp; omega) (by omega)
        have e2 := fun q q' => ev_network_Run (formOneS (scl (pw (coefS ck).f) N) [] (dataS dk) (coefS ck)) I J R (List.replicate (N.length - 1) 0) (scl 2 X) q q' (by simp; omega) (by omega)
        have hw1 := one_wrong (P := scl (pw (coefS ck).f) N) (c := coefS ck) hdw (by omega) hX1
        have hw2 := one_wrong (P := scl (pw (coefS ck).f) N) (c := coefS ck) hdw (by omega) hX2
        rw [lP, ← lN] at hw1 hw2
        rw [rrS_ok _ hnet (by omega) hw1] at e1
        rw [rrS_ok _ hnet (by omega) hw2] at e2
        have x1 := one_exact (p := N) hdw hcw (by omega) hP X hX1
        have x2 := one_exact (p := N) hdw hcw (by omega) hP (scl 2 X) hX2
        have c1 := runA_cnt (formOneS (scl (pw (coefS ck).f) N) [] (dataS dk) (coefS ck)) X [] (List.replicate (N.length - 1) 0) 0
        have c2 := runA_cnt (formOneS (scl (pw (coefS ck).f) N) [] (dataS dk) (coefS ck)) (scl 2 X) [] (List.replicate (N.length - 1) 0) 0
        have l1 := runA_len (formOneS (scl (pw (coefS ck).f) N) [] (dataS dk) (coefS ck)) X [] (List.replicate (N.length - 1) 0) 0
        have l2 := runA_len (formOneS (scl (pw (coefS ck).f) N) [] (dataS dk) (coefS ck)) (scl 2 X) [] (List.replicate (N.length - 1) 0) 0
        have x3 := exO_scl 2 N X []
        rw [show scl 2 [] = [] from rfl] at x3
        rw [x3] at x2
        have hr1 : ∀ v ∈ (runA (formOneS (scl (pw (coefS ck).f) N) [] (dataS dk) (coefS ck)) [] (List.replicate (N.length - 1) 0) 0 X).1, FT (dataS dk) v := by
          rw [lN, ← lP, show List.replicate ((scl (pw (coefS ck).f) N).length - 1) 0 = stF (scl (pw (coefS ck).f) N) [] [] [] by simp [stF, win], form_run hdw hcw (by omega) (by simp) hP (by simp) X [] [] [] 0 hX1 (by simp) (by simp)]
          intro v hv
          rw [List.nil_append] at hv
          exact recO_words hdw X [] [] v hv
        generalize runA (formOneS (scl (pw (coefS ck).f) N) [] (dataS dk) (coefS ck)) [] (List.replicate (N.length - 1) 0) 0 X = U at *
        generalize runA (formOneS (scl (pw (coefS ck).f) N) [] (dataS dk) (coefS ck)) [] (List.replicate (N.length - 1) 0) 0 (scl 2 X) = V at *
        obtain ⟨U1, U2, U3⟩ := U
        obtain ⟨V1, V2, V3⟩ := V
        simp only at *
        (repeat' (first | (refine CmpP.go (fun hc => ?_) (fun hc => ?_) <;> first | (exfalso; omega) | (conv => whnf)) | (refine Req.go (by omega) ?_; conv => whnf) | (refine OpP.add (by omega) ?_; conv => whnf) | (refine OpP.sub (by omega) ?_; conv => whnf) | (refine OpP.mul (by omega) ?_; conv => whnf) | (refine OpP.shr (by omega) ?_; conv => whnf) | (refine OpP.shl1 (by omega) (fun _ _ => ?_); conv => whnf) | (refine OpP.andm (by omega) (fun _ _ => ?_); conv => whnf) | (refine OpP.rem (by omega) (fun _ _ _ => ?_) (fun _ _ _ _ => ?_) <;> first | (exfalso; omega) | (conv => whnf)) | (refine OpP.quo (by omega) (by omega) (fun _ => ?_) (fun _ _ => ?_) <;> first | (exfalso; omega) | (conv => whnf)) | (refine OpP.and1 ?_; conv => whnf) | (refine OpP.wadd ?_; conv => whnf) | (refine OpP.wsub ?_; conv => whnf) | (refine OpP.wmul ?_; conv => whnf) | (refine UnP.neg (by omega) ?_; conv => whnf) | (refine ConvP.u64 (by omega) ?_; conv => whnf) | (refine ConvP.i64 (by omega) ?_; conv => whnf) | (refine LenP.go ?_; conv => whnf) | (refine RdP.at (by assumption) (by omega) rfl ?_; conv => whnf) | (refine RdP.nat (by omega) (fun _ => rfl) (fun e he => ?_); conv => whnf) | (refine RdP.go (by omega) (fun _ => rfl) (fun e he => ?_); conv => whnf) | (refine LdR.nat (by omega) (fun _ => rfl) (fun v hv => ?_); conv => whnf) | (refine LdR.int (by omega) (fun _ => rfl) (fun v hv => ?_); conv => whnf) | (refine SnR.all (fun _ => rfl) rfl (by first | rfl | simp) ?_; conv => whnf) | (refine RowP.all rfl (by first | rfl | simp) ?_; conv => whnf) | (refine RowP.e1 ?_; conv => whnf) | (refine LdM.nat (by omega) (fun r hr => ?_); conv => whnf) | (refine GetM.ati (by assumption) ?_; conv => whnf) | (refine SnM.all (fun _ => rfl) rfl (by first | rfl | simp) ?_; conv => whnf) | (refine SnR.e1 rfl ?_; conv => whnf) | (refine AKM.x ?_; conv => whnf) | (refine AKM.y ?_; conv => whnf) | (refine CallP.go (ef _) ?_; conv => whnf)))
        refine MkR.go (enc := encInt) 0 (N.length - 1) rfl (by omega) (by omega) ?_
        (conv => whnf)
        (repeat' (first | (refine CmpP.go (fun hc => ?_) (fun hc => ?_) <;> first | (exfalso; omega) | (conv => whnf)) | (refine Req.go (by omega) ?_; conv => whnf) | (refine OpP.add (by omega) ?_; conv => whnf) | (refine OpP.sub (by omega) ?_; conv => whnf) | (refine OpP.mul (by omega) ?_; conv => whnf) | (refine OpP.shr (by omega) ?_; conv => whnf) | (refine OpP.shl1 (by omega) (fun _ _ => ?_); conv => whnf) | (refine OpP.andm (by omega) (fun _ _ => ?_); conv => whnf) | (refine OpP.rem (by omega) (fun _ _ _ => ?_) (fun _ _ _ _ => ?_) <;> first | (exfalso; omega) | (conv => whnf)) | (refine OpP.quo (by omega) (by omega) (fun _ => ?_) (fun _ _ => ?_) <;> first | (exfalso; omega) | (conv => whnf)) | (refine OpP.and1 ?_; conv => whnf) | (refine OpP.wadd ?_; conv => whnf) | (refine OpP.wsub ?_; conv => whnf) | (refine OpP.wmul ?_; conv => whnf) | (refine UnP.neg (by omega) ?_; conv => whnf) | (refine ConvP.u64 (by omega) ?_; conv => whnf) | (refine ConvP.i64 (by omega) ?_; conv => whnf) | (refine LenP.go ?_; conv => whnf) | (refine RdP.at (by assumption) (by omega) rfl ?_; conv => whnf) | (refine RdP.nat (by omega) (fun _ => rfl) (fun e he => ?_); conv => whnf) | (refine RdP.go (by omega) (fun _ => rfl) (fun e he => ?_); conv => whnf) | (refine LdR.nat (by omega) (fun _ => rfl) (fun v hv => ?_); conv => whnf) | (refine LdR.int (by omega) (fun _ => rfl) (fun v hv => ?_); conv => whnf) | (refine SnR.all (fun _ => rfl) rfl (by first | rfl | simp) ?_; conv => whnf) | (refine RowP.all rfl (by first | rfl | simp) ?_; conv => whnf) | (refine RowP.e1 ?_; conv => whnf) | (refine LdM.nat (by omega) (fun r hr => ?_); conv => whnf) | (refine GetM.ati (by assumption) ?_; conv => whnf) | (refine SnM.all (fun _ => rfl) rfl (by first | rfl | simp) ?_; conv => whnf) | (refine SnR.e1 rfl ?_; conv => whnf) | (refine AKM.x ?_; conv => whnf) | (refine AKM.y ?_; conv => whnf) | (refine CallP.go (e1 _ _) ?_; conv => whnf)))
        refine MkR.go (enc := encInt) 0 (N.length - 1) rfl (by omega) (by omega) ?_
        (conv => whnf)
        (repeat' (first | (refine CmpP.go (fun hc => ?_) (fun hc => ?_) <;> first | (exfalso; omega) | (conv => whnf)) | (refine Req.go (by omega) ?_; conv => whnf) | (refine OpP.add (by omega) ?_; conv => whnf) | (refine OpP.sub (by omega) ?_; conv => whnf) | (refine OpP.mul (by omega) ?_; conv => whnf) | (refine OpP.shr (by omega) ?_; conv => whnf) | (refine OpP.shl1 (by omega) (fun _ _ => ?_); conv => whnf) | (refine OpP.andm (by omega) (fun _ _ => ?_); conv => whnf) | (refine OpP.rem (by omega) (fun _ _ _ => ?_) (fun _ _ _ _ => ?_) <;> first | (exfalso; omega) | (conv => whnf)) | (refine OpP.quo (by omega) (by omega) (fun _ => ?_) (fun _ _ => ?_) <;> first | (exfalso; omega) | (conv => whnf)) | (refine OpP.and1 ?_; conv => whnf) | (refine OpP.wadd ?_; conv => whnf) | (refine OpP.wsub ?_; conv => whnf) | (refine OpP.wmul ?_; conv => whnf) | (refine UnP.neg (by omega) ?_; conv => whnf) | (refine ConvP.u64 (by omega) ?_; conv => whnf) | (refine ConvP.i64 (by omega) ?_; conv => whnf) | (refine LenP.go ?_; conv => whnf) | (refine RdP.at (by assumption) (by omega) rfl ?_; conv => whnf) | (refine RdP.nat (by omega) (fun _ => rfl) (fun e he => ?_); conv => whnf) | (refine RdP.go (by omega) (fun _ => rfl) (fun e he => ?_); conv => whnf) | (refine LdR.nat (by omega) (fun _ => rfl) (fun v hv => ?_); conv => whnf) | (refine LdR.int (by omega) (fun _ => rfl) (fun v hv => ?_); conv => whnf) | (refine SnR.all (fun _ => rfl) rfl (by first | rfl | simp) ?_; conv => whnf) | (refine RowP.all rfl (by first | rfl | simp) ?_; conv => whnf) | (refine RowP.e1 ?_; conv => whnf) | (refine LdM.nat (by omega) (fun r hr => ?_); conv => whnf) | (refine GetM.ati (by assumption) ?_; conv => whnf) | (refine SnM.all (fun _ => rfl) rfl (by first | rfl | simp) ?_; conv => whnf) | (refine SnR.e1 rfl ?_; conv => whnf) | (refine AKM.x ?_; conv => whnf) | (refine AKM.y ?_; conv => whnf) | (refine CallP.go (e2 _ _) ?_; conv => whnf)))
        clear ef e1 e2 hw1 hw2 ex eu w1
        rw [List.length_nil] at l1 l2
        refine AKM.loop1 (fun i => U1.length - i) (fun (i : Nat) => i ≤ U1.length) (fun i => [(26, .int .i64 i)]) (fun _ => []) [] [] 0 (by (conv => whnf); exact ⟨rfl, rfl, rfl⟩) (by omega) ?_
        intro j t1 ih
        by_cases hj : j < U1.length
        · obtain ⟨u, hu⟩ : ∃ u, U1[j]? = some u := ⟨_, List.getElem?_eq_getElem hj⟩
          have hur := FT_le (hr1 u (List.mem_of_getElem? hu))
          have hv2 : U3 + V3 = 0 → V1[j]? = some (2 * u) := by
            intro h
            rw [x2 (by omega), scl, List.getElem?_map, ← x1 (by omega), hu]; rfl
          (repeat' (first | (refine CmpP.go (fun hc => ?_) (fun hc => ?_) <;> first | (exfalso; omega) | (conv => whnf)) | (refine Req.go (by omega) ?_; conv => whnf) | (refine OpP.add (by omega) ?_; conv => whnf) | (refine OpP.sub (by omega) ?_; conv => whnf) | (refine OpP.mul (by omega) ?_; conv => whnf) | (refine OpP.shr (by omega) ?_; conv => whnf) | (refine OpP.shl1 (by omega) (fun _ _ => ?_); conv => whnf) | (refine OpP.andm (by omega) (fun _ _ => ?_); conv => whnf) | (refine OpP.rem (by omega) (fun _ _ _ => ?_) (fun _ _ _ _ => ?_) <;> first | (exfalso; omega) | (conv => whnf)) | (refine OpP.quo (by omega) (by omega) (fun _ => ?_) (fun _ _ => ?_) <;> first | (exfalso; omega) | (conv => whnf)) | (refine OpP.and1 ?_; conv => whnf) | (refine OpP.wadd ?_; conv => whnf) | (refine OpP.wsub ?_; conv => whnf) | (refine OpP.wmul ?_; conv => whnf) | (refine UnP.neg (by omega) ?_; conv => whnf) | (refine ConvP.u64 (by omega) ?_; conv => whnf) | (refine ConvP.i64 (by omega) ?_; conv => whnf) | (refine LenP.go ?_; conv => whnf) | (refine RdP.at (by assumption) (by omega) rfl ?_; conv => whnf) | (refine RdP.nat (by omega) (fun _ => rfl) (fun e he => ?_); conv => whnf) | (refine RdP.go (by omega) (fun _ => rfl) (fun e he => ?_); conv => whnf) | (refine LdR.nat (by omega) (fun _ => rfl) (fun v hv => ?_); conv => whnf) | (refine LdR.int (by omega) (fun _ => rfl) (fun v hv => ?_); conv => whnf) | (refine SnR.all (fun _ => rfl) rfl (by first | rfl | simp) ?_; conv => whnf) | (refine RowP.all rfl (by first | rfl | simp) ?_; conv => whnf) | (refine RowP.e1 ?_; conv => whnf) | (refine LdM.nat (by omega) (fun r hr => ?_); conv => whnf) | (refine GetM.ati (by assumption) ?_; conv => whnf) | (refine SnM.all (fun _ => rfl) rfl (by first | rfl | simp) ?_; conv => whnf) | (refine SnR.e1 rfl ?_; conv => whnf) | (refine AKM.x ?_; conv => whnf) | (refine AKM.y ?_; conv => whnf) | (refine CallP.go (ev_law23_known I J R D) ?_; conv => whnf)))
          · rename_i hz _
            rw [hv2 (by omega)] at he
            exact absurd (by simpa using he) hc
          · exact AKM.back [] (by (conv => whnf); exact ⟨rfl, rfl, rfl⟩) (ih (j + 1) (by omega) (by omega))
          · exact AKM.back [] (by (conv => whnf); exact ⟨rfl, rfl, rfl⟩) (ih (j + 1) (by omega) (by omega))
        · (repeat' (first | (refine CmpP.go (fun hc => ?_) (fun hc => ?_) <;> first | (exfalso; omega) | (conv => whnf)) | (refine Req.go (by omega) ?_; conv => whnf) | (refine OpP.add (by omega) ?_; conv => whnf) | (refine OpP.sub (by omega) ?_; conv => whnf) | (refine OpP.mul (by omega) ?_; conv => whnf) | (refine OpP.shr (by omega) ?_; conv => whnf) | (refine OpP.shl1 (by omega) (fun _ _ => ?_); conv => whnf) | (refine OpP.andm (by omega) (fun _ _ => ?_); conv => whnf) | (refine OpP.rem (by omega) (fun _ _ _ => ?_) (fun _ _ _ _ => ?_) <;> first | (exfalso; omega) | (conv => whnf)) | (refine OpP.quo (by omega) (by omega) (fun _ => ?_) (fun _ _ => ?_) <;> first | (exfalso; omega) | (conv => whnf)) | (refine OpP.and1 ?_; conv => whnf) | (refine OpP.wadd ?_; conv => whnf) | (refine OpP.wsub ?_; conv => whnf) | (refine OpP.wmul ?_; conv => whnf) | (refine UnP.neg (by omega) ?_; conv => whnf) | (refine ConvP.u64 (by omega) ?_; conv => whnf) | (refine ConvP.i64 (by omega) ?_; conv => whnf) | (refine LenP.go ?_; conv => whnf) | (refine RdP.at (by assumption) (by omega) rfl ?_; conv => whnf) | (refine RdP.nat (by omega) (fun _ => rfl) (fun e he => ?_); conv => whnf) | (refine RdP.go (by omega) (fun _ => rfl) (fun e he => ?_); conv => whnf) | (refine LdR.nat (by omega) (fun _ => rfl) (fun v hv => ?_); conv => whnf) | (refine LdR.int (by omega) (fun _ => rfl) (fun v hv => ?_); conv => whnf) | (refine SnR.all (fun _ => rfl) rfl (by first | rfl | simp) ?_; conv => whnf) | (refine RowP.all rfl (by first | rfl | simp) ?_; conv => whnf) | (refine RowP.e1 ?_; conv => whnf) | (refine LdM.nat (by omega) (fun r hr => ?_); conv => whnf) | (refine GetM.ati (by assumption) ?_; conv => whnf) | (refine SnM.all (fun _ => rfl) rfl (by first | rfl | simp) ?_; conv => whnf) | (refine SnR.e1 rfl ?_; conv => whnf) | (refine AKM.x ?_; conv => whnf) | (refine AKM.y ?_; conv => whnf) | (refine CallP.go (ev_law23_known I J R D) ?_; conv => whnf)))
          exact FinP.b rfl
  · (repeat' (first | (refine CmpP.go (fun hc => ?_) (fun hc => ?_) <;> first | (exfalso; omega) | (conv => whnf)) | (refine Req.go (by omega) ?_; conv => whnf) | (refine OpP.add (by omega) ?_; conv => whnf) | (refine OpP.sub (by omega) ?_; conv => whnf) | (refine OpP.mul (by omega) ?_; conv => whnf) | (refine OpP.shr (by omega) ?_; conv => whnf) | (refine OpP.shl1 (by omega) (fun _ _ => ?_); conv => whnf) | (refine OpP.andm (by omega) (fun _ _ => ?_); conv => whnf) | (refine OpP.rem (by omega) (fun _ _ _ => ?_) (fun _ _ _ _ => ?_) <;> first | (exfalso; omega) | (conv => whnf)) | (refine OpP.quo (by omega) (by omega) (fun _ => ?_) (fun _ _ => ?_) <;> first | (exfalso; omega) | (conv => whnf)) | (refine OpP.and1 ?_; conv => whnf) | (refine OpP.wadd ?_; conv => whnf) | (refine OpP.wsub ?_; conv => whnf) | (refine OpP.wmul ?_; conv => whnf) | (refine UnP.neg (by omega) ?_; conv => whnf) | (refine ConvP.u64 (by omega) ?_; conv => whnf) | (refine ConvP.i64 (by omega) ?_; conv => whnf) | (refine LenP.go ?_; conv => whnf) | (refine RdP.at (by assumption) (by omega) rfl ?_; conv => whnf) | (refine RdP.nat (by omega) (fun _ => rfl) (fun e he => ?_); conv => whnf) | (refine RdP.go (by omega) (fun _ => rfl) (fun e he => ?_); conv => whnf) | (refine LdR.nat (by omega) (fun _ => rfl) (fun v hv => ?_); conv => whnf) | (refine LdR.int (by omega) (fun _ => rfl) (fun v hv => ?_); conv => whnf) | (refine SnR.all (fun _ => rfl) rfl (by first | rfl | simp) ?_; conv => whnf) | (refine RowP.all rfl (by first | rfl | simp) ?_; conv => whnf) | (refine RowP.e1 ?_; conv => whnf) | (refine LdM.nat (by omega) (fun r hr => ?_); conv => whnf) | (refine GetM.ati (by assumption) ?_; conv => whnf) | (refine SnM.all (fun _ => rfl) rfl (by first | rfl | simp) ?_; conv => whnf) | (refine SnR.e1 rfl ?_; conv => whnf) | (refine AKM.x ?_; conv => whnf) | (refine AKM.y ?_; conv => whnf) | (refine CallP.go (ev_law23_known I J R D) ?_; conv => whnf)))
    exact FinP.b rfl
end Go.Eng
