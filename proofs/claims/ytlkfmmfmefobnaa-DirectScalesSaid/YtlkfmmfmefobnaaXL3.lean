/-
  Law 23: DirectRecurs.
-/
import Derived.Test.YtlkfmmfmefobnaaX23k
import Derived.Test.YtlkfmmfmefobnaaXL2
import Derived.Test.YtlkfmmfmefobnaaL23
import Derived.Test.YtlkfmmfmefobnaaXArgsR
import Derived.Test.YtlkfmmfmefobnaaEngLawD
set_option linter.unusedSimpArgs false
set_option linter.unusedVariables false
set_option linter.unnecessarySimpa false
namespace Go.Eng
open F
attribute [local irreducible] AKM CmpP Req OpP UnP ConvP RdP LdR StR MkR LenP AppR AppN CpyR RowP SnR Bds SlS CallP CalP FinP pw LdM GetM SetM PutM MkM AppM SnM
set_option maxHeartbeats 1000000
variable {L : Lib}
theorem toB_range {b : Int} (hb : 0 ≤ b) (v : Int) : -b ≤ toB b v ∧ toB b v ≤ b := by
  have := with_range (v := IntKind.i64.wrap (v + b)) (m := 2 * b + 1) (by omega)
  unfold toB
  omega
theorem below_FT {c : Wd} (hc : WV c) (l : List Int) (n : Nat) : ∀ v ∈ belowS (pw (c.b - 1) - 1) l n, FT c v ∧ FT c (-v) := by
  intro v hv
  obtain ⟨h1, h2, h3, h4⟩ := low_high hc
  simp only [belowS, List.mem_map] at hv
  obtain ⟨i, _, rfl⟩ := hv
  have := toB_range (b := pw (c.b - 1) - 1) (by omega) (atS l i)
  exact ⟨⟨hc, by omega, by omega⟩, ⟨hc, by omega, by omega⟩⟩
theorem below_len (b : Int) (l : List Int) (n : Nat) : (belowS b l n).length = n := by simp [belowS]
theorem mul_bd {u v : Int} (h1 : -8388608 ≤ u ∧ u ≤ 8388608) (h2 : -8388608 ≤ v ∧ v ≤ 8388608) : -70368744177664 ≤ u * v ∧ u * v ≤ 70368744177664 := by
  have := Int.natAbs_mul u v
  have e3 := Nat.mul_le_mul (show u.natAbs ≤ 8388608 by omega) (show v.natAbs ≤ 8388608 by omega)
  omega
theorem dot_step {p r : List Int} {k : Nat} {u v : Int} (h1 : p[k]? = some u) (h2 : r[k]? = some v) : dot (p.drop k) (r.drop k) = u * v + dot (p.drop (k + 1)) (r.drop (k + 1)) := by
  rw [drop_cons h1, drop_cons h2, dot]
theorem dot_done {p r : List Int} {k : Nat} (h : p.length ≤ k ∨ r.length ≤ k) : dot (p.drop k) (r.drop k) = 0 := by
  rcases h with h | h
  · rw [List.drop_of_length_le h]; simp [dot]
  · rw [List.drop_of_length_le h, dot_nil_r]
theorem rev_at {X : List Int} {i k : Nat} {v : Int} (hk : k ≤ i) (hi : i < X.length) (h : X[i - k]? = some v) : (X.take (i + 1)).reverse[k]? = some v := by
  have hl : (X.take (i + 1)).length = i + 1 := by simp; omega
  rw [List.getElem?_reverse (by omega), hl, List.getElem?_take, if_pos (by omega), show i + 1 - 1 - k = i - k by omega, h]
theorem rev_at' {Y : List Int} {i k : Nat} {v : Int} (hl : Y.length = i) (hk : k < i) (h : Y[i - 1 - k]? = some v) : Y.reverse[k]? = some v := by
  rw [List.getElem?_reverse (by omega), hl, h]
theorem rev_take {X : List Int} {i : Nat} {x : Int} (h : X[i]? = some x) : (X.take (i + 1)).reverse = x :: (X.take i).reverse := by
  rw [List.take_add_one, h]; simp
theorem ev_law23_DirectRecurs (I : FixedLib L) (J : NetLib L) (W : WorldLib L) (R : RunGLib L) (D : DirectGLib L) (E : LawDLib L) (dk ck : Int) (h1 : InI dk) (h2 : InI ck) (b a ins : List Int) (q1 q2 q3 : Bool) (hb : b.length < 9223372036854775808) (ha : a.length < 9223372036854775808) :
    Ev L 55 [.int .i64 dk, .int .i64 ck, .sl q1 (b.map encInt), .sl q2 (a.map encInt), .sl q3 (ins.map encInt)] (.bool true) := by
  refine Ev.x E.law23_DirectRecurs rfl rfl ?_
  by_cases h40 : ins.length ≤ 40
  · obtain ⟨hdw, hd1, hd2⟩ := data_ok dk
    obtain ⟨hcw, hc1, hc2⟩ := coef_ok ck
    have hk1 := with_range (v := (b.length : Int)) (m := 4) (by omega)
    have hk2 := with_range (v := (a.length : Int)) (m := 4) (by omega)
    have eb := fun q => ev_world_Below W (pw ((coefS ck).b - 1) - 1) (by have := low_high hcw; omega) b q (1 + withS b.length 4).toNat (by omega)
    have ea := fun q => ev_world_Below W (pw ((coefS ck).b - 1) - 1) (by have := low_high hcw; omega) a q (withS a.length 4).toNat (by omega)
    have ew := fun q => ev_world_Words I W (dataS dk) hdw ins q ins.length (by omega)
    rw [Int.toNat_of_nonneg (by omega)] at eb ea
    have w1 := ev_world_Within W b.length 4 (by unfold InI; omega) (by omega)
    have w2 := ev_world_Within W a.length 4 (by unfold InI; omega) (by omega)
    have lP : (belowS (pw ((coefS ck).b - 1) - 1) b (1 + withS b.length 4).toNat).length = (1 + withS b.length 4).toNat := below_len _ _ _
    have lQ : (belowS (pw ((coefS ck).b - 1) - 1) a (withS a.length 4).toNat).length = (withS a.length 4).toNat := below_len _ _ _
    have hP := below_FT hcw b (1 + withS b.length 4).toNat
    have hQ := below_FT hcw a (withS a.length 4).toNat
    have hX : ∀ v ∈ wordsS (dataS dk) ins ins.length, FT (dataS dk) v := by
      have := wordsS_ok hdw ins ins.length
      simpa [wordsB] using this
    have lX : (wordsS (dataS dk) ins ins.length).length = ins.length := by simp [wordsS]
    generalize belowS (pw ((coefS ck).b - 1) - 1) b (1 + withS b.length 4).toNat = P at *
    generalize belowS (pw ((coefS ck).b - 1) - 1) a (withS a.length 4).toNat = Q at *
    generalize wordsS (dataS dk) ins ins.length = X at *
    have ef := fun q q' => ev_direct_FormOne I D P Q q q' (dataS dk) (coefS ck) hdw hcw (by omega) (by omega) (fun v h => (hP v h).1) hQ
    have hnet := form_net (b := P) (a := Q) hdw hcw (by omega) (by omega) (fun v h => (hP v h).1) hQ
    have hst : stF P Q [] [] = List.replicate (P.length - 1 + Q.length) 0 := by
      simp [stF, win, List.replicate_append_replicate]
    have hwr : wrongS (formOneS P Q (dataS dk) (coefS ck)) (List.replicate (P.length - 1 + Q.length) 0) X = 0 := by
      rw [wrong_zero]
      refine ⟨by simp [formOneS], ?_, ?_⟩
      · simp only [wordsB, List.all_eq_true, decide_eq_true_eq]
        intro v hv
        rw [(List.mem_replicate.1 hv).2]
        exact FT_zero hdw
      · simp only [wordsB, List.all_eq_true, decide_eq_true_eq]
        exact hX
    have er := fun q q' => ev_network_Run (formOneS P Q (dataS dk) (coefS ck)) I J R (List.replicate (P.length - 1 + Q.length) 0) X q q' (by simp; omega) (by omega)
    rw [rrS_ok _ hnet (by omega) hwr, ← hst, form_run hdw hcw (by omega) (by omega) (fun v h => (hP v h).1) hQ X [] [] [] 0 hX (by simp) (by simp), hst] at er
    generalize (runA (formOneS P Q (dataS dk) (coefS ck)) [] (List.replicate (P.length - 1 + Q.length) 0) 0 X).2 = Z at *
    (repeat' (first | (refine CmpP.go (fun hc => ?_) (fun hc => ?_) <;> first | (exfalso; omega) | (conv => whnf)) | (refine Req.go (by omega) ?_; conv => whnf) | (refine OpP.add (by omega) ?_; conv => whnf) | (refine OpP.sub (by omega) ?_; conv => whnf) | (refine OpP.mul (by omega) ?_; conv => whnf) | (refine OpP.shr (by omega) ?_; conv => whnf) | (refine OpP.shl1 (by omega) (fun _ _ => ?_); conv => whnf) | (refine OpP.andm (by omega) (fun _ _ => ?_); conv => whnf) | (refine OpP.rem (by omega) (fun _ _ _ => ?_) (fun _ _ _ _ => ?_) <;> first | (exfalso; omega) | (conv => whnf)) | (refine OpP.quo (by omega) (by omega) (fun _ => ?_) (fun _ _ => ?_) <;> first | (exfalso; omega) | (conv => whnf)) | (refine OpP.and1 ?_; conv => whnf) | (refine OpP.wadd ?_; conv => whnf) | (refine OpP.wsub ?_; conv => whnf) | (refine OpP.wmul ?_; conv => whnf) | (refine UnP.neg (by omega) ?_; conv => whnf) | (refine ConvP.u64 (by omega) ?_; conv => whnf) | (refine ConvP.i64 (by omega) ?_; conv => whnf) | (refine LenP.go ?_; conv => whnf) | (refine RdP.at (by assumption) (by omega) rfl ?_; conv => whnf) | (refine RdP.nat (by omega) (fun _ => rfl) (fun e he => ?_); conv => whnf) | (refine RdP.go (by omega) (fun _ => rfl) (fun e he => ?_); conv => whnf) | (refine LdR.nat (by omega) (fun _ => rfl) (fun v hv => ?_); conv => whnf) | (refine LdR.int (by omega) (fun _ => rfl) (fun v hv => ?_); conv => whnf) | (refine SnR.all (fun _ => rfl) rfl (by first | rfl | simp) ?_; conv => whnf) | (refine RowP.all rfl (by first | rfl | simp) ?_; conv => whnf) | (refine RowP.e1 ?_; conv => whnf) | (refine LdM.nat (by omega) (fun r hr => ?_); conv => whnf) | (refine GetM.ati (by assumption) ?_; conv => whnf) | (refine SnM.all (fun _ => rfl) rfl (by first | rfl | simp) ?_; conv => whnf) | (refine SnR.e1 rfl ?_; conv => whnf) | (refine AKM.x ?_; conv => whnf) | (refine AKM.y ?_; conv => whnf) | (refine CallP.go (ev_law23_known I J R D) ?_; conv => whnf) | (refine CallP.go (ev_world_Data W dk h1) ?_; conv => whnf) | (refine CallP.go (ev_world_Coef W ck h2) ?_; conv => whnf) | (refine CallP.go (w1) ?_; conv => whnf) | (refine CallP.go (w2) ?_; conv => whnf) | (refine CallP.go (eb _) ?_; conv => whnf) | (refine CallP.go (ea _) ?_; conv => whnf) | (refine CallP.go (ew _) ?_; conv => whnf) | (refine CallP.go (ef _ _) ?_; conv => whnf) | (refine CallP.go (er _ _) ?_; conv => whnf)))
    refine MkR.go (enc := encInt) 0 (P.length - 1 + Q.length) rfl (by omega) (by omega) ?_
    (conv => whnf)
    (repeat' (first | (refine CmpP.go (fun hc => ?_) (fun hc => ?_) <;> first | (exfalso; omega) | (conv => whnf)) | (refine Req.go (by omega) ?_; conv => whnf) | (refine OpP.add (by omega) ?_; conv => whnf) | (refine OpP.sub (by omega) ?_; conv => whnf) | (refine OpP.mul (by omega) ?_; conv => whnf) | (refine OpP.shr (by omega) ?_; conv => whnf) | (refine OpP.shl1 (by omega) (fun _ _ => ?_); conv => whnf) | (refine OpP.andm (by omega) (fun _ _ => ?_); conv => whnf) | (refine OpP.rem (by omega) (fun _ _ _ => ?_) (fun _ _ _ _ => ?_) <;> first | (exfalso; omega) | (conv => whnf)) | (refine OpP.quo (by omega) (by omega) (fun _ => ?_) (fun _ _ => ?_) <;> first | (exfalso; omega) | (conv => whnf)) | (refine OpP.and1 ?_; conv => whnf) | (refine OpP.wadd ?_; conv => whnf) | (refine OpP.wsub ?_; conv => whnf) | (refine OpP.wmul ?_; conv => whnf) | (refine UnP.neg (by omega) ?_; conv => whnf) | (refine ConvP.u64 (by omega) ?_; conv => whnf) | (refine ConvP.i64 (by omega) ?_; conv => whnf) | (refine LenP.go ?_; conv => whnf) | (refine RdP.at (by assumption) (by omega) rfl ?_; conv => whnf) | (refine RdP.nat (by omega) (fun _ => rfl) (fun e he => ?_); conv => whnf) | (refine RdP.go (by omega) (fun _ => rfl) (fun e he => ?_); conv => whnf) | (refine LdR.nat (by omega) (fun _ => rfl) (fun v hv => ?_); conv => whnf) | (refine LdR.int (by omega) (fun _ => rfl) (fun v hv => ?_); conv => whnf) | (refine SnR.all (fun _ => rfl) rfl (by first | rfl | simp) ?_; conv => whnf) | (refine RowP.all rfl (by first | rfl | simp) ?_; conv => whnf) | (refine RowP.e1 ?_; conv => whnf) | (refine LdM.nat (by omega) (fun r hr => ?_); conv => whnf) | (refine GetM.ati (by assumption) ?_; conv => whnf) | (refine SnM.all (fun _ => rfl) rfl (by first | rfl | simp) ?_; conv => whnf) | (refine SnR.e1 rfl ?_; conv => whnf) | (refine AKM.x ?_; conv => whnf) | (refine AKM.y ?_; conv => whnf) | (refine CallP.go (er _ _) ?_; conv => whnf)))
    refine AKM.loop2 (fun i _ => X.length - i) (fun (i : Nat) (y : List Int) => i ≤ X.length ∧ y.length = i ∧ (∀ v ∈ y, FT (dataS dk) v) ∧ recO P Q (dataS dk) (coefS ck) [] [] X = y ++ recO P Q (dataS dk) (coefS ck) (X.take i).reverse y.reverse (X.drop i)) (fun i y => [(22, .row 22 0 1 0 y.length), (23, .int .i64 i)]) (fun i y => [(22, 22, .rw 1 (y.map encInt))]) [] [] 0 [] (by (conv => whnf); exact ⟨rfl, rfl, rfl⟩) ⟨by omega, rfl, by simp, by simp⟩ ?_
    intro i y ⟨p1, p2, p3, p4⟩ ih
    by_cases hi : i < X.length
    · obtain ⟨x, hx⟩ : ∃ x, X[i]? = some x := ⟨_, List.getElem?_eq_getElem hi⟩
      (repeat' (first | (refine CmpP.go (fun hc => ?_) (fun hc => ?_) <;> first | (exfalso; omega) | (conv => whnf)) | (refine Req.go (by omega) ?_; conv => whnf) | (refine OpP.add (by omega) ?_; conv => whnf) | (refine OpP.sub (by omega) ?_; conv => whnf) | (refine OpP.mul (by omega) ?_; conv => whnf) | (refine OpP.shr (by omega) ?_; conv => whnf) | (refine OpP.shl1 (by omega) (fun _ _ => ?_); conv => whnf) | (refine OpP.andm (by omega) (fun _ _ => ?_); conv => whnf) | (refine OpP.rem (by omega) (fun _ _ _ => ?_) (fun _ _ _ _ => ?_) <;> first | (exfalso; omega) | (conv => whnf)) | (refine OpP.quo (by omega) (by omega) (fun _ => ?_) (fun _ _ => ?_) <;> first | (exfalso; omega) | (conv => whnf)) | (refine OpP.and1 ?_; conv => whnf) | (refine OpP.wadd ?_; conv => whnf) | (refine OpP.wsub ?_; conv => whnf) | (refine OpP.wmul ?_; conv => whnf) | (refine UnP.neg (by omega) ?_; conv => whnf) | (refine ConvP.u64 (by omega) ?_; conv => whnf) | (refine ConvP.i64 (by omega) ?_; conv => whnf) | (refine LenP.go ?_; conv => whnf) | (refine RdP.at (by assumption) (by omega) rfl ?_; conv => whnf) | (refine RdP.nat (by omega) (fun _ => rfl) (fun e he => ?_); conv => whnf) | (refine RdP.go (by omega) (fun _ => rfl) (fun e he => ?_); conv => whnf) | (refine LdR.nat (by omega) (fun _ => rfl) (fun v hv => ?_); conv => whnf) | (refine LdR.int (by omega) (fun _ => rfl) (fun v hv => ?_); conv => whnf) | (refine SnR.all (fun _ => rfl) rfl (by first | rfl | simp) ?_; conv => whnf) | (refine RowP.all rfl (by first | rfl | simp) ?_; conv => whnf) | (refine RowP.e1 ?_; conv => whnf) | (refine LdM.nat (by omega) (fun r hr => ?_); conv => whnf) | (refine GetM.ati (by assumption) ?_; conv => whnf) | (refine SnM.all (fun _ => rfl) rfl (by first | rfl | simp) ?_; conv => whnf) | (refine SnR.e1 rfl ?_; conv => whnf) | (refine AKM.x ?_; conv => whnf) | (refine AKM.y ?_; conv => whnf)))
      refine AKM.loop2 (fun k _ => P.length - k) (fun (k : Nat) (s : Int) => k ≤ P.length ∧ k ≤ i + 1 ∧ s + dot (P.drop k) ((X.take (i + 1)).reverse.drop k) = dot P (X.take (i + 1)).reverse ∧ -70368744177664 * k ≤ s ∧ s ≤ 70368744177664 * k) (fun k s => [(24, .int .i64 s), (25, .int .i64 k)]) (fun _ _ => []) [] [] 0 0 (by (conv => whnf); exact ⟨rfl, rfl, rfl⟩) ⟨by omega, by omega, by simp, by omega, by omega⟩ ?_
      intro k s ⟨s1, s2, s3, s4, s5⟩ ih2
      by_cases hk : k < P.length ∧ k ≤ i
      · obtain ⟨u, hu⟩ : ∃ u, P[k]? = some u := ⟨_, List.getElem?_eq_getElem hk.1⟩
        obtain ⟨v, hv⟩ : ∃ v, X[i - k]? = some v := ⟨_, List.getElem?_eq_getElem (by omega)⟩
        have hm := mul_bd (FT_le (hP u (List.mem_of_getElem? hu)).1) (FT_le (hX v (List.mem_of_getElem? hv)))
        have hds := dot_step hu (rev_at hk.2 hi hv)
        rw [hds] at s3
        (repeat' (first | (refine CmpP.go (fun hc => ?_) (fun hc => ?_) <;> first | (exfalso; omega) | (conv => whnf)) | (refine Req.go (by omega) ?_; conv => whnf) | (refine OpP.add (by omega) ?_; conv => whnf) | (refine OpP.sub (by omega) ?_; conv => whnf) | (refine OpP.mul (by omega) ?_; conv => whnf) | (refine OpP.shr (by omega) ?_; conv => whnf) | (refine OpP.shl1 (by omega) (fun _ _ => ?_); conv => whnf) | (refine OpP.andm (by omega) (fun _ _ => ?_); conv => whnf) | (refine OpP.rem (by omega) (fun _ _ _ => ?_) (fun _ _ _ _ => ?_) <;> first | (exfalso; omega) | (conv => whnf)) | (refine OpP.quo (by omega) (by omega) (fun _ => ?_) (fun _ _ => ?_) <;> first | (exfalso; omega) | (conv => whnf)) | (refine OpP.and1 ?_; conv => whnf) | (refine OpP.wadd ?_; conv => whnf) | (refine OpP.wsub ?_; conv => whnf) | (refine OpP.wmul ?_; conv => whnf) | (refine UnP.neg (by omega) ?_; conv => whnf) | (refine ConvP.u64 (by omega) ?_; conv => whnf) | (refine ConvP.i64 (by omega) ?_; conv => whnf) | (refine LenP.go ?_; conv => whnf) | (refine RdP.at (by assumption) (by omega) rfl ?_; conv => whnf) | (refine RdP.nat (by omega) (fun _ => rfl) (fun e he => ?_); conv => whnf) | (refine RdP.go (by omega) (fun _ => rfl) (fun e he => ?_); conv => whnf) | (refine LdR.nat (by omega) (fun _ => rfl) (fun v hv => ?_); conv => whnf) | (refine LdR.int (by omega) (fun _ => rfl) (fun v hv => ?_); conv => whnf) | (refine SnR.all (fun _ => rfl) rfl (by first | rfl | simp) ?_; conv => whnf) | (refine RowP.all rfl (by first | rfl | simp) ?_; conv => whnf) | (refine RowP.e1 ?_; conv => whnf) | (refine LdM.nat (by omega) (fun r hr => ?_); conv => whnf) | (refine GetM.ati (by assumption) ?_; conv => whnf) | (refine SnM.all (fun _ => rfl) rfl (by first | rfl | simp) ?_; conv => whnf) | (refine SnR.e1 rfl ?_; conv => whnf) | (refine AKM.x ?_; conv => whnf) | (refine AKM.y ?_; conv => whnf)))
        rw [show ((i : Int) - k).toNat = i - k by omega, hv] at he
        obtain rfl : v = e := by simpa using he
        have hw : IntKind.i64.wrap (s + IntKind.i64.wrap (u * v)) = s + u * v := by rw [IntWalk.i64_in (u * v) (by omega), IntWalk.i64_in _ (by omega)]
        rw [hw]
        exact AKM.back [] (by (conv => whnf); exact ⟨rfl, rfl, rfl⟩) (ih2 (k + 1) _ (by omega) ⟨by omega, by omega, by omega, by omega, by omega⟩)
      · rw [dot_done (by simp; omega), Int.add_zero] at s3
        (repeat' (first | (refine CmpP.go (fun hc => ?_) (fun hc => ?_) <;> first | (exfalso; omega) | (conv => whnf)) | (refine Req.go (by omega) ?_; conv => whnf) | (refine OpP.add (by omega) ?_; conv => whnf) | (refine OpP.sub (by omega) ?_; conv => whnf) | (refine OpP.mul (by omega) ?_; conv => whnf) | (refine OpP.shr (by omega) ?_; conv => whnf) | (refine OpP.shl1 (by omega) (fun _ _ => ?_); conv => whnf) | (refine OpP.andm (by omega) (fun _ _ => ?_); conv => whnf) | (refine OpP.rem (by omega) (fun _ _ _ => ?_) (fun _ _ _ _ => ?_) <;> first | (exfalso; omega) | (conv => whnf)) | (refine OpP.quo (by omega) (by omega) (fun _ => ?_) (fun _ _ => ?_) <;> first | (exfalso; omega) | (conv => whnf)) | (refine OpP.and1 ?_; conv => whnf) | (refine OpP.wadd ?_; conv => whnf) | (refine OpP.wsub ?_; conv => whnf) | (refine OpP.wmul ?_; conv => whnf) | (refine UnP.neg (by omega) ?_; conv => whnf) | (refine ConvP.u64 (by omega) ?_; conv => whnf) | (refine ConvP.i64 (by omega) ?_; conv => whnf) | (refine LenP.go ?_; conv => whnf) | (refine RdP.at (by assumption) (by omega) rfl ?_; conv => whnf) | (refine RdP.nat (by omega) (fun _ => rfl) (fun e he => ?_); conv => whnf) | (refine RdP.go (by omega) (fun _ => rfl) (fun e he => ?_); conv => whnf) | (refine LdR.nat (by omega) (fun _ => rfl) (fun v hv => ?_); conv => whnf) | (refine LdR.int (by omega) (fun _ => rfl) (fun v hv => ?_); conv => whnf) | (refine SnR.all (fun _ => rfl) rfl (by first | rfl | simp) ?_; conv => whnf) | (refine RowP.all rfl (by first | rfl | simp) ?_; conv => whnf) | (refine RowP.e1 ?_; conv => whnf) | (refine LdM.nat (by omega) (fun r hr => ?_); conv => whnf) | (refine GetM.ati (by assumption) ?_; conv => whnf) | (refine SnM.all (fun _ => rfl) rfl (by first | rfl | simp) ?_; conv => whnf) | (refine SnR.e1 rfl ?_; conv => whnf) | (refine AKM.x ?_; conv => whnf) | (refine AKM.y ?_; conv => whnf)))
        all_goals (
          refine AKM.loop2 (fun k _ => Q.length - k) (fun (k : Nat) (s : Int) => k ≤ Q.length ∧ k ≤ i ∧ s - dot (Q.drop k) (y.reverse.drop k) = dot P (X.take (i + 1)).reverse - dot Q y.reverse ∧ -70368744177664 * (k + 10) ≤ s ∧ s ≤ 70368744177664 * (k + 10)) (fun k s => [(24, .int .i64 s), (26, .int .i64 k)]) (fun _ _ => []) [] [] 0 s (by (conv => whnf); exact ⟨rfl, rfl, rfl⟩) ⟨by omega, by omega, by simp [s3], by omega, by omega⟩ ?_
          clear s1 s2 s3 s4 s5 ih2 hk
          intro k s ⟨s1, s2, s3, s4, s5⟩ ih2
          by_cases hk : k < Q.length ∧ k < i
          · obtain ⟨u, hu⟩ : ∃ u, Q[k]? = some u := ⟨_, List.getElem?_eq_getElem hk.1⟩
            obtain ⟨vv, hvv⟩ : ∃ v, y[i - 1 - k]? = some v := ⟨_, List.getElem?_eq_getElem (by omega)⟩
            have hm := mul_bd (FT_le (hQ u (List.mem_of_getElem? hu)).1) (FT_le (p3 vv (List.mem_of_getElem? hvv)))
            have hds := dot_step hu (rev_at' p2 hk.2 hvv)
            rw [hds] at s3
            (repeat' (first | (refine CmpP.go (fun hc => ?_) (fun hc => ?_) <;> first | (exfalso; omega) | (conv => whnf)) | (refine Req.go (by omega) ?_; conv => whnf) | (refine OpP.add (by omega) ?_; conv => whnf) | (refine OpP.sub (by omega) ?_; conv => whnf) | (refine OpP.mul (by omega) ?_; conv => whnf) | (refine OpP.shr (by omega) ?_; conv => whnf) | (refine OpP.shl1 (by omega) (fun _ _ => ?_); conv => whnf) | (refine OpP.andm (by omega) (fun _ _ => ?_); conv => whnf) | (refine OpP.rem (by omega) (fun _ _ _ => ?_) (fun _ _ _ _ => ?_) <;> first | (exfalso; omega) | (conv => whnf)) | (refine OpP.quo (by omega) (by omega) (fun _ => ?_) (fun _ _ => ?_) <;> first | (exfalso; omega) | (conv => whnf)) | (refine OpP.and1 ?_; conv => whnf) | (refine OpP.wadd ?_; conv => whnf) | (refine OpP.wsub ?_; conv => whnf) | (refine OpP.wmul ?_; conv => whnf) | (refine UnP.neg (by omega) ?_; conv => whnf) | (refine ConvP.u64 (by omega) ?_; conv => whnf) | (refine ConvP.i64 (by omega) ?_; conv => whnf) | (refine LenP.go ?_; conv => whnf) | (refine RdP.at (by assumption) (by omega) rfl ?_; conv => whnf) | (refine RdP.nat (by omega) (fun _ => rfl) (fun e he => ?_); conv => whnf) | (refine RdP.go (by omega) (fun _ => rfl) (fun e he => ?_); conv => whnf) | (refine LdR.nat (by omega) (fun _ => rfl) (fun v hv => ?_); conv => whnf) | (refine LdR.int (by omega) (fun _ => rfl) (fun v hv => ?_); conv => whnf) | (refine SnR.all (fun _ => rfl) rfl (by first | rfl | simp) ?_; conv => whnf) | (refine RowP.all rfl (by first | rfl | simp) ?_; conv => whnf) | (refine RowP.e1 ?_; conv => whnf) | (refine LdM.nat (by omega) (fun r hr => ?_); conv => whnf) | (refine GetM.ati (by assumption) ?_; conv => whnf) | (refine SnM.all (fun _ => rfl) rfl (by first | rfl | simp) ?_; conv => whnf) | (refine SnR.e1 rfl ?_; conv => whnf) | (refine AKM.x ?_; conv => whnf) | (refine AKM.y ?_; conv => whnf)))
            rw [show ((i : Int) - 1 - k).toNat = i - 1 - k by omega, hvv] at hv
            obtain rfl : vv = v := by simpa using hv
            have hw : IntKind.i64.wrap (s - IntKind.i64.wrap (u * vv)) = s - u * vv := by rw [IntWalk.i64_in (u * vv) (by omega), IntWalk.i64_in _ (by omega)]
            rw [hw]
            exact AKM.back [] (by (conv => whnf); exact ⟨rfl, rfl, rfl⟩) (ih2 (k + 1) _ (by omega) ⟨by omega, by omega, by omega, by omega, by omega⟩)
          · rw [dot_done (by simp; omega), Int.sub_zero] at s3
            have hsI : InI s := ⟨by omega, by omega⟩
            have hsh := ev_ref21_Shift I s (coefS ck).f (dataS dk).r hsI
            have hrd := ev_ref21_Reduce (dataS dk) I (shiftS s (coefS ck).f (dataS dk).r)
            have hnew : redS (dataS dk) (shiftS s (coefS ck).f (dataS dk).r) = outF P Q (dataS dk) (coefS ck) (x :: (X.take i).reverse) y.reverse := by rw [outF, ← rev_take hx, s3]
            rw [hnew] at hrd
            (repeat' (first | (refine CmpP.go (fun hc => ?_) (fun hc => ?_) <;> first | (exfalso; omega) | (conv => whnf)) | (refine Req.go (by omega) ?_; conv => whnf) | (refine OpP.add (by omega) ?_; conv => whnf) | (refine OpP.sub (by omega) ?_; conv => whnf) | (refine OpP.mul (by omega) ?_; conv => whnf) | (refine OpP.shr (by omega) ?_; conv => whnf) | (refine OpP.shl1 (by omega) (fun _ _ => ?_); conv => whnf) | (refine OpP.andm (by omega) (fun _ _ => ?_); conv => whnf) | (refine OpP.rem (by omega) (fun _ _ _ => ?_) (fun _ _ _ _ => ?_) <;> first | (exfalso; omega) | (conv => whnf)) | (refine OpP.quo (by omega) (by omega) (fun _ => ?_) (fun _ _ => ?_) <;> first | (exfalso; omega) | (conv => whnf)) | (refine OpP.and1 ?_; conv => whnf) | (refine OpP.wadd ?_; conv => whnf) | (refine OpP.wsub ?_; conv => whnf) | (refine OpP.wmul ?_; conv => whnf) | (refine UnP.neg (by omega) ?_; conv => whnf) | (refine ConvP.u64 (by omega) ?_; conv => whnf) | (refine ConvP.i64 (by omega) ?_; conv => whnf) | (refine LenP.go ?_; conv => whnf) | (refine RdP.at (by assumption) (by omega) rfl ?_; conv => whnf) | (refine RdP.nat (by omega) (fun _ => rfl) (fun e he => ?_); conv => whnf) | (refine RdP.go (by omega) (fun _ => rfl) (fun e he => ?_); conv => whnf) | (refine LdR.nat (by omega) (fun _ => rfl) (fun v hv => ?_); conv => whnf) | (refine LdR.int (by omega) (fun _ => rfl) (fun v hv => ?_); conv => whnf) | (refine SnR.all (fun _ => rfl) rfl (by first | rfl | simp) ?_; conv => whnf) | (refine RowP.all rfl (by first | rfl | simp) ?_; conv => whnf) | (refine RowP.e1 ?_; conv => whnf) | (refine LdM.nat (by omega) (fun r hr => ?_); conv => whnf) | (refine GetM.ati (by assumption) ?_; conv => whnf) | (refine SnM.all (fun _ => rfl) rfl (by first | rfl | simp) ?_; conv => whnf) | (refine SnR.e1 rfl ?_; conv => whnf) | (refine AKM.x ?_; conv => whnf) | (refine AKM.y ?_; conv => whnf) | (refine CallP.go (hsh) ?_; conv => whnf) | (refine CallP.go (hrd) ?_; conv => whnf)))
            all_goals (
              refine AppR.one (enc := encInt) _ rfl rfl rfl (by omega) (by omega) ?_
              (conv => whnf)
              (repeat' (first | (refine CmpP.go (fun hc => ?_) (fun hc => ?_) <;> first | (exfalso; omega) | (conv => whnf)) | (refine Req.go (by omega) ?_; conv => whnf) | (refine OpP.add (by omega) ?_; conv => whnf) | (refine OpP.sub (by omega) ?_; conv => whnf) | (refine OpP.mul (by omega) ?_; conv => whnf) | (refine OpP.shr (by omega) ?_; conv => whnf) | (refine OpP.shl1 (by omega) (fun _ _ => ?_); conv => whnf) | (refine OpP.andm (by omega) (fun _ _ => ?_); conv => whnf) | (refine OpP.rem (by omega) (fun _ _ _ => ?_) (fun _ _ _ _ => ?_) <;> first | (exfalso; omega) | (conv => whnf)) | (refine OpP.quo (by omega) (by omega) (fun _ => ?_) (fun _ _ => ?_) <;> first | (exfalso; omega) | (conv => whnf)) | (refine OpP.and1 ?_; conv => whnf) | (refine OpP.wadd ?_; conv => whnf) | (refine OpP.wsub ?_; conv => whnf) | (refine OpP.wmul ?_; conv => whnf) | (refine UnP.neg (by omega) ?_; conv => whnf) | (refine ConvP.u64 (by omega) ?_; conv => whnf) | (refine ConvP.i64 (by omega) ?_; conv => whnf) | (refine LenP.go ?_; conv => whnf) | (refine RdP.at (by assumption) (by omega) rfl ?_; conv => whnf) | (refine RdP.nat (by omega) (fun _ => rfl) (fun e he => ?_); conv => whnf) | (refine RdP.go (by omega) (fun _ => rfl) (fun e he => ?_); conv => whnf) | (refine LdR.nat (by omega) (fun _ => rfl) (fun v hv => ?_); conv => whnf) | (refine LdR.int (by omega) (fun _ => rfl) (fun v hv => ?_); conv => whnf) | (refine SnR.all (fun _ => rfl) rfl (by first | rfl | simp) ?_; conv => whnf) | (refine RowP.all rfl (by first | rfl | simp) ?_; conv => whnf) | (refine RowP.e1 ?_; conv => whnf) | (refine LdM.nat (by omega) (fun r hr => ?_); conv => whnf) | (refine GetM.ati (by assumption) ?_; conv => whnf) | (refine SnM.all (fun _ => rfl) rfl (by first | rfl | simp) ?_; conv => whnf) | (refine SnR.e1 rfl ?_; conv => whnf) | (refine AKM.x ?_; conv => whnf) | (refine AKM.y ?_; conv => whnf)))
              refine AKM.back [(22, 151)] (by (conv => whnf); exact ⟨rfl, rfl, rfl⟩) (ih (i + 1) _ (by omega) ⟨by omega, by simp [p2], ?_, ?_⟩)
              · intro v hv
                rcases List.mem_append.1 hv with h | h
                · exact p3 v h
                · rw [List.mem_singleton.1 h]; exact red_ok hdw _
              · rw [p4, drop_cons hx, recO, rev_take hx]; simp))
    · have hy : recO P Q (dataS dk) (coefS ck) [] [] X = y := by rw [p4, List.drop_of_length_le (by omega), recO, List.append_nil]
      have hy1 : ([] ++ recO P Q (dataS dk) (coefS ck) [] [] X).length < 9223372036854775808 := by rw [List.nil_append, hy]; omega
      have hy2 : y.length < 9223372036854775808 := by omega
      (repeat' (first | (refine CmpP.go (fun hc => ?_) (fun hc => ?_) <;> first | (exfalso; omega) | (conv => whnf)) | (refine Req.go (by omega) ?_; conv => whnf) | (refine OpP.add (by omega) ?_; conv => whnf) | (refine OpP.sub (by omega) ?_; conv => whnf) | (refine OpP.mul (by omega) ?_; conv => whnf) | (refine OpP.shr (by omega) ?_; conv => whnf) | (refine OpP.shl1 (by omega) (fun _ _ => ?_); conv => whnf) | (refine OpP.andm (by omega) (fun _ _ => ?_); conv => whnf) | (refine OpP.rem (by omega) (fun _ _ _ => ?_) (fun _ _ _ _ => ?_) <;> first | (exfalso; omega) | (conv => whnf)) | (refine OpP.quo (by omega) (by omega) (fun _ => ?_) (fun _ _ => ?_) <;> first | (exfalso; omega) | (conv => whnf)) | (refine OpP.and1 ?_; conv => whnf) | (refine OpP.wadd ?_; conv => whnf) | (refine OpP.wsub ?_; conv => whnf) | (refine OpP.wmul ?_; conv => whnf) | (refine UnP.neg (by omega) ?_; conv => whnf) | (refine ConvP.u64 (by omega) ?_; conv => whnf) | (refine ConvP.i64 (by omega) ?_; conv => whnf) | (refine LenP.go ?_; conv => whnf) | (refine RdP.at (by assumption) (by omega) rfl ?_; conv => whnf) | (refine RdP.nat (by omega) (fun _ => rfl) (fun e he => ?_); conv => whnf) | (refine RdP.go (by omega) (fun _ => rfl) (fun e he => ?_); conv => whnf) | (refine LdR.nat (by omega) (fun _ => rfl) (fun v hv => ?_); conv => whnf) | (refine LdR.int (by omega) (fun _ => rfl) (fun v hv => ?_); conv => whnf) | (refine SnR.all (fun _ => rfl) rfl (by first | rfl | simp) ?_; conv => whnf) | (refine RowP.all rfl (by first | rfl | simp) ?_; conv => whnf) | (refine RowP.e1 ?_; conv => whnf) | (refine LdM.nat (by omega) (fun r hr => ?_); conv => whnf) | (refine GetM.ati (by assumption) ?_; conv => whnf) | (refine SnM.all (fun _ => rfl) rfl (by first | rfl | simp) ?_; conv => whnf) | (refine SnR.e1 rfl ?_; conv => whnf) | (refine AKM.x ?_; conv => whnf) | (refine AKM.y ?_; conv => whnf) | (refine CallP.go (ev_law23_known I J R D) ?_; conv => whnf) | (refine CallP.b (ev_ref21_SameInts I _ _ _ _ hy1 hy2) (fun hf => ?_) (fun hf => ?_) <;> (conv => whnf))))
      · exact FinP.b rfl
      · exact absurd (by rw [List.nil_append, hy]) hf
      · exact absurd rfl hc
  · (repeat' (first | (refine CmpP.go (fun hc => ?_) (fun hc => ?_) <;> first | (exfalso; omega) | (conv => whnf)) | (refine Req.go (by omega) ?_; conv => whnf) | (refine OpP.add (by omega) ?_; conv => whnf) | (refine OpP.sub (by omega) ?_; conv => whnf) | (refine OpP.mul (by omega) ?_; conv => whnf) | (refine OpP.shr (by omega) ?_; conv => whnf) | (refine OpP.shl1 (by omega) (fun _ _ => ?_); conv => whnf) | (refine OpP.andm (by omega) (fun _ _ => ?_); conv => whnf) | (refine OpP.rem (by omega) (fun _ _ _ => ?_) (fun _ _ _ _ => ?_) <;> first | (exfalso; omega) | (conv => whnf)) | (refine OpP.quo (by omega) (by omega) (fun _ => ?_) (fun _ _ => ?_) <;> first | (exfalso; omega) | (conv => whnf)) | (refine OpP.and1 ?_; conv => whnf) | (refine OpP.wadd ?_; conv => whnf) | (refine OpP.wsub ?_; conv => whnf) | (refine OpP.wmul ?_; conv => whnf) | (refine UnP.neg (by omega) ?_; conv => whnf) | (refine ConvP.u64 (by omega) ?_; conv => whnf) | (refine ConvP.i64 (by omega) ?_; conv => whnf) | (refine LenP.go ?_; conv => whnf) | (refine RdP.at (by assumption) (by omega) rfl ?_; conv => whnf) | (refine RdP.nat (by omega) (fun _ => rfl) (fun e he => ?_); conv => whnf) | (refine RdP.go (by omega) (fun _ => rfl) (fun e he => ?_); conv => whnf) | (refine LdR.nat (by omega) (fun _ => rfl) (fun v hv => ?_); conv => whnf) | (refine LdR.int (by omega) (fun _ => rfl) (fun v hv => ?_); conv => whnf) | (refine SnR.all (fun _ => rfl) rfl (by first | rfl | simp) ?_; conv => whnf) | (refine RowP.all rfl (by first | rfl | simp) ?_; conv => whnf) | (refine RowP.e1 ?_; conv => whnf) | (refine LdM.nat (by omega) (fun r hr => ?_); conv => whnf) | (refine GetM.ati (by assumption) ?_; conv => whnf) | (refine SnM.all (fun _ => rfl) rfl (by first | rfl | simp) ?_; conv => whnf) | (refine SnR.e1 rfl ?_; conv => whnf) | (refine AKM.x ?_; conv => whnf) | (refine AKM.y ?_; conv => whnf) | (refine CallP.go (ev_law23_known I J R D) ?_; conv => whnf)))
    exact FinP.b rfl
end Go.Eng
