/-
  Direct forms: the reference's Numbers and Ideal.
-/
import Derived.Test.YtdehnieflanifaaGreatB9
import Derived.Test.YtdehnieflanifaaGreatB10
import Derived.Test.YtdehnieflanifaaGreatB8
import Derived.Test.YtdehnieflanifaaGreatB7
import Derived.Test.YtdehnieflanifaaGreatB4
import Derived.Test.YtdehnieflanifaaGreatB3
import Derived.ProofKit
import Derived.OpenShut
import Derived.ChangeOld
import Derived.WalkKit
import Derived.WideShapes
import Derived.ChangeArms
set_option linter.unusedSimpArgs false
set_option linter.unusedVariables false
set_option linter.unnecessarySimpa false
namespace Go.Eng
open F
attribute [local irreducible] AKM CmpP Req OpP UnP ConvP RdP LdR StR MkR LenP AppR AppN CpyR RowP SnR Bds SlS CallP CalP FinP pw LdM GetM SetM PutM MkM AppM SnM FlP CallR
set_option maxHeartbeats 8000000
variable {L : Lib}
def numQ (c : Wd) (l : List Int) : List Rat := l.map fun v => Rat.divInt v (pw c.f)
theorem num_bt {c : Wd} (hc : WV c) {v : Int} (hv : -9223372036854775808 ≤ v ∧ v ≤ 9223372036854775807) : Bt 64 (Rat.divInt v (pw c.f)) := by
 unfold WV at hc
 have hpl := pw_le (n := c.f) (m := 23) (by omega)
 have hp23 : pw 23 = 8388608 := by unfold pw; rfl
 have hpp := pw_pos c.f
 obtain ⟨d, hd⟩ := Int.eq_ofNat_of_zero_le (show 0 ≤ pw c.f by omega)
 rw [hd, Rat.divInt_ofNat]
 rw [hd] at hpl
 refine Bt.mk ?_ ?_
 ·show _ ≤ 18446744073709551616; omega
 ·show _ ≤ 18446744073709551616; omega
theorem num_bs {c : Wd} (hc : WV c) {l : List Int} (hl : ∀ v ∈ l, -9223372036854775808 ≤ v ∧ v ≤ 9223372036854775807) : Bs 64 (numQ c l) := by
 intro x hx
 simp only [numQ, List.mem_map] at hx
 obtain ⟨v, hv, rfl⟩ := hx
 exact num_bt hc (hl v hv)
theorem numQ_len (c : Wd) (l : List Int) : (numQ c l).length = l.length := by simp [numQ]
theorem ev_Numbers0 (N : BldGLib L) (b : List Int) (q : Bool) (c : Wd) (hcw : WV c) (hb : 1 ≤ b.length ∧ b.length ≤ 1000) (hr : ∀ v ∈ b, -9223372036854775808 ≤ v ∧ v ≤ 9223372036854775807) : EvR L 185 [.nil, .sl q (b.map encInt), .agg (encW c)] 3 ((trimQ (numQ c b)).map eQ) := by
 have hc' := hcw
 unfold WV at hc'
 have hpl := pw_le (n := c.f) (m := 23) (by omega)
 have hp23 : pw 23 = 8388608 := by unfold pw; rfl
 have hpp := pw_pos c.f
 have hQb := num_bs hcw hr
 have hQl := numQ_len c b
 refine EvR.x N.ref23_Numbers rfl rfl ?_
 (repeat' (refine AKM.x ?_; conv => whnf))
 refine AKM.loop2 (fun i _ => b.length - i) (fun (i : Nat) (fl : Bool) => i ≤ b.length ∧ fl = decide (i = 0)) (fun i fl => [(8, .int .i64 i), (7, bif fl then .nil else .row 185027 0 3 0 i)]) (fun i fl => bif fl then [] else [(185027, 185027, .rw 3 (((numQ c b).take i).map eQ))]) [] [] 0 true (by (conv => whnf); exact ⟨rfl, rfl, rfl⟩) ⟨by omega, rfl⟩ ?_
 intro i fl ⟨p1, p2⟩ ih
 have hti : ((numQ c b).take i).length = i := by rw [List.length_take]; omega
 by_cases hi : i < b.length
 ·obtain ⟨v, hv⟩ : ∃ v, b[i]? = some v := ⟨_, List.getElem?_eq_getElem hi⟩
  have hv' : b[(i : Int).toNat]? = some v := hv
  have hvr := hr v (List.mem_of_getElem? hv)
  have hqi : (numQ c b)[i]? = some (Rat.divInt v (pw c.f)) := by rw [numQ, List.getElem?_map, hv]; rfl
  have hsn := take_snocQ hqi
  have hti1 : ((numQ c b).take (i + 1)).length = i + 1 := by rw [List.length_take]; omega
  have hF := ev_r3_Frac N.toRefGLib v (pw c.f) hvr (by omega)
  cases fl
  ·(repeat' (first | (refine CmpP.go (fun hc => ?_) (fun hc => ?_) <;> first | (exfalso; omega) | (conv => whnf)) | (refine OpP.shl1 (by omega) (fun _ _ => ?_); conv => whnf) | (refine ConvP.u64 (by omega) ?_; conv => whnf) | (refine LenP.go ?_; conv => whnf) | (refine RdP.at (by assumption) (by omega) rfl ?_; conv => whnf) | (refine RowP.e1 ?_; conv => whnf) | (refine AKM.x ?_; conv => whnf) | (refine CallP.go (hF) ?_; conv => whnf)))
   refine AppR.one (enc := eQ) (Rat.divInt v (pw c.f)) rfl hti.symm rfl (by omega) (by omega) ?_
   rw [← hsn, hti1]
   (conv => whnf)
   (repeat' (refine OpP.add (by omega) ?_; conv => whnf))
   exact AKM.back [(185027, 1185027)] (by (conv => whnf); exact ⟨rfl, rfl, rfl⟩) (ih (i + 1) false (by omega) ⟨by omega, by simp⟩)
  ·obtain rfl : i = 0 := by simpa using p2.symm
   (repeat' (first | (refine CmpP.go (fun hc => ?_) (fun hc => ?_) <;> first | (exfalso; omega) | (conv => whnf)) | (refine OpP.shl1 (by omega) (fun _ _ => ?_); conv => whnf) | (refine ConvP.u64 (by omega) ?_; conv => whnf) | (refine LenP.go ?_; conv => whnf) | (refine RdP.at (by assumption) (by omega) rfl ?_; conv => whnf) | (refine RowP.e1 ?_; conv => whnf) | (refine AKM.x ?_; conv => whnf) | (refine CallP.go (hF) ?_; conv => whnf)))
   refine AppN.one (enc := eQ) (Rat.divInt v (pw c.f)) rfl rfl (by omega) ?_
   rw [show [Rat.divInt v (pw c.f)] = (numQ c b).take (0 + 1) by rw [hsn]; rfl]
   (conv => whnf)
   (repeat' (refine OpP.add (by omega) ?_; conv => whnf))
   exact AKM.back [] (by (conv => whnf); exact ⟨rfl, rfl, rfl⟩) (ih (0 + 1) false (by omega) ⟨by omega, by simp⟩)
 ·obtain rfl : i = b.length := by omega
  cases fl
  ·rw [List.take_of_length_le (Nat.le_of_eq hQl)]
   clear ih hti
   generalize numQ c b = l at *
   rw [← hQl]
   have hbl := hQb
   (repeat' (first | (refine CmpP.go (fun hc => ?_) (fun hc => ?_) <;> first | (exfalso; omega) | (conv => whnf)) | (refine LenP.go ?_; conv => whnf) | (refine AKM.x ?_; conv => whnf)))
   refine CalP.walk 1000 N.ref05_Trim rfl rfl ?_
   (repeat' (refine AKM.x ?_; conv => whnf))
   refine AKM.loop1 (fun n => n) (fun (n : Nat) => n ≤ l.length ∧ cutN l l.length = cutN l n) (fun n => [(3, .int .i64 n)]) (fun _ => [(185027, 185027, .rw 3 (l.map eQ))]) [] [] l.length (by (conv => whnf); exact ⟨rfl, rfl, rfl⟩) ⟨Nat.le_refl _, rfl⟩ ?_
   intro n ⟨p1, p2⟩ ih
   have done : ∀ {n : Nat}, cutN l l.length = n → trimQ l = l.take n := fun h => by rw [trimQ, h]
   by_cases hz : n = 0 ∨ (∃ m x, n = m + 1 ∧ l[m]? = some x ∧ x ≠ 0)
   ·have hcut : cutN l l.length = n := by
     rw [p2]
     rcases hz with rfl | ⟨m, x, rfl, h1, h2⟩
     ·rfl
     ·rw [cutN, if_neg]
      rw [List.getD_eq_getElem?_getD, h1]; exact h2
    have htq := done hcut
    have htl : (l.take n).length = n := by rw [List.length_take]; omega
    clear ih hcut p2 done
    rcases hz with h0 | ⟨m, x, hnm, h1, h2⟩
    case' inl => (repeat' (first | (refine CmpP.go (fun hc => ?_) (fun hc => ?_) <;> first | (exfalso; omega) | (conv => whnf)) | (refine AKM.x ?_; conv => whnf)))
    case' inr =>
     have h1' : l[((n : Int) - 1).toNat]? = some x := by rw [show ((n : Int) - 1).toNat = m by omega]; exact h1
     obtain ⟨s, hS', hs⟩ := ev_sign3 N.toRefHLib (hbl.at h1) (by omega)
     have hS : ∀ v, l[((n : Int) - 1).toNat]? = some v → Ev L 155 [.agg (eQ v)] (.int .i64 s) := fun v h => by
      obtain rfl := Option.some.inj (h1'.symm.trans h)
      exact hS'
     have hs0 : s ≠ 0 := fun h => h2 (hs.1 h)
     (repeat' (first | (refine CmpP.go (fun hc => ?_) (fun hc => ?_) <;> first | (exfalso; omega) | (conv => whnf)) | (refine Req.go (by omega) ?_; conv => whnf) | (refine OpP.sub (by omega) ?_; conv => whnf) | (refine LdR.int (by omega) (fun _ => rfl) (fun v hv => ?_); conv => whnf) | (refine AKM.x ?_; conv => whnf) | (refine CallP.go (hS _ hv) ?_; conv => whnf)))
    all_goals
     refine Bds.up n (by omega) (by omega) ?_
     (conv => whnf)
     skip
     refine AKM.loop1 (fun i => n - i) (fun (i : Nat) => i ≤ n) (fun i => [(26, .int .i64 i), (4, .row 171004 0 3 0 i)]) (fun i => [(171004, 171004, .rw 3 ((l.take i).map eQ)), (185027, 185027, .rw 3 (l.map eQ))]) [] [] 0 (by (conv => whnf); exact ⟨rfl, rfl, rfl⟩) (by omega) ?_
     intro i g1 ih
     have hti : (l.take i).length = i := by rw [List.length_take]; omega
     by_cases hi : i < n
     ·all_goals try (exfalso; omega)
      all_goals
       obtain ⟨y, hy⟩ : ∃ y, l[i]? = some y := ⟨_, List.getElem?_eq_getElem (by omega)⟩
       have hy' : l[(i : Int).toNat]? = some y := hy
       have hsn := take_snocQ hy
       have hti1 : (l.take (i + 1)).length = i + 1 := by rw [List.length_take]; omega
       have hT' := ev_trim3 N.toRefGLib (hbl.at hy) (by omega)
       have hT : ∀ v, l[(i : Int).toNat]? = some v → Ev L 123 [.agg (eQ v)] (.agg (eQ y)) := fun v h => by
        obtain rfl := Option.some.inj (hy'.symm.trans h)
        exact hT'
       (repeat' (first | (refine CmpP.go (fun hc => ?_) (fun hc => ?_) <;> first | (exfalso; omega) | (conv => whnf)) | (refine Req.go (by omega) ?_; conv => whnf) | (refine LdR.nat (by omega) (fun _ => rfl) (fun v hv => ?_); conv => whnf) | (refine RowP.e1 ?_; conv => whnf) | (refine AKM.x ?_; conv => whnf) | (refine CallP.go (hT _ hv) ?_; conv => whnf)))
       refine AppR.one (enc := eQ) y rfl hti.symm rfl (by omega) (by omega) ?_
       rw [← hsn, hti1]
       (conv => whnf)
       (repeat' (refine OpP.add (by omega) ?_; conv => whnf))
       exact AKM.back [(171004, 171034)] (by (conv => whnf); exact ⟨rfl, rfl, rfl⟩) (ih (i + 1) (by omega) (by omega))
     ·obtain rfl : i = n := by omega
      clear ih
      rw [← htq] at htl ⊢
      (repeat' (first | (refine CmpP.go (fun hc => ?_) (fun hc => ?_) <;> first | (exfalso; omega) | (conv => whnf)) | (refine AKM.x ?_; conv => whnf)))
      refine ⟨rfl, _, rfl, ?_⟩
      (conv => whnf)
      skip
      exact ⟨rfl, rfl, by rw [List.length_map]; exact htl.symm, rfl, cl_eQs _⟩
   ·obtain ⟨m, rfl⟩ : ∃ m, n = m + 1 := ⟨n - 1, by omega⟩
    obtain ⟨x, hx⟩ : ∃ x, l[m]? = some x := ⟨_, List.getElem?_eq_getElem (by omega)⟩
    have hx0 : x = 0 := by
     rcases Classical.em (x = 0) with h | h
     ·exact h
     ·exact (hz (Or.inr ⟨m, x, rfl, hx, h⟩)).elim
    have hx' : l[((m + 1 : Nat) - 1 : Int).toNat]? = some x := by rw [show ((m + 1 : Nat) - 1 : Int).toNat = m by omega]; exact hx
    obtain ⟨s, hS', hs⟩ := ev_sign3 N.toRefHLib (hbl.at hx) (by omega)
    have hS : ∀ v, l[((m + 1 : Nat) - 1 : Int).toNat]? = some v → Ev L 155 [.agg (eQ v)] (.int .i64 s) := fun v h => by
     obtain rfl := Option.some.inj (hx'.symm.trans h)
     exact hS'
    have hs0 := hs.2 hx0
    (repeat' (first | (refine CmpP.go (fun hc => ?_) (fun hc => ?_) <;> first | (exfalso; omega) | (conv => whnf)) | (refine Req.go (by omega) ?_; conv => whnf) | (refine OpP.sub (by omega) ?_; conv => whnf) | (refine LdR.int (by omega) (fun _ => rfl) (fun v hv => ?_); conv => whnf) | (refine AKM.x ?_; conv => whnf) | (refine CallP.go (hS _ hv) ?_; conv => whnf)))
    rw [show ((m + 1 : Nat) : Int) - 1 = (m : Int) by omega]
    exact AKM.back [] (by (conv => whnf); exact ⟨rfl, rfl, rfl⟩) (ih m (by omega) ⟨by omega, by rw [p2, cutN, if_pos (by rw [List.getD_eq_getElem?_getD, hx]; exact hx0)]⟩)
  ·exfalso
   have := of_decide_eq_true p2.symm
   omega
theorem ev_Ideal3 (I : FixedLib L) (N : BldGLib L) (q1 q2 : Bool) {b a : List Int} {c : Wd} (h : OkD b a c c) (h0 : wrongD b a c c = 0) : Ev L 186 [.sl q1 (b.map encInt), .sl q2 (a.map encInt), .agg (encW c)] (.tup [.agg [.sl false ((trimQ (numQ c b)).map eQ), .sl false ((trimQ (((1 : Int) : Rat) :: numQ c a)).map eQ)], .int .i64 0]) := by
 have hw := fun q q' => ev_check I N b a q q' c c (by have := h.l1; omega) (by have := h.l2; omega)
 rw [h0] at hw
 obtain ⟨hd, hcw, l1, l2, wb, wa⟩ := h
 have rb : ∀ v ∈ b, -9223372036854775808 ≤ v ∧ v ≤ 9223372036854775807 := fun v hv => by have := FT_rng hcw (wb v hv); omega
 have ra : ∀ v ∈ a, -9223372036854775808 ≤ v ∧ v ≤ 9223372036854775807 := fun v hv => by have := FT_rng hcw (wa v hv).1; omega
 have hB := fun q => ev_Numbers0 N b q c hcw (by omega) rb
 have hO := ev_r3_Of N.toRefGLib 1 (by omega)
 have hc' := hcw
 unfold WV at hc'
 have hpl := pw_le (n := c.f) (m := 23) (by omega)
 have hp23 : pw 23 = 8388608 := by unfold pw; rfl
 have hpp := pw_pos c.f
 have hQa := num_bs hcw ra
 have hPl : (((1 : Int) : Rat) :: numQ c a).length = a.length + 1 := by rw [List.length_cons, numQ_len]
 have hbl : Bs 64 (((1 : Int) : Rat) :: numQ c a) := by
  intro x hx
  rcases List.mem_cons.1 hx with rfl | hx
  ·exact (Bt.one 64)
  ·exact hQa x hx
 refine Ev.x N.ref23_Ideal rfl rfl ?_
 (repeat' (first | (refine CmpP.go (fun hc => ?_) (fun hc => ?_) <;> first | (exfalso; omega) | (conv => whnf)) | (refine AKM.x ?_; conv => whnf) | (refine CallP.go (hw _ _) ?_; conv => whnf)))
 refine CallR.go (enc := eQ) _ (hB _) rfl ?_
 (conv => whnf)
 (repeat' (refine CallP.go (hO) ?_; conv => whnf))
 refine CalP.walk 1000 N.ref23_Numbers rfl rfl ?_
 (repeat' (refine AKM.x ?_; conv => whnf))
 have hQb := numQ_len c a
 generalize hl : ((1 : Int) : Rat) :: numQ c a = l at *
 have hl0 : l.take 1 = [((1 : Int) : Rat)] := by rw [← hl]; rfl
 have hat : ∀ i v, a[i]? = some v → l[i + 1]? = some (Rat.divInt v (pw c.f)) := fun i v h => by rw [← hl, List.getElem?_cons_succ, numQ, List.getElem?_map, h]; rfl
 rw [show ([[AV.bool (decide (((1 : Int) : Rat).num < 0)), AV.sl false ((dg ((1 : Int) : Rat).num.natAbs).map e32), AV.sl false ((dg ((1 : Int) : Rat).den).map e32)]] : List (List AV)) = (l.take (0 + 1)).map eQ by rw [hl0]; rfl]
 have hcl : Clean (.tup [.agg [.sl false ((trimQ (numQ c b)).map eQ), .sl false ((trimQ l).map eQ)], .int .i64 0]) := by
  simp only [Clean, CleanL, true_and, and_true]
  exact ⟨cl_eQs _, cl_eQs _⟩
 have hF := fun v (hv : v ∈ a) => ev_r3_Frac N.toRefGLib v (pw c.f) (ra v hv) (by omega)
 have ht1 : ∀ i, i ≤ a.length → (l.take (i + 1)).length = i + 1 := fun i h => by rw [List.length_take]; omega
 refine AKM.loop1 (fun _ => 0) (fun (k : Nat) => k = 1) (fun k => [(8, .int .i64 (0 : Nat)), (7, .row 22 0 3 0 k)]) (fun k => [(22, 22, .rw 3 ((l.take k).map eQ))]) [] [] 1 (by (conv => whnf); exact ⟨rfl, rfl, rfl⟩) rfl ?_
 intro k1 hk1 _
 by_cases h00 : 0 < a.length
 ·subst hk1
  obtain ⟨v, hv⟩ : ∃ v, a[0]? = some v := ⟨_, List.getElem?_eq_getElem h00⟩
  have hv' : a[(0 : Int).toNat]? = some v := hv
  have hv'' : a[((0 : Nat) : Int).toNat]? = some v := hv
  have hF := hF v (List.mem_of_getElem? hv)
  have hsn : l.take (0 + 1 + 1) = l.take 1 ++ [Rat.divInt v (pw c.f)] := take_snocQ (hat 0 v hv)
  have hti1 := ht1 (0 + 1) (by omega)
  have hti : (l.take 1).length = 1 := ht1 0 (by omega)
  (repeat' (first | (refine CmpP.go (fun hc => ?_) (fun hc => ?_) <;> first | (exfalso; omega) | (conv => whnf)) | (refine OpP.shl1 (by omega) (fun _ _ => ?_); conv => whnf) | (refine ConvP.u64 (by omega) ?_; conv => whnf) | (refine LenP.go ?_; conv => whnf) | (refine RdP.at (by assumption) (by omega) rfl ?_; conv => whnf) | (refine RowP.e1 ?_; conv => whnf) | (refine AKM.x ?_; conv => whnf) | (refine CallP.go (hF) ?_; conv => whnf)))
  refine AppR.one (enc := eQ) (Rat.divInt v (pw c.f)) rfl hti.symm rfl (by omega) (by omega) ?_
  rw [← hsn, hti1]
  (conv => whnf)
  (repeat' (refine OpP.add (by omega) ?_; conv => whnf))
  refine AKM.loop1 (fun i => a.length - i) (fun (i : Nat) => 1 ≤ i ∧ i ≤ a.length) (fun i => [(8, .int .i64 i), (7, .row 185027 0 3 0 (i + 1))]) (fun i => [(185027, 22, .rw 3 ((l.take (i + 1)).map eQ))]) [] [] 1 (by (conv => whnf); exact ⟨rfl, rfl, rfl⟩) (by omega) ?_
  intro i ⟨p0, p1⟩ ih
  have hti := ht1 i p1
  by_cases hi : i < a.length
  ·obtain ⟨v, hv⟩ : ∃ v, a[i]? = some v := ⟨_, List.getElem?_eq_getElem hi⟩
   have hv' : a[(i : Int).toNat]? = some v := hv
   have hF := ev_r3_Frac N.toRefGLib v (pw c.f) (ra v (List.mem_of_getElem? hv)) (by omega)
   have hsn := take_snocQ (hat i v hv)
   have hti1 := ht1 (i + 1) (by omega)
   (repeat' (first | (refine CmpP.go (fun hc => ?_) (fun hc => ?_) <;> first | (exfalso; omega) | (conv => whnf)) | (refine OpP.shl1 (by omega) (fun _ _ => ?_); conv => whnf) | (refine ConvP.u64 (by omega) ?_; conv => whnf) | (refine LenP.go ?_; conv => whnf) | (refine RdP.at (by assumption) (by omega) rfl ?_; conv => whnf) | (refine RowP.e1 ?_; conv => whnf) | (refine AKM.x ?_; conv => whnf) | (refine CallP.go (hF) ?_; conv => whnf)))
   refine AppR.one (enc := eQ) (Rat.divInt v (pw c.f)) rfl hti.symm rfl (by omega) (by omega) ?_
   rw [← hsn, hti1]
   (conv => whnf)
   (repeat' (refine OpP.add (by omega) ?_; conv => whnf))
   exact AKM.back [(185027, 1185027)] (by (conv => whnf); exact ⟨rfl, rfl, rfl⟩) (ih (i + 1) (by omega) (by omega))
  ·obtain rfl : i = a.length := by omega
   rw [← hPl, List.take_of_length_le (Nat.le_refl l.length)]
   clear ih hti
   (repeat' (first | (refine CmpP.go (fun hc => ?_) (fun hc => ?_) <;> first | (exfalso; omega) | (conv => whnf)) | (refine LenP.go ?_; conv => whnf) | (refine AKM.x ?_; conv => whnf)))
   refine CalP.walk 1000 N.ref05_Trim rfl rfl ?_
   (repeat' (refine AKM.x ?_; conv => whnf))
   refine AKM.loop1 (fun n => n) (fun (n : Nat) => n ≤ l.length ∧ cutN l l.length = cutN l n) (fun n => [(3, .int .i64 n)]) (fun _ => [(185027, 22, .rw 3 (l.map eQ))]) [] [] l.length (by (conv => whnf); exact ⟨rfl, rfl, rfl⟩) ⟨Nat.le_refl _, rfl⟩ ?_
   intro n ⟨p1, p2⟩ ih
   have done : ∀ {n : Nat}, cutN l l.length = n → trimQ l = l.take n := fun h => by rw [trimQ, h]
   by_cases hz : n = 0 ∨ (∃ m x, n = m + 1 ∧ l[m]? = some x ∧ x ≠ 0)
   ·have hcut : cutN l l.length = n := by
     rw [p2]
     rcases hz with rfl | ⟨m, x, rfl, h1, h2⟩
     ·rfl
     ·rw [cutN, if_neg]
      rw [List.getD_eq_getElem?_getD, h1]; exact h2
    have htq := done hcut
    have htl : (l.take n).length = n := by rw [List.length_take]; omega
    clear ih hcut p2 done
    rcases hz with h0 | ⟨m, x, hnm, h1, h2⟩
    case' inl => (repeat' (first | (refine CmpP.go (fun hc => ?_) (fun hc => ?_) <;> first | (exfalso; omega) | (conv => whnf)) | (refine AKM.x ?_; conv => whnf)))
    case' inr =>
     have h1' : l[((n : Int) - 1).toNat]? = some x := by rw [show ((n : Int) - 1).toNat = m by omega]; exact h1
     obtain ⟨s, hS', hs⟩ := ev_sign3 N.toRefHLib (hbl.at h1) (by omega)
     have hS : ∀ v, l[((n : Int) - 1).toNat]? = some v → Ev L 155 [.agg (eQ v)] (.int .i64 s) := fun v h => by
      obtain rfl := Option.some.inj (h1'.symm.trans h)
      exact hS'
     have hs0 : s ≠ 0 := fun h => h2 (hs.1 h)
     (repeat' (first | (refine CmpP.go (fun hc => ?_) (fun hc => ?_) <;> first | (exfalso; omega) | (conv => whnf)) | (refine Req.go (by omega) ?_; conv => whnf) | (refine OpP.sub (by omega) ?_; conv => whnf) | (refine LdR.int (by omega) (fun _ => rfl) (fun v hv => ?_); conv => whnf) | (refine AKM.x ?_; conv => whnf) | (refine CallP.go (hS _ hv) ?_; conv => whnf)))
    all_goals
     refine Bds.up n (by omega) (by omega) ?_
     (conv => whnf)
     skip
     refine AKM.loop1 (fun i => n - i) (fun (i : Nat) => i ≤ n) (fun i => [(26, .int .i64 i), (4, .row 171004 0 3 0 i)]) (fun i => [(171004, 171004, .rw 3 ((l.take i).map eQ)), (185027, 22, .rw 3 (l.map eQ))]) [] [] 0 (by (conv => whnf); exact ⟨rfl, rfl, rfl⟩) (by omega) ?_
     intro i g1 ih
     have hti : (l.take i).length = i := by rw [List.length_take]; omega
     by_cases hi : i < n
     ·all_goals try (exfalso; omega)
      all_goals
       obtain ⟨y, hy⟩ : ∃ y, l[i]? = some y := ⟨_, List.getElem?_eq_getElem (by omega)⟩
       have hy' : l[(i : Int).toNat]? = some y := hy
       have hsn := take_snocQ hy
       have hti1 : (l.take (i + 1)).length = i + 1 := by rw [List.length_take]; omega
       have hT' := ev_trim3 N.toRefGLib (hbl.at hy) (by omega)
       have hT : ∀ v, l[(i : Int).toNat]? = some v → Ev L 123 [.agg (eQ v)] (.agg (eQ y)) := fun v h => by
        obtain rfl := Option.some.inj (hy'.symm.trans h)
        exact hT'
       (repeat' (first | (refine CmpP.go (fun hc => ?_) (fun hc => ?_) <;> first | (exfalso; omega) | (conv => whnf)) | (refine Req.go (by omega) ?_; conv => whnf) | (refine LdR.nat (by omega) (fun _ => rfl) (fun v hv => ?_); conv => whnf) | (refine RowP.e1 ?_; conv => whnf) | (refine AKM.x ?_; conv => whnf) | (refine CallP.go (hT _ hv) ?_; conv => whnf)))
       refine AppR.one (enc := eQ) y rfl hti.symm rfl (by omega) (by omega) ?_
       rw [← hsn, hti1]
       (conv => whnf)
       (repeat' (refine OpP.add (by omega) ?_; conv => whnf))
       exact AKM.back [(171004, 171034)] (by (conv => whnf); exact ⟨rfl, rfl, rfl⟩) (ih (i + 1) (by omega) (by omega))
     ·obtain rfl : i = n := by omega
      clear ih
      rw [← htq] at htl ⊢
      (repeat' (first | (refine CmpP.go (fun hc => ?_) (fun hc => ?_) <;> first | (exfalso; omega) | (conv => whnf)) | (refine AKM.x ?_; conv => whnf)))
      refine ⟨rfl, _, rfl, ?_⟩
      (conv => whnf)
      skip
      (refine ⟨rfl, _, rfl, ?_⟩; (conv => whnf); (repeat' (first | (refine SnR.all (fun _ => rfl) rfl (by first | rfl | simp) ?_; conv => whnf) | fail)); refine SnR.all (enc := eQ) (fun _ => rfl) rfl htl.symm ?_; (conv => whnf); exact FinP.go rfl hcl)
   ·obtain ⟨m, rfl⟩ : ∃ m, n = m + 1 := ⟨n - 1, by omega⟩
    obtain ⟨x, hx⟩ : ∃ x, l[m]? = some x := ⟨_, List.getElem?_eq_getElem (by omega)⟩
    have hx0 : x = 0 := by
     rcases Classical.em (x = 0) with h | h
     ·exact h
     ·exact (hz (Or.inr ⟨m, x, rfl, hx, h⟩)).elim
    have hx' : l[((m + 1 : Nat) - 1 : Int).toNat]? = some x := by rw [show ((m + 1 : Nat) - 1 : Int).toNat = m by omega]; exact hx
    obtain ⟨s, hS', hs⟩ := ev_sign3 N.toRefHLib (hbl.at hx) (by omega)
    have hS : ∀ v, l[((m + 1 : Nat) - 1 : Int).toNat]? = some v → Ev L 155 [.agg (eQ v)] (.int .i64 s) := fun v h => by
     obtain rfl := Option.some.inj (hx'.symm.trans h)
     exact hS'
    have hs0 := hs.2 hx0
    (repeat' (first | (refine CmpP.go (fun hc => ?_) (fun hc => ?_) <;> first | (exfalso; omega) | (conv => whnf)) | (refine Req.go (by omega) ?_; conv => whnf) | (refine OpP.sub (by omega) ?_; conv => whnf) | (refine LdR.int (by omega) (fun _ => rfl) (fun v hv => ?_); conv => whnf) | (refine AKM.x ?_; conv => whnf) | (refine CallP.go (hS _ hv) ?_; conv => whnf)))
    rw [show ((m + 1 : Nat) : Int) - 1 = (m : Int) by omega]
    exact AKM.back [] (by (conv => whnf); exact ⟨rfl, rfl, rfl⟩) (ih m (by omega) ⟨by omega, by rw [p2, cutN, if_pos (by rw [List.getD_eq_getElem?_getD, hx]; exact hx0)]⟩)
 ·obtain rfl : k1 = l.length := by omega
  rw [List.take_of_length_le (Nat.le_refl l.length)]
  (repeat' (first | (refine CmpP.go (fun hc => ?_) (fun hc => ?_) <;> first | (exfalso; omega) | (conv => whnf)) | (refine LenP.go ?_; conv => whnf) | (refine AKM.x ?_; conv => whnf)))
  refine CalP.walk 1000 N.ref05_Trim rfl rfl ?_
  (repeat' (refine AKM.x ?_; conv => whnf))
  refine AKM.loop1 (fun n => n) (fun (n : Nat) => n ≤ l.length ∧ cutN l l.length = cutN l n) (fun n => [(3, .int .i64 n)]) (fun _ => [(22, 22, .rw 3 (l.map eQ))]) [] [] l.length (by (conv => whnf); exact ⟨rfl, rfl, rfl⟩) ⟨Nat.le_refl _, rfl⟩ ?_
  intro n ⟨p1, p2⟩ ih
  have done : ∀ {n : Nat}, cutN l l.length = n → trimQ l = l.take n := fun h => by rw [trimQ, h]
  by_cases hz : n = 0 ∨ (∃ m x, n = m + 1 ∧ l[m]? = some x ∧ x ≠ 0)
  ·have hcut : cutN l l.length = n := by
    rw [p2]
    rcases hz with rfl | ⟨m, x, rfl, h1, h2⟩
    ·rfl
    ·rw [cutN, if_neg]
     rw [List.getD_eq_getElem?_getD, h1]; exact h2
   have htq := done hcut
   have htl : (l.take n).length = n := by rw [List.length_take]; omega
   clear ih hcut p2 done
   rcases hz with h0 | ⟨m, x, hnm, h1, h2⟩
   case' inl => (repeat' (first | (refine CmpP.go (fun hc => ?_) (fun hc => ?_) <;> first | (exfalso; omega) | (conv => whnf)) | (refine AKM.x ?_; conv => whnf)))
   case' inr =>
    have h1' : l[((n : Int) - 1).toNat]? = some x := by rw [show ((n : Int) - 1).toNat = m by omega]; exact h1
    obtain ⟨s, hS', hs⟩ := ev_sign3 N.toRefHLib (hbl.at h1) (by omega)
    have hS : ∀ v, l[((n : Int) - 1).toNat]? = some v → Ev L 155 [.agg (eQ v)] (.int .i64 s) := fun v h => by
     obtain rfl := Option.some.inj (h1'.symm.trans h)
     exact hS'
    have hs0 : s ≠ 0 := fun h => h2 (hs.1 h)
    (repeat' (first | (refine CmpP.go (fun hc => ?_) (fun hc => ?_) <;> first | (exfalso; omega) | (conv => whnf)) | (refine Req.go (by omega) ?_; conv => whnf) | (refine OpP.sub (by omega) ?_; conv => whnf) | (refine LdR.int (by omega) (fun _ => rfl) (fun v hv => ?_); conv => whnf) | (refine AKM.x ?_; conv => whnf) | (refine CallP.go (hS _ hv) ?_; conv => whnf)))
   all_goals
    refine Bds.up n (by omega) (by omega) ?_
    (conv => whnf)
    skip
    refine AKM.loop1 (fun i => n - i) (fun (i : Nat) => i ≤ n) (fun i => [(26, .int .i64 i), (4, .row 171004 0 3 0 i)]) (fun i => [(171004, 171004, .rw 3 ((l.take i).map eQ)), (22, 22, .rw 3 (l.map eQ))]) [] [] 0 (by (conv => whnf); exact ⟨rfl, rfl, rfl⟩) (by omega) ?_
    intro i g1 ih
    have hti : (l.take i).length = i := by rw [List.length_take]; omega
    by_cases hi : i < n
    ·all_goals try (exfalso; omega)
     all_goals
      obtain ⟨y, hy⟩ : ∃ y, l[i]? = some y := ⟨_, List.getElem?_eq_getElem (by omega)⟩
      have hy' : l[(i : Int).toNat]? = some y := hy
      have hsn := take_snocQ hy
      have hti1 : (l.take (i + 1)).length = i + 1 := by rw [List.length_take]; omega
      have hT' := ev_trim3 N.toRefGLib (hbl.at hy) (by omega)
      have hT : ∀ v, l[(i : Int).toNat]? = some v → Ev L 123 [.agg (eQ v)] (.agg (eQ y)) := fun v h => by
       obtain rfl := Option.some.inj (hy'.symm.trans h)
       exact hT'
      (repeat' (first | (refine CmpP.go (fun hc => ?_) (fun hc => ?_) <;> first | (exfalso; omega) | (conv => whnf)) | (refine Req.go (by omega) ?_; conv => whnf) | (refine LdR.nat (by omega) (fun _ => rfl) (fun v hv => ?_); conv => whnf) | (refine RowP.e1 ?_; conv => whnf) | (refine AKM.x ?_; conv => whnf) | (refine CallP.go (hT _ hv) ?_; conv => whnf)))
      refine AppR.one (enc := eQ) y rfl hti.symm rfl (by omega) (by omega) ?_
      rw [← hsn, hti1]
      (conv => whnf)
      (repeat' (refine OpP.add (by omega) ?_; conv => whnf))
      exact AKM.back [(171004, 171034)] (by (conv => whnf); exact ⟨rfl, rfl, rfl⟩) (ih (i + 1) (by omega) (by omega))
    ·obtain rfl : i = n := by omega
     clear ih
     rw [← htq] at htl ⊢
     (repeat' (first | (refine CmpP.go (fun hc => ?_) (fun hc => ?_) <;> first | (exfalso; omega) | (conv => whnf)) | (refine AKM.x ?_; conv => whnf)))
     refine ⟨rfl, _, rfl, ?_⟩
     (conv => whnf)
     skip
     (refine ⟨rfl, _, rfl, ?_⟩; (conv => whnf); (repeat' (first | (refine SnR.all (fun _ => rfl) rfl (by first | rfl | simp) ?_; conv => whnf) | fail)); refine SnR.all (enc := eQ) (fun _ => rfl) rfl htl.symm ?_; (conv => whnf); exact FinP.go rfl hcl)
  ·obtain ⟨m, rfl⟩ : ∃ m, n = m + 1 := ⟨n - 1, by omega⟩
   obtain ⟨x, hx⟩ : ∃ x, l[m]? = some x := ⟨_, List.getElem?_eq_getElem (by omega)⟩
   have hx0 : x = 0 := by
    rcases Classical.em (x = 0) with h | h
    ·exact h
    ·exact (hz (Or.inr ⟨m, x, rfl, hx, h⟩)).elim
   have hx' : l[((m + 1 : Nat) - 1 : Int).toNat]? = some x := by rw [show ((m + 1 : Nat) - 1 : Int).toNat = m by omega]; exact hx
   obtain ⟨s, hS', hs⟩ := ev_sign3 N.toRefHLib (hbl.at hx) (by omega)
   have hS : ∀ v, l[((m + 1 : Nat) - 1 : Int).toNat]? = some v → Ev L 155 [.agg (eQ v)] (.int .i64 s) := fun v h => by
    obtain rfl := Option.some.inj (hx'.symm.trans h)
    exact hS'
   have hs0 := hs.2 hx0
   (repeat' (first | (refine CmpP.go (fun hc => ?_) (fun hc => ?_) <;> first | (exfalso; omega) | (conv => whnf)) | (refine Req.go (by omega) ?_; conv => whnf) | (refine OpP.sub (by omega) ?_; conv => whnf) | (refine LdR.int (by omega) (fun _ => rfl) (fun v hv => ?_); conv => whnf) | (refine AKM.x ?_; conv => whnf) | (refine CallP.go (hS _ hv) ?_; conv => whnf)))
   rw [show ((m + 1 : Nat) : Int) - 1 = (m : Int) by omega]
   exact AKM.back [] (by (conv => whnf); exact ⟨rfl, rfl, rfl⟩) (ih m (by omega) ⟨by omega, by rw [p2, cutN, if_pos (by rw [List.getD_eq_getElem?_getD, hx]; exact hx0)]⟩)
end Go.Eng
namespace Go.Eng
open F
attribute [local irreducible] AKM CmpP Req OpP UnP ConvP RdP LdR StR MkR LenP AppR AppN CpyR RowP SnR Bds SlS CallP CalP FinP pw LdM GetM SetM PutM MkM AppM SnM FlP CallR
attribute [local irreducible] AeqP
set_option maxHeartbeats 8000000
variable {L : Lib}
theorem ev_IdealE3 (I : FixedLib L) (N : BldGLib L) (q1 q2 : Bool) (b a : List Int) (c : Wd) (hb : b.length < 9223372036854775808) (ha : a.length < 9223372036854775808) (h0 : wrongD b a c c ≠ 0) : Ev L 186 [.sl q1 (b.map encInt), .sl q2 (a.map encInt), .agg (encW c)] (.tup [.agg [.sl false [], .sl false []], .int .i64 (wrongD b a c c)]) := by
 have hw := fun q q' => ev_check I N b a q q' c c hb ha
 generalize wrongD b a c c = e at *
 refine Ev.x N.ref23_Ideal rfl rfl ?_
 (repeat' (first | (refine CmpP.go (fun hc => ?_) (fun hc => ?_) <;> first | (exfalso; omega) | (conv => whnf)) | (refine AKM.x ?_; conv => whnf) | (refine CallP.go (hw _ _) ?_; conv => whnf)))
 exact FinP.go rfl (by simp [Clean, CleanL, CleanLL])
theorem ev_SameNets (I : FixedLib L) (N : BldGLib L) (n : Nt) (hn : n.nodes.length ≤ 1000000) (ht : ∀ d ∈ n.nodes, d.ts.length ≤ 1000000) (hx : n.next.length ≤ 1000000) : Ev L 177 [.agg (encN n), .agg (encN n)] (.bool true) := by
 have hI := ev_ref21_SameInts I n.next n.next n.qx n.qx (by omega) (by omega)
 rw [decide_eq_true rfl] at hI
 refine Ev.x N.ref22_SameNets rfl rfl ?_
 (repeat' (refine AKM.x ?_; conv => whnf))
 refine AeqP.same [n.d.b, n.d.f, n.d.r, n.d.o] rfl rfl ?_
 (conv => whnf)
 skip
 refine AeqP.same [n.c.b, n.c.f, n.c.r, n.c.o] rfl rfl ?_
 (conv => whnf)
 (repeat' (first | (refine CmpP.go (fun hc => ?_) (fun hc => ?_) <;> first | (exfalso; omega) | (conv => whnf)) | (refine LenP.go ?_; conv => whnf) | (refine CallP.go (hI) ?_; conv => whnf)))
 refine AKM.loop1 (fun k => n.nodes.length - k) (fun (k : Nat) => k ≤ n.nodes.length) (fun k => [(5, .int .i64 k)]) (fun _ => []) [] [] 0 (by (conv => whnf); exact ⟨rfl, rfl, rfl⟩) (by omega) ?_
 intro k p1 ih
 by_cases hk : k < n.nodes.length
 ·obtain ⟨d, hd⟩ : ∃ d, n.nodes[k]? = some d := ⟨_, List.getElem?_eq_getElem hk⟩
  have hd' : n.nodes[(k : Int).toNat]? = some d := hd
  have hdl := ht d (List.mem_of_getElem? hd)
  (repeat' (first | (refine CmpP.go (fun hc => ?_) (fun hc => ?_) <;> first | (exfalso; omega) | (conv => whnf)) | (refine LenP.go ?_; conv => whnf) | (refine RdP.at (by assumption) (by omega) rfl ?_; conv => whnf) | (refine AKM.x ?_; conv => whnf)))
  refine AKM.loop1 (fun i => d.ts.length - i) (fun (i : Nat) => i ≤ d.ts.length) (fun i => [(6, .int .i64 i)]) (fun _ => []) [] [] 0 (by (conv => whnf); exact ⟨rfl, rfl, rfl⟩) (by omega) ?_
  intro i g1 ih2
  by_cases hi : i < d.ts.length
  ·obtain ⟨t, ht⟩ : ∃ t, d.ts[i]? = some t := ⟨_, List.getElem?_eq_getElem hi⟩
   have ht' : d.ts[(i : Int).toNat]? = some t := ht
   (repeat' (first | (refine CmpP.go (fun hc => ?_) (fun hc => ?_) <;> first | (exfalso; omega) | (conv => whnf)) | (refine LenP.go ?_; conv => whnf) | (refine RdP.at (by assumption) (by omega) rfl ?_; conv => whnf) | (refine AKM.x ?_; conv => whnf)))
   refine AeqP.same [t.1, t.2] rfl rfl ?_
   (conv => whnf)
   (repeat' (refine OpP.add (by omega) ?_; conv => whnf))
   exact AKM.back [] (by (conv => whnf); exact ⟨rfl, rfl, rfl⟩) (ih2 (i + 1) (by omega) (by omega))
  ·obtain rfl : i = d.ts.length := by omega
   clear ih2
   (repeat' (first | (refine CmpP.go (fun hc => ?_) (fun hc => ?_) <;> first | (exfalso; omega) | (conv => whnf)) | (refine OpP.add (by omega) ?_; conv => whnf) | (refine LenP.go ?_; conv => whnf) | (refine RdP.at (by assumption) (by omega) rfl ?_; conv => whnf) | (refine AKM.x ?_; conv => whnf)))
   exact AKM.back [] (by (conv => whnf); exact ⟨rfl, rfl, rfl⟩) (ih (k + 1) (by omega) (by omega))
 ·obtain rfl : k = n.nodes.length := by omega
  clear ih
  (repeat' (first | (refine CmpP.go (fun hc => ?_) (fun hc => ?_) <;> first | (exfalso; omega) | (conv => whnf)) | (refine LenP.go ?_; conv => whnf) | (refine AKM.x ?_; conv => whnf)))
  exact FinP.b rfl
end Go.Eng

namespace Go.Eng
open F
attribute [local irreducible] AKM CmpP Req OpP UnP ConvP RdP LdR StR MkR LenP AppR AppN CpyR RowP SnR Bds SlS CallP CalP FinP pw LdM GetM SetM PutM MkM AppM SnM FlP CallR
set_option maxHeartbeats 8000000
variable {L : Lib}
theorem sgn_num0 {x : Rat} : sgn x.num = 0 ↔ x = 0 := by
 rw [← Rat.num_eq_zero]
 unfold sgn; split <;> (try split) <;> omega
theorem ev_IdealE (I : FixedLib L) (N : BldGLib L) (q1 q2 : Bool) (b a : List Int) (c : Wd) (hb : b.length < 9223372036854775808) (ha : a.length < 9223372036854775808) (h0 : wrongD b a c c ≠ 0) : Ev L 174 [.sl q1 (b.map encInt), .sl q2 (a.map encInt), .agg (encW c)] (.tup [.agg [.sl false [], .sl false []], .int .i64 (wrongD b a c c)]) := by
 have hw := fun q q' => ev_wrongG I N.toDirectGLib b a q q' c c hb ha
 generalize wrongD b a c c = e at *
 refine Ev.x N.direct_Ideal rfl rfl ?_
 (repeat' (first | (refine CmpP.go (fun hc => ?_) (fun hc => ?_) <;> first | (exfalso; omega) | (conv => whnf)) | (refine AKM.x ?_; conv => whnf) | (refine CallP.go (hw _ _) ?_; conv => whnf)))
 exact FinP.go rfl (by simp [Clean, CleanL, CleanLL])
theorem ev_Ideal (I : FixedLib L) (N : BldGLib L) (q1 q2 : Bool) {b a : List Int} {c : Wd} (h : OkD b a c c) (h0 : wrongD b a c c = 0) : Ev L 174 [.sl q1 (b.map encInt), .sl q2 (a.map encInt), .agg (encW c)] (.tup [.agg [.sl false ((trimQ (numQ c b)).map eQ), .sl false ((trimQ (((1 : Int) : Rat) :: numQ c a)).map eQ)], .int .i64 0]) := by
 have hw := fun q q' => ev_wrongG I N.toDirectGLib b a q q' c c (by have := h.l1; omega) (by have := h.l2; omega)
 rw [h0] at hw
 obtain ⟨hd, hcw, l1, l2, wb, wa⟩ := h
 have rb : ∀ v ∈ b, InI v := fun v hv => by have := FT_rng hcw (wb v hv); unfold InI; omega
 have ra : ∀ v ∈ a, InI v := fun v hv => by have := FT_rng hcw (wa v hv).1; unfold InI; omega
 have hQb := numQ_len c b
 have hO := ev_rational_Of N.toRatGLib 1 (by omega)
 refine Ev.x N.direct_Ideal rfl rfl ?_
 (repeat' (first | (refine CmpP.go (fun hc => ?_) (fun hc => ?_) <;> first | (exfalso; omega) | (conv => whnf)) | (refine LenP.go ?_; conv => whnf) | (refine AKM.x ?_; conv => whnf) | (refine CallP.go (hw _ _) ?_; conv => whnf)))
 refine MkR.go (enc := eO) none b.length rfl rfl (by omega) ?_
 (conv => whnf)
 (repeat' (refine LenP.go ?_; conv => whnf))
 refine AKM.loop1 (fun i => b.length - i) (fun (i : Nat) => i ≤ b.length) (fun i => [(29, .int .i64 i)]) (fun i => [(26, 26, .rw 3 ((fillO ((numQ c b).take i) b.length).map eO))]) [] [] 0 (by first | exact (by (conv => whnf); exact ⟨rfl, rfl, rfl⟩) | (rw [List.take_zero, ← fillO_nil]; exact (by (conv => whnf); exact ⟨rfl, rfl, rfl⟩))) (by omega) ?_
 intro i p1 ih
 by_cases hi : i < b.length
 ·obtain ⟨v, hv⟩ : ∃ v, b[i]? = some v := ⟨_, List.getElem?_eq_getElem hi⟩
  have hv' : b[(i : Int).toNat]? = some v := hv
  have hV := ev_Value I N c v hcw (rb v (List.mem_of_getElem? hv))
  have hti : ((numQ c b).take i).length = i := by rw [List.length_take]; omega
  have hl := fillO_len (l := (numQ c b).take i) (m := b.length) (by omega)
  have hs := fillO_set (l := (numQ c b).take i) (m := b.length) (x := Rat.divInt v (pw c.f)) (by omega)
  have hqi : (numQ c b)[i]? = some (Rat.divInt v (pw c.f)) := by rw [numQ, List.getElem?_map, hv]; rfl
  rw [hti, ← take_snocQ hqi] at hs
  (repeat' (first | (refine CmpP.go (fun hc => ?_) (fun hc => ?_) <;> first | (exfalso; omega) | (conv => whnf)) | (refine Req.go (by omega) ?_; conv => whnf) | (refine RdP.at (by assumption) (by omega) rfl ?_; conv => whnf) | (refine AKM.x ?_; conv => whnf) | (refine CallP.go (hV) ?_; conv => whnf)))
  refine StR.nat (enc := eO) (some (Rat.divInt v (pw c.f))) rfl (fun e => by cases e <;> rfl) (by omega) ?_
  (conv => whnf)
  (repeat' (refine OpP.add (by omega) ?_; conv => whnf))
  rw [hs]
  exact AKM.back [] (by (conv => whnf); exact ⟨rfl, rfl, rfl⟩) (ih (i + 1) (by omega) (by omega))
 ·obtain rfl : i = b.length := by omega
  clear ih
  rw [List.take_of_length_le (Nat.le_of_eq hQb), fillO_full hQb]
  (repeat' (first | (refine CmpP.go (fun hc => ?_) (fun hc => ?_) <;> first | (exfalso; omega) | (conv => whnf)) | (refine LenP.go ?_; conv => whnf) | (refine AKM.x ?_; conv => whnf) | (refine CallP.go (hO) ?_; conv => whnf)))
  have hPl : (((1 : Int) : Rat) :: numQ c a).length = a.length + 1 := by rw [List.length_cons, numQ_len]
  have hQr := num_bs hcw (fun v hv => ra v hv)
  have hQs := num_bs hcw (fun v hv => rb v hv)
  have hPs : Bs 64 (((1 : Int) : Rat) :: numQ c a) := by
   intro x hx
   rcases List.mem_cons.1 hx with rfl | hx
   ·exact Bt.one 64
   ·exact hQr x hx
  generalize hl : ((1 : Int) : Rat) :: numQ c a = r at *
  have hl0 : r.take 1 = [((1 : Int) : Rat)] := by rw [← hl]; rfl
  have hat : ∀ i v, a[i]? = some v → r[i + 1]? = some (Rat.divInt v (pw c.f)) := fun i v h => by rw [← hl, List.getElem?_cons_succ, numQ, List.getElem?_map, h]; rfl
  rw [show ([[AV.bool (decide (((1 : Int) : Rat).num < 0)), AV.sl false ((dg ((1 : Int) : Rat).num.natAbs).map e32), AV.sl false ((dg ((1 : Int) : Rat).den).map e32)]] : List (List AV)) = (r.take (0 + 1)).map eQ by rw [hl0]; rfl]
  refine AKM.loop1 (fun i => a.length - i) (fun (i : Nat) => i ≤ a.length) (fun i => [(45, .int .i64 i), (12, .row 42 0 3 0 (i + 1))]) (fun i => [(42, 42, .rw 3 ((r.take (i + 1)).map eQ))]) [] [] 0 (by (conv => whnf); exact ⟨rfl, rfl, rfl⟩) (by omega) ?_
  intro i g1 ih
  have hti : (r.take (i + 1)).length = i + 1 := by rw [List.length_take]; omega
  by_cases hi : i < a.length
  ·obtain ⟨v, hv⟩ : ∃ v, a[i]? = some v := ⟨_, List.getElem?_eq_getElem hi⟩
   have hv' : a[(i : Int).toNat]? = some v := hv
   have hV := ev_Value I N c v hcw (ra v (List.mem_of_getElem? hv))
   have hsn := take_snocQ (hat i v hv)
   have hti1 : (r.take (i + 1 + 1)).length = i + 1 + 1 := by rw [List.length_take]; omega
   (repeat' (first | (refine CmpP.go (fun hc => ?_) (fun hc => ?_) <;> first | (exfalso; omega) | (conv => whnf)) | (refine RdP.at (by assumption) (by omega) rfl ?_; conv => whnf) | (refine RowP.e1 ?_; conv => whnf) | (refine AKM.x ?_; conv => whnf) | (refine CallP.go (hV) ?_; conv => whnf)))
   refine AppR.one (enc := eQ) (Rat.divInt v (pw c.f)) rfl hti.symm rfl (by omega) (by omega) ?_
   rw [← hsn, hti1]
   (conv => whnf)
   (repeat' (refine OpP.add (by omega) ?_; conv => whnf))
   exact AKM.back [(42, 54)] (by (conv => whnf); exact ⟨rfl, rfl, rfl⟩) (ih (i + 1) (by omega) (by omega))
  ·obtain rfl : i = a.length := by omega
   rw [← hPl, List.take_of_length_le (Nat.le_refl r.length)]
   clear ih hti
   generalize numQ c b = l at *
   rw [← hQb]
   (repeat' (first | (refine CmpP.go (fun hc => ?_) (fun hc => ?_) <;> first | (exfalso; omega) | (conv => whnf)) | (refine AKM.x ?_; conv => whnf)))
   refine CalP.walk 1000 N.poly_Trim rfl rfl ?_
   (repeat' (refine AKM.x ?_; conv => whnf))
   refine CalP.walk 1000 N.poly_cut rfl rfl ?_
   (repeat' (refine AKM.x ?_; conv => whnf))
   refine AKM.loop1 (fun n => n) (fun (n : Nat) => n ≤ l.length ∧ cutN l l.length = cutN l n) (fun n => [(3, .int .i64 n)]) (fun _ => [(26, 26, .rw 3 (l.map eQ))]) [] [] l.length (by (conv => whnf); exact ⟨rfl, rfl, rfl⟩) ⟨Nat.le_refl _, rfl⟩ ?_
   intro n ⟨p1, p2⟩ ih
   have done : ∀ {n : Nat}, cutN l l.length = n → trimQ l = l.take n := fun h => by rw [trimQ, h]
   by_cases hz : n = 0 ∨ (∃ m x, n = m + 1 ∧ l[m]? = some x ∧ x ≠ 0)
   ·have hcut : cutN l l.length = n := by
     rw [p2]
     rcases hz with rfl | ⟨m, x, rfl, h1, h2⟩
     ·rfl
     ·rw [cutN, if_neg]
      rw [List.getD_eq_getElem?_getD, h1]; exact h2
    have htq := done hcut
    have htl : (l.take n).length = n := by rw [List.length_take]; omega
    clear ih hcut p2 done
    rcases hz with h0 | ⟨m, x, hnm, h1, h2⟩
    case' inl => (repeat' (first | (refine CmpP.go (fun hc => ?_) (fun hc => ?_) <;> first | (exfalso; omega) | (conv => whnf)) | (refine AKM.x ?_; conv => whnf)))
    case' inr =>
     have h1' : l[((n : Int) - 1).toNat]? = some x := by rw [show ((n : Int) - 1).toNat = m by omega]; exact h1
     have hS' := ev_signQ N.toRatGLib (hQs.at h1) (by omega)
     have hs := sgn_num0 (x := x)
     generalize sgn x.num = s at *
     have hS : ∀ v, l[((n : Int) - 1).toNat]? = some v → Ev L 97 [.agg (eQ v)] (.int .i64 s) := fun v h => by
      obtain rfl := Option.some.inj (h1'.symm.trans h)
      exact hS'
     have hs0 : s ≠ 0 := fun h => h2 (hs.1 h)
     (repeat' (first | (refine CmpP.go (fun hc => ?_) (fun hc => ?_) <;> first | (exfalso; omega) | (conv => whnf)) | (refine Req.go (by omega) ?_; conv => whnf) | (refine OpP.sub (by omega) ?_; conv => whnf) | (refine LdR.int (by omega) (fun _ => rfl) (fun v hv => ?_); conv => whnf) | (refine AKM.x ?_; conv => whnf) | (refine CallP.go (hS _ hv) ?_; conv => whnf)))
    all_goals
     refine Bds.up n (by omega) (by omega) ?_
     (conv => whnf)
     skip
     refine ⟨rfl, _, rfl, ?_⟩
     (conv => whnf)
     skip
     refine MkR.go (enc := eO) none n rfl rfl (by omega) ?_
     (conv => whnf)
     skip
     refine AKM.loop1 (fun i => n - i) (fun (i : Nat) => i ≤ n) (fun i => [(11, .int .i64 i)]) (fun i => [(170008, 170008, .rw 3 ((fillO (l.take i) n).map eO)), (26, 26, .rw 3 (l.map eQ))]) [] [] 0 (by first | exact (by (conv => whnf); exact ⟨rfl, rfl, rfl⟩) | (rw [List.take_zero, ← fillO_nil]; exact (by (conv => whnf); exact ⟨rfl, rfl, rfl⟩))) (by omega) ?_
     intro i g1 ih
     by_cases hi : i < n
     ·all_goals try (exfalso; omega)
      all_goals
       obtain ⟨y, hy⟩ : ∃ y, l[i]? = some y := ⟨_, List.getElem?_eq_getElem (by omega)⟩
       have hy' : l[(i : Int).toNat]? = some y := hy
       have hti : (l.take i).length = i := by rw [List.length_take]; omega
       have hl := fillO_len (l := l.take i) (m := n) (by omega)
       have hst := fillO_set (l := l.take i) (m := n) (x := y) (by omega)
       rw [hti, ← take_snocQ hy] at hst
       have hT' := ev_trimQ N.toRatGLib (hQs.at hy) (by omega)
       have hT : ∀ v, l[(i : Int).toNat]? = some v → Ev L 95 [.agg (eQ v)] (.agg (eQ y)) := fun v h => by
        obtain rfl := Option.some.inj (hy'.symm.trans h)
        exact hT'
       (repeat' (first | (refine CmpP.go (fun hc => ?_) (fun hc => ?_) <;> first | (exfalso; omega) | (conv => whnf)) | (refine Req.go (by omega) ?_; conv => whnf) | (refine LdR.nat (by omega) (fun _ => rfl) (fun v hv => ?_); conv => whnf) | (refine AKM.x ?_; conv => whnf) | (refine CallP.go (hT _ hv) ?_; conv => whnf)))
       refine StR.nat (enc := eO) (some y) rfl (fun e => by cases e <;> rfl) (by omega) ?_
       (conv => whnf)
       (repeat' (refine OpP.add (by omega) ?_; conv => whnf))
       rw [hst]
       exact AKM.back [] (by (conv => whnf); exact ⟨rfl, rfl, rfl⟩) (ih (i + 1) (by omega) (by omega))
     ·obtain rfl : i = n := by omega
      clear ih
      rw [fillO_full htl, ← htq] at *
      rw [← htq] at htl
      (repeat' (first | (refine CmpP.go (fun hc => ?_) (fun hc => ?_) <;> first | (exfalso; omega) | (conv => whnf)) | (refine AKM.x ?_; conv => whnf)))
      refine ⟨rfl, _, rfl, ?_⟩
      (conv => whnf)
      skip
      have htlB := htl
      have hcl : Clean (.tup [.agg [.sl false ((trimQ l).map eQ), .sl false ((trimQ r).map eQ)], .int .i64 0]) := by
       simp only [Clean, CleanL, true_and, and_true]
       exact ⟨cl_eQs _, cl_eQs _⟩
      clear htq htl
      refine CalP.walk 1000 N.poly_Trim rfl rfl ?_
      (repeat' (refine AKM.x ?_; conv => whnf))
      refine CalP.walk 1000 N.poly_cut rfl rfl ?_
      (repeat' (refine AKM.x ?_; conv => whnf))
      refine AKM.loop1 (fun n => n) (fun (n : Nat) => n ≤ r.length ∧ cutN r r.length = cutN r n) (fun n => [(3, .int .i64 n)]) (fun _ => [(42, 42, .rw 3 (r.map eQ))]) [] [] r.length (by (conv => whnf); exact ⟨rfl, rfl, rfl⟩) ⟨Nat.le_refl _, rfl⟩ ?_
      intro n ⟨p1, p2⟩ ih
      have done : ∀ {n : Nat}, cutN r r.length = n → trimQ r = r.take n := fun h => by rw [trimQ, h]
      by_cases hz : n = 0 ∨ (∃ m x, n = m + 1 ∧ r[m]? = some x ∧ x ≠ 0)
      ·have hcut : cutN r r.length = n := by
        rw [p2]
        rcases hz with rfl | ⟨m, x, rfl, h1, h2⟩
        ·rfl
        ·rw [cutN, if_neg]
         rw [List.getD_eq_getElem?_getD, h1]; exact h2
       have htq := done hcut
       have htl : (r.take n).length = n := by rw [List.length_take]; omega
       clear ih hcut p2 done
       rcases hz with h0 | ⟨m, x, hnm, h1, h2⟩
       case' inl => (repeat' (first | (refine CmpP.go (fun hc => ?_) (fun hc => ?_) <;> first | (exfalso; omega) | (conv => whnf)) | (refine AKM.x ?_; conv => whnf)))
       case' inr =>
        have h1' : r[((n : Int) - 1).toNat]? = some x := by rw [show ((n : Int) - 1).toNat = m by omega]; exact h1
        have hS' := ev_signQ N.toRatGLib (hPs.at h1) (by omega)
        have hs := sgn_num0 (x := x)
        generalize sgn x.num = s at *
        have hS : ∀ v, r[((n : Int) - 1).toNat]? = some v → Ev L 97 [.agg (eQ v)] (.int .i64 s) := fun v h => by
         obtain rfl := Option.some.inj (h1'.symm.trans h)
         exact hS'
        have hs0 : s ≠ 0 := fun h => h2 (hs.1 h)
        (repeat' (first | (refine CmpP.go (fun hc => ?_) (fun hc => ?_) <;> first | (exfalso; omega) | (conv => whnf)) | (refine Req.go (by omega) ?_; conv => whnf) | (refine OpP.sub (by omega) ?_; conv => whnf) | (refine LdR.int (by omega) (fun _ => rfl) (fun v hv => ?_); conv => whnf) | (refine AKM.x ?_; conv => whnf) | (refine CallP.go (hS _ hv) ?_; conv => whnf)))
       all_goals
        refine Bds.up n (by omega) (by omega) ?_
        (conv => whnf)
        skip
        refine ⟨rfl, _, rfl, ?_⟩
        (conv => whnf)
        skip
        refine MkR.go (enc := eO) none n rfl rfl (by omega) ?_
        (conv => whnf)
        skip
        refine AKM.loop1 (fun i => n - i) (fun (i : Nat) => i ≤ n) (fun i => [(11, .int .i64 i)]) (fun i => [(1170008, 170008, .rw 3 ((fillO (r.take i) n).map eO)), (42, 42, .rw 3 (r.map eQ))]) [] [] 0 (by first | exact (by (conv => whnf); exact ⟨rfl, rfl, rfl⟩) | (rw [List.take_zero, ← fillO_nil]; exact (by (conv => whnf); exact ⟨rfl, rfl, rfl⟩))) (by omega) ?_
        intro i g1 ih
        by_cases hi : i < n
        ·all_goals try (exfalso; omega)
         all_goals
          obtain ⟨y, hy⟩ : ∃ y, r[i]? = some y := ⟨_, List.getElem?_eq_getElem (by omega)⟩
          have hy' : r[(i : Int).toNat]? = some y := hy
          have hti : (r.take i).length = i := by rw [List.length_take]; omega
          have hl := fillO_len (l := r.take i) (m := n) (by omega)
          have hst := fillO_set (l := r.take i) (m := n) (x := y) (by omega)
          rw [hti, ← take_snocQ hy] at hst
          have hT' := ev_trimQ N.toRatGLib (hPs.at hy) (by omega)
          have hT : ∀ v, r[(i : Int).toNat]? = some v → Ev L 95 [.agg (eQ v)] (.agg (eQ y)) := fun v h => by
           obtain rfl := Option.some.inj (hy'.symm.trans h)
           exact hT'
          (repeat' (first | (refine CmpP.go (fun hc => ?_) (fun hc => ?_) <;> first | (exfalso; omega) | (conv => whnf)) | (refine Req.go (by omega) ?_; conv => whnf) | (refine LdR.nat (by omega) (fun _ => rfl) (fun v hv => ?_); conv => whnf) | (refine AKM.x ?_; conv => whnf) | (refine CallP.go (hT _ hv) ?_; conv => whnf)))
          refine StR.nat (enc := eO) (some y) rfl (fun e => by cases e <;> rfl) (by omega) ?_
          (conv => whnf)
          (repeat' (refine OpP.add (by omega) ?_; conv => whnf))
          rw [hst]
          exact AKM.back [] (by (conv => whnf); exact ⟨rfl, rfl, rfl⟩) (ih (i + 1) (by omega) (by omega))
        ·obtain rfl : i = n := by omega
         clear ih
         rw [fillO_full htl, ← htq] at *
         rw [← htq] at htl
         (repeat' (first | (refine CmpP.go (fun hc => ?_) (fun hc => ?_) <;> first | (exfalso; omega) | (conv => whnf)) | (refine AKM.x ?_; conv => whnf)))
         refine ⟨rfl, _, rfl, ?_⟩
         (conv => whnf)
         skip
         (refine SnR.all (enc := eQ) (fun _ => rfl) rfl htlB.symm ?_; (conv => whnf); refine SnR.all (enc := eQ) (fun _ => rfl) rfl htl.symm ?_; (conv => whnf); exact FinP.go rfl hcl)
      ·obtain ⟨m, rfl⟩ : ∃ m, n = m + 1 := ⟨n - 1, by omega⟩
       obtain ⟨x, hx⟩ : ∃ x, r[m]? = some x := ⟨_, List.getElem?_eq_getElem (by omega)⟩
       have hx0 : x = 0 := by
        rcases Classical.em (x = 0) with h | h
        ·exact h
        ·exact (hz (Or.inr ⟨m, x, rfl, hx, h⟩)).elim
       have hx' : r[((m + 1 : Nat) - 1 : Int).toNat]? = some x := by rw [show ((m + 1 : Nat) - 1 : Int).toNat = m by omega]; exact hx
       have hS' := ev_signQ N.toRatGLib (hPs.at hx) (by omega)
       have hs := sgn_num0 (x := x)
       generalize sgn x.num = s at *
       have hS : ∀ v, r[((m + 1 : Nat) - 1 : Int).toNat]? = some v → Ev L 97 [.agg (eQ v)] (.int .i64 s) := fun v h => by
        obtain rfl := Option.some.inj (hx'.symm.trans h)
        exact hS'
       have hs0 := hs.2 hx0
       (repeat' (first | (refine CmpP.go (fun hc => ?_) (fun hc => ?_) <;> first | (exfalso; omega) | (conv => whnf)) | (refine Req.go (by omega) ?_; conv => whnf) | (refine OpP.sub (by omega) ?_; conv => whnf) | (refine LdR.int (by omega) (fun _ => rfl) (fun v hv => ?_); conv => whnf) | (refine AKM.x ?_; conv => whnf) | (refine CallP.go (hS _ hv) ?_; conv => whnf)))
       rw [show ((m + 1 : Nat) : Int) - 1 = (m : Int) by omega]
       exact AKM.back [] (by (conv => whnf); exact ⟨rfl, rfl, rfl⟩) (ih m (by omega) ⟨by omega, by rw [p2, cutN, if_pos (by rw [List.getD_eq_getElem?_getD, hx]; exact hx0)]⟩)
   ·obtain ⟨m, rfl⟩ : ∃ m, n = m + 1 := ⟨n - 1, by omega⟩
    obtain ⟨x, hx⟩ : ∃ x, l[m]? = some x := ⟨_, List.getElem?_eq_getElem (by omega)⟩
    have hx0 : x = 0 := by
     rcases Classical.em (x = 0) with h | h
     ·exact h
     ·exact (hz (Or.inr ⟨m, x, rfl, hx, h⟩)).elim
    have hx' : l[((m + 1 : Nat) - 1 : Int).toNat]? = some x := by rw [show ((m + 1 : Nat) - 1 : Int).toNat = m by omega]; exact hx
    have hS' := ev_signQ N.toRatGLib (hQs.at hx) (by omega)
    have hs := sgn_num0 (x := x)
    generalize sgn x.num = s at *
    have hS : ∀ v, l[((m + 1 : Nat) - 1 : Int).toNat]? = some v → Ev L 97 [.agg (eQ v)] (.int .i64 s) := fun v h => by
     obtain rfl := Option.some.inj (hx'.symm.trans h)
     exact hS'
    have hs0 := hs.2 hx0
    (repeat' (first | (refine CmpP.go (fun hc => ?_) (fun hc => ?_) <;> first | (exfalso; omega) | (conv => whnf)) | (refine Req.go (by omega) ?_; conv => whnf) | (refine OpP.sub (by omega) ?_; conv => whnf) | (refine LdR.int (by omega) (fun _ => rfl) (fun v hv => ?_); conv => whnf) | (refine AKM.x ?_; conv => whnf) | (refine CallP.go (hS _ hv) ?_; conv => whnf)))
    rw [show ((m + 1 : Nat) : Int) - 1 = (m : Int) by omega]
    exact AKM.back [] (by (conv => whnf); exact ⟨rfl, rfl, rfl⟩) (ih m (by omega) ⟨by omega, by rw [p2, cutN, if_pos (by rw [List.getD_eq_getElem?_getD, hx]; exact hx0)]⟩)
end Go.Eng

namespace Go.Eng
open F
attribute [local irreducible] AKM CmpP Req OpP UnP ConvP RdP LdR StR MkR LenP AppR AppN CpyR RowP SnR Bds SlS CallP CalP FinP pw LdM GetM SetM PutM MkM AppM SnM FlP CallR
attribute [local irreducible] AeqP
set_option maxHeartbeats 8000000
variable {L : Lib}
structure SmN (n : Nt) : Prop where
 hn : n.nodes.length ≤ 1000000
 ht : ∀ d ∈ n.nodes, d.ts.length ≤ 1000000
 hx : n.next.length ≤ 1000000
def netZ : Nt := ⟨⟨0, 0, 0, 0⟩, ⟨0, 0, 0, 0⟩, 0, false, [], false, [], 0⟩
theorem netZ_sm : SmN netZ := ⟨by simp [netZ], by simp [netZ], by simp [netZ]⟩
theorem delayS_len (n : Nat) (x y : Int) : (delayS n x y).length = n := by simp [delayS]
theorem smN_one {b a : List Int} {d c : Wd} (h : OkD b a d c) : SmN (formOneS b a d c) := by
 have := h.l1
 have := h.l2
 refine ⟨by simp [formOneS], ?_, by simp [formOneS, delayS_len]; omega⟩
 intro x hx
 simp only [formOneS, List.mem_singleton] at hx
 subst hx
 simp only [List.length_append, rowD_len]; omega
theorem smN_two {b a : List Int} {d c : Wd} (h : OkD b a d c) : SmN (formTwoS b a d c) := by
 have := h.l1
 have := h.l2
 refine ⟨by simp [formTwoS], ?_, by simp only [formTwoS, delayS_len, maxN]; omega⟩
 intro x hx
 simp only [formTwoS, List.mem_cons, List.not_mem_nil, or_false] at hx
 rcases hx with rfl | rfl
 all_goals simp only [List.length_append, rowD_len, List.length_take, List.length_drop, List.length_cons, List.length_nil]; omega
theorem tK_len (b a : List Int) (c : Wd) (mx k : Nat) : (tK b a c mx k).length ≤ 3 := by
 unfold tK
 split <;> split <;> split <;> simp
theorem smN_tr {b a : List Int} {d c : Wd} (h : OkD b a d c) : SmN (transS b a d c) := by
 have := h.l1
 have := h.l2
 have hm : maxN b a ≤ 1000 := by unfold maxN; omega
 refine ⟨by simp [transS, trN]; omega, ?_, by simp [transS]; omega⟩
 intro x hx
 simp only [transS, trN, List.mem_map] at hx
 obtain ⟨i, _, rfl⟩ := hx
 have := tK_len b a c (maxN b a) i
 rw [← trS_eq] at this
 show (trS b a c (maxN b a) i).length ≤ 1000000
 omega
def Both (L : Lib) (f g : Nat) (b a : List Int) (d c : Wd) : Prop := ∃ (n : Nt) (e : Int), SmN n ∧ (∀ q q', Ev L f [.sl q (b.map encInt), .sl q' (a.map encInt), .agg (encW d), .agg (encW c)] (.tup [.agg (encN n), .int .i64 e])) ∧ ∀ q q', Ev L g [.sl q (b.map encInt), .sl q' (a.map encInt), .agg (encW d), .agg (encW c)] (.tup [.agg (encN n), .int .i64 e])
theorem both_one (I : FixedLib L) (N : BldGLib L) (b a : List Int) (d c : Wd) (hb : b.length < 9223372036854775808) (ha : a.length < 9223372036854775808) : Both L 50 181 b a d c := by
 by_cases h0 : wrongD b a d c = 0
 ·have h := okD_of _ _ _ _ h0
  exact ⟨_, _, smN_one h, fun q q' => ev_direct_FormOne I N.toDirectGLib b a q q' d c h.hd h.hc h.l1 h.l2 h.wb h.wa, fun q q' => ev_FormOne3 I N q q' h h0⟩
 ·exact ⟨netZ, _, netZ_sm, fun q q' => ev_FormOneE b a d c I N.toDirectGLib q q' hb ha h0, fun q q' => ev_FormOneE3 b a d c I N q q' hb ha h0⟩
theorem both_two (I : FixedLib L) (N : BldGLib L) (b a : List Int) (d c : Wd) (hb : b.length < 9223372036854775808) (ha : a.length < 9223372036854775808) : Both L 51 182 b a d c := by
 by_cases h0 : wrongD b a d c = 0
 ·have h := okD_of _ _ _ _ h0
  exact ⟨_, _, smN_two h, fun q q' => ev_direct_FormTwo I N.toDirectGLib b a q q' d c h.hd h.hc h.l1 h.l2 h.wb h.wa, fun q q' => ev_FormTwo3 I N q q' h h0⟩
 ·exact ⟨netZ, _, netZ_sm, fun q q' => ev_FormTwoE b a d c I N.toDirectGLib q q' hb ha h0, fun q q' => ev_FormTwoE3 b a d c I N q q' hb ha h0⟩
theorem both_tr (I : FixedLib L) (N : BldGLib L) (b a : List Int) (d c : Wd) (hb : b.length < 9223372036854775808) (ha : a.length < 9223372036854775808) : Both L 52 183 b a d c := by
 by_cases h0 : wrongD b a d c = 0
 ·have h := okD_of _ _ _ _ h0
  exact ⟨_, _, smN_tr h, fun q q' => ev_direct_Transposed I N.toDirectGLib b a q q' d c h.hd h.hc h.l1 h.l2 h.wb h.wa, fun q q' => ev_Transposed3 I N q q' h h0⟩
 ·exact ⟨netZ, _, netZ_sm, fun q q' => ev_TransposedE b a d c I N.toDirectGLib q q' hb ha h0, fun q q' => ev_TransposedE3 b a d c I N q q' hb ha h0⟩
theorem both_fir (I : FixedLib L) (N : BldGLib L) (b : List Int) (d c : Wd) (hb : b.length < 9223372036854775808) : ∃ (n : Nt) (e : Int), SmN n ∧ (∀ q, Ev L 53 [.sl q (b.map encInt), .agg (encW d), .agg (encW c)] (.tup [.agg (encN n), .int .i64 e])) ∧ ∀ q, Ev L 184 [.sl q (b.map encInt), .agg (encW d), .agg (encW c)] (.tup [.agg (encN n), .int .i64 e]) := by
 by_cases h0 : wrongD b [] d c = 0
 ·have h := okD_of _ _ _ _ h0
  exact ⟨_, _, smN_one h, fun q => ev_direct_FIR I N.toDirectGLib b q d c h.hd h.hc h.l1 h.wb, fun q => ev_FIR3 I N q h h0⟩
 ·exact ⟨netZ, _, netZ_sm, fun q => ev_FIRE b d c I N.toDirectGLib q hb h0, fun q => ev_FIRE3 I N q hb h0⟩
theorem both_ideal (I : FixedLib L) (N : BldGLib L) (b a : List Int) (c : Wd) (hb : b.length < 9223372036854775808) (ha : a.length < 9223372036854775808) : ∃ (p r : List Rat) (e : Int), Bs 64 p ∧ Bs 64 r ∧ p.length ≤ 1000000 ∧ r.length ≤ 1000000 ∧ (∀ q q', Ev L 174 [.sl q (b.map encInt), .sl q' (a.map encInt), .agg (encW c)] (.tup [.agg [.sl false (p.map eQ), .sl false (r.map eQ)], .int .i64 e])) ∧ ∀ q q', Ev L 186 [.sl q (b.map encInt), .sl q' (a.map encInt), .agg (encW c)] (.tup [.agg [.sl false (p.map eQ), .sl false (r.map eQ)], .int .i64 e]) := by
 by_cases h0 : wrongD b a c c = 0
 ·have h := okD_of _ _ _ _ h0
  have rb : ∀ v ∈ b, -9223372036854775808 ≤ v ∧ v ≤ 9223372036854775807 := fun v hv => by have := FT_rng h.hc (h.wb v hv); omega
  have ra : ∀ v ∈ a, -9223372036854775808 ≤ v ∧ v ≤ 9223372036854775807 := fun v hv => by have := FT_rng h.hc (h.wa v hv).1; omega
  have hP : Bs 64 (((1 : Int) : Rat) :: numQ c a) := by
   intro x hx
   rcases List.mem_cons.1 hx with rfl | hx
   ·exact Bt.one 64
   ·exact num_bs h.hc ra x hx
  refine ⟨_, _, _, (num_bs h.hc rb).trim, hP.trim, ?_, ?_, fun q q' => ev_Ideal I N q q' h h0, fun q q' => ev_Ideal3 I N q q' h h0⟩
  ·rw [trimQ_len]
   have := cutN_le (numQ c b) (numQ c b).length
   have := numQ_len c b
   have := h.l1
   omega
  ·rw [trimQ_len]
   have := cutN_le (((1 : Int) : Rat) :: numQ c a) (((1 : Int) : Rat) :: numQ c a).length
   have h2 := numQ_len c a
   have := h.l2
   rw [List.length_cons] at *
   omega
 ·exact ⟨[], [], _, (fun x hx => by cases hx), (fun x hx => by cases hx), by simp, by simp, fun q q' => ev_IdealE I N q q' b a c hb ha h0, fun q q' => ev_IdealE3 I N q q' b a c hb ha h0⟩
theorem ev_law23_DirectBuilds (I : FixedLib L) (J : NetLib L) (R : RunGLib L) (B : LawBLib L) (b a : List Int) (q1 q2 : Bool) (d c : Wd) : Ev L 187 [.sl q1 (b.map encInt), .sl q2 (a.map encInt), .agg (encW d), .agg (encW c)] (.bool true) := by
 have hK := ev_law23_known I J R B.toDirectGLib
 by_cases hbig : 60 < b.length ∨ 20 < a.length
 ·refine Ev.x B.law23_DirectBuilds rfl rfl ?_
  (repeat' (first | (refine CmpP.go (fun hc => ?_) (fun hc => ?_) <;> first | (exfalso; omega) | (conv => whnf)) | (refine LenP.go ?_; conv => whnf) | (refine AKM.x ?_; conv => whnf) | (refine CallP.go (hK) ?_; conv => whnf)))
  all_goals exact FinP.b rfl
 ·obtain ⟨n1, e1, s1, f1, g1⟩ := both_one I B.toBldGLib b a d c (by omega) (by omega)
  obtain ⟨n2, e2, s2, f2, g2⟩ := both_two I B.toBldGLib b a d c (by omega) (by omega)
  obtain ⟨n3, e3, s3, f3, g3⟩ := both_tr I B.toBldGLib b a d c (by omega) (by omega)
  obtain ⟨n4, e4, s4, f4, g4⟩ := both_fir I B.toBldGLib b d c (by omega)
  obtain ⟨p, r, e5, b1, b2, l1, l2, f5, g5⟩ := both_ideal I B.toBldGLib b a c (by omega) (by omega)
  have k1 := ev_SameNets I B.toBldGLib n1 s1.hn s1.ht s1.hx
  have k2 := ev_SameNets I B.toBldGLib n2 s2.hn s2.ht s2.hx
  have k3 := ev_SameNets I B.toBldGLib n3 s3.hn s3.ht s3.hx
  have k4 := ev_SameNets I B.toBldGLib n4 s4.hn s4.ht s4.hx
  have k5 := ev_SameFilters B.toBldGLib p r 64 b1 b2 (by omega) l1 l2
  refine Ev.x B.law23_DirectBuilds rfl rfl ?_
  (repeat' (first | (refine CmpP.go (fun hc => ?_) (fun hc => ?_) <;> first | (exfalso; omega) | (conv => whnf)) | (refine LenP.go ?_; conv => whnf) | (refine AKM.x ?_; conv => whnf) | (refine CallP.go (hK) ?_; conv => whnf) | (refine CallP.go (f1 _ _) ?_; conv => whnf) | (refine CallP.go (g1 _ _) ?_; conv => whnf) | (refine CallP.go (f2 _ _) ?_; conv => whnf) | (refine CallP.go (g2 _ _) ?_; conv => whnf) | (refine CallP.go (f3 _ _) ?_; conv => whnf) | (refine CallP.go (g3 _ _) ?_; conv => whnf) | (refine CallP.go (f4 _) ?_; conv => whnf) | (refine CallP.go (g4 _) ?_; conv => whnf) | (refine CallP.go (f5 _ _) ?_; conv => whnf) | (refine CallP.go (g5 _ _) ?_; conv => whnf) | (refine CallP.go (k1) ?_; conv => whnf) | (refine CallP.go (k2) ?_; conv => whnf) | (refine CallP.go (k3) ?_; conv => whnf) | (refine CallP.go (k4) ?_; conv => whnf) | (refine CallP.go (k5) ?_; conv => whnf)))
  all_goals exact FinP.b rfl
end Go.Eng

namespace Go.Eng
open Go.ChangeShapes Go.WideShapes Go.ChangeAt Go.RowKit
inductive Ty where
 | int (k : IntKind)
 | bool
 | sl (e : Ty)
 | nil
 | cons (a r : Ty)
def Ty.cells : Ty → Nat
 | .int _ => 1 | .bool => 1 | .sl _ => 1
 | .nil => 0
 | .cons a r => a.cells + r.cells
def HasL : Ty → List AV → Prop
 | .int k, cs => ∃ n, cs = [.int k n] ∧ (Lit.int k n).wf = true
 | .bool, cs => ∃ b, cs = [.bool b]
 | .sl e, cs => ∃ es, cs = [.sl true es] ∧ es.length ≤ maxLen ∧ ∀ x ∈ es, HasL e x
 | .nil, cs => cs = []
 | .cons a r, cs => ∃ x y, cs = x ++ y ∧ HasL a x ∧ HasL r y
theorem HasL.len : ∀ {ty : Ty} {cs : List AV}, HasL ty cs → cs.length = ty.cells
 | .int _, cs, h => by obtain ⟨n, rfl, _⟩ := h; rfl
 | .bool, cs, h => by obtain ⟨n, rfl⟩ := h; rfl
 | .sl _, cs, h => by obtain ⟨n, rfl, _⟩ := h; rfl
 | .nil, cs, h => by rw [show cs = [] from h]; rfl
 | .cons a r, cs, h => by obtain ⟨x, y, rfl, h1, h2⟩ := h; simp [Ty.cells, HasL.len h1, HasL.len h2]
def okTy (P : Program) : Nat → TypeId → Ty → Bool
 | 0, _, _ => false
 | n + 1, t, ty => match P.underlying t, ty with
  | some (.int k), .int k' => decide (k = k')
  | some .bool, .bool => true
  | some (.slice e), .sl ty' => okTy P n e ty' && (P.cellsOf e == ty'.cells && decide (0 < ty'.cells))
  | some (.struct fs), ty => go (okTy P n) fs.toList 0 ty && P.cellsOf t == ty.cells
  | _, _ => false
where
 go (ok : TypeId → Ty → Bool) : List Field → Nat → Ty → Bool
  | [], _, .nil => true
  | f :: fs, off, .cons a r => (f.offset == off && (ok f.type a && P.cellsOf f.type == a.cells)) && go ok fs (off + a.cells) r
  | _, _, _ => false
section
variable {H : Type} {enc : TypeId × Value → H} {P : Program} {w : World} {base : Nat} {spare : Nat → Bool} {held : Bool} {R : Bool → Nat → Prop}
def RdL (w : World) (R : Bool → Nat → Prop) (as : List AV) (cs : List Value) : Prop := as.length = cs.length ∧ ∀ (j : Nat) (a : AV) (c : Value), as[j]? = some a → cs[j]? = some c → Rd w R a c
theorem RdL.one {a : AV} {c : Value} (h : Rd w R a c) : RdL w R [a] [c] := by
 refine ⟨rfl, fun j a' c' h1 h2 => ?_⟩
 cases j with
 | zero => simp at h1 h2; subst h1 h2; exact h
 | succ j => simp at h1
theorem RdL.append {as bs : List AV} {cs ds : List Value} (h1 : RdL w R as cs) (h2 : RdL w R bs ds) : RdL w R (as ++ bs) (cs ++ ds) := by
 refine ⟨by simp [h1.1, h2.1], fun j a c ha hc => ?_⟩
 by_cases hj : j < as.length
 ·rw [List.getElem?_append_left hj] at ha
  rw [List.getElem?_append_left (by rw [← h1.1]; exact hj)] at hc
  exact h1.2 j a c ha hc
 ·rw [List.getElem?_append_right (by omega)] at ha
  rw [List.getElem?_append_right (by rw [← h1.1]; omega), ← h1.1] at hc
  exact h2.2 _ a c ha hc
theorem add_off (a : Addr) (i : Nat) (h : a.spot = none) : a.add i = ⟨a.block, a.off + i, none⟩ := by
 obtain ⟨b, o, s⟩ := a
 simp only at h
 subst h
 exact add_none b o i
theorem open_go (hR : ∀ b, b < w.heap.size → R true b) (m : Nat) (ih : ∀ (ty : Ty) (t : TypeId) (cs : List Value) (fuel : Nat) (x : DataW H × List MemPlace), okTy P m t ty = true → DataW.trod enc P w base spare held fuel t cs = some x → ∃ as, HasL ty as ∧ RdL w R as cs)
  (n : Nat) (cs : List Value) : ∀ (fs : List Field) (off : Nat) (ty : Ty), okTy.go P (okTy P m) fs off ty = true → (∀ f ∈ fs, ∃ y, DataW.trod enc P w base spare held n f.type ((cs.drop f.offset).take (P.cellsOf f.type)) = some y) → off + ty.cells = cs.length → ∃ as, HasL ty as ∧ RdL w R as (cs.drop off)
 | [], off, ty, hok, _, hl => by
  cases ty <;> simp only [okTy.go, Bool.false_eq_true] at hok
  simp only [Ty.cells] at hl
  exact ⟨[], rfl, by rw [List.drop_of_length_le (by omega)]; exact ⟨rfl, fun j a c h => by simp at h⟩⟩
 | f :: fs, off, ty, hok, hf, hl => by
  cases ty <;> simp only [okTy.go, Bool.false_eq_true, Bool.and_eq_true, beq_iff_eq] at hok
  rename_i a r
  obtain ⟨⟨h1, h2, h3⟩, h4⟩ := hok
  simp only [Ty.cells] at hl
  obtain ⟨y, hy⟩ := hf f List.mem_cons_self
  rw [h1, h3] at hy
  obtain ⟨as1, g1, g2⟩ := ih a f.type _ n y h2 hy
  obtain ⟨as2, g3, g4⟩ := open_go hR m ih n cs fs (off + a.cells) r h4 (fun f' h' => hf f' (List.mem_cons_of_mem _ h')) (by omega)
  refine ⟨as1 ++ as2, ⟨as1, as2, rfl, g1, g3⟩, ?_⟩
  have := g2.append g4
  rwa [show (cs.drop off).take a.cells ++ cs.drop (off + a.cells) = cs.drop off by rw [← List.drop_drop, List.take_append_drop]] at this
theorem open_any (hR : ∀ b, b < w.heap.size → R true b) : ∀ (m : Nat) (ty : Ty) (t : TypeId) (cs : List Value) (fuel : Nat) (x : DataW H × List MemPlace), okTy P m t ty = true → DataW.trod enc P w base spare held fuel t cs = some x → ∃ as, HasL ty as ∧ RdL w R as cs
 | 0, _, _, _, _, _, h, _ => by simp [okTy] at h
 | m + 1, ty, t, cs, fuel, x, hok, h => by
  have ih := open_any hR m
  simp only [okTy] at hok
  split at hok
  ·rename_i k k' hu
   obtain rfl : k = k' := by simpa using hok
   obtain ⟨n, rfl, _, hw⟩ := DataW.trod_int hu h
   exact ⟨[.int k n], ⟨n, rfl, hw⟩, RdL.one (.int k n)⟩
  ·rename_i hu
   cases fuel with
   | zero => simp [DataW.trod] at h
   | succ fuel =>
    unfold DataW.trod at h
    rw [hu] at h
    split at h <;> simp_all
    exact ⟨_, ⟨_, rfl⟩, RdL.one (.bool _)⟩
  ·rename_i e ty' hu
   simp only [Bool.and_eq_true, beq_iff_eq, decide_eq_true_eq] at hok
   obtain ⟨h1, h2, h3⟩ := hok
   rcases DataW.trod_slice hu h with ⟨rfl, _⟩ | ⟨a, len, cap, elems, rest, n, _, rfl, _, hb, hl, hm, hlen, hel, _, _⟩
   ·exact ⟨[.sl true []], ⟨[], rfl, by simp, by simp⟩, RdL.one (.sl0 true none 0)⟩
   ·have each : ∀ i, i < len → ∃ as cs', HasL ty' as ∧ RdL w R as cs' ∧ cs'.length = ty'.cells ∧ ∀ j, j < ty'.cells → w.cell? ((a.add (i * ty'.cells)).add j) = cs'[j]? := by
     intro i hi
     have := hel i hi
     rw [h2, List.getElem?_eq_getElem (by omega), Option.bind_eq_some_iff] at this
     obtain ⟨cs', hc, ht⟩ := this
     obtain ⟨as, g1, g2⟩ := ih ty' e cs' n _ h1 ht
     obtain ⟨_, q1, q2⟩ := World.cells?_some hc
     exact ⟨as, cs', g1, g2, q1, q2⟩
    by_cases h0 : len = 0
    ·subst h0
     exact ⟨[.sl true []], ⟨[], rfl, by simp, by simp⟩, RdL.one (.sl0 true (some a) cap)⟩
    ·have hspot : a.spot = none := by
      obtain ⟨as, cs', _, _, q1, q2⟩ := each 0 (by omega)
      have := q2 0 h3
      rw [List.getElem?_eq_getElem (by omega)] at this
      simpa [Addr.add] using World.cell?_spot this
     have hblk : a.block < w.heap.size := by
      obtain ⟨as, cs', _, _, q1, q2⟩ := each 0 (by omega)
      have := q2 0 h3
      rw [List.getElem?_eq_getElem (by omega)] at this
      simpa [Addr.add] using cell_lt this
     have pick : ∃ f : Nat → List AV × List Value, ∀ i, i < len → HasL ty' (f i).1 ∧ RdL w R (f i).1 (f i).2 ∧ (f i).2.length = ty'.cells ∧ ∀ j, j < ty'.cells → w.cell? ((a.add (i * ty'.cells)).add j) = (f i).2[j]? := by
      refine ⟨fun i => if hi : i < len then (Classical.choose (each i hi), Classical.choose (Classical.choose_spec (each i hi))) else ([], []), fun i hi => ?_⟩
      simp only [hi, dif_pos]
      exact Classical.choose_spec (Classical.choose_spec (each i hi))
     obtain ⟨f, hf⟩ := pick
     have hget : ∀ i e', ((List.range len).map fun i => (f i).1)[i]? = some e' → i < len ∧ e' = (f i).1 := by
      intro i e' he
      rw [List.getElem?_map] at he
      by_cases hi : i < len
      ·rw [List.getElem?_range hi] at he
       simp at he
       exact ⟨hi, he.symm⟩
      ·rw [List.getElem?_eq_none (by simpa using hi)] at he
       cases he
     refine ⟨[.sl true ((List.range len).map fun i => (f i).1)], ⟨_, rfl, by simp; omega, fun x hx => ?_⟩, RdL.one ?_⟩
     ·obtain ⟨i, hi, rfl⟩ := List.mem_map.1 hx
      exact (hf i (List.mem_range.1 hi)).1
     ·obtain ⟨ab, ao, as⟩ := a
      simp only at hspot
      subst hspot
      have hlen' : ((List.range len).map fun i => (f i).1).length = len := by simp
      have := Rd.sl (w := w) (R := R) true ((List.range len).map fun i => (f i).1) ab ao ty'.cells cap (fun i j => ((f i).2[j]?).getD default) (by intro e; have := congrArg List.length e; simp at this; omega) h3 (hR ab hblk) (by rw [hlen']; exact hl)
       (fun e' he => by
        obtain ⟨i, hi, rfl⟩ := List.mem_map.1 he
        exact (hf i (List.mem_range.1 hi)).1.len)
       (fun i e' he j c hc => by
        obtain ⟨hi, rfl⟩ := hget i e' he
        obtain ⟨g1, g2, g3, g4⟩ := hf i hi
        have hj : j < ty'.cells := by
         have := (List.getElem?_eq_some_iff.1 hc).1
         rwa [g1.len] at this
        have h5 := g4 j hj
        rw [add_off ⟨ab, ao, none⟩ (i * ty'.cells) rfl, add_off _ _ rfl] at h5
        simp only at h5
        rw [show ao + (i * ty'.cells + j) = ao + i * ty'.cells + j by omega, h5, List.getElem?_eq_getElem (by omega)]
        rfl)
       (fun i e' he j c hc => by
        obtain ⟨hi, rfl⟩ := hget i e' he
        obtain ⟨g1, g2, g3, g4⟩ := hf i hi
        have hj : j < ty'.cells := by
         have := (List.getElem?_eq_some_iff.1 hc).1
         rwa [g1.len] at this
        have h6 : (f i).2[j]? = some ((f i).2[j]'(by omega)) := List.getElem?_eq_getElem _
        rw [h6]
        exact g2.2 j c _ hc h6)
      rwa [hlen'] at this
  ·rename_i fs hu
   simp only [Bool.and_eq_true, beq_iff_eq] at hok
   obtain ⟨h1, h2⟩ := hok
   obtain ⟨xs, n, _, _, hl, hlen, hf⟩ := DataW.trod_struct hu h
   have := open_go hR m ih n cs fs.toList 0 _ h1 (fun f hf' => by
    obtain ⟨i, hi, rfl⟩ := List.getElem_of_mem hf'
    have h5 := hf i fs.toList[i] (by simp)
    rw [h5, List.getElem?_eq_getElem (by simpa [hlen] using hi)]
    exact ⟨_, rfl⟩) (by rw [hl, h2]; omega)
   simpa using this
  ·exact absurd hok (by simp)
theorem open_cell {S : Nat → Prop} {ty : Ty} {t : TypeId} {v : Value} {d : DataW H} {ps : List MemPlace} {m : Nat} (hok : okTy P m t ty = true) (hv : v.cells.toList = [v]) (h : DataW.Trod enc P w base spare held t v d ps) :
  ∃ a, HasL ty [a] ∧ CA w.heap.size S ⟨fun _ _ => none, Own.emp, w⟩ a v := by
 obtain ⟨fuel, hf⟩ := h
 rw [hv] at hf
 obtain ⟨as, h1, h2⟩ := open_any (R := safe w.heap.size S ⟨fun _ _ => none, Own.emp, w⟩) (fun b hb => Or.inr (Or.inr ⟨rfl, hb⟩)) m ty t [v] fuel _ hok hf
 obtain ⟨a, rfl⟩ : ∃ a, as = [a] := by
  have := h2.1
  match as, this with
  | [a], _ => exact ⟨a, rfl⟩
 exact ⟨a, h1, .one (.rd (h2.2 0 a v rfl rfl))⟩
theorem open_st {S : Nat → Prop} {ty : Ty} {t : TypeId} {cs : Array Value} {d : DataW H} {ps : List MemPlace} {m : Nat} (hok : okTy P m t ty = true) (h : DataW.Trod enc P w base spare held t (.agg cs) d ps) :
  ∃ as, HasL ty as ∧ CA w.heap.size S ⟨fun _ _ => none, Own.emp, w⟩ (.agg as) (.agg cs) := by
 obtain ⟨fuel, hf⟩ := h
 obtain ⟨as, h1, h2⟩ := open_any (R := safe w.heap.size S ⟨fun _ _ => none, Own.emp, w⟩) (fun b hb => Or.inr (Or.inr ⟨rfl, hb⟩)) m ty t cs.toList fuel _ hok hf
 refine ⟨as, h1, ?_⟩
 have := CA.agg (B := w.heap.size) (S := S) (m := ⟨fun _ _ => none, Own.emp, w⟩) as cs.toList ⟨h2.1, fun j c v hc hv => .rd (h2.2 j c v hc hv)⟩
 simpa using this
end
theorem list_of {α : Type} {enc : α → List AV} : ∀ {es : List (List AV)}, (∀ x ∈ es, ∃ y, x = enc y) → ∃ l : List α, es = l.map enc
 | [], _ => ⟨[], rfl⟩
 | e :: r, h => by
  obtain ⟨y, rfl⟩ := h e List.mem_cons_self
  obtain ⟨l, rfl⟩ := list_of fun x hx => h x (List.mem_cons_of_mem _ hx)
  exact ⟨y :: l, rfl⟩
theorem args_nil {B : Nat} {S : Nat → Prop} {m : M} : ∀ (j : Nat) (c : AV) (v : Value), ([] : List AV)[j]? = some c → ([] : List Value)[j]? = some v → CA B S m c v := fun j c v h => by simp at h
theorem args_cons {B : Nat} {S : Nat → Prop} {m : M} {a : AV} {u : Value} {as : List AV} {us : List Value} (h : CA B S m a u) (hr : ∀ (j : Nat) (c : AV) (v : Value), as[j]? = some c → us[j]? = some v → CA B S m c v) :
  ∀ (j : Nat) (c : AV) (v : Value), (a :: as)[j]? = some c → (u :: us)[j]? = some v → CA B S m c v
 | 0, c, v, h1, h2 => by simp at h1 h2; subst h1 h2; exact h
 | j + 1, c, v, h1, h2 => hr j c v (by simpa using h1) (by simpa using h2)
theorem has_sl {α : Type} {enc : α → List AV} {e : Ty} {cs : List AV} (he : ∀ x, HasL e x → ∃ y, x = enc y) (h : HasL (.sl e) cs) : ∃ l : List α, cs = [.sl true (l.map enc)] ∧ l.length < 9223372036854775808 := by
 obtain ⟨es, rfl, hl, hx⟩ := h
 obtain ⟨l, rfl⟩ := list_of (enc := enc) fun x hm => he x (hx x hm)
 refine ⟨l, rfl, ?_⟩
 have : maxLen = 9223372036854775807 := rfl
 simp at hl
 omega
theorem law_calls {P : Program} {num : Nat → Nat} {L : Lib} (hP : ProgOK P num L) {f : Nat} {vs : List AV} (h : Ev L f vs (.bool true)) {S : Nat → Prop} {w : World} {us : List Value} (hl : vs.length = us.length)
  (ha : ∀ (j : Nat) (c : AV) (v : Value), vs[j]? = some c → us[j]? = some v → CA w.heap.size S ⟨fun _ _ => none, Own.emp, w⟩ c v) :
  Calls P (num f) us.toArray w fun e w' => e = .returned (.bool true) ∧ Below w.heap.size w w' := by
 obtain ⟨n, hn⟩ := h
 refine ((calls_ok hP n).pure f vs _ hn S w us hl ha).mono ?_
 rintro e w' ⟨u, rfl, hb, hcv, _⟩
 refine ⟨?_, hb⟩
 cases hcv with
 | ca hca => cases hca with
  | one hcc => cases hcc with
   | rd hrd => cases hrd; rfl
end Go.Eng

namespace Go.Eng
abbrev tI : Ty := .int .i64
abbrev tW : Ty := .cons tI (.cons tI (.cons tI (.cons tI .nil)))
theorem has_i {cs : List AV} (h : HasL tI cs) : ∃ n, cs = encInt n := by obtain ⟨n, rfl, _⟩ := h; exact ⟨n, rfl⟩
theorem has_ints {cs : List AV} (h : HasL (.sl tI) cs) : ∃ l : List Int, cs = [.sl true (l.map encInt)] ∧ l.length < 9223372036854775808 := has_sl (fun _ => has_i) h
theorem has_w {cs : List AV} (h : HasL tW cs) : ∃ w : Wd, cs = encW w := by
 obtain ⟨_, _, rfl, ⟨a, rfl, _⟩, _, _, rfl, ⟨b, rfl, _⟩, _, _, rfl, ⟨c, rfl, _⟩, _, _, rfl, ⟨d, rfl, _⟩, rfl⟩ := h
 exact ⟨⟨a, b, c, d⟩, rfl⟩
end Go.Eng
