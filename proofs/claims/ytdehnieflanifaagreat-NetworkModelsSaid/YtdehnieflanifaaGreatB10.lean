/-
  Rational numbers (layer 3).
-/
import Derived.Test.YtdehnieflanifaaGreatB9
import Derived.Test.YtdehnieflanifaaGreatB4
import Derived.Test.YtdehnieflanifaaGreatB8
set_option linter.unusedSimpArgs false
set_option linter.unusedVariables false
set_option linter.unnecessarySimpa false
namespace Go.Eng
open F
attribute [local irreducible] AKM CmpP Req OpP UnP ConvP RdP LdR StR MkR LenP AppR AppN CpyR RowP SnR Bds SlS CallP CalP FinP pw LdM GetM SetM PutM MkM AppM SnM FlP CallR
set_option maxHeartbeats 4000000
variable {L : Lib}
theorem dg_one : dg 1 = [1] := by rw [dg_pos (by omega)]; simp [dg_zero]
theorem ev_isOne (N : RatGLib L) (V : Nat) (q : Bool) : Ev L 90 [.sl q ((dg V).map e32)] (.bool (decide (V = 1))) := by
 have hv := val_dg V
 have hD := dig_dg V
 have h1 : V = 1 → dg V = [1] := fun h => by rw [h, dg_one]
 generalize dg V = l at *
 refine Ev.x N.rational_isOne rfl rfl ?_
 by_cases hl : l.length = 1
 ·obtain ⟨d, rfl⟩ := List.length_eq_one_iff.1 hl
  have e : V = d := by rw [← hv]; simp [val]
  subst e
  have hd : [V][(0 : Int).toNat]? = some V := rfl
  (repeat' (first | (refine CmpP.go (fun hc => ?_) (fun hc => ?_) <;> first | (exfalso; omega) | (conv => whnf)) | (refine LenP.go ?_; conv => whnf) | (refine RdP.at (by assumption) (by omega) rfl ?_; conv => whnf) | (refine AKM.x ?_; conv => whnf)))
  ·exact FinP.dt (by omega)
  ·exact FinP.df (by omega)
 ·(repeat' (first | (refine CmpP.go (fun hc => ?_) (fun hc => ?_) <;> first | (exfalso; omega) | (conv => whnf)) | (refine LenP.go ?_; conv => whnf) | (refine AKM.x ?_; conv => whnf)))
  exact FinP.df (fun h => by rw [h1 h] at hl; simp at hl)
theorem ev_lowest (N : RatGLib L) (n q1 q2 : Bool) (m d : List Nat) (hm : Sm 549755813888 m) (hd : Sm 549755813888 d) (h0 : val d ≠ 0) : Ev L 94 [.agg (rQ q1 q2 n m d)] (.agg (eQ (qv n m d))) := by
 have hDM := fun q q' => ev_nat_DivMod N.toNatGLib m d q q' hm.1 hd.1 hm.2 hd.2 h0
 have hza := zv_abs n m
 have sq : Sm 549755813888 (dg (val m / val d)) := hm.low (Nat.div_le_self _ _)
 have sr : Sm 549755813888 (dg (val m % val d)) := hd.low (Nat.le_of_lt (Nat.mod_lt _ (by omega)))
 have hT := fun q => ev_integer_Trim N n q _ sq
 have hG := fun q q' => ev_nat_Gcd N.toNatGLib d (dg (val m % val d)) q q' hd.1 sr.1 hd.2 sr.2
 rw [val_dg, show Nat.gcd (val d) (val m % val d) = Nat.gcd (val d) (zv n m).natAbs by rw [hza, gcd_mod_step, Nat.gcd_comm]] at hG
 have hgp := gcd_pos' (zv n m).natAbs h0
 have hgd := Nat.gcd_le_left (zv n m).natAbs (show 0 < val d by omega)
 have hz := dg_len0 (val m % val d)
 obtain ⟨e1, e2, e3⟩ := mk_parts (z := zv n m) h0
 unfold qv
 generalize hGG : Nat.gcd (val d) (zv n m).natAbs = g at *
 have h1 := fun q => ev_isOne N g q
 refine Ev.x N.rational_pair_lowest rfl rfl ?_
 by_cases hr0 : val m % val d = 0
 ·(repeat' (first | (refine CmpP.go (fun hc => ?_) (fun hc => ?_) <;> first | (exfalso; omega) | (conv => whnf)) | (refine LenP.go ?_; conv => whnf) | (refine AKM.x ?_; conv => whnf) | (refine CallP.go (hDM _ _) ?_; conv => whnf) | (refine CallP.go (hT _) ?_; conv => whnf)))
  refine CalP.walkC 1000 N.rational_whole rfl rfl ?_
  (repeat' (refine AKM.x ?_; conv => whnf))
  refine ⟨rfl, ?_⟩
  (conv => whnf)
  (repeat' (refine SnR.e1 rfl ?_; conv => whnf))
  have hge : g = val d := by
   rw [← hGG, hza]
   exact Nat.gcd_eq_left (Nat.dvd_of_mod_eq_zero hr0)
  have hv := val_dg (val m / val d)
  refine FinP.go ?_ ?_
  ·show _ = AV.agg (rQ _ _ _ _ _)
   rw [e1, e2, e3, hza, hge, Nat.div_self (by omega), zv_abs, hv, dg_one]
   have hs : decide (zv n (dg (val m / val d)) < 0) = decide (zv n m < 0) := by
    cases n
    ·rw [zv_F, zv_F]; simp; omega
    ·rw [zv_T, zv_T, hv]
     congr 1
     rw [eq_iff_iff]
     have h5 := Nat.div_add_mod (val m) (val d)
     rw [hr0, Nat.add_zero] at h5
     constructor
     ·intro h6
      have h7 : val m / val d ≠ 0 := by omega
      have : val m ≠ 0 := fun h8 => h7 (by rw [h8, Nat.zero_div])
      omega
     ·intro h6
      have h7 : val m / val d ≠ 0 := fun h8 => by rw [h8, Nat.mul_zero] at h5; omega
      omega
   rw [hs]
   rfl
  ·exact cl_eQ _
 ·by_cases hg1 : g = 1
  ·have hT1 := fun q => ev_integer_Trim N n q m hm
   have hT2 := fun q => ev_Trim N.toNatGLib d q hd.1 (by have := hd.2; omega)
   (repeat' (first | (refine CmpP.go (fun hc => ?_) (fun hc => ?_) <;> first | (exfalso; omega) | (conv => whnf)) | (refine LenP.go ?_; conv => whnf) | (refine AKM.x ?_; conv => whnf) | (refine CallP.go (hDM _ _) ?_; conv => whnf) | (refine CallP.go (hG _ _) ?_; conv => whnf) | (refine CallP.b (h1 _) (fun hf => ?_) (fun hf => ?_) <;> (conv => whnf)) | (refine CallP.go (hT1 _) ?_; conv => whnf) | (refine CallP.go (hT2 _) ?_; conv => whnf)))
   ·refine FinP.go ?_ (cl_agg3 _ _ _)
    show _ = AV.agg (rQ _ _ _ _ _)
    rw [e1, e2, e3, hg1, Nat.div_one, Nat.div_one]
   ·exact absurd hg1 hf
  ·have sg : Sm 549755813888 (dg g) := hd.low hgd
   have hD1 := fun q q' => ev_nat_DivMod N.toNatGLib m (dg g) q q' hm.1 sg.1 hm.2 sg.2 (by rw [val_dg]; omega)
   have hD2 := fun q q' => ev_nat_DivMod N.toNatGLib d (dg g) q q' hd.1 sg.1 hd.2 sg.2 (by rw [val_dg]; omega)
   rw [val_dg] at hD1 hD2
   (repeat' (first | (refine CmpP.go (fun hc => ?_) (fun hc => ?_) <;> first | (exfalso; omega) | (conv => whnf)) | (refine LenP.go ?_; conv => whnf) | (refine AKM.x ?_; conv => whnf) | (refine CallP.go (hDM _ _) ?_; conv => whnf) | (refine CallP.go (hG _ _) ?_; conv => whnf) | (refine CallP.b (h1 _) (fun hf => ?_) (fun hf => ?_) <;> (conv => whnf)) | (refine CallP.go (hD1 _ _) ?_; conv => whnf) | (refine CallP.go (hD2 _ _) ?_; conv => whnf)))
   ·exact absurd hf hg1
   ·refine FinP.go ?_ (cl_agg3 _ _ _)
    show _ = AV.agg (rQ _ _ _ _ _)
    rw [e1, e2, e3, hza]
    have hs : n = decide (zv n m < 0) := by
     have : val m ≠ 0 := fun h => hr0 (by rw [h, Nat.zero_mod])
     cases n
     ·exact sgn_F (by rw [zv_F]; omega)
     ·exact sgn_T (by rw [zv_T]; omega)
    rw [← hs]
theorem ev_natural (N : RatGLib L) (m : List Nat) : Ev L 91 [.sl false (m.map e32)] (.agg [.bool false, .sl false (m.map e32)]) := by
 refine Ev.x N.rational_natural rfl rfl ?_
 (repeat' (refine AKM.x ?_; conv => whnf))
 exact FinP.go rfl (cl_agg2 _ _)
def RdIs (n : Bool) (m d : List Nat) (n' : Bool) (m' d' : List Nat) (w : Bool) (k : Nat) : Prop := Sm k m' ∧ Sm k d' ∧ val d' ≠ 0 ∧ (w = true → val d' = 1) ∧ qv n m d = mkRat (zv n' m') (val d')
theorem ev_read (N : RatGLib L) (n : Bool) (m d : List Nat) (k : Nat) (hk : 1 ≤ k ∧ k ≤ 549755813888) (hm : Sm k m) (hd : Sm k d) : ∃ n' m' d' w, Ev L 89 [.agg (rQ false false n m d)] (.agg [.bool n', .sl false (m'.map e32), .sl false (d'.map e32), .bool w]) ∧ RdIs n m d n' m' d' w k := by
 have hcmp := fun q q' => ev_nat_Compare N.toNatGLib d [] q q' hd.1 dig_nil (by have := hd.2; omega) (by simp)
 rw [val_nil] at hcmp
 by_cases h1 : d = [1]
 ·subst h1
  refine ⟨n, m, [1], true, ?_, hm, hd, by decide, fun _ => rfl, rfl⟩
  refine Ev.x N.rational_read rfl rfl ?_
  have hd : [1][(0 : Int).toNat]? = some 1 := rfl
  have hll : ([1] : List Nat).length = 1 := rfl
  (repeat' (first | (refine CmpP.go (fun hc => ?_) (fun hc => ?_) <;> first | (exfalso; omega) | (conv => whnf)) | (refine LenP.go ?_; conv => whnf) | (refine RdP.at (by assumption) (by omega) rfl ?_; conv => whnf) | (refine AKM.x ?_; conv => whnf)))
  exact FinP.go rfl (cl_agg4 _ _ _ _)
 have hne : ∀ x, d[(0 : Int).toNat]? = some x → (d.length : Int) = 1 → (x : Int) ≠ 1 := fun x hx hl h => by
  obtain ⟨y, rfl⟩ := List.length_eq_one_iff.1 (show d.length = 1 by omega)
  simp at hx
  apply h1
  congr 1
  omega
 by_cases h0 : val d = 0
 ·refine ⟨false, [], [1], true, ?_, sm_nil _, sm_one hk.1 (by omega), by decide, fun _ => rfl, by unfold qv; rw [h0, Rat.mkRat_zero, zv_nil, Rat.zero_mkRat]⟩
  have hn : cmpS (val d) (0 : Nat) = 0 := (cmpS_eq (by omega)).symm
  rw [hn] at hcmp
  refine Ev.x N.rational_read rfl rfl ?_
  have hD := hd.1
  (repeat' (first | (refine CmpP.go (fun hc => ?_) (fun hc => ?_) <;> first | (exfalso; omega) | (conv => whnf)) | (refine LenP.go ?_; conv => whnf) | (refine RdP.digi (by assumption) (by omega) (fun e he hb => ?_); conv => whnf) | (refine SnR.e1 rfl ?_; conv => whnf) | (refine AKM.x ?_; conv => whnf) | (refine CallP.go (hcmp _ _) ?_; conv => whnf)))
  all_goals first
   | exact FinP.go rfl (cl_agg4 _ _ _ _)
   | exact FinP.go rfl (cl_agg4 false true [] [1])
   | exact absurd (by assumption) (hne _ he (by assumption))
 ·refine ⟨n, m, d, false, ?_, hm, hd, h0, (fun h => by cases h), rfl⟩
  have hn : cmpS (val d) (0 : Nat) = 1 := (cmpS_gt (by omega)).symm
  rw [hn] at hcmp
  have hD := hd.1
  refine Ev.x N.rational_read rfl rfl ?_
  (repeat' (first | (refine CmpP.go (fun hc => ?_) (fun hc => ?_) <;> first | (exfalso; omega) | (conv => whnf)) | (refine LenP.go ?_; conv => whnf) | (refine RdP.digi (by assumption) (by omega) (fun e he hb => ?_); conv => whnf) | (refine AKM.x ?_; conv => whnf) | (refine CallP.go (hcmp _ _) ?_; conv => whnf)))
  all_goals first
   | exact FinP.go rfl (cl_agg4 _ _ _ _)
   | exact FinP.go rfl (cl_agg4 false true [] [1])
   | exact absurd (by assumption) (hne _ he (by assumption))
theorem ev_rational_Trim (N : RatGLib L) (n q1 q2 : Bool) (m d : List Nat) (hm : Sm 549755813888 m) (hd : Sm 549755813888 d) : Ev L 95 [.agg (rQ q1 q2 n m d)] (.agg (eQ (qv n m d))) := by
 obtain ⟨n', m', d', w, hr, s1, s2, s3, s4, s5⟩ := ev_read N n m d 549755813888 (by omega) hm hd
 have hl := fun q1 q2 => ev_lowest N n' q1 q2 m' d' s1 s2 s3
 rw [s5]
 unfold qv at hl
 refine Ev.x N.rational_Trim rfl rfl ?_
 (repeat' (first | (refine FlP.n4 ?_; conv => whnf) | (refine AKM.x ?_; conv => whnf) | (refine CallP.go (hr) ?_; conv => whnf) | (refine CallP.go (hl _ _) ?_; conv => whnf)))
 exact FinP.go rfl (cl_eQ _)
theorem ev_rational_Sign (N : RatGLib L) (n q1 q2 : Bool) (m d : List Nat) (hm : Sm 549755813888 m) (hd : Sm 549755813888 d) : Ev L 97 [.agg (rQ q1 q2 n m d)] (.int .i64 (sgn (qv n m d).num)) := by
 obtain ⟨n', m', d', w, hr, s1, s2, s3, s4, s5⟩ := ev_read N n m d 549755813888 (by omega) hm hd
 have hl := fun q => ev_integer_Sign N n' q m' s1
 rw [s5, mk_sgn s3]
 refine Ev.x N.rational_Sign rfl rfl ?_
 (repeat' (first | (refine FlP.n4 ?_; conv => whnf) | (refine AKM.x ?_; conv => whnf) | (refine CallP.go (hr) ?_; conv => whnf) | (refine CallP.go (hl _) ?_; conv => whnf)))
 exact FinP.i rfl
theorem agg_whole (z : Int) : AV.agg [.bool (decide (z < 0)), .sl false ((dg z.natAbs).map e32), .sl false [[.int .u32 1]]] = .agg (eQ (z : Rat)) := by
 show _ = AV.agg (rQ _ _ _ _ _)
 rw [Rat.num_intCast, Rat.den_intCast, dg_one]; rfl
theorem ev_rational_Of (N : RatGLib L) (z : Int) (hz : -9223372036854775808 ≤ z ∧ z ≤ 9223372036854775807) : Ev L 96 [.int .i64 z] (.agg (eQ (z : Rat))) := by
 have h1 := ev_integer_Of N z hz
 refine Ev.x N.rational_Of rfl rfl ?_
 (repeat' (first | (refine AKM.x ?_; conv => whnf) | (refine CallP.go (h1) ?_; conv => whnf)))
 refine CalP.walkC 1000 N.rational_whole rfl rfl ?_
 (repeat' (refine AKM.x ?_; conv => whnf))
 refine ⟨rfl, ?_⟩
 (conv => whnf)
 (repeat' (refine SnR.e1 rfl ?_; conv => whnf))
 exact FinP.go (agg_whole z) (cl_eQ _)
theorem sm_zmul {k l : Nat} {n1 n2 : Bool} {a b : List Nat} (ha : Sm k a) (hb : Sm l b) : Sm (k + l) (dg (zv n1 a * zv n2 b).natAbs) := ha.mul hb (by rw [Int.natAbs_mul, zv_abs, zv_abs])
theorem sm_zadd {k : Nat} {x y : Int} (ha : Sm k (dg x.natAbs)) (hb : Sm k (dg y.natAbs)) : Sm (k + 1) (dg (x + y).natAbs) := ha.add hb (by rw [val_dg, val_dg]; omega)
theorem ev_rational_Add (N : RatGLib L) (k : Nat) (hk : 1 ≤ k ∧ k ≤ 68719476736) (n1 n2 q1 q2 q3 q4 : Bool) (m1 d1 m2 d2 : List Nat) (hm1 : Sm k m1) (hd1 : Sm k d1) (hm2 : Sm k m2) (hd2 : Sm k d2) :
  Ev L 98 [.agg (rQ q1 q2 n1 m1 d1), .agg (rQ q3 q4 n2 m2 d2)] (.agg (eQ (qv n1 m1 d1 + qv n2 m2 d2))) := by
 obtain ⟨a1, a2, a3, w1, hr1, s1, s2, s3, s4, s5⟩ := ev_read N n1 m1 d1 k (by omega) hm1 hd1
 obtain ⟨b1, b2, b3, w2, hr2, t1, t2, t3, t4, t5⟩ := ev_read N n2 m2 d2 k (by omega) hm2 hd2
 rw [s5, t5]
 have hA := fun q q' => ev_integer_Add N a1 b1 q q' a2 b2 (s1.le (by omega)) (t1.le (by omega))
 have hsum : Sm (k + 1) (dg (zv a1 a2 + zv b1 b2).natAbs) := sm_zadd (by rw [zv_abs]; exact s1.nrm) (by rw [zv_abs]; exact t1.nrm)
 by_cases hw : w1 = true ∧ w2 = true
 ·obtain ⟨rfl, rfl⟩ := hw
  rw [s4 rfl, t4 rfl, mk_add_same (by omega), mk_one]
  generalize zv a1 a2 + zv b1 b2 = z at *
  refine Ev.x N.rational_Add rfl rfl ?_
  (repeat' (first | (refine FlP.n4 ?_; conv => whnf) | (refine AKM.x ?_; conv => whnf) | (refine CallP.go (hr1) ?_; conv => whnf) | (refine CallP.go (hr2) ?_; conv => whnf) | (refine CallP.go (hA _ _) ?_; conv => whnf)))
  refine CalP.walkC 1000 N.rational_whole rfl rfl ?_
  (repeat' (refine AKM.x ?_; conv => whnf))
  refine ⟨rfl, ?_⟩
  (conv => whnf)
  (repeat' (refine SnR.e1 rfl ?_; conv => whnf))
  exact FinP.go (agg_whole z) (cl_eQ _)
 ·have hcmp := fun q q' => ev_nat_Compare N.toNatGLib a3 b3 q q' s2.1 t2.1 (by have := s2.2; omega) (by have := t2.2; omega)
  by_cases hde : val a3 = val b3
  ·have hn : cmpS (val a3) (val b3) = 0 := (cmpS_eq (by omega)).symm
   rw [hn] at hcmp
   rw [← hde, mk_add_same s3]
   generalize zv a1 a2 + zv b1 b2 = z at *
   have hl := fun q1 q2 => ev_lowest N (decide (z < 0)) q1 q2 (dg z.natAbs) a3 (hsum.le (by omega)) (s2.le (by omega)) s3
   unfold qv at hl
   rw [zv_of] at hl
   refine Ev.x N.rational_Add rfl rfl ?_
   cases w1 <;> cases w2
   ·(repeat' (first | (refine CmpP.go (fun hc => ?_) (fun hc => ?_) <;> first | (exfalso; omega) | (conv => whnf)) | (refine FlP.n4 ?_; conv => whnf) | (refine AKM.x ?_; conv => whnf) | (refine CallP.go (hr1) ?_; conv => whnf) | (refine CallP.go (hr2) ?_; conv => whnf) | (refine CallP.go (hA _ _) ?_; conv => whnf) | (refine CallP.go (hcmp _ _) ?_; conv => whnf) | (refine CallP.go (hl _ _) ?_; conv => whnf)))
    exact FinP.go rfl (cl_eQ _)
   ·(repeat' (first | (refine CmpP.go (fun hc => ?_) (fun hc => ?_) <;> first | (exfalso; omega) | (conv => whnf)) | (refine FlP.n4 ?_; conv => whnf) | (refine AKM.x ?_; conv => whnf) | (refine CallP.go (hr1) ?_; conv => whnf) | (refine CallP.go (hr2) ?_; conv => whnf) | (refine CallP.go (hA _ _) ?_; conv => whnf) | (refine CallP.go (hcmp _ _) ?_; conv => whnf) | (refine CallP.go (hl _ _) ?_; conv => whnf)))
    exact FinP.go rfl (cl_eQ _)
   ·(repeat' (first | (refine CmpP.go (fun hc => ?_) (fun hc => ?_) <;> first | (exfalso; omega) | (conv => whnf)) | (refine FlP.n4 ?_; conv => whnf) | (refine AKM.x ?_; conv => whnf) | (refine CallP.go (hr1) ?_; conv => whnf) | (refine CallP.go (hr2) ?_; conv => whnf) | (refine CallP.go (hA _ _) ?_; conv => whnf) | (refine CallP.go (hcmp _ _) ?_; conv => whnf) | (refine CallP.go (hl _ _) ?_; conv => whnf)))
    exact FinP.go rfl (cl_eQ _)
   ·exact absurd ⟨rfl, rfl⟩ hw
  ·have hn : cmpS (val a3) (val b3) ≠ 0 := by unfold cmpS; split <;> (try split) <;> omega
   generalize cmpS (val a3) (val b3) = cm at *
   have hM1 := fun q q' => ev_integer_Mul N a1 false q q' a2 b3 s1.1 t2.1 (by have := s1.2; have := t2.2; omega)
   have hM2 := fun q q' => ev_integer_Mul N b1 false q q' b2 a3 t1.1 s2.1 (by have := t1.2; have := s2.2; omega)
   have hM3 := fun q q' => ev_nat_Mul N.toNatGLib a3 b3 q q' s2.1 t2.1 (by have := s2.2; have := t2.2; omega)
   have hna := ev_natural N a3
   have hnb := ev_natural N b3
   have g1 : Sm (k + k) (dg (zv a1 a2 * zv false b3).natAbs) := sm_zmul s1 t2
   have g2 : Sm (k + k) (dg (zv b1 b2 * zv false a3).natAbs) := sm_zmul t1 s2
   have g3 := sm_zadd g1 g2
   have g4 : Sm (k + k) (dg (val a3 * val b3)) := s2.mul t2 rfl
   rw [mk_add s3 t3, ← zv_F b3, ← zv_F a3]
   have hden : val a3 * val b3 ≠ 0 := Nat.mul_ne_zero s3 t3
   generalize zv a1 a2 * zv false b3 = x at *
   generalize zv b1 b2 * zv false a3 = y at *
   generalize val a3 * val b3 = D at *
   have hA2 := fun q q' => ev_integer_Add N (decide (x < 0)) (decide (y < 0)) q q' (dg x.natAbs) (dg y.natAbs) (g1.le (by omega)) (g2.le (by omega))
   rw [zv_of, zv_of] at hA2
   generalize x + y = z at *
   have hl := fun q1 q2 => ev_lowest N (decide (z < 0)) q1 q2 (dg z.natAbs) (dg D) (g3.le (by omega)) (g4.le (by omega)) (by rw [val_dg]; exact hden)
   unfold qv at hl
   rw [zv_of, val_dg] at hl
   refine Ev.x N.rational_Add rfl rfl ?_
   cases w1 <;> cases w2
   ·(repeat' (first | (refine CmpP.go (fun hc => ?_) (fun hc => ?_) <;> first | (exfalso; omega) | (conv => whnf)) | (refine FlP.n4 ?_; conv => whnf) | (refine FlP.n2 ?_; conv => whnf) | (refine AKM.x ?_; conv => whnf) | (refine CallP.go (hr1) ?_; conv => whnf) | (refine CallP.go (hr2) ?_; conv => whnf) | (refine CallP.go (hcmp _ _) ?_; conv => whnf) | (refine CallP.go (hna) ?_; conv => whnf) | (refine CallP.go (hnb) ?_; conv => whnf) | (refine CallP.go (hM1 _ _) ?_; conv => whnf) | (refine CallP.go (hM2 _ _) ?_; conv => whnf) | (refine CallP.go (hA2 _ _) ?_; conv => whnf) | (refine CallP.go (hM3 _ _) ?_; conv => whnf) | (refine CallP.go (hl _ _) ?_; conv => whnf)))
    exact FinP.go rfl (cl_eQ _)
   ·(repeat' (first | (refine CmpP.go (fun hc => ?_) (fun hc => ?_) <;> first | (exfalso; omega) | (conv => whnf)) | (refine FlP.n4 ?_; conv => whnf) | (refine FlP.n2 ?_; conv => whnf) | (refine AKM.x ?_; conv => whnf) | (refine CallP.go (hr1) ?_; conv => whnf) | (refine CallP.go (hr2) ?_; conv => whnf) | (refine CallP.go (hcmp _ _) ?_; conv => whnf) | (refine CallP.go (hna) ?_; conv => whnf) | (refine CallP.go (hnb) ?_; conv => whnf) | (refine CallP.go (hM1 _ _) ?_; conv => whnf) | (refine CallP.go (hM2 _ _) ?_; conv => whnf) | (refine CallP.go (hA2 _ _) ?_; conv => whnf) | (refine CallP.go (hM3 _ _) ?_; conv => whnf) | (refine CallP.go (hl _ _) ?_; conv => whnf)))
    exact FinP.go rfl (cl_eQ _)
   ·(repeat' (first | (refine CmpP.go (fun hc => ?_) (fun hc => ?_) <;> first | (exfalso; omega) | (conv => whnf)) | (refine FlP.n4 ?_; conv => whnf) | (refine FlP.n2 ?_; conv => whnf) | (refine AKM.x ?_; conv => whnf) | (refine CallP.go (hr1) ?_; conv => whnf) | (refine CallP.go (hr2) ?_; conv => whnf) | (refine CallP.go (hcmp _ _) ?_; conv => whnf) | (refine CallP.go (hna) ?_; conv => whnf) | (refine CallP.go (hnb) ?_; conv => whnf) | (refine CallP.go (hM1 _ _) ?_; conv => whnf) | (refine CallP.go (hM2 _ _) ?_; conv => whnf) | (refine CallP.go (hA2 _ _) ?_; conv => whnf) | (refine CallP.go (hM3 _ _) ?_; conv => whnf) | (refine CallP.go (hl _ _) ?_; conv => whnf)))
    exact FinP.go rfl (cl_eQ _)
   ·exact absurd ⟨rfl, rfl⟩ hw
theorem ev_rational_Mul (N : RatGLib L) (k : Nat) (hk : 1 ≤ k ∧ k ≤ 68719476736) (n1 n2 q1 q2 q3 q4 : Bool) (m1 d1 m2 d2 : List Nat) (hm1 : Sm k m1) (hd1 : Sm k d1) (hm2 : Sm k m2) (hd2 : Sm k d2) :
  Ev L 99 [.agg (rQ q1 q2 n1 m1 d1), .agg (rQ q3 q4 n2 m2 d2)] (.agg (eQ (qv n1 m1 d1 * qv n2 m2 d2))) := by
 obtain ⟨a1, a2, a3, w1, hr1, s1, s2, s3, s4, s5⟩ := ev_read N n1 m1 d1 k (by omega) hm1 hd1
 obtain ⟨b1, b2, b3, w2, hr2, t1, t2, t3, t4, t5⟩ := ev_read N n2 m2 d2 k (by omega) hm2 hd2
 rw [s5, t5, mk_mul]
 have hM1 := fun q q' => ev_integer_Mul N a1 b1 q q' a2 b2 s1.1 t1.1 (by have := s1.2; have := t1.2; omega)
 have hM3 := fun q q' => ev_nat_Mul N.toNatGLib a3 b3 q q' s2.1 t2.1 (by have := s2.2; have := t2.2; omega)
 have g1 : Sm (k + k) (dg (zv a1 a2 * zv b1 b2).natAbs) := sm_zmul s1 t1
 have g4 : Sm (k + k) (dg (val a3 * val b3)) := s2.mul t2 rfl
 have hden : val a3 * val b3 ≠ 0 := Nat.mul_ne_zero s3 t3
 generalize zv a1 a2 * zv b1 b2 = z at *
 by_cases hw : w1 = true ∧ w2 = true
 ·obtain ⟨rfl, rfl⟩ := hw
  rw [s4 rfl, t4 rfl, Nat.one_mul, mk_one]
  refine Ev.x N.rational_Mul rfl rfl ?_
  (repeat' (first | (refine FlP.n4 ?_; conv => whnf) | (refine AKM.x ?_; conv => whnf) | (refine CallP.go (hr1) ?_; conv => whnf) | (refine CallP.go (hr2) ?_; conv => whnf) | (refine CallP.go (hM1 _ _) ?_; conv => whnf)))
  refine CalP.walkC 1000 N.rational_whole rfl rfl ?_
  (repeat' (refine AKM.x ?_; conv => whnf))
  refine ⟨rfl, ?_⟩
  (conv => whnf)
  (repeat' (refine SnR.e1 rfl ?_; conv => whnf))
  exact FinP.go (agg_whole z) (cl_eQ _)
 ·generalize val a3 * val b3 = D at *
  have hl := fun q1 q2 => ev_lowest N (decide (z < 0)) q1 q2 (dg z.natAbs) (dg D) (g1.le (by omega)) (g4.le (by omega)) (by rw [val_dg]; exact hden)
  unfold qv at hl
  rw [zv_of, val_dg] at hl
  refine Ev.x N.rational_Mul rfl rfl ?_
  cases w1 <;> cases w2
  ·(repeat' (first | (refine FlP.n4 ?_; conv => whnf) | (refine AKM.x ?_; conv => whnf) | (refine CallP.go (hr1) ?_; conv => whnf) | (refine CallP.go (hr2) ?_; conv => whnf) | (refine CallP.go (hM1 _ _) ?_; conv => whnf) | (refine CallP.go (hM3 _ _) ?_; conv => whnf) | (refine CallP.go (hl _ _) ?_; conv => whnf)))
   exact FinP.go rfl (cl_eQ _)
  ·(repeat' (first | (refine FlP.n4 ?_; conv => whnf) | (refine AKM.x ?_; conv => whnf) | (refine CallP.go (hr1) ?_; conv => whnf) | (refine CallP.go (hr2) ?_; conv => whnf) | (refine CallP.go (hM1 _ _) ?_; conv => whnf) | (refine CallP.go (hM3 _ _) ?_; conv => whnf) | (refine CallP.go (hl _ _) ?_; conv => whnf)))
   exact FinP.go rfl (cl_eQ _)
  ·(repeat' (first | (refine FlP.n4 ?_; conv => whnf) | (refine AKM.x ?_; conv => whnf) | (refine CallP.go (hr1) ?_; conv => whnf) | (refine CallP.go (hr2) ?_; conv => whnf) | (refine CallP.go (hM1 _ _) ?_; conv => whnf) | (refine CallP.go (hM3 _ _) ?_; conv => whnf) | (refine CallP.go (hl _ _) ?_; conv => whnf)))
   exact FinP.go rfl (cl_eQ _)
  ·exact absurd ⟨rfl, rfl⟩ hw
theorem cl_eQt (x : Rat) (e : Int) : Clean (.tup [.agg (eQ x), .int .i64 e]) := by
 simp only [Clean, CleanL, and_true, true_and]
 exact ⟨cl_dig _, cl_dig _⟩
theorem ev_rational_Div (N : RatGLib L) (k : Nat) (hk : 1 ≤ k ∧ k ≤ 68719476736) (n1 n2 q1 q2 q3 q4 : Bool) (m1 d1 m2 d2 : List Nat) (hm1 : Sm k m1) (hd1 : Sm k d1) (hm2 : Sm k m2) (hd2 : Sm k d2) (h0 : qv n2 m2 d2 ≠ 0) :
  Ev L 100 [.agg (rQ q1 q2 n1 m1 d1), .agg (rQ q3 q4 n2 m2 d2)] (.tup [.agg (eQ (qv n1 m1 d1 / qv n2 m2 d2)), .int .i64 0]) := by
 obtain ⟨a1, a2, a3, w1, hr1, s1, s2, s3, s4, s5⟩ := ev_read N n1 m1 d1 k (by omega) hm1 hd1
 obtain ⟨b1, b2, b3, w2, hr2, t1, t2, t3, t4, t5⟩ := ev_read N n2 m2 d2 k (by omega) hm2 hd2
 rw [t5] at h0
 rw [s5, t5]
 have hb0 : zv b1 b2 ≠ 0 := fun h => h0 ((mk_num_zero t3).2 h)
 rw [mk_div s3 t3 hb0]
 have hS := fun q => ev_integer_Sign N b1 q b2 (t1.le (by omega))
 have hsg : sgn (zv b1 b2) ≠ 0 := by unfold sgn; split <;> (try split) <;> omega
 have hM1 := fun q q' => ev_integer_Mul N a1 false q q' a2 b3 s1.1 t2.1 (by have := s1.2; have := t2.2; omega)
 have hM2 := fun q q' => ev_integer_Mul N false b1 q q' a3 b2 s2.1 t1.1 (by have := t1.2; have := s2.2; omega)
 have hna := ev_natural N a3
 have hnb := ev_natural N b3
 have g1 : Sm (k + k) (dg (zv a1 a2 * zv false b3).natAbs) := sm_zmul s1 t2
 have g2 : Sm (k + k) (dg (zv false a3 * zv b1 b2).natAbs) := sm_zmul s2 t1
 have hd : (zv false a3 * zv b1 b2).natAbs = val a3 * (zv b1 b2).natAbs := by rw [Int.natAbs_mul, zv_abs]
 have hds : (zv false a3 * zv b1 b2).sign = (zv b1 b2).sign := by
  rw [Int.sign_mul, zv_F, Int.sign_eq_one_of_pos (by omega), Int.one_mul]
 have hy0 : zv false a3 * zv b1 b2 ≠ 0 := by
  intro h
  rw [h] at hds
  exact hb0 (by simpa using hds.symm)
 rw [← hd, ← hds, ← zv_F b3]
 generalize zv a1 a2 * zv false b3 = x at *
 generalize zv false a3 * zv b1 b2 = y at *
 generalize sgn (zv b1 b2) = sg at *
 have hl := fun q1 q2 => ev_lowest N (decide (x < 0) != decide (y < 0)) q1 q2 (dg x.natAbs) (dg y.natAbs) (g1.le (by omega)) (g2.le (by omega)) (by rw [val_dg]; omega)
 unfold qv at hl
 rw [zv_quot hy0, val_dg] at hl
 refine Ev.x N.rational_Div rfl rfl ?_
 (repeat' (first | (refine CmpP.go (fun hc => ?_) (fun hc => ?_) <;> first | (exfalso; omega) | (conv => whnf)) | (refine FlP.n4 ?_; conv => whnf) | (refine FlP.n2 ?_; conv => whnf) | (refine AKM.x ?_; conv => whnf) | (refine CallP.go (hr1) ?_; conv => whnf) | (refine CallP.go (hr2) ?_; conv => whnf) | (refine CallP.go (hS _) ?_; conv => whnf) | (refine CallP.go (hna) ?_; conv => whnf) | (refine CallP.go (hnb) ?_; conv => whnf) | (refine CallP.go (hM1 _ _) ?_; conv => whnf) | (refine CallP.go (hM2 _ _) ?_; conv => whnf)))
 refine CalP.walkC 1000 N.rational_quotient rfl rfl ?_
 (repeat' (refine AKM.x ?_; conv => whnf))
 generalize decide (x < 0) = p at *
 generalize decide (y < 0) = r at *
 cases p <;> cases r
 all_goals
  (conv => whnf)
  refine ⟨rfl, ?_⟩
  (conv => whnf)
  (repeat' (refine CallP.go (hl _ _) ?_; conv => whnf))
  exact FinP.go rfl (cl_eQt _ _)
end Go.Eng
namespace Go.Eng
def Bt (k : Nat) (x : Rat) : Prop := x.num.natAbs ≤ 2 ^ k ∧ x.den ≤ 2 ^ k
theorem Bt.le {k l : Nat} {x : Rat} (h : Bt k x) (hl : k ≤ l) : Bt l x := by
 have := Nat.pow_le_pow_right (show 0 < 2 by omega) hl
 exact ⟨Nat.le_trans h.1 this, Nat.le_trans h.2 this⟩
theorem Bt.mk {k : Nat} {z : Int} {d : Nat} (hz : z.natAbs ≤ 2 ^ k) (hd : d ≤ 2 ^ k) : Bt k (mkRat z d) := by
 by_cases h0 : d = 0
 ·subst h0
  rw [Rat.mkRat_zero]
  exact ⟨by simp, by simp; exact Nat.one_le_two_pow⟩
 ·obtain ⟨e1, e2, _⟩ := mk_parts (z := z) h0
  unfold Bt
  rw [e1, e2]
  exact ⟨Nat.le_trans (Nat.div_le_self _ _) hz, Nat.le_trans (Nat.div_le_self _ _) hd⟩
theorem Bt.add {k l : Nat} {x y : Rat} (hx : Bt k x) (hy : Bt l y) : Bt (k + l + 1) (x + y) := by
 rw [Rat.add_def']
 refine Bt.mk ?_ ?_
 ·have h1 : (x.num * y.den).natAbs ≤ 2 ^ k * 2 ^ l := by rw [Int.natAbs_mul, Int.natAbs_natCast]; exact Nat.mul_le_mul hx.1 hy.2
  have h2 : (y.num * x.den).natAbs ≤ 2 ^ l * 2 ^ k := by rw [Int.natAbs_mul, Int.natAbs_natCast]; exact Nat.mul_le_mul hy.1 hx.2
  rw [Nat.mul_comm (2 ^ l)] at h2
  rw [Nat.pow_succ, Nat.pow_add]
  have h3 := Int.natAbs_add_le (x.num * y.den) (y.num * x.den)
  omega
 ·rw [Nat.pow_succ, Nat.pow_add]
  have := Nat.mul_le_mul hx.2 hy.2
  omega
theorem Bt.mul {k l : Nat} {x y : Rat} (hx : Bt k x) (hy : Bt l y) : Bt (k + l) (x * y) := by
 rw [Rat.mul_def']
 refine Bt.mk ?_ ?_
 ·rw [Int.natAbs_mul, Nat.pow_add]; exact Nat.mul_le_mul hx.1 hy.1
 ·rw [Nat.pow_add]; exact Nat.mul_le_mul hx.2 hy.2
theorem Bt.zero (k : Nat) : Bt k 0 := ⟨by simp, by simp; exact Nat.one_le_two_pow⟩
theorem Bt.one (k : Nat) : Bt k 1 := ⟨by simp; exact Nat.one_le_two_pow, by simp; exact Nat.one_le_two_pow⟩
theorem Bt.dig {k n : Nat} {x : Rat} (h : Bt k x) (hn : k < 32 * n) : Sm n (dg x.num.natAbs) ∧ Sm n (dg x.den) := by
 have e : 2 ^ k < 4294967296 ^ n := by
  rw [show 4294967296 = 2 ^ 32 from rfl, ← Nat.pow_mul]
  exact (Nat.pow_lt_pow_iff_right (by omega)).2 hn
 exact ⟨Sm.dg (Nat.lt_of_le_of_lt h.1 e), Sm.dg (Nat.lt_of_le_of_lt h.2 e)⟩
def Bs (k : Nat) (l : List Rat) : Prop := ∀ x ∈ l, Bt k x
theorem Bs.at {k : Nat} {l : List Rat} (h : Bs k l) {i : Nat} {x : Rat} (hx : l[i]? = some x) : Bt k x := h x (List.mem_of_getElem? hx)
theorem Bs.le {k j : Nat} {l : List Rat} (h : Bs k l) (hj : k ≤ j) : Bs j l := fun x hx => (h x hx).le hj
theorem Bs.take {k : Nat} {l : List Rat} (h : Bs k l) (n : Nat) : Bs k (l.take n) := fun x hx => h x (List.mem_of_mem_take hx)
def dotQ : List Rat → List Rat → Rat
 | x :: xs, y :: ys => x * y + dotQ xs ys
 | _, _ => 0
structure SysQ where
 a : List (List Rat)
 b : List Rat
 c : List Rat
 d : Rat
structure SysQ.Ok (S : SysQ) (n k : Nat) : Prop where
 la : S.a.length = n
 lr : ∀ r ∈ S.a, r.length = n
 lb : S.b.length = n
 lc : S.c.length = n
 ba : ∀ r ∈ S.a, Bs k r
 bb : Bs k S.b
 bc : Bs k S.c
 bd : Bt k S.d
def SysQ.out (S : SysQ) (now : List Rat) (x : Rat) : Rat := dotQ S.c now + S.d * x
def nextQ (now : List Rat) (x : Rat) : List (List Rat) → List Rat → List Rat
 | r :: a, b :: bs => (dotQ r now + b * x) :: nextQ now x a bs
 | _, _ => []
def SysQ.next (S : SysQ) (now : List Rat) (x : Rat) : List Rat := nextQ now x S.a S.b
def unitL (n : Nat) (j : Int) : List Rat := (List.range n).map fun i : Nat => if (i : Int) = j then 1 else 0
theorem unitL_len (n : Nat) (j : Int) : (unitL n j).length = n := by simp [unitL]
theorem unitL_succ (n : Nat) (j : Int) : unitL (n + 1) j = unitL n j ++ [if (n : Int) = j then 1 else 0] := by simp [unitL, List.range_succ]
theorem unitL_neg (n : Nat) : unitL n (-1) = List.replicate n 0 := by
 refine List.ext_getElem? fun i => ?_
 simp only [unitL, List.getElem?_map, List.getElem?_replicate, List.getElem?_range]
 by_cases h : i < n
 ·rw [List.getElem?_range h, if_pos h]
  simp
 ·rw [List.getElem?_eq_none (by simp; omega), if_neg h]; rfl
end Go.Eng

namespace Go.Eng
open F
variable {L : Lib}
theorem Bt.sm {k : Nat} {x : Rat} (h : Bt k x) (hk : k < 2199023255552) : Sm 68719476736 (dg x.num.natAbs) ∧ Sm 68719476736 (dg x.den) := h.dig (by omega)
theorem ev_addQ (N : RatGLib L) {x y : Rat} {k l : Nat} (hx : Bt k x) (hy : Bt l y) (hk : k < 2199023255552) (hl : l < 2199023255552) : Ev L 98 [.agg (eQ x), .agg (eQ y)] (.agg (eQ (x + y))) := by
 have := ev_rational_Add N 68719476736 (by omega) (decide (x.num < 0)) (decide (y.num < 0)) false false false false _ _ _ _ (hx.sm hk).1 (hx.sm hk).2 (hy.sm hl).1 (hy.sm hl).2
 rw [qv_of, qv_of] at this
 exact this
theorem ev_mulQ (N : RatGLib L) {x y : Rat} {k l : Nat} (hx : Bt k x) (hy : Bt l y) (hk : k < 2199023255552) (hl : l < 2199023255552) : Ev L 99 [.agg (eQ x), .agg (eQ y)] (.agg (eQ (x * y))) := by
 have := ev_rational_Mul N 68719476736 (by omega) (decide (x.num < 0)) (decide (y.num < 0)) false false false false _ _ _ _ (hx.sm hk).1 (hx.sm hk).2 (hy.sm hl).1 (hy.sm hl).2
 rw [qv_of, qv_of] at this
 exact this
theorem ev_divQ (N : RatGLib L) {x y : Rat} {k l : Nat} (hx : Bt k x) (hy : Bt l y) (hk : k < 2199023255552) (hl : l < 2199023255552) (h0 : y ≠ 0) : Ev L 100 [.agg (eQ x), .agg (eQ y)] (.tup [.agg (eQ (x / y)), .int .i64 0]) := by
 have := ev_rational_Div N 68719476736 (by omega) (decide (x.num < 0)) (decide (y.num < 0)) false false false false _ _ _ _ (hx.sm hk).1 (hx.sm hk).2 (hy.sm hl).1 (hy.sm hl).2 (by rw [qv_of]; exact h0)
 rw [qv_of, qv_of] at this
 exact this
theorem ev_trimQ (N : RatGLib L) {x : Rat} {k : Nat} (hx : Bt k x) (hk : k < 2199023255552) : Ev L 95 [.agg (eQ x)] (.agg (eQ x)) := by
 have := ev_rational_Trim N (decide (x.num < 0)) false false _ _ ((hx.sm hk).1.le (by omega)) ((hx.sm hk).2.le (by omega))
 rw [qv_of] at this
 exact this
theorem ev_signQ (N : RatGLib L) {x : Rat} {k : Nat} (hx : Bt k x) (hk : k < 2199023255552) : Ev L 97 [.agg (eQ x)] (.int .i64 (sgn x.num)) := by
 have := ev_rational_Sign N (decide (x.num < 0)) false false _ _ ((hx.sm hk).1.le (by omega)) ((hx.sm hk).2.le (by omega))
 rw [qv_of] at this
 exact this
theorem sgn_num {x : Rat} : sgn x.num = 0 ↔ x = 0 := by
 rw [← Rat.num_eq_zero]
 unfold sgn
 split
 ·omega
 ·split <;> omega
end Go.Eng

namespace Go.Eng
abbrev eO : Option Rat → List AV
 | none => [.bool false, .nil, .nil]
 | some x => eQ x
def fillO (l : List Rat) (m : Nat) : List (Option Rat) := l.map some ++ List.replicate (m - l.length) none
theorem fillO_nil (m : Nat) : fillO [] m = List.replicate m none := by simp [fillO]
theorem fillO_len {l : List Rat} {m : Nat} (h : l.length ≤ m) : (fillO l m).length = m := by simp [fillO]; omega
theorem fillO_set {l : List Rat} {m : Nat} {x : Rat} (h : l.length < m) : (fillO l m).set l.length (some x) = fillO (l ++ [x]) m := by
 unfold fillO
 have e : m - l.length = (m - (l ++ [x]).length) + 1 := by simp; omega
 rw [e, List.replicate_succ, List.set_append_right _ _ (by simp)]
 simp
theorem fillO_full {l : List Rat} {m : Nat} (h : l.length = m) : (fillO l m).map eO = l.map eQ := by
 unfold fillO
 rw [h, Nat.sub_self]
 simp [Function.comp_def]
abbrev eS (S : SysQ) : List AV := [.sl false (S.a.map fun r => [AV.sl false (r.map eQ)]), .sl false (S.b.map eQ), .sl false (S.c.map eQ)] ++ eQ S.d
theorem cl_eQs (l : List Rat) : CleanLL (l.map eQ) := cleanLL_map (fun x => by simp only [CleanL, Clean, and_true, true_and]; exact ⟨cl_dig _, cl_dig _⟩) l
theorem cl_two (a : List Rat) (e : Int) : Clean (.tup [.sl false (a.map eQ), .int .i64 e]) := by
 simp only [Clean, CleanL, and_true, true_and]
 exact cl_eQs a
theorem cl_eS (S : SysQ) : Clean (.agg (eS S)) := by
 have h : CleanLL (S.a.map fun r => [AV.sl false (r.map eQ)]) := cleanLL_map (fun r => by simp only [CleanL, Clean, and_true, true_and]; exact cl_eQs r) S.a
 simp only [Clean, List.cons_append, List.nil_append, CleanL, and_true, true_and]
 exact ⟨h, cl_eQs _, cl_eQs _, cl_dig _, cl_dig _⟩
end Go.Eng

namespace Go.Eng
open F
attribute [local irreducible] AKM CmpP Req OpP UnP ConvP RdP LdR StR MkR LenP AppR AppN CpyR RowP SnR Bds SlS CallP CalP FinP pw LdM GetM SetM PutM MkM AppM SnM FlP CallR
set_option maxHeartbeats 4000000
variable {L : Lib}
theorem ev_Sound (N : SysGLib L) (S : SysQ) (n k : Nat) (h : S.Ok n k) (hn : n ≤ 64) : Ev L 130 [.agg (eS S)] (.bool true) := by
 have h1 := h.la
 have h2 := h.lb
 have h3 := h.lc
 refine Ev.x N.network_Sound rfl rfl ?_
 (repeat' (first | (refine CmpP.go (fun hc => ?_) (fun hc => ?_) <;> first | (exfalso; omega) | (conv => whnf)) | (refine LenP.go ?_; conv => whnf) | (refine AKM.x ?_; conv => whnf)))
 refine AKM.loop1 (fun i => S.a.length - i) (fun (i : Nat) => i ≤ S.a.length) (fun i => [(28, .int .i64 i)]) (fun _ => []) [] [] 0 (by (conv => whnf); exact ⟨rfl, rfl, rfl⟩) (by omega) ?_
 intro i p1 ih
 by_cases hi : i < S.a.length
 ·obtain ⟨r, hr⟩ : ∃ r, S.a[i]? = some r := ⟨_, List.getElem?_eq_getElem hi⟩
  have hr' : S.a[(i : Int).toNat]? = some r := hr
  have hrl := h.lr r (List.mem_of_getElem? hr)
  (repeat' (first | (refine CmpP.go (fun hc => ?_) (fun hc => ?_) <;> first | (exfalso; omega) | (conv => whnf)) | (refine OpP.add (by omega) ?_; conv => whnf) | (refine LenP.go ?_; conv => whnf) | (refine RdP.at (by assumption) (by omega) rfl ?_; conv => whnf) | (refine AKM.x ?_; conv => whnf)))
  exact AKM.back [] (by (conv => whnf); exact ⟨rfl, rfl, rfl⟩) (ih (i + 1) (by omega) (by omega))
 ·obtain rfl : i = S.a.length := by omega
  clear ih
  (repeat' (first | (refine CmpP.go (fun hc => ?_) (fun hc => ?_) <;> first | (exfalso; omega) | (conv => whnf)) | (refine AKM.x ?_; conv => whnf)))
  exact FinP.b rfl
end Go.Eng

namespace Go.Eng
open F
attribute [local irreducible] AKM CmpP Req OpP UnP ConvP RdP LdR StR MkR LenP AppR AppN CpyR RowP SnR Bds SlS CallP CalP FinP pw LdM GetM SetM PutM MkM AppM SnM FlP CallR
set_option maxHeartbeats 4000000
variable {L : Lib}
theorem cl_sl (l : List Nat) : Clean (.sl false (l.map e32)) := by
 simp only [Clean, true_and]; exact cl_dig l
theorem apX_rw {M : Mem} {v : AV} {ky t z off len s : Nat} {l : List Nat} (hv : v = .row ky t z off len) (h : mget M ky = some (s, .rw 1 (l.map e32))) : apX M v = none := by
 subst hv
 unfold apX
 split
 ·rename_i e
  simp only [AV.row.injEq] at e
  obtain ⟨rfl, _⟩ := e
  rw [h]
  cases l with
  | nil => rfl
  | cons a l => cases l <;> rfl
 ·rfl
theorem ev_r1_Trim (N : RefGLib L) (l : List Nat) (q : Bool) (hD : Dig l) (hl : l.length ≤ 1099511627776) : Ev L 101 [.sl q (l.map e32)] (.sl false ((dg (val l)).map e32)) := by
 refine Ev.x N.ref01_Trim rfl rfl ?_
 (repeat' (first | (refine LenP.go ?_; conv => whnf) | (refine AKM.x ?_; conv => whnf)))
 refine AKM.loop1 (fun n => n) (fun (n : Nat) => n ≤ l.length ∧ ∀ i, n ≤ i → i < l.length → l[i]? = some 0) (fun n => [(3, .int .i64 n)]) (fun _ => []) [] [] l.length (by (conv => whnf); exact ⟨rfl, rfl, rfl⟩) ⟨Nat.le_refl _, fun i h1 h2 => by omega⟩ ?_
 intro n ⟨p1, p2⟩ ih
 rcases n with _ | n
 ·have hv := cut_found hD p1 p2 (Or.inl rfl)
  rw [← hv]
  clear ih
  (repeat' (first | (refine CmpP.go (fun hc => ?_) (fun hc => ?_) <;> first | (exfalso; omega) | (conv => whnf)) | (refine AKM.x ?_; conv => whnf)))
  refine SlS.to (k := 0) (fun _ => rfl) (by omega) ?_
  (conv => whnf)
  refine AppN.many (enc := e32) (fun _ => rfl) (by rw [List.length_take]; omega) (by rw [List.length_take]; omega) ?_
  (conv => whnf)
  (repeat' (refine SnR.all (fun _ => rfl) rfl (by first | rfl | simp) ?_; conv => whnf))
  exact FinP.go rfl (cl_sl _)
 ·have e1 : ((n + 1 : Nat) : Int) - 1 = n := by omega
  (repeat' (first | (refine CmpP.go (fun hc => ?_) (fun hc => ?_) <;> first | (exfalso; omega) | (conv => whnf)) | (refine OpP.sub (by omega) ?_; conv => whnf) | (refine RdP.digi (by assumption) (by omega) (fun e he hb => ?_); conv => whnf) | (refine AKM.x ?_; conv => whnf)))
  ·rw [e1]
   exact AKM.back [] (by (conv => whnf); exact ⟨rfl, rfl, rfl⟩) (ih n (by omega) ⟨by omega, fun i h1 h2 => by
    by_cases h : i = n
    ·subst h
     rw [e1, Int.toNat_natCast] at he
     rw [he]; congr 1; omega
    ·exact p2 i (by omega) h2⟩)
  ·rw [e1, Int.toNat_natCast] at he
   have hv := cut_found hD p1 p2 (Or.inr ⟨e, he, by omega⟩)
   rw [← hv]
   clear ih
   refine SlS.to (k := n + 1) (fun _ => rfl) (by omega) ?_
   (conv => whnf)
   refine AppN.many (enc := e32) (fun _ => rfl) (by rw [List.length_take]; omega) (by rw [List.length_take]; omega) ?_
   (conv => whnf)
   (repeat' (refine SnR.all (fun _ => rfl) rfl (by first | rfl | simp) ?_; conv => whnf))
   exact FinP.go rfl (cl_sl _)
theorem ev_r1_Compare (N : RefGLib L) (a b : List Nat) (q1 q2 : Bool) (hA : Dig a) (hB : Dig b) (la : a.length ≤ 1099511627776) (lb : b.length ≤ 1099511627776) : Ev L 102 [.sl q1 (a.map e32), .sl q2 (b.map e32)] (.int .i64 (cmpS (val a) (val b))) := by
 have t1 := fun q => ev_r1_Trim N a q hA la
 have t2 := fun q => ev_r1_Trim N b q hB lb
 have l1 := dg_len_val hA
 have l2 := dg_len_val hB
 have d1 := dig_dg (val a)
 have d2 := dig_dg (val b)
 refine Ev.x N.ref01_Compare rfl rfl ?_
 by_cases hlen : (dg (val a)).length = (dg (val b)).length
 ·have v1 := val_dg (val a)
  have v2 := val_dg (val b)
  generalize dg (val a) = X at *
  generalize dg (val b) = Y at *
  (repeat' (first | (refine CmpP.go (fun hc => ?_) (fun hc => ?_) <;> first | (exfalso; omega) | (conv => whnf)) | (refine OpP.sub (by omega) ?_; conv => whnf) | (refine LenP.go ?_; conv => whnf) | (refine AKM.x ?_; conv => whnf) | (refine CallP.go (t1 _) ?_; conv => whnf) | (refine CallP.go (t2 _) ?_; conv => whnf)))
  refine AKM.loop1 (fun n => n) (fun (n : Nat) => n ≤ X.length ∧ X.drop n = Y.drop n) (fun n => [(5, .int .i64 ((n : Int) - 1))]) (fun _ => []) [] [] X.length (by (conv => whnf); exact ⟨rfl, rfl, rfl⟩) ⟨Nat.le_refl _, by rw [List.drop_of_length_le (Nat.le_refl _), List.drop_of_length_le (by omega)]⟩ ?_
  intro n ⟨p1, p2⟩ ih
  rcases n with _ | n
  ·(repeat' (first | (refine CmpP.go (fun hc => ?_) (fun hc => ?_) <;> first | (exfalso; omega) | (conv => whnf)) | (refine AKM.x ?_; conv => whnf)))
   rw [List.drop_zero, List.drop_zero] at p2
   exact FinP.i (cmpS_eq (by rw [← v1, ← v2, p2]))
  ·have e1 : ((n + 1 : Nat) : Int) - 1 = n := by omega
   rw [e1]
   obtain ⟨x, hx⟩ : ∃ x, X[n]? = some x := ⟨_, List.getElem?_eq_getElem (by omega)⟩
   obtain ⟨y, hy⟩ : ∃ y, Y[n]? = some y := ⟨_, List.getElem?_eq_getElem (by omega)⟩
   rcases Nat.lt_trichotomy x y with h | h | h
   ·have := val_lt_of_drop d1 d2 hlen hx hy p2 h
    (repeat' (first | (refine CmpP.go (fun hc => ?_) (fun hc => ?_) <;> first | (exfalso; omega) | (conv => whnf)) | (refine RdP.at (by assumption) (by omega) rfl ?_; conv => whnf) | (refine AKM.x ?_; conv => whnf)))
    exact FinP.i (cmpS_lt (by omega))
   ·subst h
    (repeat' (first | (refine CmpP.go (fun hc => ?_) (fun hc => ?_) <;> first | (exfalso; omega) | (conv => whnf)) | (refine OpP.sub (by omega) ?_; conv => whnf) | (refine RdP.at (by assumption) (by omega) rfl ?_; conv => whnf) | (refine AKM.x ?_; conv => whnf)))
    refine AKM.back [] (by (conv => whnf); exact ⟨rfl, rfl, rfl⟩) (ih n (by omega) ⟨by omega, ?_⟩)
    obtain ⟨i1, e1⟩ := List.getElem?_eq_some_iff.1 hx
    obtain ⟨i2, e2⟩ := List.getElem?_eq_some_iff.1 hy
    rw [List.drop_eq_getElem_cons i1, List.drop_eq_getElem_cons i2, p2, e1, e2]
   ·have := val_lt_of_drop d2 d1 hlen.symm hy hx p2.symm h
    (repeat' (first | (refine CmpP.go (fun hc => ?_) (fun hc => ?_) <;> first | (exfalso; omega) | (conv => whnf)) | (refine RdP.at (by assumption) (by omega) rfl ?_; conv => whnf) | (refine AKM.x ?_; conv => whnf)))
    exact FinP.i (cmpS_gt (by omega))
 ·rcases Nat.lt_trichotomy (dg (val a)).length (dg (val b)).length with h1 | h1 | h1
  ·have := val_lt_of_len h1
   (repeat' (first | (refine CmpP.go (fun hc => ?_) (fun hc => ?_) <;> first | (exfalso; omega) | (conv => whnf)) | (refine LenP.go ?_; conv => whnf) | (refine AKM.x ?_; conv => whnf) | (refine CallP.go (t1 _) ?_; conv => whnf) | (refine CallP.go (t2 _) ?_; conv => whnf)))
   exact FinP.i (cmpS_lt (by omega))
  ·exact absurd h1 hlen
  ·have := val_lt_of_len h1
   (repeat' (first | (refine CmpP.go (fun hc => ?_) (fun hc => ?_) <;> first | (exfalso; omega) | (conv => whnf)) | (refine LenP.go ?_; conv => whnf) | (refine AKM.x ?_; conv => whnf) | (refine CallP.go (t1 _) ?_; conv => whnf) | (refine CallP.go (t2 _) ?_; conv => whnf)))
   exact FinP.i (cmpS_gt (by omega))
theorem val_take_get {y : List Nat} (i : Nat) : val (y.take (i + 1)) = val (y.take i) + 4294967296 ^ i * y.getD i 0 := by
 rcases Nat.lt_or_ge i y.length with h | h
 ·rw [val_take_succ (List.getElem?_eq_getElem h), getD_is (List.getElem?_eq_getElem h)]
 ·rw [← getD_none h, val_take_all h, val_take_all (by omega)]; omega
theorem ev_r1_Add (N : RefGLib L) (a b : List Nat) (q1 q2 : Bool) (hA : Dig a) (hB : Dig b) (la : a.length ≤ 549755813888) (lb : b.length ≤ 549755813888) : Ev L 103 [.sl q1 (a.map e32), .sl q2 (b.map e32)] (.sl false ((dg (val a + val b)).map e32)) := by
 refine Ev.x N.ref01_Add rfl rfl ?_
 (repeat' (refine AKM.x ?_; conv => whnf))
 refine AKM.loop3 (fun i _ _ => a.length + b.length - i) (fun (i : Nat) (o : List Nat) (c : Nat) => (i ≤ a.length ∨ i ≤ b.length) ∧ o.length = i ∧ Dig o ∧ c ≤ 1 ∧ val o + 4294967296 ^ i * c = val (a.take i) + val (b.take i)) (fun i o c => [(7, .int .i64 i), (6, .int .u64 (c : Int)), (5, .row 5 0 1 0 o.length)]) (fun i o c => [(5, 5, .rw 1 (o.map e32))]) [] [] 0 [] 0 (by (conv => whnf); exact ⟨rfl, rfl, rfl⟩) ⟨by omega, rfl, dig_nil, by omega, by simp [val]⟩ ?_
 intro i o c ⟨p1, p2, p3, p4, p5⟩ ih
 by_cases hi : i < a.length ∨ i < b.length
 ·have g1 := val_take_get (y := a) i
  have g2 := val_take_get (y := b) i
  have k1 := getD_lt hA i
  have k2 := getD_lt hB i
  have hst : ∀ t, t = c + a.getD i 0 + b.getD i 0 → val (o ++ [t % 4294967296]) + 4294967296 ^ (i + 1) * (t / 4294967296) = val (a.take (i + 1)) + val (b.take (i + 1)) := fun t ht => by
   have h3 := carry_step (val o) (4294967296 ^ i) t
   rw [val_snoc, p2, g1, g2, Nat.pow_succ]
   rw [h3, ht, Nat.mul_add, Nat.mul_add]
   omega
  by_cases h1 : i < a.length
  ·obtain ⟨x, hx⟩ : ∃ x, a[i]? = some x := ⟨_, List.getElem?_eq_getElem h1⟩
   have hxb := hA.at hx
   rw [getD_is hx] at hst
   by_cases h2 : i < b.length
   ·obtain ⟨y, hy⟩ : ∃ y, b[i]? = some y := ⟨_, List.getElem?_eq_getElem h2⟩
    have hyb := hB.at hy
    rw [getD_is hy] at hst
    (repeat' (first | (refine CmpP.go (fun hc => ?_) (fun hc => ?_) <;> first | (exfalso; omega) | (conv => whnf)) | (refine OpP.nadd (by omega) ?_; conv => whnf) | (refine ConvP.u64 (by omega) ?_; conv => whnf) | (refine ConvP.n32 ?_; conv => whnf) | (refine LenP.go ?_; conv => whnf) | (refine RdP.at (by assumption) (by omega) rfl ?_; conv => whnf) | (refine RowP.e1 ?_; conv => whnf) | (refine AKM.x ?_; conv => whnf)))
    refine AppR.one (enc := e32) (((c + x + y) % 4294967296 : Nat)) rfl rfl rfl (by omega) (by omega) ?_
    (conv => whnf)
    (repeat' (first | (refine OpP.add (by omega) ?_; conv => whnf) | (refine OpP.nshr32 ?_; conv => whnf)))
    refine AKM.back [(5, 46)] (by (conv => whnf); exact ⟨rfl, rfl, rfl⟩) (ih (i + 1) (o ++ [(c + x + y) % 4294967296]) ((c + x + y) / 4294967296) (by omega) ⟨by omega, by simp; omega, p3.append (dig_one (by omega)), by omega, ?_⟩)
    exact hst (c + x + y) (by omega)
   ·rw [← getD_none (show b.length ≤ i by omega)] at hst
    (repeat' (first | (refine CmpP.go (fun hc => ?_) (fun hc => ?_) <;> first | (exfalso; omega) | (conv => whnf)) | (refine OpP.nadd (by omega) ?_; conv => whnf) | (refine ConvP.u64 (by omega) ?_; conv => whnf) | (refine ConvP.n32 ?_; conv => whnf) | (refine LenP.go ?_; conv => whnf) | (refine RdP.at (by assumption) (by omega) rfl ?_; conv => whnf) | (refine RowP.e1 ?_; conv => whnf) | (refine AKM.x ?_; conv => whnf)))
    refine AppR.one (enc := e32) (((c + x) % 4294967296 : Nat)) rfl rfl rfl (by omega) (by omega) ?_
    (conv => whnf)
    (repeat' (first | (refine OpP.add (by omega) ?_; conv => whnf) | (refine OpP.nshr32 ?_; conv => whnf)))
    refine AKM.back [(5, 46)] (by (conv => whnf); exact ⟨rfl, rfl, rfl⟩) (ih (i + 1) (o ++ [(c + x) % 4294967296]) ((c + x) / 4294967296) (by omega) ⟨by omega, by simp; omega, p3.append (dig_one (by omega)), by omega, ?_⟩)
    exact hst (c + x) (by omega)
  ·obtain ⟨y, hy⟩ : ∃ y, b[i]? = some y := ⟨_, List.getElem?_eq_getElem (by omega)⟩
   have hyb := hB.at hy
   rw [getD_is hy, ← getD_none (show a.length ≤ i by omega)] at hst
   (repeat' (first | (refine CmpP.go (fun hc => ?_) (fun hc => ?_) <;> first | (exfalso; omega) | (conv => whnf)) | (refine OpP.nadd (by omega) ?_; conv => whnf) | (refine ConvP.u64 (by omega) ?_; conv => whnf) | (refine ConvP.n32 ?_; conv => whnf) | (refine LenP.go ?_; conv => whnf) | (refine RdP.at (by assumption) (by omega) rfl ?_; conv => whnf) | (refine RowP.e1 ?_; conv => whnf) | (refine AKM.x ?_; conv => whnf)))
   refine AppR.one (enc := e32) (((c + y) % 4294967296 : Nat)) rfl rfl rfl (by omega) (by omega) ?_
   (conv => whnf)
   (repeat' (first | (refine OpP.add (by omega) ?_; conv => whnf) | (refine OpP.nshr32 ?_; conv => whnf)))
   refine AKM.back [(5, 46)] (by (conv => whnf); exact ⟨rfl, rfl, rfl⟩) (ih (i + 1) (o ++ [(c + y) % 4294967296]) ((c + y) / 4294967296) (by omega) ⟨by omega, by simp; omega, p3.append (dig_one (by omega)), by omega, ?_⟩)
   exact hst (c + y) (by omega)
 ·clear ih
  have hv : val (o ++ [c]) = val a + val b := by
   rw [val_take_all (by omega), val_take_all (by omega)] at p5
   rw [val_snoc, p2, p5]
  have hT := fun q => ev_r1_Trim N (o ++ [c]) q (p3.append (dig_one (by omega))) (by simp; omega)
  rw [hv] at hT
  (repeat' (first | (refine CmpP.go (fun hc => ?_) (fun hc => ?_) <;> first | (exfalso; omega) | (conv => whnf)) | (refine ConvP.n32i (by omega) ?_; conv => whnf) | (refine LenP.go ?_; conv => whnf) | (refine RowP.e1 ?_; conv => whnf) | (refine AKM.x ?_; conv => whnf)))
  refine AppR.one (enc := e32) c rfl rfl rfl (by omega) (by omega) ?_
  (conv => whnf)
  (repeat' (first | (refine SnR.all (fun _ => rfl) rfl (by first | rfl | simp) ?_; conv => whnf) | (refine CallP.go (hT _) ?_; conv => whnf)))
  exact FinP.go rfl (cl_sl _)
theorem cmpS_ge {a b : Nat} (h : b ≤ a) : 0 ≤ cmpS a b := by unfold cmpS; split <;> (try split) <;> omega
theorem rsub_step {V Y X p d e bw have' take w bw' : Nat} (h : V + Y = X + p * bw) (h1 : take = bw + e) (h2 : (have' = d ∧ bw' = 0 ∧ take ≤ d) ∨ (have' = d + 4294967296 ∧ bw' = 1 ∧ d < take)) (h3 : w + take = have') : V + p * w + (Y + p * e) = X + p * d + p * 4294967296 * bw' := by
 have h4 : w + bw + e = d + 4294967296 * bw' := by omega
 have h5 : p * (w + bw + e) = p * (d + 4294967296 * bw') := by rw [h4]
 rw [Nat.mul_add, Nat.mul_add, Nat.mul_add, ← Nat.mul_assoc] at h5
 omega
theorem r1_sub_main (N : RefGLib L) (x y : List Nat) (hX : Dig x) (hY : Dig y) (lx : x.length ≤ 549755813888) (ly : y.length ≤ 549755813888) (hle : val y ≤ val x) :
  AKM L [It.lp ref01_Sub.l1, It.blk 0, It.code (((ACode.ops ref01_Sub.r18 false).dr [1, 5, 6, 7, 21, 53, 54] []).seq ACode.ret)]
  [(7, AV.int IntKind.i64 0), (6, AV.int IntKind.u64 0), (5, AV.row 101021 0 1 0 x.length), (1, AV.sl false (List.map e32 y))]
  [(101021, 101021, Cel.rw 1 (List.map e32 x))]
  (RetX ref01_Sub (AV.sl false (List.map e32 (dg (val x - val y))))) := by
 refine AKM.loop3 (fun i _ _ => x.length - i) (fun (i : Nat) (o : List Nat) (bw : Nat) => i ≤ x.length ∧ o.length = x.length ∧ Dig o ∧ bw ≤ 1 ∧ o.drop i = x.drop i ∧ val (o.take i) + val (y.take i) = val (x.take i) + 4294967296 ^ i * bw) (fun i o bw => [(7, .int .i64 i), (6, .int .u64 (bw : Int))]) (fun i o bw => [(101021, 101021, .rw 1 (o.map e32))]) [] [] 0 x 0 (by (conv => whnf); exact ⟨rfl, rfl, rfl⟩) ⟨by omega, rfl, hX, by omega, rfl, by simp [val]⟩ ?_
 intro i o bw ⟨p1, p2, p3, p4, p5, p6⟩ ih
 by_cases hi : i < x.length
 ·obtain ⟨d, hd⟩ : ∃ d, o[i]? = some d := ⟨_, List.getElem?_eq_getElem (by omega)⟩
  have hdb := p3.at hd
  have hxi : x[i]? = some d := by
   have e1 : (o.drop i)[0]? = (x.drop i)[0]? := by rw [p5]
   simpa [hd] using e1.symm
  have g1 := val_take_succ hxi
  have g2 := val_take_get (y := y) i
  have ge := getD_lt hY i
  have hst : ∀ have' take w bw', take = bw + y.getD i 0 → ((have' = d ∧ bw' = 0 ∧ take ≤ d) ∨ (have' = d + 4294967296 ∧ bw' = 1 ∧ d < take)) → w + take = have' → val ((o.set i w).take (i + 1)) + val (y.take (i + 1)) = val (x.take (i + 1)) + 4294967296 ^ (i + 1) * bw' := fun have' take w bw' a1 a2 a3 => by
   rw [val_set_take (by omega), g1, g2, Nat.pow_succ]
   exact rsub_step p6 a1 a2 a3
  have hdr : ∀ w, (o.set i w).drop (i + 1) = x.drop (i + 1) := fun w => by
   rw [List.drop_set_of_lt (by omega)]
   have e1 : (o.drop i).drop 1 = (x.drop i).drop 1 := by rw [p5]
   simpa using e1
  by_cases hy : i < y.length
  ·obtain ⟨e, he⟩ : ∃ e, y[i]? = some e := ⟨_, List.getElem?_eq_getElem hy⟩
   have heb := hY.at he
   rw [getD_is he] at hst
   by_cases hlt : d < bw + e
   ·have h3 := hst (d + 4294967296) (bw + e) (d + 4294967296 - (bw + e)) 1 (by omega) (Or.inr ⟨rfl, rfl, hlt⟩) (by omega)
    (repeat' (first | (refine CmpP.go (fun hc => ?_) (fun hc => ?_) <;> first | (exfalso; omega) | (conv => whnf)) | (refine Req.go (by omega) ?_; conv => whnf) | (refine OpP.nadd (by omega) ?_; conv => whnf) | (refine OpP.nsub (by omega) (by omega) ?_; conv => whnf) | (refine OpP.naddB (by omega) ?_; conv => whnf) | (refine ConvP.u64 (by omega) ?_; conv => whnf) | (refine ConvP.n32i (by omega) ?_; conv => whnf) | (refine LenP.go ?_; conv => whnf) | (refine RdP.at (by assumption) (by omega) rfl ?_; conv => whnf) | (refine LdR.dat (by assumption) ?_; conv => whnf) | (refine AKM.x ?_; conv => whnf)))
    refine StR.dig (by omega) ?_
    (conv => whnf)
    (repeat' (refine OpP.add (by omega) ?_; conv => whnf))
    exact AKM.back [] (by (conv => whnf); exact ⟨rfl, rfl, rfl⟩) (ih (i + 1) (o.set i (d + 4294967296 - (bw + e))) 1 (by omega) ⟨by omega, by simpa using p2, p3.set _ (by omega), by omega, hdr _, h3⟩)
   ·have h3 := hst d (bw + e) (d - (bw + e)) 0 (by omega) (Or.inl ⟨rfl, rfl, by omega⟩) (by omega)
    (repeat' (first | (refine CmpP.go (fun hc => ?_) (fun hc => ?_) <;> first | (exfalso; omega) | (conv => whnf)) | (refine Req.go (by omega) ?_; conv => whnf) | (refine OpP.nadd (by omega) ?_; conv => whnf) | (refine OpP.nsub (by omega) (by omega) ?_; conv => whnf) | (refine ConvP.u64 (by omega) ?_; conv => whnf) | (refine ConvP.n32i (by omega) ?_; conv => whnf) | (refine LenP.go ?_; conv => whnf) | (refine RdP.at (by assumption) (by omega) rfl ?_; conv => whnf) | (refine LdR.dat (by assumption) ?_; conv => whnf) | (refine AKM.x ?_; conv => whnf)))
    refine StR.dig (by omega) ?_
    (conv => whnf)
    (repeat' (refine OpP.add (by omega) ?_; conv => whnf))
    exact AKM.back [] (by (conv => whnf); exact ⟨rfl, rfl, rfl⟩) (ih (i + 1) (o.set i (d - (bw + e))) 0 (by omega) ⟨by omega, by simpa using p2, p3.set _ (by omega), by omega, hdr _, h3⟩)
  ·rw [← getD_none (show y.length ≤ i by omega)] at hst
   by_cases hlt : d < bw
   ·have h3 := hst (d + 4294967296) (bw) (d + 4294967296 - (bw)) 1 (by omega) (Or.inr ⟨rfl, rfl, hlt⟩) (by omega)
    (repeat' (first | (refine CmpP.go (fun hc => ?_) (fun hc => ?_) <;> first | (exfalso; omega) | (conv => whnf)) | (refine Req.go (by omega) ?_; conv => whnf) | (refine OpP.nsub (by omega) (by omega) ?_; conv => whnf) | (refine OpP.naddB (by omega) ?_; conv => whnf) | (refine ConvP.u64 (by omega) ?_; conv => whnf) | (refine ConvP.n32i (by omega) ?_; conv => whnf) | (refine LenP.go ?_; conv => whnf) | (refine LdR.dat (by assumption) ?_; conv => whnf) | (refine AKM.x ?_; conv => whnf)))
    refine StR.dig (by omega) ?_
    (conv => whnf)
    (repeat' (refine OpP.add (by omega) ?_; conv => whnf))
    exact AKM.back [] (by (conv => whnf); exact ⟨rfl, rfl, rfl⟩) (ih (i + 1) (o.set i (d + 4294967296 - (bw))) 1 (by omega) ⟨by omega, by simpa using p2, p3.set _ (by omega), by omega, hdr _, h3⟩)
   ·have h3 := hst d (bw) (d - (bw)) 0 (by omega) (Or.inl ⟨rfl, rfl, by omega⟩) (by omega)
    (repeat' (first | (refine CmpP.go (fun hc => ?_) (fun hc => ?_) <;> first | (exfalso; omega) | (conv => whnf)) | (refine Req.go (by omega) ?_; conv => whnf) | (refine OpP.nsub (by omega) (by omega) ?_; conv => whnf) | (refine ConvP.u64 (by omega) ?_; conv => whnf) | (refine ConvP.n32i (by omega) ?_; conv => whnf) | (refine LenP.go ?_; conv => whnf) | (refine LdR.dat (by assumption) ?_; conv => whnf) | (refine AKM.x ?_; conv => whnf)))
    refine StR.dig (by omega) ?_
    (conv => whnf)
    (repeat' (refine OpP.add (by omega) ?_; conv => whnf))
    exact AKM.back [] (by (conv => whnf); exact ⟨rfl, rfl, rfl⟩) (ih (i + 1) (o.set i (d - (bw))) 0 (by omega) ⟨by omega, by simpa using p2, p3.set _ (by omega), by omega, hdr _, h3⟩)
 ·obtain rfl : i = x.length := by omega
  clear ih
  rw [val_take_all (by omega), val_take_all (Nat.le_refl _)] at p6
  have h1 := val_lt p3
  rw [p2] at h1
  have h2 : val (y.take x.length) ≤ val y := by have := val_splitD y x.length; omega
  have hb0 : bw = 0 := by
   rcases Nat.eq_zero_or_pos bw with h | h
   ·exact h
   ·have : bw = 1 := by omega
    subst this
    omega
  subst hb0
  have hve : val (y.take x.length) = val y := by
   have h3 := val_splitD y x.length
   rcases Nat.eq_zero_or_pos (val (y.drop x.length)) with h | h
   ·rw [h] at h3; omega
   ·have h4 : 4294967296 ^ x.length * 1 ≤ 4294967296 ^ x.length * val (y.drop x.length) := Nat.mul_le_mul_left _ h
    have h5 := val_lt hX
    omega
  have hv : val o = val x - val y := by omega
  have hT := fun q => ev_r1_Trim N o q p3 (by omega)
  rw [← hv, ← p2]
  (repeat' (first | (refine CmpP.go (fun hc => ?_) (fun hc => ?_) <;> first | (exfalso; omega) | (conv => whnf)) | (refine SnR.all (fun _ => rfl) rfl (by first | rfl | simp) ?_; conv => whnf) | (refine AKM.x ?_; conv => whnf) | (refine CallP.go (hT _) ?_; conv => whnf)))
  exact FinP.go rfl (cl_sl _)
theorem ev_r1_Sub (N : RefGLib L) (a b : List Nat) (q1 q2 : Bool) (hA : Dig a) (hB : Dig b) (la : a.length ≤ 549755813888) (lb : b.length ≤ 549755813888) : Ev L 104 [.sl q1 (a.map e32), .sl q2 (b.map e32)] (.sl false ((dg (val a - val b)).map e32)) := by
 have hcmp := fun q q' => ev_r1_Compare N a b q q' hA hB (by omega) (by omega)
 have t2 := fun q => ev_r1_Trim N b q hB (by omega)
 refine Ev.x N.ref01_Sub rfl rfl ?_
 by_cases hlt : val a < val b
 ·rw [← cmpS_lt (by omega)] at hcmp
  rw [show val a - val b = 0 by omega, dg_zero]
  (repeat' (first | (refine CmpP.go (fun hc => ?_) (fun hc => ?_) <;> first | (exfalso; omega) | (conv => whnf)) | (refine AKM.x ?_; conv => whnf) | (refine CallP.go (hcmp _ _) ?_; conv => whnf)))
  exact FinP.go rfl (cl_sl [])
 ·have hge := cmpS_ge (show val b ≤ val a by omega)
  generalize cmpS (val a) (val b) = cm at *
  have d2 := dig_dg (val b)
  have v2 := val_dg (val b)
  have l2 := dg_len_val hB
  rw [← v2]
  rw [← v2] at hlt
  generalize dg (val b) = y at *
  have hdg : ∀ n, a.take n = dg (val a) → val (a.take n) = val a := fun n h => by rw [h, val_dg]
  (repeat' (first | (refine CmpP.go (fun hc => ?_) (fun hc => ?_) <;> first | (exfalso; omega) | (conv => whnf)) | (refine AKM.x ?_; conv => whnf) | (refine CallP.go (hcmp _ _) ?_; conv => whnf) | (refine CallP.go (t2 _) ?_; conv => whnf)))
  refine CalP.walk 1000 N.ref01_Trim rfl rfl ?_
  (repeat' (first | (refine LenP.go ?_; conv => whnf) | (refine AKM.x ?_; conv => whnf)))
  refine AKM.loop1 (fun n => n) (fun (n : Nat) => n ≤ a.length ∧ ∀ i, n ≤ i → i < a.length → a[i]? = some 0) (fun n => [(3, .int .i64 n)]) (fun _ => []) [] [] a.length (by (conv => whnf); exact ⟨rfl, rfl, rfl⟩) ⟨Nat.le_refl _, fun i h1 h2 => by omega⟩ ?_
  intro n ⟨p1, p2⟩ ih
  rcases n with _ | n
  ·have hv := hdg _ (cut_found hA p1 p2 (Or.inl rfl))
   clear ih
   (repeat' (first | (refine CmpP.go (fun hc => ?_) (fun hc => ?_) <;> first | (exfalso; omega) | (conv => whnf)) | (refine AKM.x ?_; conv => whnf)))
   refine SlS.to (k := 0) (fun _ => rfl) (by omega) ?_
   (conv => whnf)
   refine AppN.many (enc := e32) (fun _ => rfl) (by rw [List.length_take]; omega) (by rw [List.length_take]; omega) ?_
   (conv => whnf)
   refine ⟨rfl, _, rfl, ?_⟩
   (conv => whnf)
   skip
   rw [← hv]
   exact AKM.back [] (by (conv => whnf); exact ⟨rfl, rfl, rfl⟩) (r1_sub_main N (a.take 0) y (hA.take _) d2 (by simp) (by omega) (by omega))
  ·have e1 : ((n + 1 : Nat) : Int) - 1 = n := by omega
   (repeat' (first | (refine CmpP.go (fun hc => ?_) (fun hc => ?_) <;> first | (exfalso; omega) | (conv => whnf)) | (refine OpP.sub (by omega) ?_; conv => whnf) | (refine RdP.digi (by assumption) (by omega) (fun e he hb => ?_); conv => whnf) | (refine AKM.x ?_; conv => whnf)))
   ·rw [e1]
    exact AKM.back [] (by (conv => whnf); exact ⟨rfl, rfl, rfl⟩) (ih n (by omega) ⟨by omega, fun i h1 h2 => by
     by_cases h : i = n
     ·subst h
      rw [e1, Int.toNat_natCast] at he
      rw [he]; congr 1; omega
     ·exact p2 i (by omega) h2⟩)
   ·rw [e1, Int.toNat_natCast] at he
    have hv := hdg _ (cut_found hA p1 p2 (Or.inr ⟨_, he, by omega⟩))
    clear ih
    refine SlS.to (k := n + 1) (fun _ => rfl) (by omega) ?_
    (conv => whnf)
    refine AppN.many (enc := e32) (fun _ => rfl) (by rw [List.length_take]; omega) (by rw [List.length_take]; omega) ?_
    (conv => whnf)
    refine ⟨rfl, _, rfl, ?_⟩
    (conv => whnf)
    skip
    rw [← hv]
    exact AKM.back [] (by (conv => whnf); exact ⟨rfl, rfl, rfl⟩) (r1_sub_main N (a.take (n + 1)) y (hA.take _) d2 (by rw [List.length_take]; omega) (by omega) (by omega))
theorem ev_r1_Mul (N : RefGLib L) (x y : List Nat) (q1 q2 : Bool) (hA : Dig x) (hB : Dig y) (lab : x.length + y.length ≤ 549755813888) : Ev L 105 [.sl q1 (x.map e32), .sl q2 (y.map e32)] (.sl false ((dg (val x * val y)).map e32)) := by
 refine Ev.x N.ref01_Mul rfl rfl ?_
 (repeat' (first | (refine OpP.add (by omega) ?_; conv => whnf) | (refine LenP.go ?_; conv => whnf) | (refine AKM.x ?_; conv => whnf)))
 refine MkR.go (enc := e32) 0 (x.length + y.length + 1) rfl (by omega) (by omega) ?_
 (conv => whnf)
 skip
 refine AKM.loop2 (fun i _ => x.length - i) (fun (i : Nat) (o : List Nat) => i ≤ x.length ∧ o.length = x.length + y.length + 1 ∧ Dig o ∧ val o = val (x.take i) * val y ∧ ∀ k, i + y.length ≤ k → k < o.length → o[k]? = some 0) (fun i o => [(6, .int .i64 i)]) (fun i o => [(15, 15, .rw 1 (o.map e32))]) [] [] 0 (List.replicate (x.length + y.length + 1) 0) (by (conv => whnf); exact ⟨rfl, rfl, rfl⟩) ⟨by omega, by simp, dig_zeros _, by simp [val, val_zeros], fun k h1 h2 => by simp at h2; simp [h2]⟩ ?_
 intro i O ⟨p1, p2, p3, p4, p5⟩ ih
 by_cases hi : i < x.length
 ·obtain ⟨d, hd⟩ : ∃ d, x[i]? = some d := ⟨_, List.getElem?_eq_getElem hi⟩
  have hdb := hA.at hd
  (repeat' (first | (refine CmpP.go (fun hc => ?_) (fun hc => ?_) <;> first | (exfalso; omega) | (conv => whnf)) | (refine LenP.go ?_; conv => whnf) | (refine AKM.x ?_; conv => whnf)))
  refine AKM.loop3 (fun j _ _ => y.length - j) (fun (j : Nat) (o : List Nat) (c : Nat) => j ≤ y.length ∧ o.length = x.length + y.length + 1 ∧ Dig o ∧ c < 4294967296 ∧ val o + 4294967296 ^ (i + j) * c = val O + 4294967296 ^ i * (d * val (y.take j)) ∧ ∀ k, i + j ≤ k → o[k]? = O[k]?) (fun j o c => [(7, .int .u64 (c : Int)), (8, .int .i64 j)]) (fun j o c => [(15, 15, .rw 1 (o.map e32))]) [] [] 0 O 0 (by (conv => whnf); exact ⟨rfl, rfl, rfl⟩) ⟨by omega, p2, p3, by omega, by simp [val], fun _ _ => rfl⟩ ?_
  intro j o c ⟨r1, r2, r3, r4, r5, r6⟩ jh
  have e1 : ((i : Int) + j).toNat = i + j := by omega
  by_cases hj : j < y.length
  ·obtain ⟨w, hw⟩ : ∃ w, y[j]? = some w := ⟨_, List.getElem?_eq_getElem hj⟩
   have hwb := hB.at hw
   have hm := mul_le_dig hdb hwb
   (repeat' (first | (refine CmpP.go (fun hc => ?_) (fun hc => ?_) <;> first | (exfalso; omega) | (conv => whnf)) | (refine Req.go (by omega) ?_; conv => whnf) | (refine OpP.add (by omega) ?_; conv => whnf) | (refine OpP.nadd (by omega) ?_; conv => whnf) | (refine OpP.nmul (by omega) ?_; conv => whnf) | (refine ConvP.u64 (by omega) ?_; conv => whnf) | (refine ConvP.n32 ?_; conv => whnf) | (refine LenP.go ?_; conv => whnf) | (refine RdP.at (by assumption) (by omega) rfl ?_; conv => whnf) | (refine LdR.dig (by assumption) (by omega) (fun v hv hb => ?_); conv => whnf) | (refine AKM.x ?_; conv => whnf)))
   refine StR.digo (i + j) (by omega) (by omega) ?_
   (conv => whnf)
   (repeat' (first | (refine OpP.add (by omega) ?_; conv => whnf) | (refine OpP.nshr32 ?_; conv => whnf)))
   refine AKM.back [] (by (conv => whnf); exact ⟨rfl, rfl, rfl⟩) (jh (j + 1) _ _ (by omega) ⟨by omega, by simpa using r2, r3.set _ (by omega), by omega, ?_, ?_⟩)
   ·have h1 := val_set (v := (c + (d * w + v)) % 4294967296) hv
    have h2 := carry_step 0 (4294967296 ^ (i + j)) (c + (d * w + v))
    rw [val_take_succ hw, show i + (j + 1) = i + j + 1 by omega, Nat.pow_succ (4294967296) (i + j)]
    have h3 : 4294967296 ^ i * (d * (val (y.take j) + 4294967296 ^ j * w)) = 4294967296 ^ i * (d * val (y.take j)) + 4294967296 ^ (i + j) * (d * w) := by rw [Nat.pow_add]; grind
    rw [h3]
    generalize 4294967296 ^ (i + j) = P at *
    rw [Nat.mul_add P c, Nat.mul_add P] at h2
    omega
   ·intro k hk
    rw [List.getElem?_set_ne (by omega)]
    exact r6 k (by omega)
  ·obtain rfl : j = y.length := by omega
   clear jh
   have hz := r6 (i + y.length) (by omega)
   rw [p5 (i + y.length) (by omega) (by omega)] at hz
   (repeat' (first | (refine CmpP.go (fun hc => ?_) (fun hc => ?_) <;> first | (exfalso; omega) | (conv => whnf)) | (refine Req.go (by omega) ?_; conv => whnf) | (refine OpP.add (by omega) ?_; conv => whnf) | (refine ConvP.n32i (by omega) ?_; conv => whnf) | (refine LenP.go ?_; conv => whnf) | (refine AKM.x ?_; conv => whnf)))
   refine StR.digo (i + y.length) (by omega) (by omega) ?_
   (conv => whnf)
   (repeat' (refine OpP.add (by omega) ?_; conv => whnf))
   refine AKM.back [] (by (conv => whnf); exact ⟨rfl, rfl, rfl⟩) (ih (i + 1) _ (by omega) ⟨by omega, by simpa using r2, r3.set _ (by omega), ?_, ?_⟩)
   ·have h1 := val_set (v := c) hz
    rw [Nat.mul_zero, Nat.add_zero] at h1
    rw [h1, r5, p4, val_take_all (Nat.le_refl _), val_take_succ hd, Nat.add_mul, Nat.mul_assoc]
   ·intro k h1 h2
    rw [List.length_set] at h2
    rw [List.getElem?_set_ne (by omega), r6 k (by omega)]
    exact p5 k (by omega) (by omega)
 ·obtain rfl : i = x.length := by omega
  clear ih
  rw [val_take_all (Nat.le_refl _)] at p4
  have hT := fun q => ev_r1_Trim N O q p3 (by omega)
  rw [p4] at hT
  rw [← p2]
  (repeat' (first | (refine CmpP.go (fun hc => ?_) (fun hc => ?_) <;> first | (exfalso; omega) | (conv => whnf)) | (refine LenP.go ?_; conv => whnf) | (refine SnR.all (fun _ => rfl) rfl (by first | rfl | simp) ?_; conv => whnf) | (refine AKM.x ?_; conv => whnf) | (refine CallP.go (hT _) ?_; conv => whnf)))
  exact FinP.go rfl (cl_sl _)
end Go.Eng

namespace Go.Eng
open F
attribute [local irreducible] AKM CmpP Req OpP UnP ConvP RdP LdR StR MkR LenP AppR AppN CpyR RowP SnR Bds SlS CallP CalP FinP pw LdM GetM SetM PutM MkM AppM SnM FlP CallR
set_option maxHeartbeats 4000000
variable {L : Lib}
theorem dg_digit {d : Nat} (h0 : d ≠ 0) (hd : d < 4294967296) : dg d = [d] := by
 rw [dg_pos h0, Nat.div_eq_of_lt hd, dg_zero, Nat.mod_eq_of_lt hd]
theorem ev_r1_BitLen (N : RefGLib L) (d : Nat) (q : Bool) (h0 : d ≠ 0) (hd : d < 4294967296) : Ev L 106 [.sl q ([d].map e32)] (.int .i64 (blen d : Int)) := by
 have hT := fun q => ev_r1_Trim N [d] q (dig_one hd) (by simp)
 rw [show val [d] = d by simp [val], dg_digit h0 hd] at hT
 have hll : [d].length = 1 := rfl
 have hd0 : [d][(([d].length : Int) - 1).toNat]? = some d := rfl
 have hb := blen_le (k := 32) hd
 refine Ev.x N.ref01_BitLen rfl rfl ?_
 (repeat' (first | (refine CmpP.go (fun hc => ?_) (fun hc => ?_) <;> first | (exfalso; omega) | (conv => whnf)) | (refine OpP.sub (by omega) ?_; conv => whnf) | (refine OpP.mul (by omega) ?_; conv => whnf) | (refine LenP.go ?_; conv => whnf) | (refine RdP.at (by assumption) (by omega) rfl ?_; conv => whnf) | (refine AKM.x ?_; conv => whnf) | (refine CallP.go (hT _) ?_; conv => whnf)))
 refine AKM.loop2 (fun _ x => x) (fun (n x : Nat) => n + blen x = blen d ∧ x ≤ d) (fun n x => [(3, .int .i64 n), (4, .int .u32 (x : Int))]) (fun _ _ => []) [] [] 0 d (by (conv => whnf); exact ⟨rfl, rfl, rfl⟩) ⟨by omega, Nat.le_refl _⟩ ?_
 intro n x ⟨p1, p2⟩ ih
 by_cases hx : x = 0
 ·subst hx
  have : blen 0 = 0 := by unfold blen; simp
  (repeat' (first | (refine CmpP.go (fun hc => ?_) (fun hc => ?_) <;> first | (exfalso; omega) | (conv => whnf)) | (refine AKM.x ?_; conv => whnf)))
  exact FinP.i (by omega)
 ·have h1 : blen (x / 2) + 1 = blen x := by
   by_cases h1 : x = 1
   ·subst h1; decide
   ·exact blen_div 1 (x := x) (by omega)
  (repeat' (first | (refine CmpP.go (fun hc => ?_) (fun hc => ?_) <;> first | (exfalso; omega) | (conv => whnf)) | (refine OpP.add (by omega) ?_; conv => whnf) | (refine OpP.nshr1 ?_; conv => whnf) | (refine AKM.x ?_; conv => whnf)))
  exact AKM.back [] (by (conv => whnf); exact ⟨rfl, rfl, rfl⟩) (ih (n + 1) (x / 2) (by omega) ⟨by omega, by omega⟩)
theorem up_step {V P X lo s d p t : Nat} (h : V + P * p * lo = P * (X * 2 ^ s)) (ht : t = lo + d * 2 ^ s) : V + P * p * (t % 4294967296) + P * p * 4294967296 * (t / 4294967296) = P * ((X + p * d) * 2 ^ s) := by
 have h1 := carry_step V (P * p) t
 rw [h1, ht]
 have : P * ((X + p * d) * 2 ^ s) = P * (X * 2 ^ s) + P * p * (d * 2 ^ s) := by grind
 rw [this, ← h, Nat.mul_add]
 omega
theorem ev_r1_Shl (N : RefGLib L) (l : List Nat) (q : Bool) (n : Nat) (hD : Dig l) (hl : l.length ≤ 549755813888) (hn : n ≤ 65536) : Ev L 107 [.sl q (l.map e32), .int .i64 (n : Int)] (.sl false ((dg (val l * 2 ^ n)).map e32)) := by
 have hT := fun q => ev_r1_Trim N l q hD (by omega)
 have d1 := dig_dg (val l)
 have v1 := val_dg (val l)
 have l1 := dg_len_val hD
 have hz := dg_len0 (val l)
 refine Ev.x N.ref01_Shift rfl rfl ?_
 by_cases h0 : val l = 0
 ·rw [h0, Nat.zero_mul, dg_zero]
  (repeat' (first | (refine CmpP.go (fun hc => ?_) (fun hc => ?_) <;> first | (exfalso; omega) | (conv => whnf)) | (refine LenP.go ?_; conv => whnf) | (refine AKM.x ?_; conv => whnf) | (refine CallP.go (hT _) ?_; conv => whnf)))
  exact FinP.go rfl (cl_sl [])
 rw [← v1]
 generalize dg (val l) = x at *
 have hs31 : n % 32 < 32 := Nat.mod_lt _ (by omega)
 have e1 : (n : Int) / 32 = ((n / 32 : Nat) : Int) := by omega
 have e2 : (n : Int) % 32 = ((n % 32 : Nat) : Int) := by omega
 (repeat' (first | (refine CmpP.go (fun hc => ?_) (fun hc => ?_) <;> first | (exfalso; omega) | (conv => whnf)) | (refine OpP.quo (by omega) (by omega) (fun _ => ?_) (fun _ _ => ?_) <;> first | (exfalso; omega) | (conv => whnf)) | (refine LenP.go ?_; conv => whnf) | (refine AKM.x ?_; conv => whnf) | (refine CallP.go (hT _) ?_; conv => whnf)))
 rw [e1]
 refine MkR.go (enc := e32) 0 (n / 32) rfl rfl (by omega) ?_
 (conv => whnf)
 skip
 refine AKM.loop3 (fun i _ _ => x.length - i) (fun (i : Nat) (o : List Nat) (c : Nat) => i ≤ x.length ∧ o.length = n / 32 + i ∧ Dig o ∧ c < 2 ^ (n % 32) ∧ val o + 4294967296 ^ (n / 32) * 4294967296 ^ i * c = 4294967296 ^ (n / 32) * (val (x.take i) * 2 ^ (n % 32))) (fun i o c => [(10, .int .i64 i), (9, .int .u64 (c : Int)), (8, .row 107069 0 1 0 (n / 32 + i))]) (fun i o c => [(107069, 107069, .rw 1 (o.map e32))]) [] [] 0 (List.replicate (n / 32) 0) 0 (by (conv => whnf); exact ⟨rfl, rfl, rfl⟩) ⟨by omega, by simp, dig_zeros _, Nat.two_pow_pos _, by simp [val, val_zeros]⟩ ?_
 intro i o c ⟨p1, p2, p3, p4, p5⟩ ih
 have hps := pow_s_le (s := n % 32) (by omega)
 by_cases hi : i < x.length
 ·obtain ⟨d, hd⟩ : ∃ d, x[i]? = some d := ⟨_, List.getElem?_eq_getElem hi⟩
  have hdb := d1.at hd
  obtain ⟨f1, f2, f3, f4⟩ := sh_facts (s := n % 32) hdb (by omega)
  have hr := mul_room (show n % 32 ≤ 64 by omega) f4
  (repeat' (first | (refine CmpP.go (fun hc => ?_) (fun hc => ?_) <;> first | (exfalso; omega) | (conv => whnf)) | (refine OpP.rem (by omega) (fun _ _ _ => ?_) (fun _ _ _ _ => ?_) <;> first | (exfalso; omega) | (conv => whnf)) | (refine ConvP.u64 (by omega) ?_; conv => whnf) | (refine LenP.go ?_; conv => whnf) | (refine RdP.at (by assumption) (by omega) rfl ?_; conv => whnf) | (refine AKM.x ?_; conv => whnf)))
  rw [e2]
  refine OpP.sh8 (by omega) f4 ?_
  (conv => whnf)
  skip
  refine OpP.nor8r (n % 32) (Nat.mul_mod_left _ _) p4 (by omega) ?_
  (conv => whnf)
  have hst := up_step (d := d) p5 rfl
  have hc2 : (c + d * 2 ^ (n % 32)) / 4294967296 < 2 ^ (n % 32) := by
   rw [Nat.div_lt_iff_lt_mul (by omega)]
   have := Nat.mul_le_mul_right (2 ^ (n % 32)) (show d ≤ 4294967295 by omega)
   omega
  generalize c + d * 2 ^ (n % 32) = t at *
  (repeat' (first | (refine ConvP.n32 ?_; conv => whnf) | (refine RowP.e1 ?_; conv => whnf)))
  refine AppR.one (enc := e32) (t % 4294967296) rfl p2.symm rfl (by omega) (by omega) ?_
  (conv => whnf)
  (repeat' (first | (refine OpP.add (by omega) ?_; conv => whnf) | (refine OpP.nshr32 ?_; conv => whnf)))
  rw [show (o ++ [t % 4294967296]).length = n / 32 + (i + 1) by simp [p2]; omega]
  refine AKM.back [(107069, 107091)] (by (conv => whnf); exact ⟨rfl, rfl, rfl⟩) (ih (i + 1) (o ++ [t % 4294967296]) (t / 4294967296) (by omega) ⟨by omega, by simp; omega, p3.append (dig_one (by omega)), hc2, ?_⟩)
  rw [val_snoc, p2, val_take_succ hd, Nat.pow_add, Nat.pow_succ, ← Nat.mul_assoc]
  exact hst
 ·obtain rfl : i = x.length := by omega
  clear ih
  have hcb : c < 4294967296 := by omega
  have hOD : Dig (o ++ [c]) := p3.append (dig_one hcb)
  have hOv : val (o ++ [c]) = val x * 2 ^ n := by
   rw [val_snoc, p2, Nat.pow_add, p5, val_take_all (Nat.le_refl _)]
   have e3 : 2 ^ n = 4294967296 ^ (n / 32) * 2 ^ (n % 32) := by
    rw [show 4294967296 = 2 ^ 32 from rfl, ← Nat.pow_mul, ← Nat.pow_add]
    congr 1; omega
   rw [e3]; grind
  have hOl : (o ++ [c]).length = n / 32 + x.length + 1 := by simp [p2]
  (repeat' (first | (refine CmpP.go (fun hc => ?_) (fun hc => ?_) <;> first | (exfalso; omega) | (conv => whnf)) | (refine ConvP.n32i (by omega) ?_; conv => whnf) | (refine LenP.go ?_; conv => whnf) | (refine RowP.e1 ?_; conv => whnf) | (refine AKM.x ?_; conv => whnf)))
  refine AppR.one (enc := e32) c rfl p2.symm rfl (by omega) (by omega) ?_
  (conv => whnf)
  rw [← hOv, hOl]
  generalize o ++ [c] = O at *
  rw [← hOl]
  clear p3 p4 p5 hOv
  refine CalP.walk 1000 N.ref01_Trim rfl rfl ?_
  (repeat' (refine AKM.x ?_; conv => whnf))
  refine AKM.loop1 (fun n => n) (fun (n : Nat) => n ≤ (O).length ∧ ∀ i, n ≤ i → i < (O).length → (O)[i]? = some 0) (fun n => [(3, .int .i64 n)]) (fun _ => []) [] [] (O).length (by (conv => whnf); exact ⟨rfl, rfl, rfl⟩) ⟨Nat.le_refl _, fun i h1 h2 => by omega⟩ ?_
  intro n ⟨p1, p2⟩ ih
  rcases n with _ | n
  ·(repeat' (first | (refine CmpP.go (fun hc => ?_) (fun hc => ?_) <;> first | (exfalso; omega) | (conv => whnf)) | (refine AKM.x ?_; conv => whnf)))
   refine Bds.up 0 (by omega) (by omega) ?_
   (conv => whnf)
   have hct := cut_found (l := O) (by assumption) p1 p2 (Or.inl rfl)
   have hcl : (List.take 0 O).length ≤ (O).length := by rw [List.length_take]; omega
   clear ih p2
   refine RowP.part (enc := e32) (by omega) ?_
   (conv => whnf)
   rw [List.drop_zero, Nat.sub_zero]
   generalize hT0 : List.take 0 O = T0 at *
   refine AppN.many (enc := e32) (fun _ => rfl) (by omega) (by omega) ?_
   (conv => whnf)
   refine ⟨rfl, _, rfl, ?_⟩
   (conv => whnf)
   (refine SnR.all (enc := e32) (fun _ => rfl) rfl rfl ?_; (conv => whnf); exact FinP.go (by rw [← hct]) (cl_sl _))
  ·have e1 : ((n + 1 : Nat) : Int) - 1 = n := by omega
   (repeat' (first | (refine CmpP.go (fun hc => ?_) (fun hc => ?_) <;> first | (exfalso; omega) | (conv => whnf)) | (refine Req.go (by omega) ?_; conv => whnf) | (refine OpP.sub (by omega) ?_; conv => whnf) | (refine LdR.digi (by assumption) (by omega) (fun v hv hb => ?_); conv => whnf) | (refine AKM.x ?_; conv => whnf)))
   ·rw [e1]
    exact AKM.back [] (by (conv => whnf); exact ⟨rfl, rfl, rfl⟩) (ih n (by omega) ⟨by omega, fun i h1 h2 => by
     by_cases h : i = n
     ·subst h
      rw [e1, Int.toNat_natCast] at hv
      rw [hv]; congr 1; omega
     ·exact p2 i (by omega) h2⟩)
   ·refine Bds.up (n + 1) (by omega) (by omega) ?_
    (conv => whnf)
    rw [e1, Int.toNat_natCast] at hv
    have hct := cut_found (l := O) (by assumption) p1 p2 (Or.inr ⟨_, hv, by omega⟩)
    have hcl : (List.take (n + 1) O).length ≤ (O).length := by rw [List.length_take]; omega
    clear ih p2 hv
    (rw [apX_rw (l := O)]; rotate_left; exact rfl; exact rfl); (conv => whnf)
    refine RowP.part (enc := e32) (by omega) ?_
    (conv => whnf)
    rw [List.drop_zero, Nat.sub_zero]
    generalize hT0 : List.take (n + 1) O = T0 at *
    refine AppN.many (enc := e32) (fun _ => rfl) (by omega) (by omega) ?_
    (conv => whnf)
    refine ⟨rfl, _, rfl, ?_⟩
    (conv => whnf)
    (refine SnR.all (enc := e32) (fun _ => rfl) rfl rfl ?_; (conv => whnf); exact FinP.go (by rw [← hct]) (cl_sl _))
theorem val_drop_div {l : List Nat} (hD : Dig l) (k : Nat) (hk : k ≤ l.length) : val (l.drop k) = val l / 4294967296 ^ k := by
 have h1 := val_split l k hk
 have h2 := val_lt (hD.take k)
 rw [List.length_take, Nat.min_eq_left hk] at h2
 rw [h1, Nat.add_mul_div_left _ _ (Nat.pow_pos (by omega)), Nat.div_eq_of_lt h2, Nat.zero_add]
theorem pow_n32 (n : Nat) : 2 ^ n = 4294967296 ^ (n / 32) * 2 ^ (n % 32) := by
 rw [show 4294967296 = 2 ^ 32 from rfl, ← Nat.pow_mul, ← Nat.pow_add]
 congr 1; omega
theorem down_dig {d e V r : Nat} (hd : d < 4294967296) (hr : r < 32) : (d + e * 4294967296) / 2 ^ r % 4294967296 + 4294967296 * ((e + 4294967296 * V) / 2 ^ r) = (d + 4294967296 * (e + 4294967296 * V)) / 2 ^ r := by
 obtain ⟨f1, f2, f3⟩ := lower_facts (V := e) hd (show r ≤ 32 by omega)
 rw [lower_step (d := d) (V := e + 4294967296 * V) (by omega), lower_mod (d := e) (V := V) (by omega)]
 have h1 := lower_step (d := d) (V := e) (s := r) (by omega)
 rw [show d + e * 4294967296 = d + 4294967296 * e by omega, h1]
 clear h1
 generalize d / 2 ^ r = A at *
 generalize e % 2 ^ r * 2 ^ (32 - r) = Q at *
 generalize e / 2 ^ r = Z at *
 generalize 2 ^ (32 - r) = P at *
 omega
theorem ev_r1_Shr (N : RefGLib L) (l : List Nat) (q : Bool) (n : Nat) (hD : Dig l) (hl : l.length ≤ 549755813888) (hn : 1 ≤ n ∧ n ≤ 65536) : Ev L 107 [.sl q (l.map e32), .int .i64 (-(n : Int))] (.sl false ((dg (val l / 2 ^ n)).map e32)) := by
 have hT := fun q => ev_r1_Trim N l q hD (by omega)
 have d1 := dig_dg (val l)
 have v1 := val_dg (val l)
 have l1 := dg_len_val hD
 have hz := dg_len0 (val l)
 refine Ev.x N.ref01_Shift rfl rfl ?_
 by_cases h0 : val l = 0
 ·rw [h0, Nat.zero_div, dg_zero]
  (repeat' (first | (refine CmpP.go (fun hc => ?_) (fun hc => ?_) <;> first | (exfalso; omega) | (conv => whnf)) | (refine LenP.go ?_; conv => whnf) | (refine AKM.x ?_; conv => whnf) | (refine CallP.go (hT _) ?_; conv => whnf)))
  exact FinP.go rfl (cl_sl [])
 rw [← v1]
 generalize dg (val l) = x at *
 have hr32 : n % 32 < 32 := Nat.mod_lt _ (by omega)
 have e1 : (- -(n : Int)) / 32 = ((n / 32 : Nat) : Int) := by omega
 have e2 : (- -(n : Int)) % 32 = ((n % 32 : Nat) : Int) := by omega
 by_cases hbig : 32 * x.length < n
 ·have hlt : val x / 2 ^ n = 0 := by
   refine Nat.div_eq_of_lt (Nat.lt_of_lt_of_le (val_lt d1) ?_)
   rw [show 4294967296 = 2 ^ 32 from rfl, ← Nat.pow_mul]
   exact Nat.pow_le_pow_right (by omega) (by omega)
  rw [hlt, dg_zero]
  (repeat' (first | (refine CmpP.go (fun hc => ?_) (fun hc => ?_) <;> first | (exfalso; omega) | (conv => whnf)) | (refine OpP.mul (by omega) ?_; conv => whnf) | (refine LenP.go ?_; conv => whnf) | (refine AKM.x ?_; conv => whnf) | (refine CallP.go (hT _) ?_; conv => whnf)))
  exact FinP.go rfl (cl_sl [])
 have hk : n / 32 ≤ x.length := by omega
 have hvd := val_drop_div d1 _ hk
 (repeat' (first | (refine CmpP.go (fun hc => ?_) (fun hc => ?_) <;> first | (exfalso; omega) | (conv => whnf)) | (refine OpP.mul (by omega) ?_; conv => whnf) | (refine OpP.quo (by omega) (by omega) (fun _ => ?_) (fun _ _ => ?_) <;> first | (exfalso; omega) | (conv => whnf)) | (refine UnP.neg (by omega) ?_; conv => whnf) | (refine LenP.go ?_; conv => whnf) | (refine AKM.x ?_; conv => whnf) | (refine CallP.go (hT _) ?_; conv => whnf)))
 rw [e1]
 refine AKM.loop2 (fun i _ => x.length - i) (fun (i : Nat) (o : List Nat) => n / 32 ≤ i ∧ i ≤ x.length ∧ o.length = i - n / 32 ∧ Dig o ∧ val o + 4294967296 ^ (i - n / 32) * (val (x.drop i) / 2 ^ (n % 32)) = val (x.drop (n / 32)) / 2 ^ (n % 32)) (fun i o => [(6, .int .i64 i), (5, .row 107005 0 1 0 o.length)]) (fun i o => [(107005, 107005, .rw 1 (o.map e32))]) [] [] (n / 32) [] (by (conv => whnf); exact ⟨rfl, rfl, rfl⟩) ⟨Nat.le_refl _, hk, by simp, dig_nil, by simp [val]⟩ ?_
 intro i o ⟨p0, p1, p2, p3, p5⟩ ih
 by_cases hi : i < x.length
 ·obtain ⟨d, hd⟩ : ∃ d, x[i]? = some d := ⟨_, List.getElem?_eq_getElem hi⟩
  have hdb := d1.at hd
  have g1 := val_getD_drop hd
  have g2 := val_dropD x (i + 1)
  have g3 := down_dig (e := x.getD (i + 1) 0) (V := val (x.drop (i + 1 + 1))) hdb hr32
  rw [← g2, ← g1] at g3
  have key : ∀ t, t = d + x.getD (i + 1) 0 * 4294967296 → val (o ++ [t / 2 ^ (n % 32) % 4294967296]) + 4294967296 ^ (i + 1 - n / 32) * (val (x.drop (i + 1)) / 2 ^ (n % 32)) = val (x.drop (n / 32)) / 2 ^ (n % 32) := fun t ht => by
   rw [val_snoc, p2, show i + 1 - n / 32 = (i - n / 32) + 1 by omega, Nat.pow_succ, ht, Nat.add_assoc, Nat.mul_assoc, ← Nat.mul_add, g3]
   exact p5
  by_cases hy : i + 1 < x.length
  ·obtain ⟨e, he⟩ : ∃ e, x[i + 1]? = some e := ⟨_, List.getElem?_eq_getElem hy⟩
   have heb := d1.at he
   have he' : x[((i : Int) + 1).toNat]? = some e := by rw [show ((i : Int) + 1).toNat = i + 1 by omega]; exact he
   rw [getD_is he] at key
   (repeat' (first | (refine CmpP.go (fun hc => ?_) (fun hc => ?_) <;> first | (exfalso; omega) | (conv => whnf)) | (refine OpP.add (by omega) ?_; conv => whnf) | (refine OpP.nshl32 (by omega) ?_; conv => whnf) | (refine ConvP.u64 (by omega) ?_; conv => whnf) | (refine LenP.go ?_; conv => whnf) | (refine RdP.at (by assumption) (by omega) rfl ?_; conv => whnf) | (refine AKM.x ?_; conv => whnf)))
   refine OpP.nor8r 32 (Nat.mul_mod_left _ _) (by omega) (by omega) ?_
   (conv => whnf)
   (repeat' (first | (refine OpP.rem (by omega) (fun _ _ _ => ?_) (fun _ _ _ _ => ?_) <;> first | (exfalso; omega) | (conv => whnf)) | (refine ConvP.u64 (by omega) ?_; conv => whnf)))
   rw [e2]
   refine OpP.nshrv (n := n % 32) (by show n % 32 ≤ 64; omega) ?_
   (conv => whnf)
   (repeat' (first | (refine ConvP.n32 ?_; conv => whnf) | (refine RowP.e1 ?_; conv => whnf)))
   refine AppR.one (enc := e32) ((d + e * 4294967296) / 2 ^ (n % 32) % 4294967296) rfl rfl rfl (by omega) (by omega) ?_
   (conv => whnf)
   (repeat' (refine OpP.add (by omega) ?_; conv => whnf))
   exact AKM.back [(107005, 107064)] (by (conv => whnf); exact ⟨rfl, rfl, rfl⟩) (ih (i + 1) (o ++ [(d + e * 4294967296) / 2 ^ (n % 32) % 4294967296]) (by omega) ⟨by omega, by omega, by simp; omega, p3.append (dig_one (by omega)), key (d + e * 4294967296) rfl⟩)
  ·rw [← getD_none (show x.length ≤ i + 1 by omega), Nat.zero_mul] at key
   (repeat' (first | (refine CmpP.go (fun hc => ?_) (fun hc => ?_) <;> first | (exfalso; omega) | (conv => whnf)) | (refine OpP.add (by omega) ?_; conv => whnf) | (refine OpP.rem (by omega) (fun _ _ _ => ?_) (fun _ _ _ _ => ?_) <;> first | (exfalso; omega) | (conv => whnf)) | (refine ConvP.u64 (by omega) ?_; conv => whnf) | (refine LenP.go ?_; conv => whnf) | (refine RdP.at (by assumption) (by omega) rfl ?_; conv => whnf) | (refine AKM.x ?_; conv => whnf)))
   rw [e2]
   refine OpP.nshrv (n := n % 32) (by show n % 32 ≤ 64; omega) ?_
   (conv => whnf)
   (repeat' (first | (refine ConvP.n32 ?_; conv => whnf) | (refine RowP.e1 ?_; conv => whnf)))
   refine AppR.one (enc := e32) (d / 2 ^ (n % 32) % 4294967296) rfl rfl rfl (by omega) (by omega) ?_
   (conv => whnf)
   (repeat' (refine OpP.add (by omega) ?_; conv => whnf))
   exact AKM.back [(107005, 107064)] (by (conv => whnf); exact ⟨rfl, rfl, rfl⟩) (ih (i + 1) (o ++ [d / 2 ^ (n % 32) % 4294967296]) (by omega) ⟨by omega, by omega, by simp; omega, p3.append (dig_one (by omega)), key d rfl⟩)
 ·obtain rfl : i = x.length := by omega
  clear ih
  rw [List.drop_of_length_le (Nat.le_refl _), val_nil, Nat.zero_div, Nat.mul_zero, Nat.add_zero, hvd, Nat.div_div_eq_div_mul, ← pow_n32] at p5
  have hT2 := fun q => ev_r1_Trim N o q p3 (by omega)
  rw [p5] at hT2
  (repeat' (first | (refine CmpP.go (fun hc => ?_) (fun hc => ?_) <;> first | (exfalso; omega) | (conv => whnf)) | (refine LenP.go ?_; conv => whnf) | (refine SnR.all (fun _ => rfl) rfl (by first | rfl | simp) ?_; conv => whnf) | (refine AKM.x ?_; conv => whnf) | (refine CallP.go (hT2 _) ?_; conv => whnf)))
  exact FinP.go rfl (cl_sl _)
end Go.Eng

namespace Go.Eng
open F
attribute [local irreducible] AKM CmpP Req OpP UnP ConvP RdP LdR StR MkR LenP AppR AppN CpyR RowP SnR Bds SlS CallP CalP FinP pw LdM GetM SetM PutM MkM AppM SnM FlP CallR
set_option maxHeartbeats 4000000
variable {L : Lib}
theorem small_step' {V R y d t Q : Nat} (h : Q * y + R = V) (ht : t = R * 4294967296 + d) : (t / y + 4294967296 * Q) * y + t % y = d + 4294967296 * V := by
 have := Nat.div_add_mod t y
 rw [← h, Nat.add_mul]
 have e : t / y * y = y * (t / y) := Nat.mul_comm _ _
 grind
theorem ev_r1_small (N : RefGLib L) (x : List Nat) (Y : Nat) (q : Bool) (d1 : Dig x) (hx : x.length ≤ 549755813888) (h0 : Y ≠ 0) (hY : Y < 4294967296) : Ev L 108 [.sl q (x.map e32), .int .u32 (Y : Int)] (.tup [.sl false ((dg (val x / Y)).map e32), .int .u32 ((val x % Y : Nat) : Int)]) := by
 refine Ev.x N.ref01_small rfl rfl ?_
 (repeat' (first | (refine LenP.go ?_; conv => whnf) | (refine AKM.x ?_; conv => whnf)))
 refine MkR.go (enc := e32) 0 x.length rfl (by omega) (by omega) ?_
 (conv => whnf)
 (repeat' (first | (refine OpP.sub (by omega) ?_; conv => whnf) | (refine LenP.go ?_; conv => whnf)))
 refine AKM.loop3 (fun n _ _ => n) (fun (n : Nat) (o : List Nat) (r : Nat) => n ≤ x.length ∧ o.length = x.length ∧ Dig o ∧ r < Y ∧ val (o.drop n) * Y + r = val (x.drop n)) (fun n o r => [(7, .int .u64 (r : Int)), (8, .int .i64 ((n : Int) - 1))]) (fun n o r => [(11, 11, .rw 1 (o.map e32))]) [] [] x.length (List.replicate x.length 0) 0 (by (conv => whnf); exact ⟨rfl, rfl, rfl⟩) ⟨by omega, by simp, dig_zeros _, by omega, by rw [List.drop_of_length_le (Nat.le_refl _), List.drop_of_length_le (by simp)]; simp [val]⟩ ?_
 intro n o r ⟨p1, p2, p3, p4, p5⟩ ih
 rcases n with _ | n
 ·rw [List.drop_zero, List.drop_zero] at p5
  have hq : val x / Y = val o ∧ val x % Y = r := by
   rw [← p5]
   have e1 : (val o * Y + r) / Y = val o := by
    rw [Nat.mul_comm, Nat.mul_add_div (by omega), Nat.div_eq_of_lt p4, Nat.add_zero]
   have e2 : (val o * Y + r) % Y = r := by
    rw [Nat.mul_comm, Nat.mul_add_mod, Nat.mod_eq_of_lt p4]
   exact ⟨e1, e2⟩
  have hT := fun q => ev_r1_Trim N o q p3 (by omega)
  rw [hq.1, hq.2, ← p2]
  clear ih hq p5
  (repeat' (first | (refine CmpP.go (fun hc => ?_) (fun hc => ?_) <;> first | (exfalso; omega) | (conv => whnf)) | (refine ConvP.n32i (by omega) ?_; conv => whnf) | (refine SnR.all (fun _ => rfl) rfl (by first | rfl | simp) ?_; conv => whnf) | (refine AKM.x ?_; conv => whnf) | (refine CallP.go (hT _) ?_; conv => whnf)))
  refine FinP.go rfl ?_
  simp only [Clean, CleanL, and_true, true_and]
  exact cl_dig _
 ·have e1 : ((n + 1 : Nat) : Int) - 1 = n := by omega
  rw [e1]
  obtain ⟨d, hd⟩ : ∃ d, x[n]? = some d := ⟨_, List.getElem?_eq_getElem (by omega)⟩
  have hdb := d1.at hd
  have hR : r * 4294967296 + d < Y * 4294967296 := by omega
  have hq0 : (r * 4294967296 + d) / Y < 4294967296 := (Nat.div_lt_iff_lt_mul (by omega)).2 (by omega)
  (repeat' (first | (refine CmpP.go (fun hc => ?_) (fun hc => ?_) <;> first | (exfalso; omega) | (conv => whnf)) | (refine Req.go (by omega) ?_; conv => whnf) | (refine OpP.nshl32 (by omega) ?_; conv => whnf) | (refine OpP.nor (by omega) ?_; conv => whnf) | (refine OpP.nquo (by omega) (by omega) ?_; conv => whnf) | (refine ConvP.u64 (by omega) ?_; conv => whnf) | (refine ConvP.n32i (by omega) ?_; conv => whnf) | (refine RdP.at (by assumption) (by omega) rfl ?_; conv => whnf) | (refine AKM.x ?_; conv => whnf)))
  obtain ⟨t, ht⟩ : ∃ t, t = r * 4294967296 + d := ⟨_, rfl⟩
  rw [← ht] at hR hq0 ⊢
  have hm : t % Y < Y := Nat.mod_lt _ (by omega)
  have hst := small_step' p5 ht
  rw [← val_getD_drop hd] at hst
  clear ht
  skip
  refine StR.dig (by omega) ?_
  (conv => whnf)
  (repeat' (first | (refine OpP.sub (by omega) ?_; conv => whnf) | (refine OpP.nrem (by omega) ?_; conv => whnf) | (refine ConvP.u64 (by omega) ?_; conv => whnf)))
  generalize t / Y = tq at *
  generalize t % Y = tr at *
  refine AKM.back [] (by (conv => whnf); exact ⟨rfl, rfl, rfl⟩) (ih n _ _ (by omega) ⟨by omega, by simpa using p2, p3.set _ (by omega), hm, ?_⟩)
  rw [val_getD_drop (l := o.set n tq) (d := tq) (by rw [List.getElem?_set_self (by omega)]), List.drop_set_of_lt (by omega)]
  exact hst
theorem cl_pair3 (a b : List Nat) (e : Int) : Clean (.tup [.sl false (a.map e32), .sl false (b.map e32), .int .i64 e]) := by
 simp only [Clean, CleanL, and_true, true_and]
 exact ⟨cl_dig a, cl_dig b⟩
abbrev dmK1 : List It := [It.lp ref01_DivMod.l1, It.blk 0,
   It.code
    (((ACode.ops ref01_DivMod.r14 false).dr [0, 75, 79, 80] []).seq
     (((ACode.ops ref01_DivMod.r15 false).dr [81, 82, 83, 84, 85] []).seq
      ((((ACode.ops ref01_DivMod.r16 false).dr [86, 87, 88, 89, 90] []).seq
         (ACode.block 2 ref01_DivMod.l2.loop)).seq
       (((ACode.ops ref01_DivMod.r57 true).dr [9, 10, 11, 12, 13, 14, 92, 277, 278, 279, 280, 281, 282, 283, 284]
          []).seq
        ACode.ret))))]
abbrev dmK2 : List It := [It.lp ref01_DivMod.l2, It.blk 2, It.code
       (((ACode.ops ref01_DivMod.r57 true).dr [9, 10, 11, 12, 13, 14, 92, 277, 278, 279, 280, 281, 282, 283, 284]
          []).seq
        ACode.ret)]
abbrev dmTM (v : List Nat) (s ul m : Nat) (j : Int) : Tm := [(14, .int .i64 j), (13, .row 85 0 1 0 m), (12, .int .i64 v.length), (11, .sl false (v.map e32)), (10, .row 69 0 1 0 ul), (9, .int .i64 (s : Int))]
abbrev dmC4 : ACode := (((ACode.ops ref01_DivMod.r39 false).dr [18, 19, 20, 166, 205, 206, 207] []).seq
                (((ACode.ops ref01_DivMod.r40 false).dr [208, 209, 210, 211, 212, 213, 214] []).seq
                 ((ACode.ops ref01_DivMod.r41 false).seq
                  ((((ACode.ops ref01_DivMod.r42 false).dr [215, 216] []).seq
                     (ACode.cond 217
                      (((ACode.ops ref01_DivMod.r43 false).dr [18, 217, 218, 219] []).seq
                       (ACode.ops ref01_DivMod.r44 false))
                      ACode.skip)).seq
                   (((ACode.ops ref01_DivMod.r45 false).dr
                      [23, 24, 217, 220, 221, 222, 223, 224, 225, 226, 227, 228] []).seq
                    ((((ACode.ops ref01_DivMod.r46 false).dr [18, 229] []).seq
                       (ACode.cond 230
                        (((ACode.ops ref01_DivMod.r47 false).dr [230, 231, 232] []).seq
                         ((ACode.ops ref01_DivMod.r48 false).seq
                          (((ACode.ops ref01_DivMod.r49 false).seq
                             (ACode.block 8 ref01_DivMod.l5.loop)).seq
                           ((ACode.ops ref01_DivMod.r55 false).dr
                            [25, 26, 235, 262, 263, 264, 265, 266, 267, 268, 269, 270, 271]
                            []))))
                        ACode.skip)).seq
                     ((ACode.ops ref01_DivMod.r56 false).dr [16, 230, 272, 273, 274, 275, 276]
                      [])))))))
abbrev dmK4 : List It := It.lp ref01_DivMod.l4 :: It.blk 6 :: It.code dmC4 :: It.blk 3 :: It.code ((ACode.ops ref01_DivMod.r18 false).dr [93, 94] []) :: dmK2
section
variable {A W C w y : List Nat} {j m s ul q : Nat} {Q : Tm → Mem → Prop}
theorem win_at {e i n : Nat} (hi : i = A.length + n) (he : W[n]? = some e) : (A ++ W ++ C)[i]? = some e := by
 rw [win_get hi (List.getElem?_eq_some_iff.1 he).1]; exact he
theorem dm_rest (hA : A.length = j) (hW : W.length = y.length + 1) (D2 : Dig W) (hVD : Dig y) (hv2l : 2 ≤ y.length) (hvL : y.length ≤ 549755813888) (hV0 : 0 < val y) (hjl : j ≤ 1099511627776)
  (hul : ul = j + (y.length + 1) + C.length) (hwm : w.length = m) (hjm : j < m)
  (r1 : q < 4294967296) (r2 : val W / val y ≤ q) (r3 : q ≤ val W / val y + 1)
  (hk : ∀ (W' : List Nat) (q' : Nat), W'.length = y.length + 1 → Dig W' → val W' = val W % val y → q' = val W / val y → AKM L dmK2 (dmTM y s ul m ((j : Int) - 1)) [(69, 101021, .rw 1 ((A ++ W' ++ C).map e32)), (85, 85, .rw 1 ((w.set j q').map e32))] Q) :
  AKM L dmK4 ([(20, .int .i64 0), (19, .int .u64 0), (18, .int .u64 0), (16, .int .u64 (q : Int))] ++ dmTM y s ul m (j : Int)) [(69, 101021, .rw 1 ((A ++ W ++ C).map e32)), (85, 85, .rw 1 (w.map e32))] Q := by
 refine AKM.loop4 (fun i _ _ _ => y.length - i) (fun (i : Nat) (Z : List Nat) (c b : Nat) => i ≤ y.length ∧ Z.length = y.length + 1 ∧ Dig Z ∧ c < 4294967296 ∧ b ≤ 1 ∧ Z.drop i = W.drop i ∧ val (Z.take i) + q * val (y.take i) = val (W.take i) + 4294967296 ^ i * (c + b)) (fun i Z c b => [(20, .int .i64 i), (18, .int .u64 (b : Int)), (19, .int .u64 (c : Int))]) (fun i Z c b => [(69, 101021, .rw 1 ((A ++ Z ++ C).map e32))]) [] [] 0 W 0 0 (by (conv => whnf); exact ⟨rfl, rfl, rfl⟩) ⟨by omega, hW, D2, by omega, by omega, rfl, by simp [val]⟩ ?_
 intro i Z c b ⟨p1, p2, p3, p4, p5, p6, p7⟩ ih
 by_cases hi : i < y.length
 ·obtain ⟨d, hd⟩ : ∃ d, y[i]? = some d := ⟨_, List.getElem?_eq_getElem hi⟩
  obtain ⟨u, hu⟩ : ∃ u, Z[i]? = some u := ⟨_, List.getElem?_eq_getElem (by omega)⟩
  have hdb := hVD.at hd
  have hub := p3.at hu
  have hru : (A ++ Z ++ C)[((i : Int) + (j : Int)).toNat]? = some u := win_at (by omega) hu
  obtain ⟨pr, hpr⟩ : ∃ pr, pr = c + q * d := ⟨_, rfl⟩
  obtain ⟨m1, m2, m3⟩ := ms_carry r1 hdb p4 (show pr = q * d + c by omega)
  have hWi : W[i]? = some u := by
   have e1 : (Z.drop i)[0]? = (W.drop i)[0]? := by rw [p6]
   simpa [hu] using e1.symm
  have hdr : ∀ w, (Z.set i w).drop (i + 1) = W.drop (i + 1) := fun w => by
   rw [List.drop_set_of_lt (by omega)]
   have e1 : (Z.drop i).drop 1 = (W.drop i).drop 1 := by rw [p6]
   simpa using e1
  have hst : ∀ have' take w bw', take = pr % 4294967296 + b → ((have' = u ∧ bw' = 0 ∧ take ≤ u) ∨ (have' = u + 4294967296 ∧ bw' = 1 ∧ u < take)) → w + take = have' → val ((Z.set i w).take (i + 1)) + q * val (y.take (i + 1)) = val (W.take (i + 1)) + 4294967296 ^ (i + 1) * (pr / 4294967296 + bw') := fun have' take w bw' a1 a2 a3 => by
   rw [val_set_take (by omega), val_take_succ hd, val_take_succ hWi, Nat.pow_succ]
   exact ms_step2 p7 hpr a1 a2 a3
  by_cases hlt : u < pr % 4294967296 + b
  ·have h3 := hst (u + 4294967296) (pr % 4294967296 + b) (u + 4294967296 - (pr % 4294967296 + b)) 1 rfl (Or.inr ⟨rfl, rfl, hlt⟩) (by omega)
   (repeat' (first | (refine CmpP.go (fun hc => ?_) (fun hc => ?_) <;> first | (exfalso; omega) | (conv => whnf)) | (refine Req.go (by omega) ?_; conv => whnf) | (refine OpP.add (by omega) ?_; conv => whnf) | (refine OpP.nadd (by omega) ?_; conv => whnf) | (refine OpP.nmul (by omega) ?_; conv => whnf) | (refine OpP.nand32 (by omega) ?_; conv => whnf) | (refine OpP.nsub (by omega) (by omega) ?_; conv => whnf) | (refine OpP.nshr32 ?_; conv => whnf) | (refine OpP.naddB (by omega) ?_; conv => whnf) | (refine ConvP.u64 (by omega) ?_; conv => whnf) | (refine ConvP.n32i (by omega) ?_; conv => whnf) | (refine RdP.at (by assumption) (by omega) rfl ?_; conv => whnf) | (refine LdR.dat (by assumption) ?_; conv => whnf) | (refine AKM.x ?_; conv => whnf)))
   rw [← hpr]
   skip
   refine StR.win i (by omega) (by omega) ?_
   (conv => whnf)
   (repeat' (refine OpP.add (by omega) ?_; conv => whnf))
   exact AKM.back [] (by (conv => whnf); exact ⟨rfl, rfl, rfl⟩) (ih (i + 1) (Z.set i (u + 4294967296 - (pr % 4294967296 + b))) (pr / 4294967296) 1 (by omega) ⟨by omega, by simpa using p2, p3.set _ (by omega), m1, by omega, hdr _, h3⟩)
  ·have h3 := hst u (pr % 4294967296 + b) (u - (pr % 4294967296 + b)) 0 rfl (Or.inl ⟨rfl, rfl, by omega⟩) (by omega)
   (repeat' (first | (refine CmpP.go (fun hc => ?_) (fun hc => ?_) <;> first | (exfalso; omega) | (conv => whnf)) | (refine Req.go (by omega) ?_; conv => whnf) | (refine OpP.add (by omega) ?_; conv => whnf) | (refine OpP.nadd (by omega) ?_; conv => whnf) | (refine OpP.nmul (by omega) ?_; conv => whnf) | (refine OpP.nand32 (by omega) ?_; conv => whnf) | (refine OpP.nsub (by omega) (by omega) ?_; conv => whnf) | (refine OpP.nshr32 ?_; conv => whnf) | (refine ConvP.u64 (by omega) ?_; conv => whnf) | (refine ConvP.n32i (by omega) ?_; conv => whnf) | (refine RdP.at (by assumption) (by omega) rfl ?_; conv => whnf) | (refine LdR.dat (by assumption) ?_; conv => whnf) | (refine AKM.x ?_; conv => whnf)))
   rw [← hpr]
   skip
   refine StR.win i (by omega) (by omega) ?_
   (conv => whnf)
   (repeat' (refine OpP.add (by omega) ?_; conv => whnf))
   exact AKM.back [] (by (conv => whnf); exact ⟨rfl, rfl, rfl⟩) (ih (i + 1) (Z.set i (u - (pr % 4294967296 + b))) (pr / 4294967296) 0 (by omega) ⟨by omega, by simpa using p2, p3.set _ (by omega), m1, by omega, hdr _, h3⟩)
 ·obtain rfl : i = y.length := by omega
  clear ih
  obtain ⟨u, hu⟩ : ∃ u, Z[y.length]? = some u := ⟨_, List.getElem?_eq_getElem (by omega)⟩
  have hub := p3.at hu
  have hru : (A ++ Z ++ C)[((j : Int) + (y.length : Int)).toNat]? = some u := win_at (by omega) hu
  have hWi : W[y.length]? = some u := by
   have e1 : (Z.drop y.length)[0]? = (W.drop y.length)[0]? := by rw [p6]
   simpa [hu] using e1.symm
  rw [val_take_all (Nat.le_refl y.length)] at p7
  have eW : val W = val (W.take y.length) + 4294967296 ^ y.length * u := by
   rw [← val_take_succ hWi, val_take_all (by omega)]
  have hst : ∀ have' take w bw', take = c + b → ((have' = u ∧ bw' = 0 ∧ take ≤ u) ∨ (have' = u + 4294967296 ∧ bw' = 1 ∧ u < take)) → w + take = have' → val (Z.set y.length w) + q * val y = val W + 4294967296 ^ y.length * 4294967296 * bw' := fun have' take w bw' a1 a2 a3 => by
   have h1 := ms_last2 p7 a1 a2 a3
   rw [← eW, ← val_set_take (show y.length < Z.length by omega), val_take_all (by simp; omega)] at h1
   exact h1
  by_cases hlt : u < c + b
  ·have h3 := hst (u + 4294967296) (c + b) (u + 4294967296 - (c + b)) 1 rfl (Or.inr ⟨rfl, rfl, hlt⟩) (by omega)
   have hXD : Dig (Z.set y.length (u + 4294967296 - (c + b))) := p3.set _ (by omega)
   have hXl : (Z.set y.length (u + 4294967296 - (c + b))).length = y.length + 1 := by simpa using p2
   rw [Nat.mul_one] at h3
   have hU' := val_lt hXD
   rw [hXl, Nat.pow_succ] at hU'
   obtain ⟨y1, y2, y3⟩ := digit_back hV0 r3 hU' h3
   (repeat' (first | (refine CmpP.go (fun hc => ?_) (fun hc => ?_) <;> first | (exfalso; omega) | (conv => whnf)) | (refine Req.go (by omega) ?_; conv => whnf) | (refine OpP.add (by omega) ?_; conv => whnf) | (refine OpP.nadd (by omega) ?_; conv => whnf) | (refine OpP.nsub (by omega) (by omega) ?_; conv => whnf) | (refine OpP.naddB (by omega) ?_; conv => whnf) | (refine ConvP.u64 (by omega) ?_; conv => whnf) | (refine ConvP.n32i (by omega) ?_; conv => whnf) | (refine LdR.dat (by assumption) ?_; conv => whnf) | (refine AKM.x ?_; conv => whnf)))
   refine StR.win y.length (by omega) (by omega) ?_
   (conv => whnf)
   (repeat' (first | (refine CmpP.go (fun hc => ?_) (fun hc => ?_) <;> first | (exfalso; omega) | (conv => whnf)) | (refine OpP.nsub (by omega) (by omega) ?_; conv => whnf)))
   clear p7 p6 eW hu hWi hub hru p2 p3 hst
   generalize Z.set y.length (u + 4294967296 - (c + b)) = X at *
   have hRV : val W % val y < val y := Nat.mod_lt _ hV0
   have hVl := val_lt hVD
   obtain ⟨xw, hxw⟩ : ∃ xw, X[y.length]? = some xw := ⟨_, List.getElem?_eq_getElem (by omega)⟩
   have eX : val X = val (X.take y.length) + 4294967296 ^ y.length * xw := by
    rw [← val_take_succ hxw, val_take_all (by omega)]
   have hqb : q - 1 < 4294967296 := by omega
   refine AKM.loop3 (fun i _ _ => y.length - i) (fun (i : Nat) (Z : List Nat) (c : Nat) => i ≤ y.length ∧ Z.length = y.length + 1 ∧ Dig Z ∧ c ≤ 1 ∧ Z.drop i = X.drop i ∧ val (Z.take i) + 4294967296 ^ i * c = val (X.take i) + val (y.take i)) (fun i Z c => [(26, .int .i64 i), (25, .int .u64 (c : Int))]) (fun i Z c => [(69, 101021, .rw 1 ((A ++ Z ++ C).map e32))]) [] [] 0 X 0 (by (conv => whnf); exact ⟨rfl, rfl, rfl⟩) ⟨by omega, hXl, hXD, by omega, rfl, by simp [val]⟩ ?_
   intro i Z c ⟨p1, p2, p3, p4, p6, p7⟩ ih
   by_cases hi : i < y.length
   ·obtain ⟨d, hd⟩ : ∃ d, y[i]? = some d := ⟨_, List.getElem?_eq_getElem hi⟩
    obtain ⟨u, hu⟩ : ∃ u, Z[i]? = some u := ⟨_, List.getElem?_eq_getElem (by omega)⟩
    have hdb := hVD.at hd
    have hub := p3.at hu
    have hru : (A ++ Z ++ C)[((i : Int) + (j : Int)).toNat]? = some u := win_at (by omega) hu
    have hXi : X[i]? = some u := by
     have e1 : (Z.drop i)[0]? = (X.drop i)[0]? := by rw [p6]
     simpa [hu] using e1.symm
    have hab := ab_step (d := d) (w := u) (t := c + (u + d)) p7 (by omega)
    (repeat' (first | (refine CmpP.go (fun hc => ?_) (fun hc => ?_) <;> first | (exfalso; omega) | (conv => whnf)) | (refine Req.go (by omega) ?_; conv => whnf) | (refine OpP.add (by omega) ?_; conv => whnf) | (refine OpP.nadd (by omega) ?_; conv => whnf) | (refine ConvP.u64 (by omega) ?_; conv => whnf) | (refine ConvP.n32 ?_; conv => whnf) | (refine RdP.at (by assumption) (by omega) rfl ?_; conv => whnf) | (refine LdR.dat (by assumption) ?_; conv => whnf) | (refine AKM.x ?_; conv => whnf)))
    generalize ht2 : c + (u + d) = t2 at *
    refine StR.win i (by omega) (by omega) ?_
    (conv => whnf)
    (repeat' (first | (refine OpP.add (by omega) ?_; conv => whnf) | (refine OpP.nshr32 ?_; conv => whnf)))
    refine AKM.back [] (by (conv => whnf); exact ⟨rfl, rfl, rfl⟩) (ih (i + 1) (Z.set i (t2 % 4294967296)) (t2 / 4294967296) (by omega) ⟨by omega, by simpa using p2, p3.set _ (by omega), by omega, ?_, ?_⟩)
    ·rw [List.drop_set_of_lt (by omega)]
     have e1 : (Z.drop i).drop 1 = (X.drop i).drop 1 := by rw [p6]
     simpa using e1
    ·rw [val_set_take (by omega), val_take_succ hd, val_take_succ hXi, Nat.pow_succ]
     exact hab
   ·obtain rfl : i = y.length := by omega
    clear ih
    obtain ⟨u, hu⟩ : ∃ u, Z[y.length]? = some u := ⟨_, List.getElem?_eq_getElem (by omega)⟩
    have hub := p3.at hu
    have hru : (A ++ Z ++ C)[((j : Int) + (y.length : Int)).toNat]? = some u := win_at (by omega) hu
    have hXi : X[y.length]? = some u := by
     have e1 : (Z.drop y.length)[0]? = (X.drop y.length)[0]? := by rw [p6]
     simpa [hu] using e1.symm
    rw [hXi] at hxw
    obtain rfl : u = xw := by simpa using hxw
    rw [val_take_all (Nat.le_refl y.length)] at p7
    have hZl := val_lt (p3.take y.length)
    rw [List.length_take, Nat.min_eq_left (by omega)] at hZl
    rw [eX] at y3
    have hend := ab_last p7 y3 (by omega) hZl
    rw [← val_set_take (show y.length < Z.length by omega), val_take_all (by simp; omega)] at hend
    (repeat' (first | (refine CmpP.go (fun hc => ?_) (fun hc => ?_) <;> first | (exfalso; omega) | (conv => whnf)) | (refine Req.go (by omega) ?_; conv => whnf) | (refine OpP.add (by omega) ?_; conv => whnf) | (refine OpP.nadd4 ?_; conv => whnf) | (refine ConvP.n32i (by omega) ?_; conv => whnf) | (refine LdR.dat (by assumption) ?_; conv => whnf) | (refine AKM.x ?_; conv => whnf)))
    refine StR.win y.length (by omega) (by omega) ?_
    (conv => whnf)
    (repeat' (first | (refine Req.go (by omega) ?_; conv => whnf) | (refine ConvP.n32i (by omega) ?_; conv => whnf)))
    refine StR.dig (by omega) ?_
    (conv => whnf)
    (repeat' (refine OpP.sub (by omega) ?_; conv => whnf))
    exact AKM.back [] (by (conv => whnf); exact ⟨rfl, rfl, rfl⟩) (hk _ _ (by simpa using p2) (p3.set _ (by omega)) hend y1)
  ·have h3 := hst u (c + b) (u - (c + b)) 0 rfl (Or.inl ⟨rfl, rfl, by omega⟩) (by omega)
   rw [Nat.mul_zero, Nat.add_zero] at h3
   obtain ⟨y1, y2⟩ := digit_ok hV0 r2 h3
   (repeat' (first | (refine CmpP.go (fun hc => ?_) (fun hc => ?_) <;> first | (exfalso; omega) | (conv => whnf)) | (refine Req.go (by omega) ?_; conv => whnf) | (refine OpP.add (by omega) ?_; conv => whnf) | (refine OpP.nadd (by omega) ?_; conv => whnf) | (refine OpP.nsub (by omega) (by omega) ?_; conv => whnf) | (refine ConvP.u64 (by omega) ?_; conv => whnf) | (refine ConvP.n32i (by omega) ?_; conv => whnf) | (refine LdR.dat (by assumption) ?_; conv => whnf) | (refine AKM.x ?_; conv => whnf)))
   refine StR.win y.length (by omega) (by omega) ?_
   (conv => whnf)
   (repeat' (first | (refine CmpP.go (fun hc => ?_) (fun hc => ?_) <;> first | (exfalso; omega) | (conv => whnf)) | (refine Req.go (by omega) ?_; conv => whnf) | (refine ConvP.n32i (by omega) ?_; conv => whnf)))
   refine StR.dig (by omega) ?_
   (conv => whnf)
   (repeat' (refine OpP.sub (by omega) ?_; conv => whnf))
   exact AKM.back [] (by (conv => whnf); exact ⟨rfl, rfl, rfl⟩) (hk _ _ (by simpa using p2) (p3.set _ (by omega)) y2 y1)
theorem dm_iter (hA : A.length = j) (hW : W.length = y.length + 1) (D2 : Dig W) (hVD : Dig y) (hv2l : 2 ≤ y.length) (hvL : y.length ≤ 549755813888) (hV0 : 0 < val y) (hjl : j ≤ 1099511627776)
  (n2 : 4294967296 ^ (y.length - 1) * 2147483648 ≤ val y) (g2 : val W < 4294967296 * val y) (hul : ul = j + (y.length + 1) + C.length) (hwm : w.length = m) (hjm : j < m)
  (hk : ∀ (W' : List Nat) (q' : Nat), W'.length = y.length + 1 → Dig W' → val W' = val W % val y → q' = val W / val y → AKM L dmK2 (dmTM y s ul m ((j : Int) - 1)) [(69, 101021, .rw 1 ((A ++ W' ++ C).map e32)), (85, 85, .rw 1 ((w.set j q').map e32))] Q) :
  AKM L (.code ref01_DivMod.l2 :: dmK2) (dmTM y s ul m (j : Int)) [(69, 101021, .rw 1 ((A ++ W ++ C).map e32)), (85, 85, .rw 1 (w.map e32))] Q := by
 obtain ⟨UL, a1, a2⟩ := val_top3 D2 (n := y.length + 1) (by omega) (by omega)
 obtain ⟨VL, b5, b6⟩ := val_top2 hVD (n := y.length) hv2l (by omega)
 obtain ⟨u0, w0⟩ : ∃ d, W[y.length]? = some d := ⟨_, List.getElem?_eq_getElem (by omega)⟩
 obtain ⟨u1, w1⟩ : ∃ d, W[y.length - 1]? = some d := ⟨_, List.getElem?_eq_getElem (by omega)⟩
 obtain ⟨u2, w2⟩ : ∃ d, W[y.length - 2]? = some d := ⟨_, List.getElem?_eq_getElem (by omega)⟩
 obtain ⟨f1, x1⟩ : ∃ d, y[y.length - 1]? = some d := ⟨_, List.getElem?_eq_getElem (by omega)⟩
 obtain ⟨f2, x2⟩ : ∃ d, y[y.length - 2]? = some d := ⟨_, List.getElem?_eq_getElem (by omega)⟩
 rw [show y.length + 1 - 3 = y.length - 2 by omega, show y.length + 1 - 2 = y.length - 1 by omega, show y.length + 1 - 1 = y.length by omega, getD_is w0, getD_is w1, getD_is w2] at a2
 rw [show y.length + 1 - 3 = y.length - 2 by omega] at a1
 rw [getD_is x1, getD_is x2] at b6
 have hf1 := top_ge hVD (k := y.length - 1) (by omega) n2 x1
 have k0 := D2.at w0
 have k1 := D2.at w1
 have k2 := D2.at w2
 have k3 := hVD.at x1
 have k4 := hVD.at x2
 have z1 : y[((y.length : Int) - 1).toNat]? = some f1 := by rw [show ((y.length : Int) - 1).toNat = y.length - 1 by omega]; exact x1
 have z2 : y[((y.length : Int) - 2).toNat]? = some f2 := by rw [show ((y.length : Int) - 2).toNat = y.length - 2 by omega]; exact x2
 have hr0 : (A ++ W ++ C)[((j : Int) + (y.length : Int)).toNat]? = some u0 := win_at (by omega) w0
 (repeat' (first | (refine CmpP.go (fun hc => ?_) (fun hc => ?_) <;> first | (exfalso; omega) | (conv => whnf)) | (refine Req.go (by omega) ?_; conv => whnf) | (refine OpP.add (by omega) ?_; conv => whnf) | (refine OpP.sub (by omega) ?_; conv => whnf) | (refine OpP.nshl32 (by omega) ?_; conv => whnf) | (refine ConvP.u64 (by omega) ?_; conv => whnf) | (refine LdR.dat (by assumption) ?_; conv => whnf) | (refine AKM.x ?_; conv => whnf)))
 have hr1 : (A ++ W ++ C)[((j : Int) + (y.length : Int) - 1).toNat]? = some u1 := win_at (by omega) w1
 refine LdR.dai hr1 ?_
 (conv => whnf)
 refine ConvP.n64 (by omega) ?_
 (conv => whnf)
 refine OpP.nor (by omega) ?_
 (conv => whnf)
 clear hr0 hr1
 have hr2 : (A ++ W ++ C)[((j : Int) + (y.length : Int) - 2).toNat]? = some u2 := win_at (by omega) w2
 generalize htop : u0 * 4294967296 + u1 = top at *
 have htb : top ≤ 18446744073709551615 := by omega
 have hU : val W = UL + 4294967296 ^ (y.length - 2) * (u2 + 4294967296 * top) := by rw [a2, show u1 + 4294967296 * u0 = top by omega]
 (repeat' (first | (refine OpP.sub (by omega) ?_; conv => whnf) | (refine OpP.nrem (by omega) ?_; conv => whnf) | (refine OpP.nquo (by omega) (by omega) ?_; conv => whnf) | (refine ConvP.u64 (by omega) ?_; conv => whnf) | (refine RdP.at (by assumption) (by omega) rfl ?_; conv => whnf)))
 refine AKM.loop2 (fun q _ => q) (fun (q r : Nat) => Gs (val W) (val y) f1 f2 u2 top q r) (fun q r => [(16, .int .u64 (q : Int)), (17, .int .u64 (r : Int))]) (fun _ _ => []) [] [] (top / f1) (top % f1) (by (conv => whnf); exact ⟨rfl, rfl, rfl⟩) (Gs.start hU b6 a1 k2 hV0 (by omega) k3) ?_
 intro q r g ih2
 have hqt : q ≤ top := by
  have h3 := g.hq
  have h4 : q * 1 ≤ q * f1 := Nat.mul_le_mul_left q (by omega)
  omega
 have hr := g.hr
 have hge := g.ge
 by_cases hb : 4294967296 ≤ q
 ·obtain ⟨y1, y2, y3⟩ := g.next hU b6 a1 hV0 g2 (Or.inl hb)
  (repeat' (first | (refine CmpP.go (fun hc => ?_) (fun hc => ?_) <;> first | (exfalso; omega) | (conv => whnf)) | (refine OpP.sub (by omega) ?_; conv => whnf) | (refine OpP.nadd (by omega) ?_; conv => whnf) | (refine OpP.nsub (by omega) (by omega) ?_; conv => whnf) | (refine ConvP.u64 (by omega) ?_; conv => whnf) | (refine RdP.at (by assumption) (by omega) rfl ?_; conv => whnf) | (refine AKM.x ?_; conv => whnf)))
  ·obtain ⟨t1, t2⟩ := guess_stop hU b6 b5 hf1 k4 g2 y2 (Or.inr (by omega))
   exact AKM.back [] (by (conv => whnf); exact ⟨rfl, rfl, rfl⟩) (dm_rest (w := w) (C := C) hA hW D2 hVD hv2l hvL hV0 hjl hul hwm hjm t1 y3 t2 hk)
  ·exact AKM.back [] (by (conv => whnf); exact ⟨rfl, rfl, rfl⟩) (ih2 (q - 1) (r + f1) (by omega) ⟨y2, by omega, y3⟩)
 ·have hmq := mul_le_dig (show q < 4294967296 by omega) k4
  by_cases hb2 : r * 4294967296 + u2 < q * f2
  ·obtain ⟨y1, y2, y3⟩ := g.next hU b6 a1 hV0 g2 (Or.inr hb2)
   (repeat' (first | (refine CmpP.go (fun hc => ?_) (fun hc => ?_) <;> first | (exfalso; omega) | (conv => whnf)) | (refine Req.go (by omega) ?_; conv => whnf) | (refine OpP.add (by omega) ?_; conv => whnf) | (refine OpP.sub (by omega) ?_; conv => whnf) | (refine OpP.nadd (by omega) ?_; conv => whnf) | (refine OpP.nmul (by omega) ?_; conv => whnf) | (refine OpP.nshl32 (by omega) ?_; conv => whnf) | (refine OpP.nor (by omega) ?_; conv => whnf) | (refine OpP.nsub (by omega) (by omega) ?_; conv => whnf) | (refine ConvP.u64 (by omega) ?_; conv => whnf) | (refine RdP.at (by assumption) (by omega) rfl ?_; conv => whnf) | (refine LdR.dat (by assumption) ?_; conv => whnf) | (refine AKM.x ?_; conv => whnf)))
   ·obtain ⟨t1, t2⟩ := guess_stop hU b6 b5 hf1 k4 g2 y2 (Or.inr (by omega))
    exact AKM.back [] (by (conv => whnf); exact ⟨rfl, rfl, rfl⟩) (dm_rest (w := w) (C := C) hA hW D2 hVD hv2l hvL hV0 hjl hul hwm hjm t1 y3 t2 hk)
   ·exact AKM.back [] (by (conv => whnf); exact ⟨rfl, rfl, rfl⟩) (ih2 (q - 1) (r + f1) (by omega) ⟨y2, by omega, y3⟩)
  ·obtain ⟨t1, t2⟩ := guess_stop hU b6 b5 hf1 k4 g2 g.hq (Or.inl ⟨by omega, by omega⟩)
   (repeat' (first | (refine CmpP.go (fun hc => ?_) (fun hc => ?_) <;> first | (exfalso; omega) | (conv => whnf)) | (refine Req.go (by omega) ?_; conv => whnf) | (refine OpP.add (by omega) ?_; conv => whnf) | (refine OpP.sub (by omega) ?_; conv => whnf) | (refine OpP.nmul (by omega) ?_; conv => whnf) | (refine OpP.nshl32 (by omega) ?_; conv => whnf) | (refine OpP.nor (by omega) ?_; conv => whnf) | (refine ConvP.u64 (by omega) ?_; conv => whnf) | (refine RdP.at (by assumption) (by omega) rfl ?_; conv => whnf) | (refine LdR.dat (by assumption) ?_; conv => whnf) | (refine AKM.x ?_; conv => whnf)))
   exact AKM.back [] (by (conv => whnf); exact ⟨rfl, rfl, rfl⟩) (dm_rest (w := w) (C := C) hA hW D2 hVD hv2l hvL hV0 hjl hul hwm hjm t1 hge t2 hk)
end
theorem val_top0 {l : List Nat} (hD : Dig l) (h : l[l.length - 1]? = some 0) : val l < 4294967296 ^ (l.length - 1) := by
 have hl := (List.getElem?_eq_some_iff.1 h).1
 have h1 := val_split l (l.length - 1) (by omega)
 have h2 := val_getD_drop h
 rw [List.drop_of_length_le (show l.length ≤ l.length - 1 + 1 by omega), val_nil] at h2
 rw [h2] at h1
 simp only [Nat.mul_zero, Nat.add_zero] at h1
 have h3 := val_lt (hD.take (l.length - 1))
 rw [List.length_take, Nat.min_eq_left (by omega)] at h3
 omega
theorem dm_main (N : RefGLib L) {X Y s : Nat} {x u y : List Nat} (hY : Y ≠ 0) (hs31 : s ≤ 31) (hUD : Dig u) (hUu : val u = X * 2 ^ s) (hU0 : u[u.length - 1]? = some 0) (hul : x.length + 1 ≤ u.length ∧ u.length ≤ 549755813888) (hVD : Dig y) (hVv : val y = Y * 2 ^ s) (hvl : 2 ≤ y.length ∧ y.length ≤ x.length) (n2 : 4294967296 ^ (y.length - 1) * 2147483648 ≤ val y) :
  AKM L dmK1 [(10, .row 69 0 1 0 u.length), (11, .sl false (y.map e32)), (9, .int .i64 (s : Int)), (0, .sl false (x.map e32))] [(69, 101021, .rw 1 (u.map e32))] (RetX ref01_DivMod (.tup [.sl false ((dg (X / Y)).map e32), .sl false ((dg (X % Y)).map e32), .int .i64 0])) := by
 refine AKM.loop1 (fun (_ : Nat) => 0) (fun _ => True) (fun _ => []) (fun _ => []) [] [] 0 (by (conv => whnf); exact ⟨rfl, rfl, rfl⟩) trivial ?_
 intro _ _ _
 (repeat' (first | (refine CmpP.go (fun hc => ?_) (fun hc => ?_) <;> first | (exfalso; omega) | (conv => whnf)) | (refine OpP.add (by omega) ?_; conv => whnf) | (refine OpP.sub (by omega) ?_; conv => whnf) | (refine LenP.go ?_; conv => whnf) | (refine AKM.x ?_; conv => whnf)))
 refine MkR.go (enc := e32) 0 (u.length - y.length) (by rfl) (by omega) (by omega) ?_
 (conv => whnf)
 (repeat' (refine OpP.sub (by omega) ?_; conv => whnf))
 have hV0 : 0 < val y := by
  have := pow_pos' (y.length - 1)
  omega
 have hVlt := val_lt hVD
 generalize hm : u.length - y.length = m at *
 have hi0 : val (u.drop m) < val y := by
  have h1 : (u.drop m).length = y.length := by simp; omega
  have h2 := val_top0 (l := u.drop m) (hUD.drop _) (by rw [h1, List.getElem?_drop, show m + (y.length - 1) = u.length - 1 by omega]; exact hU0)
  rw [h1] at h2
  omega
 rw [show (u.length : Int) - y.length - 1 = ((m : Nat) : Int) - 1 by omega]
 refine AKM.loop3 (fun n _ _ => n) (fun (n : Nat) (o w : List Nat) => n ≤ m ∧ o.length = u.length ∧ Dig o ∧ w.length = m ∧ Dig w ∧ val (o.drop n) < val y ∧ X * 2 ^ s = val (o.take n) + 4294967296 ^ n * (val (w.drop n) * val y + val (o.drop n))) (fun n o w => [(14, .int .i64 ((n : Int) - 1))]) (fun n o w => [(69, 101021, .rw 1 (o.map e32)), (85, 85, .rw 1 (w.map e32))]) [] [] m u (List.replicate m 0) (by (conv => whnf); exact ⟨rfl, rfl, rfl⟩) ⟨by omega, rfl, hUD, by simp, dig_zeros _, hi0, by rw [← hUu, List.drop_of_length_le (show (List.replicate m 0).length ≤ m by simp), val_nil, Nat.zero_mul, Nat.zero_add]; exact val_split u m (by omega)⟩ ?_
 intro n o w ⟨p1, p2, p3, p4, p5, p6, p7⟩ ih
 rcases n with _ | j
 ·clear ih
  rw [List.drop_zero] at p6
  rw [List.take_zero, List.drop_zero, List.drop_zero, val_nil, Nat.zero_add, Nat.pow_zero, Nat.one_mul] at p7
  have hdr : val o = val (o.take y.length) := by
   have h1 := val_splitD o y.length
   rcases Nat.eq_zero_or_pos (val (o.drop y.length)) with h2 | h2
   ·rw [h2, Nat.mul_zero, Nat.add_zero] at h1; exact h1
   ·have h3 : 4294967296 ^ y.length * 1 ≤ 4294967296 ^ y.length * val (o.drop y.length) := Nat.mul_le_mul_left _ h2
    omega
  have hX0 : X / Y = val w ∧ X % Y = val o / 2 ^ s := by
   obtain ⟨z1, z2⟩ := div_scale (X := X) (Y := Y) (Nat.two_pow_pos s)
   rw [← z1, ← z2, ← hVv, p7]
   have e1 : (val w * val y + val o) / val y = val w := by
    rw [Nat.mul_comm, Nat.mul_add_div hV0, Nat.div_eq_of_lt p6, Nat.add_zero]
   have e2 : (val w * val y + val o) % val y = val o := by
    rw [Nat.mul_comm, Nat.mul_add_mod, Nat.mod_eq_of_lt p6]
   rw [e1, e2]
   exact ⟨rfl, rfl⟩
  rw [hX0.1, hX0.2, hdr]
  have hT := fun q => ev_r1_Trim N w q p5 (by omega)
  have htl : (o.take y.length).length ≤ 549755813888 := by rw [List.length_take]; omega
  clear p7 hX0 hi0
  rw [← p4]
  rcases Nat.eq_zero_or_pos s with h0 | h0
  ·subst h0
   have hS := fun q => ev_r1_Shl N (o.take y.length) q 0 (p3.take _) htl (by omega)
   rw [Nat.pow_zero, Nat.mul_one] at hS
   rw [Nat.pow_zero, Nat.div_one]
   (repeat' (first | (refine CmpP.go (fun hc => ?_) (fun hc => ?_) <;> first | (exfalso; omega) | (conv => whnf)) | (refine SnR.all (fun _ => rfl) rfl (by first | rfl | simp) ?_; conv => whnf) | (refine AKM.x ?_; conv => whnf) | (refine CallP.go (hT _) ?_; conv => whnf)))
   refine Bds.up y.length rfl (by omega) ?_
   (conv => whnf)
   refine UnP.neg (by omega) ?_
   (conv => whnf)
   refine SnR.part (enc := e32) (fun _ => rfl) (by omega) ?_
   (conv => whnf)
   rw [List.drop_zero, Nat.sub_zero, show -((0 : Nat) : Int) = ((0 : Nat) : Int) by omega]
   (repeat' (refine CallP.go (hS _) ?_; conv => whnf))
   exact FinP.go rfl (cl_pair3 _ _ _)
  ·have hS := fun q => ev_r1_Shr N (o.take y.length) q s (p3.take _) htl (by omega)
   (repeat' (first | (refine CmpP.go (fun hc => ?_) (fun hc => ?_) <;> first | (exfalso; omega) | (conv => whnf)) | (refine SnR.all (fun _ => rfl) rfl (by first | rfl | simp) ?_; conv => whnf) | (refine AKM.x ?_; conv => whnf) | (refine CallP.go (hT _) ?_; conv => whnf)))
   refine Bds.up y.length rfl (by omega) ?_
   (conv => whnf)
   refine UnP.neg (by omega) ?_
   (conv => whnf)
   refine SnR.part (enc := e32) (fun _ => rfl) (by omega) ?_
   (conv => whnf)
   rw [List.drop_zero, Nat.sub_zero]
   (repeat' (refine CallP.go (hS _) ?_; conv => whnf))
   exact FinP.go rfl (cl_pair3 _ _ _)
 ·have e3 : ((j + 1 : Nat) : Int) - 1 = j := by omega
  rw [e3]
  obtain ⟨A, W, C, hA, hW, rfl⟩ := dv_cut o j (y.length + 1) (by omega)
  obtain ⟨g1, g2, g3⟩ := dv_pre hA hW p3 p6 hVlt
  obtain ⟨D1, D2, D3⟩ := dig_win p3
  have hqb : val W / val y < 4294967296 := (Nat.div_lt_iff_lt_mul hV0).2 g2
  have hWV : val W = val W / val y * val y + val W % val y := by rw [Nat.mul_comm]; exact (Nat.div_add_mod _ _).symm
  have hWl : val W % val y < val y := Nat.mod_lt _ hV0
  have hTot : X * 2 ^ s = val A + 4294967296 ^ j * val W + 4294967296 ^ j * 4294967296 * (val (w.drop (j + 1)) * val y) := by
   rw [p7, Nat.mul_add, ← g3, Nat.pow_succ]; omega
  have hTot2 := dv_next hTot hWV
  have hset : ∀ q', q' = val W / val y → val ((w.set j q').drop j) = val W / val y + 4294967296 * val (w.drop (j + 1)) := fun q' h => by
   rw [val_getD_drop (l := w.set j q') (d := q') (by rw [List.getElem?_set_self (by omega)]), List.drop_set_of_lt (by omega), h]
  have hlen : ∀ W' : List Nat, W'.length = y.length + 1 → (A ++ W' ++ C).length = u.length := fun W' h => by
   rw [← p2]; simp [h, hW]
  have hl3 : u.length = j + (y.length + 1) + C.length := by rw [← p2]; simp [hA, hW]; omega
  refine AKM.back [] (by (conv => whnf); exact ⟨rfl, rfl, rfl⟩) (dm_iter (m := m) (s := s) (ul := u.length) (C := C) hA hW D2 hVD hvl.1 (by omega) hV0 (by omega) n2 g2 hl3 p4 (by omega) (fun W' q' z1 z2 z3 z4 => ?_))
  obtain ⟨t1, t2⟩ := dv_post (A := A) (W := W') (C := C) (j := j) hA g1
  refine AKM.back [] (by (conv => whnf); exact ⟨rfl, rfl, rfl⟩) (ih j (A ++ W' ++ C) (w.set j q') (by omega) ⟨by omega, hlen W' z1, (D1.append z2).append D3, by simpa using p4, p5.set _ (by omega), by omega, ?_⟩)
  rw [t1, t2, hset q' z4, z3]
  exact hTot2
end Go.Eng

namespace Go.Eng
open F
attribute [local irreducible] AKM CmpP Req OpP UnP ConvP RdP LdR StR MkR LenP AppR AppN CpyR RowP SnR Bds SlS CallP CalP FinP pw LdM GetM SetM PutM MkM AppM SnM FlP CallR
set_option maxHeartbeats 8000000
variable {L : Lib}
theorem ev_r1_DivMod (N : RefGLib L) (a b : List Nat) (q1 q2 : Bool) (hA : Dig a) (hB : Dig b) (la : a.length ≤ 274877906944) (lb : b.length ≤ 274877906944) (h0 : val b ≠ 0) :
  Ev L 109 [.sl q1 (a.map e32), .sl q2 (b.map e32)] (.tup [.sl false ((dg (val a / val b)).map e32), .sl false ((dg (val a % val b)).map e32), .int .i64 0]) := by
 have t1 := fun q => ev_r1_Trim N a q hA (by omega)
 have t2 := fun q => ev_r1_Trim N b q hB (by omega)
 have l1 := dg_len_val hA
 have l2 := dg_len_val hB
 have hcmp := fun q q' => ev_r1_Compare N (dg (val a)) (dg (val b)) q q' (dig_dg _) (dig_dg _) (by omega) (by omega)
 rw [val_dg, val_dg] at hcmp
 generalize val a = X at *
 generalize val b = Y at *
 have d1 := dig_dg X
 have d2 := dig_dg Y
 have v1 := val_dg X
 have v2 := val_dg Y
 have hy1 := dg_len_pos h0
 refine Ev.x N.ref01_DivMod rfl rfl ?_
 by_cases h1 : (dg Y).length = 1
 ·obtain ⟨y0, hy0⟩ : ∃ y0, dg Y = [y0] := List.length_eq_one_iff.1 h1
  have hyv : Y = y0 := by rw [← v2, hy0]; simp [val]
  subst hyv
  have hyb : Y < 4294967296 := d2 Y (by rw [hy0]; simp)
  have hyg : (dg Y)[(0 : Int).toNat]? = some Y := by rw [hy0]; rfl
  have hsm := fun q => ev_r1_small N (dg X) Y q d1 (by omega) h0 hyb
  rw [v1] at hsm
  have hrb : X % Y < 4294967296 := Nat.lt_trans (Nat.mod_lt _ (by omega)) hyb
  have hT3 := fun q => ev_r1_Trim N [X % Y] q (dig_one hrb) (by simp)
  rw [show val [X % Y] = X % Y by simp [val]] at hT3
  clear hy0 v2
  generalize dg Y = y at *
  (repeat' (first | (refine CmpP.go (fun hc => ?_) (fun hc => ?_) <;> first | (exfalso; omega) | (conv => whnf)) | (refine LenP.go ?_; conv => whnf) | (refine RdP.at (by assumption) (by omega) rfl ?_; conv => whnf) | (refine SnR.e1 rfl ?_; conv => whnf) | (refine AKM.x ?_; conv => whnf) | (refine CallP.go (t1 _) ?_; conv => whnf) | (refine CallP.go (t2 _) ?_; conv => whnf) | (refine CallP.go (hsm _) ?_; conv => whnf) | (refine CallP.go (hT3 _) ?_; conv => whnf)))
  exact FinP.go rfl (cl_pair3 _ _ _)
 by_cases hlt : X < Y
 ·rw [← cmpS_lt (by omega)] at hcmp
  (repeat' (first | (refine CmpP.go (fun hc => ?_) (fun hc => ?_) <;> first | (exfalso; omega) | (conv => whnf)) | (refine LenP.go ?_; conv => whnf) | (refine AKM.x ?_; conv => whnf) | (refine CallP.go (t1 _) ?_; conv => whnf) | (refine CallP.go (t2 _) ?_; conv => whnf) | (refine CallP.go (hcmp _ _) ?_; conv => whnf)))
  refine FinP.go ?_ (cl_pair3 _ _ _)
  rw [Nat.div_eq_of_lt hlt, Nat.mod_eq_of_lt hlt, dg_zero]; rfl
 have hge := cmpS_ge (show Y ≤ X by omega)
 generalize cmpS X Y = cm at *
 have hn2 : 2 ≤ (dg Y).length := by omega
 obtain ⟨yt, hyt, hyt0⟩ := dg_top h0
 have hytb := d2.at hyt
 obtain ⟨b1, b2, b3, b4⟩ := lz_top hyt0 hytb
 have hbl := fun q => ev_r1_BitLen N yt q hyt0 hytb
 generalize hs : 32 - blen yt = s at *
 have hs31 : s ≤ 31 := by omega
 have hsv := fun q => ev_r1_Shl N (dg Y) q s d2 (by omega) (by omega)
 obtain ⟨n1, n2⟩ := lift_norm d2 hyt (by omega) hs31 b3 b4
 rw [v2] at hsv n1 n2
 have hdr : (dg Y).drop ((dg Y).length - 1) = [yt] := by
  obtain ⟨hi, he⟩ := List.getElem?_eq_some_iff.1 hyt
  rw [List.drop_eq_getElem_cons hi, he, List.drop_of_length_le (by omega)]
 have hvl : (dg (Y * 2 ^ s)).length = (dg Y).length := by
  have a1 := dg_len_le.2 n1
  have a2 : ¬ (dg (Y * 2 ^ s)).length ≤ (dg Y).length - 1 := fun h => by
   have := dg_len_le.1 h
   omega
  omega
 have hXl2 : (dg (X * 2 ^ s)).length ≤ (dg X).length + 1 := by
  refine dg_len_le.2 ?_
  have a1 : X < 4294967296 ^ (dg X).length := dg_len_le.1 (Nat.le_refl _)
  rw [Nat.pow_succ]
  have a2 := pow_s_le (s := s) (by omega)
  exact Nat.lt_of_lt_of_le (Nat.mul_lt_mul_of_pos_right a1 (Nat.two_pow_pos s)) (Nat.mul_le_mul_left _ a2)
 have hXl : (dg X).length ≤ (dg (X * 2 ^ s)).length := dg_len_mono (Nat.le_mul_of_pos_right _ (Nat.two_pow_pos s))
 have hll := dg_len_mono (show Y ≤ X by omega)
 generalize hx : dg X = x at *
 generalize hy : dg Y = y at *
 have t3 := fun q => ev_r1_Trim N x q d1 (by omega)
 rw [v1, hx] at t3
 (repeat' (first | (refine CmpP.go (fun hc => ?_) (fun hc => ?_) <;> first | (exfalso; omega) | (conv => whnf)) | (refine OpP.sub (by omega) ?_; conv => whnf) | (refine LenP.go ?_; conv => whnf) | (refine AKM.x ?_; conv => whnf) | (refine CallP.go (t1 _) ?_; conv => whnf) | (refine CallP.go (t2 _) ?_; conv => whnf) | (refine CallP.go (hcmp _ _) ?_; conv => whnf)))
 rw [show (y.length : Int) - 1 = ((y.length - 1 : Nat) : Int) by omega]
 refine SlS.off (k := y.length - 1) (fun _ => rfl) (by omega) ?_
 (conv => whnf)
 rw [hdr]
 (repeat' (first | (refine OpP.sub (by omega) ?_; conv => whnf) | (refine CallP.go (hbl _) ?_; conv => whnf)))
 rw [show (32 : Int) - (blen yt : Nat) = ((s : Nat) : Int) by omega]
 refine CalP.walk 1000 N.ref01_Shift rfl rfl ?_
 have hsq : (s : Int) / 32 = ((0 : Nat) : Int) := by omega
 have hsr : (s : Int) % 32 = ((s : Nat) : Int) := by omega
 (repeat' (first | (refine CmpP.go (fun hc => ?_) (fun hc => ?_) <;> first | (exfalso; omega) | (conv => whnf)) | (refine OpP.quo (by omega) (by omega) (fun _ => ?_) (fun _ _ => ?_) <;> first | (exfalso; omega) | (conv => whnf)) | (refine LenP.go ?_; conv => whnf) | (refine AKM.x ?_; conv => whnf) | (refine CallP.go (t3 _) ?_; conv => whnf)))
 rw [hsq]
 refine MkR.go (enc := e32) 0 0 rfl rfl (by omega) ?_
 (conv => whnf)
 skip
 refine AKM.loop3 (fun i _ _ => x.length - i) (fun (i : Nat) (o : List Nat) (c : Nat) => i ≤ x.length ∧ o.length = i ∧ Dig o ∧ c < 2 ^ s ∧ val o + 4294967296 ^ i * c = val (x.take i) * 2 ^ s) (fun i o c => [(10, .int .i64 i), (9, .int .u64 (c : Int)), (8, .row 107069 0 1 0 i)]) (fun i o c => [(107069, 107069, .rw 1 (o.map e32))]) [] [] 0 [] 0 (by (conv => whnf); exact ⟨rfl, rfl, rfl⟩) ⟨by omega, rfl, dig_nil, Nat.two_pow_pos _, by simp [val]⟩ ?_
 intro i o c ⟨p1, p2, p3, p4, p5⟩ ih
 have hps := pow_s_le (s := s) (by omega)
 by_cases hi : i < x.length
 ·obtain ⟨d, hd⟩ : ∃ d, x[i]? = some d := ⟨_, List.getElem?_eq_getElem hi⟩
  have hdb := d1.at hd
  obtain ⟨f1, f2, f3, f4⟩ := sh_facts (s := s) hdb (by omega)
  have hr := mul_room (show s ≤ 64 by omega) f4
  (repeat' (first | (refine CmpP.go (fun hc => ?_) (fun hc => ?_) <;> first | (exfalso; omega) | (conv => whnf)) | (refine OpP.rem (by omega) (fun _ _ _ => ?_) (fun _ _ _ _ => ?_) <;> first | (exfalso; omega) | (conv => whnf)) | (refine ConvP.u64 (by omega) ?_; conv => whnf) | (refine LenP.go ?_; conv => whnf) | (refine RdP.at (by assumption) (by omega) rfl ?_; conv => whnf) | (refine AKM.x ?_; conv => whnf)))
  rw [hsr]
  refine OpP.sh8 (by omega) f4 ?_
  (conv => whnf)
  skip
  refine OpP.nor8r s (Nat.mul_mod_left _ _) p4 (by omega) ?_
  (conv => whnf)
  have hst := up_step (d := d) (P := 1) (V := val o) (p := 4294967296 ^ i) (lo := c) (X := val (x.take i)) (s := s) (by rw [Nat.one_mul, Nat.one_mul]; exact p5) rfl
  have hc2 : (c + d * 2 ^ s) / 4294967296 < 2 ^ s := by
   rw [Nat.div_lt_iff_lt_mul (by omega)]
   have := Nat.mul_le_mul_right (2 ^ s) (show d ≤ 4294967295 by omega)
   omega
  generalize c + d * 2 ^ s = t at *
  (repeat' (first | (refine ConvP.n32 ?_; conv => whnf) | (refine RowP.e1 ?_; conv => whnf)))
  refine AppR.one (enc := e32) (t % 4294967296) rfl p2.symm rfl (by omega) (by omega) ?_
  (conv => whnf)
  (repeat' (first | (refine OpP.add (by omega) ?_; conv => whnf) | (refine OpP.nshr32 ?_; conv => whnf)))
  rw [show (o ++ [t % 4294967296]).length = i + 1 by simp [p2]]
  refine AKM.back [(107069, 107091)] (by (conv => whnf); exact ⟨rfl, rfl, rfl⟩) (ih (i + 1) (o ++ [t % 4294967296]) (t / 4294967296) (by omega) ⟨by omega, by simp; omega, p3.append (dig_one (by omega)), hc2, ?_⟩)
  rw [val_snoc, p2, val_take_succ hd, Nat.pow_succ]
  rw [Nat.one_mul, Nat.one_mul] at hst
  exact hst
 obtain rfl : i = x.length := by omega
 clear ih
 have hcb : c < 4294967296 := by omega
 have hOD : Dig (o ++ [c]) := p3.append (dig_one hcb)
 have hOv : val (o ++ [c]) = X * 2 ^ s := by
  rw [val_snoc, p2, p5, val_take_all (Nat.le_refl _), v1]
 have hOl : (o ++ [c]).length = x.length + 1 := by simp [p2]
 (repeat' (first | (refine CmpP.go (fun hc => ?_) (fun hc => ?_) <;> first | (exfalso; omega) | (conv => whnf)) | (refine ConvP.n32i (by omega) ?_; conv => whnf) | (refine LenP.go ?_; conv => whnf) | (refine RowP.e1 ?_; conv => whnf) | (refine AKM.x ?_; conv => whnf)))
 refine AppR.one (enc := e32) c rfl p2.symm rfl (by omega) (by omega) ?_
 (conv => whnf)
 rw [hOl]
 generalize o ++ [c] = O at *
 rw [← hOl]
 clear p3 p4 p5
 refine CalP.walk 1000 N.ref01_Trim rfl rfl ?_
 (repeat' (refine AKM.x ?_; conv => whnf))
 refine AKM.loop1 (fun n => n) (fun (n : Nat) => n ≤ (O).length ∧ ∀ i, n ≤ i → i < (O).length → (O)[i]? = some 0) (fun n => [(3, .int .i64 n)]) (fun _ => []) [] [] (O).length (by (conv => whnf); exact ⟨rfl, rfl, rfl⟩) ⟨Nat.le_refl _, fun i h1 h2 => by omega⟩ ?_
 intro n ⟨p1, p2⟩ ih
 rcases n with _ | n
 ·(repeat' (first | (refine CmpP.go (fun hc => ?_) (fun hc => ?_) <;> first | (exfalso; omega) | (conv => whnf)) | (refine AKM.x ?_; conv => whnf)))
  refine Bds.up 0 (by omega) (by omega) ?_
  (conv => whnf)
  have hct := cut_found (l := O) (by assumption) p1 p2 (Or.inl rfl)
  have hcl : (List.take 0 O).length ≤ (O).length := by rw [List.length_take]; omega
  clear ih p2
  refine RowP.part (enc := e32) (by omega) ?_
  (conv => whnf)
  rw [List.drop_zero, Nat.sub_zero]
  generalize hT0 : List.take 0 O = T0 at *
  refine AppN.many (enc := e32) (fun _ => rfl) (by omega) (by omega) ?_
  (conv => whnf)
  refine ⟨rfl, _, rfl, ?_⟩
  (conv => whnf)
  (refine ⟨rfl, _, rfl, ?_⟩; (conv => whnf); (repeat' (first | (refine RowP.e1 ?_; conv => whnf) | (refine CallP.go (hsv _) ?_; conv => whnf))); refine AppR.one (enc := e32) 0 rfl rfl rfl (by omega) (by omega) ?_; (conv => whnf); rw [hOv] at hct; rw [hct]; exact AKM.back [] (by (conv => whnf); exact ⟨rfl, rfl, rfl⟩) (dm_main N (x := x) (X := X) (Y := Y) (s := s) (u := dg (X * 2 ^ s) ++ [0]) (y := dg (Y * 2 ^ s)) h0 hs31 ((dig_dg _).append (dig_one (by omega))) (by rw [val_snoc, val_dg, Nat.mul_zero, Nat.add_zero]) (by simp) (by simp; omega) (dig_dg _) (val_dg _) (by omega) (by rw [val_dg, hvl]; exact n2)))
 ·have e1 : ((n + 1 : Nat) : Int) - 1 = n := by omega
  (repeat' (first | (refine CmpP.go (fun hc => ?_) (fun hc => ?_) <;> first | (exfalso; omega) | (conv => whnf)) | (refine Req.go (by omega) ?_; conv => whnf) | (refine OpP.sub (by omega) ?_; conv => whnf) | (refine LdR.digi (by assumption) (by omega) (fun v hv hb => ?_); conv => whnf) | (refine AKM.x ?_; conv => whnf)))
  ·rw [e1]
   exact AKM.back [] (by (conv => whnf); exact ⟨rfl, rfl, rfl⟩) (ih n (by omega) ⟨by omega, fun i h1 h2 => by
    by_cases h : i = n
    ·subst h
     rw [e1, Int.toNat_natCast] at hv
     rw [hv]; congr 1; omega
    ·exact p2 i (by omega) h2⟩)
  ·refine Bds.up (n + 1) (by omega) (by omega) ?_
   (conv => whnf)
   rw [e1, Int.toNat_natCast] at hv
   have hct := cut_found (l := O) (by assumption) p1 p2 (Or.inr ⟨_, hv, by omega⟩)
   have hcl : (List.take (n + 1) O).length ≤ (O).length := by rw [List.length_take]; omega
   clear ih p2 hv
   (rw [apX_rw (l := O)]; rotate_left; exact rfl; exact rfl); (conv => whnf)
   refine RowP.part (enc := e32) (by omega) ?_
   (conv => whnf)
   rw [List.drop_zero, Nat.sub_zero]
   generalize hT0 : List.take (n + 1) O = T0 at *
   refine AppN.many (enc := e32) (fun _ => rfl) (by omega) (by omega) ?_
   (conv => whnf)
   refine ⟨rfl, _, rfl, ?_⟩
   (conv => whnf)
   (refine ⟨rfl, _, rfl, ?_⟩; (conv => whnf); (repeat' (first | (refine RowP.e1 ?_; conv => whnf) | (refine CallP.go (hsv _) ?_; conv => whnf))); refine AppR.one (enc := e32) 0 rfl rfl rfl (by omega) (by omega) ?_; (conv => whnf); rw [hOv] at hct; rw [hct]; exact AKM.back [] (by (conv => whnf); exact ⟨rfl, rfl, rfl⟩) (dm_main N (x := x) (X := X) (Y := Y) (s := s) (u := dg (X * 2 ^ s) ++ [0]) (y := dg (Y * 2 ^ s)) h0 hs31 ((dig_dg _).append (dig_one (by omega))) (by rw [val_snoc, val_dg, Nat.mul_zero, Nat.add_zero]) (by simp) (by simp; omega) (dig_dg _) (val_dg _) (by omega) (by rw [val_dg, hvl]; exact n2)))
theorem ev_r1_Gcd (N : RefGLib L) (a b : List Nat) (q1 q2 : Bool) (hA : Dig a) (hB : Dig b) (la : a.length ≤ 274877906944) (lb : b.length ≤ 274877906944) :
  Ev L 110 [.sl q1 (a.map e32), .sl q2 (b.map e32)] (.sl false ((dg (Nat.gcd (val a) (val b))).map e32)) := by
 have t1 := fun q => ev_r1_Trim N a q hA (by omega)
 have t2 := fun q => ev_r1_Trim N b q hB (by omega)
 have l1 := dg_len_val hA
 have l2 := dg_len_val hB
 generalize val a = X at *
 generalize val b = Y at *
 refine Ev.x N.ref01_Gcd rfl rfl ?_
 (repeat' (first | (refine AKM.x ?_; conv => whnf) | (refine CallP.go (t1 _) ?_; conv => whnf) | (refine CallP.go (t2 _) ?_; conv => whnf)))
 refine AKM.loop2 (fun _ y => y) (fun (x y : Nat) => (dg x).length ≤ 274877906944 ∧ (dg y).length ≤ 274877906944 ∧ Nat.gcd x y = Nat.gcd X Y) (fun x y => [(0, .sl false ((dg x).map e32)), (1, .sl false ((dg y).map e32))]) (fun _ _ => []) [] [] X Y (by (conv => whnf); exact ⟨rfl, rfl, rfl⟩) ⟨by omega, by omega, rfl⟩ ?_
 intro x y ⟨p1, p2, p3⟩ ih
 rw [← p3]
 by_cases h0 : y = 0
 ·subst h0
  have hl0 : (dg 0).length = 0 := by rw [dg_zero]; rfl
  clear ih
  rw [Nat.gcd_zero_right]
  (repeat' (first | (refine CmpP.go (fun hc => ?_) (fun hc => ?_) <;> first | (exfalso; omega) | (conv => whnf)) | (refine LenP.go ?_; conv => whnf) | (refine AKM.x ?_; conv => whnf)))
  exact FinP.go rfl (cl_sl _)
 ·have hp := dg_len_pos h0
  have hD := fun q q' => ev_r1_DivMod N (dg x) (dg y) q q' (dig_dg _) (dig_dg _) p1 p2 (by rw [val_dg]; exact h0)
  rw [val_dg, val_dg] at hD
  have hlt : x % y < y := Nat.mod_lt _ (by omega)
  have hml := dg_len_mono (Nat.le_of_lt hlt)
  (repeat' (first | (refine CmpP.go (fun hc => ?_) (fun hc => ?_) <;> first | (exfalso; omega) | (conv => whnf)) | (refine LenP.go ?_; conv => whnf) | (refine AKM.x ?_; conv => whnf) | (refine CallP.go (hD _ _) ?_; conv => whnf)))
  rw [p3]
  exact AKM.back [] (by (conv => whnf); exact ⟨rfl, rfl, rfl⟩) (ih y (x % y) hlt ⟨p2, by omega, by rw [gcd_mod_step]; exact p3⟩)
end Go.Eng
