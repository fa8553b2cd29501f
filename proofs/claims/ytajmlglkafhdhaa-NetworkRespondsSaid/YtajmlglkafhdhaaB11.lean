/-
  The references of rational numbers (ref03).
-/
import Derived.Test.YtajmlglkafhdhaaB10
import Derived.Test.YtajmlglkafhdhaaB9
import Derived.Test.YtajmlglkafhdhaaB4
import Derived.Test.YtajmlglkafhdhaaB7
import Derived.Test.YtajmlglkafhdhaaB3
import Derived.Test.YtajmlglkafhdhaaB5
import Derived.ProofKit
import Derived.OpenShut
import Derived.ChangeOld
import Derived.WalkKit
import Derived.WideShapes
import Derived.ChangeArms
set_option linter.unusedSimpArgs false
set_option linter.unusedVariables false
set_option linter.unnecessarySimpa false
namespace Go.Eng
open F
attribute [local irreducible] AKM CmpP Req OpP UnP ConvP RdP LdR StR MkR LenP AppR AppN CpyR RowP SnR Bds SlS CallP CalP FinP pw LdM GetM SetM PutM MkM AppM SnM FlP
set_option maxHeartbeats 4000000
variable {L : Lib}
theorem dg_one' : dg 1 = [1] := by rw [dg_pos (by omega)]; simp [dg_zero]
theorem agg_zeroQ : AV.agg [.bool false, .sl false [], .sl false [[.int .u32 1]]] = .agg (eQ 0) := by
  show _ = AV.agg (rQ _ _ _ _ _)
  rw [Rat.zero_num, Rat.zero_den, dg_one', show (0 : Int).natAbs = 0 from rfl, dg_zero]; rfl
theorem divInt_parts {x y : Int} (hy : y ≠ 0) : (Rat.divInt x y).num = (if y < 0 then -(x / ((Nat.gcd x.natAbs y.natAbs : Nat) : Int)) else x / ((Nat.gcd x.natAbs y.natAbs : Nat) : Int)) ∧ (Rat.divInt x y).den = (y / ((Nat.gcd x.natAbs y.natAbs : Nat) : Int)).natAbs := by
  have h1 := Rat.num_divInt x y
  have h2 := Rat.den_divInt x y
  rw [if_neg hy] at h2
  have hg : Int.gcd y x = Nat.gcd x.natAbs y.natAbs := by rw [Int.gcd, Nat.gcd_comm]
  rw [hg] at h1 h2
  have hgp : 0 < Nat.gcd x.natAbs y.natAbs := Nat.gcd_pos_of_pos_right _ (by omega)
  have dx : ((Nat.gcd x.natAbs y.natAbs : Nat) : Int) ∣ x := Int.ofNat_dvd_left.2 (Nat.gcd_dvd_left _ _)
  have dy : ((Nat.gcd x.natAbs y.natAbs : Nat) : Int) ∣ y := Int.ofNat_dvd_left.2 (Nat.gcd_dvd_right _ _)
  generalize Nat.gcd x.natAbs y.natAbs = g at *
  rw [h1, h2]
  obtain ⟨u, rfl⟩ := dx
  obtain ⟨v, rfl⟩ := dy
  have hg0 : (g : Int) ≠ 0 := by omega
  refine ⟨?_, ?_⟩
  · rw [Int.mul_ediv_cancel_left _ hg0]
    split
    · rename_i h
      rw [Int.sign_eq_neg_one_of_neg h, show -1 * ((g : Int) * u) = g * (-u) by rw [Int.mul_neg]; omega, Int.mul_ediv_cancel_left _ hg0]
    · rw [Int.sign_eq_one_of_pos (by omega), Int.one_mul, Int.mul_ediv_cancel_left _ hg0]
  · rw [Int.mul_ediv_cancel_left _ hg0, Int.natAbs_mul, Int.natAbs_natCast, Nat.mul_div_cancel_left _ hgp]
theorem ev_reduce (N : RefGLib L) (n1 n2 q1 q2 : Bool) (a b : List Nat) (ha : Sm 274877906943 a) (hb : Sm 274877906943 b) : Ev L 121 [.agg (rZ q1 n1 a), .agg (rZ q2 n2 b)] (.agg (eQ (Rat.divInt (zv n1 a) (zv n2 b)))) := by
  have t1 := fun q => ev_r2_Sign N n1 q a (ha.le (by omega))
  have t2 := fun q => ev_r2_Sign N n2 q b (hb.le (by omega))
  by_cases h1 : zv n1 a = 0
  · rw [h1, Rat.zero_divInt, ← agg_zeroQ]
    rw [h1, ← sgn_zero rfl] at t1
    refine Ev.x N.ref03_reduce rfl rfl ?_
    (repeat' (first | (refine CmpP.go (fun hc => ?_) (fun hc => ?_) <;> first | (exfalso; omega) | (conv => whnf)) | (refine SnR.e1 rfl ?_; conv => whnf) | (refine AKM.x ?_; conv => whnf) | (refine CallP.go (t1 _) ?_; conv => whnf)))
    exact FinP.go rfl (cl_agg3 false [] [1])
  have s1 : sgn (zv n1 a) ≠ 0 := by unfold sgn; split <;> (try split) <;> omega
  by_cases h2 : zv n2 b = 0
  · rw [h2, Rat.divInt_zero, ← agg_zeroQ]
    rw [h2, ← sgn_zero rfl] at t2
    generalize sgn (zv n1 a) = sg at *
    refine Ev.x N.ref03_reduce rfl rfl ?_
    (repeat' (first | (refine CmpP.go (fun hc => ?_) (fun hc => ?_) <;> first | (exfalso; omega) | (conv => whnf)) | (refine SnR.e1 rfl ?_; conv => whnf) | (refine AKM.x ?_; conv => whnf) | (refine CallP.go (t1 _) ?_; conv => whnf) | (refine CallP.go (t2 _) ?_; conv => whnf)))
    exact FinP.go rfl (cl_agg3 false [] [1])
  have s2 : sgn (zv n2 b) ≠ 0 := by unfold sgn; split <;> (try split) <;> omega
  obtain ⟨p1, p2⟩ := divInt_parts (x := zv n1 a) h2
  have hG := fun q q' => ev_r2_Gcd N n1 n2 q q' a b (ha.le (by omega)) (hb.le (by omega))
  have hle : Nat.gcd (val a) (val b) ≤ val b := Nat.gcd_le_right _ (by have := zv_abs n2 b; omega)
  have hgp : 0 < Nat.gcd (val a) (val b) := Nat.gcd_pos_of_pos_right _ (by have := zv_abs n2 b; omega)
  have sg : Sm 274877906943 (dg (Nat.gcd (val a) (val b))) := hb.low hle
  rw [zv_abs, zv_abs] at p1 p2
  have hgf : decide (((Nat.gcd (val a) (val b) : Nat) : Int) < 0) = false := by simp
  have sg' : Sm 274877906943 (dg (((Nat.gcd (val a) (val b) : Nat) : Int)).natAbs) := by rw [Int.natAbs_natCast]; exact sg
  have zg : zv (decide (((Nat.gcd (val a) (val b) : Nat) : Int) < 0)) (dg (((Nat.gcd (val a) (val b) : Nat) : Int)).natAbs) = ((Nat.gcd (val a) (val b) : Nat) : Int) := zv_of _
  have hD1 := fun q q' => ev_r2_Div N n1 _ q q' a _ ha sg' (by rw [zg]; omega)
  have hD2 := fun q q' => ev_r2_Div N n2 _ q q' b _ hb sg' (by rw [zg]; omega)
  rw [zg] at hD1 hD2
  have hnb : Sm 274877906943 (dg (zv n1 a / ((Nat.gcd (val a) (val b) : Nat) : Int)).natAbs) := ha.low (by
    have : (zv n1 a / ((Nat.gcd (val a) (val b) : Nat) : Int)).natAbs ≤ (zv n1 a).natAbs := Int.natAbs_ediv_le_natAbs _ _
    rw [zv_abs] at this; exact this)
  have hg0 : 0 < ((Nat.gcd (val a) (val b) : Nat) : Int) := by omega
  generalize ((Nat.gcd (val a) (val b) : Nat) : Int) = g at *
  generalize zv n1 a = x at *
  generalize zv n2 b = y at *
  generalize sgn x = sx at *
  generalize sgn y = sy at *
  have hN := fun q => ev_r2_Neg N (decide (x / g < 0)) q (dg (x / g).natAbs) (hnb.le (by omega))
  rw [zv_of] at hN
  have hyd : decide (y / g < 0) = decide (y < 0) := by
    congr 1
    rw [eq_iff_iff, Int.ediv_lt_iff_lt_mul (by omega), Int.zero_mul]
  refine Ev.x N.ref03_reduce rfl rfl ?_
  (repeat' (first | (refine CmpP.go (fun hc => ?_) (fun hc => ?_) <;> first | (exfalso; omega) | (conv => whnf)) | (refine AKM.x ?_; conv => whnf) | (refine CallP.go (t1 _) ?_; conv => whnf) | (refine CallP.go (t2 _) ?_; conv => whnf) | (refine CallP.go (hG _ _) ?_; conv => whnf) | (refine CallP.go (hD1 _ _) ?_; conv => whnf) | (refine CallP.go (hD2 _ _) ?_; conv => whnf)))
  cases hyn : decide (y / g < 0)
  · rw [hyn] at hyd
    rw [if_neg (of_decide_eq_false hyd.symm)] at p1
    (conv => whnf)
    skip
    refine FinP.go ?_ (cl_eQ _)
    show _ = AV.agg (rQ _ _ _ _ _)
    rw [p1, p2]
  · rw [hyn] at hyd
    rw [if_pos (of_decide_eq_true hyd.symm)] at p1
    (conv => whnf)
    (repeat' (refine CallP.go (hN _) ?_; conv => whnf))
    refine FinP.go ?_ (cl_eQ _)
    show _ = AV.agg (rQ _ _ _ _ _)
    rw [p1, p2]
theorem divInt_val {z : Int} {d : List Nat} : Rat.divInt z (zv false d) = mkRat z (val d) := by rw [zv_F, Rat.divInt_ofNat]
/-- the parts of a raw number -/
def PtIs (n : Bool) (m d : List Nat) (n' : Bool) (m' d' : List Nat) (k : Nat) : Prop := Sm k m' ∧ Sm k d' ∧ val d' ≠ 0 ∧ qv n m d = mkRat (zv n' m') (val d')
theorem cl_parts3 (n : Bool) (m d : List Nat) : Clean (.tup [.agg (rZ false n m), .agg (rZ false false d)]) := by
  simp only [Clean, CleanL, and_true, true_and]
  exact ⟨cl_dig _, cl_dig _⟩
theorem ev_parts (N : RefGLib L) (n q : Bool) (m d : List Nat) (k : Nat) (hk : 1 ≤ k ∧ k ≤ 274877906943) (hm : Sm k m) (hd : Sm k d) : ∃ n' m' d', Ev L 122 [.agg (rQ false q n m d)] (.tup [.agg (rZ false n' m'), .agg (rZ false false d')]) ∧ PtIs n m d n' m' d' k := by
  have t1 := fun q => ev_r1_Trim N d q hd.1 (by have := hd.2; omega)
  have hl := dg_len0 (val d)
  by_cases h0 : val d = 0
  · refine ⟨false, [], [1], ?_, sm_nil _, sm_one hk.1 (by omega), by decide, by unfold qv; rw [h0, Rat.mkRat_zero, zv_nil, Rat.zero_mkRat]⟩
    refine Ev.x N.ref03_parts rfl rfl ?_
    (repeat' (first | (refine CmpP.go (fun hc => ?_) (fun hc => ?_) <;> first | (exfalso; omega) | (conv => whnf)) | (refine LenP.go ?_; conv => whnf) | (refine SnR.e1 rfl ?_; conv => whnf) | (refine AKM.x ?_; conv => whnf) | (refine CallP.go (t1 _) ?_; conv => whnf)))
    exact FinP.go rfl (cl_parts3 false [] [1])
  · refine ⟨n, m, dg (val d), ?_, hm, hd.nrm, by rw [val_dg]; exact h0, by rw [val_dg]; rfl⟩
    refine Ev.x N.ref03_parts rfl rfl ?_
    (repeat' (first | (refine CmpP.go (fun hc => ?_) (fun hc => ?_) <;> first | (exfalso; omega) | (conv => whnf)) | (refine LenP.go ?_; conv => whnf) | (refine AKM.x ?_; conv => whnf) | (refine CallP.go (t1 _) ?_; conv => whnf)))
    exact FinP.go rfl (cl_parts3 _ _ _)
theorem ev_r3_Trim (N : RefGLib L) (n q : Bool) (m d : List Nat) (hm : Sm 274877906943 m) (hd : Sm 274877906943 d) : Ev L 123 [.agg (rQ false q n m d)] (.agg (eQ (qv n m d))) := by
  obtain ⟨n', m', d', hp, s1, s2, s3, s4⟩ := ev_parts N n q m d 274877906943 (by omega) hm hd
  have hr := fun q q' => ev_reduce N n' false q q' m' d' s1 s2
  rw [divInt_val, ← s4] at hr
  refine Ev.x N.ref03_Trim rfl rfl ?_
  (repeat' (first | (refine AKM.x ?_; conv => whnf) | (refine CallP.go (hp) ?_; conv => whnf) | (refine CallP.go (hr _ _) ?_; conv => whnf)))
  exact FinP.go rfl (cl_eQ _)
theorem agg_whole' (z : Int) : AV.agg [.bool (decide (z < 0)), .sl false ((dg z.natAbs).map e32), .sl false [[.int .u32 1]]] = .agg (eQ (z : Rat)) := by
  show _ = AV.agg (rQ _ _ _ _ _)
  rw [Rat.num_intCast, Rat.den_intCast, dg_one']; rfl
theorem ev_r3_Of (N : RefGLib L) (z : Int) (hz : -9223372036854775808 ≤ z ∧ z ≤ 9223372036854775807) : Ev L 124 [.int .i64 z] (.agg (eQ (z : Rat))) := by
  have h1 := ev_r2_Of N z hz
  refine Ev.x N.ref03_Of rfl rfl ?_
  (repeat' (first | (refine SnR.e1 rfl ?_; conv => whnf) | (refine AKM.x ?_; conv => whnf) | (refine CallP.go (h1) ?_; conv => whnf)))
  exact FinP.go (agg_whole' z) (cl_eQ _)
theorem sm_of {z : Int} (hz : -9223372036854775808 ≤ z ∧ z ≤ 9223372036854775808) : Sm 2 (dg z.natAbs) := Sm.dg (by omega)
theorem ev_r3_Frac (N : RefGLib L) (x y : Int) (hx : -9223372036854775808 ≤ x ∧ x ≤ 9223372036854775807) (hy : -9223372036854775808 ≤ y ∧ y ≤ 9223372036854775807) : Ev L 125 [.int .i64 x, .int .i64 y] (.agg (eQ (Rat.divInt x y))) := by
  have h1 := ev_r2_Of N x hx
  have h2 := ev_r2_Of N y hy
  have hr := fun q q' => ev_reduce N (decide (x < 0)) (decide (y < 0)) q q' _ _ ((sm_of (z := x) (by omega)).le (by omega)) ((sm_of (z := y) (by omega)).le (by omega))
  rw [zv_of, zv_of] at hr
  refine Ev.x N.ref03_Frac rfl rfl ?_
  (repeat' (first | (refine AKM.x ?_; conv => whnf) | (refine CallP.go (h1) ?_; conv => whnf) | (refine CallP.go (h2) ?_; conv => whnf) | (refine CallP.go (hr _ _) ?_; conv => whnf)))
  exact FinP.go rfl (cl_eQ _)
/-- the general sum: numerators multiplied by the other denominator -/
theorem sm_zmul' {k l : Nat} {n1 n2 : Bool} {a b : List Nat} (ha : Sm k a) (hb : Sm l b) : Sm (k + l) (dg (zv n1 a * zv n2 b).natAbs) := ha.mul hb (by rw [Int.natAbs_mul, zv_abs, zv_abs])
theorem sm_zadd' {k : Nat} {x y : Int} (ha : Sm k (dg x.natAbs)) (hb : Sm k (dg y.natAbs)) : Sm (k + 1) (dg (x + y).natAbs) := ha.add hb (by rw [val_dg, val_dg]; omega)
theorem ev_r3_Add (N : RefGLib L) (k : Nat) (hk : 1 ≤ k ∧ k ≤ 68719476736) (n1 n2 q2 q4 : Bool) (m1 d1 m2 d2 : List Nat) (hm1 : Sm k m1) (hd1 : Sm k d1) (hm2 : Sm k m2) (hd2 : Sm k d2) :
    Ev L 126 [.agg (rQ false q2 n1 m1 d1), .agg (rQ false q4 n2 m2 d2)] (.agg (eQ (qv n1 m1 d1 + qv n2 m2 d2))) := by
  obtain ⟨a1, a2, a3, hr1, s1, s2, s3, s5⟩ := ev_parts N n1 q2 m1 d1 k (by omega) hm1 hd1
  obtain ⟨b1, b2, b3, hr2, t1, t2, t3, t5⟩ := ev_parts N n2 q4 m2 d2 k (by omega) hm2 hd2
  have l1 := s1.2
  have l2 := s2.2
  have l3 := t1.2
  have l4 := t2.2
  rw [s5, t5, mk_add s3 t3, ← zv_F b3, ← zv_F a3]
  have hM1 := fun q q' => ev_r2_Mul N a1 false q q' a2 b3 s1.1 t2.1 (by omega)
  have hM2 := fun q q' => ev_r2_Mul N b1 false q q' b2 a3 t1.1 s2.1 (by omega)
  have hM3 := fun q q' => ev_r2_Mul N false false q q' a3 b3 s2.1 t2.1 (by omega)
  have g1 : Sm (k + k) (dg (zv a1 a2 * zv false b3).natAbs) := sm_zmul' s1 t2
  have g2 : Sm (k + k) (dg (zv b1 b2 * zv false a3).natAbs) := sm_zmul' t1 s2
  have g3 := sm_zadd' g1 g2
  have g4 : Sm (k + k) (dg (zv false a3 * zv false b3).natAbs) := sm_zmul' s2 t2
  have hA := fun q q' => ev_r2_Add N (decide (zv a1 a2 * zv false b3 < 0)) (decide (zv b1 b2 * zv false a3 < 0)) q q' _ _ (g1.le (by omega)) (g2.le (by omega))
  rw [zv_of, zv_of] at hA
  have hR := fun q q' => ev_reduce N (decide (zv a1 a2 * zv false b3 + zv b1 b2 * zv false a3 < 0)) (decide (zv false a3 * zv false b3 < 0)) q q' _ _ (g3.le (by omega)) (g4.le (by omega))
  rw [zv_of, zv_of, show zv false a3 * zv false b3 = ((val a3 * val b3 : Nat) : Int) by rw [zv_F, zv_F]; simp, Rat.divInt_ofNat] at hR
  rw [show zv false a3 * zv false b3 = ((val a3 * val b3 : Nat) : Int) by rw [zv_F, zv_F]; simp] at hM3
  refine Ev.x N.ref03_Add rfl rfl ?_
  (repeat' (first | (refine AKM.x ?_; conv => whnf) | (refine CallP.go (hr1) ?_; conv => whnf) | (refine CallP.go (hr2) ?_; conv => whnf) | (refine CallP.go (hM1 _ _) ?_; conv => whnf) | (refine CallP.go (hM2 _ _) ?_; conv => whnf) | (refine CallP.go (hA _ _) ?_; conv => whnf) | (refine CallP.go (hM3 _ _) ?_; conv => whnf) | (refine CallP.go (hR _ _) ?_; conv => whnf)))
  exact FinP.go rfl (cl_eQ _)
theorem ev_r3_Mul (N : RefGLib L) (k : Nat) (hk : 1 ≤ k ∧ k ≤ 68719476736) (n1 n2 q2 q4 : Bool) (m1 d1 m2 d2 : List Nat) (hm1 : Sm k m1) (hd1 : Sm k d1) (hm2 : Sm k m2) (hd2 : Sm k d2) :
    Ev L 128 [.agg (rQ false q2 n1 m1 d1), .agg (rQ false q4 n2 m2 d2)] (.agg (eQ (qv n1 m1 d1 * qv n2 m2 d2))) := by
  obtain ⟨a1, a2, a3, hr1, s1, s2, s3, s5⟩ := ev_parts N n1 q2 m1 d1 k (by omega) hm1 hd1
  obtain ⟨b1, b2, b3, hr2, t1, t2, t3, t5⟩ := ev_parts N n2 q4 m2 d2 k (by omega) hm2 hd2
  have l1 := s1.2
  have l2 := s2.2
  have l3 := t1.2
  have l4 := t2.2
  rw [s5, t5, mk_mul]
  have hM1 := fun q q' => ev_r2_Mul N a1 b1 q q' a2 b2 s1.1 t1.1 (by omega)
  have hM3 := fun q q' => ev_r2_Mul N false false q q' a3 b3 s2.1 t2.1 (by omega)
  have g1 : Sm (k + k) (dg (zv a1 a2 * zv b1 b2).natAbs) := sm_zmul' s1 t1
  have g4 : Sm (k + k) (dg (zv false a3 * zv false b3).natAbs) := sm_zmul' s2 t2
  have hR := fun q q' => ev_reduce N (decide (zv a1 a2 * zv b1 b2 < 0)) (decide (zv false a3 * zv false b3 < 0)) q q' _ _ (g1.le (by omega)) (g4.le (by omega))
  rw [zv_of, zv_of, show zv false a3 * zv false b3 = ((val a3 * val b3 : Nat) : Int) by rw [zv_F, zv_F]; simp, Rat.divInt_ofNat] at hR
  rw [show zv false a3 * zv false b3 = ((val a3 * val b3 : Nat) : Int) by rw [zv_F, zv_F]; simp] at hM3
  refine Ev.x N.ref03_Mul rfl rfl ?_
  (repeat' (first | (refine AKM.x ?_; conv => whnf) | (refine CallP.go (hr1) ?_; conv => whnf) | (refine CallP.go (hr2) ?_; conv => whnf) | (refine CallP.go (hM1 _ _) ?_; conv => whnf) | (refine CallP.go (hM3 _ _) ?_; conv => whnf) | (refine CallP.go (hR _ _) ?_; conv => whnf)))
  exact FinP.go rfl (cl_eQ _)
/-- a comparison of rational numbers -/
theorem mk_cmp {a b : Int} {d e : Nat} (hd : d ≠ 0) (he : e ≠ 0) : sgn (a * e - b * d) = sgn (mkRat a d - mkRat b e).num := by
  have h : mkRat a d - mkRat b e = mkRat (a * e - b * d) (d * e) := by
    rw [Rat.sub_eq_add_neg, Rat.neg_mkRat, mk_add hd he, Int.neg_mul, ← Int.sub_eq_add_neg]
  rw [h, mk_sgn (Nat.mul_ne_zero hd he)]
theorem ev_r3_Compare (N : RefGLib L) (k : Nat) (hk : 1 ≤ k ∧ k ≤ 68719476736) (n1 n2 q2 q4 : Bool) (m1 d1 m2 d2 : List Nat) (hm1 : Sm k m1) (hd1 : Sm k d1) (hm2 : Sm k m2) (hd2 : Sm k d2) :
    Ev L 127 [.agg (rQ false q2 n1 m1 d1), .agg (rQ false q4 n2 m2 d2)] (.int .i64 (sgn (qv n1 m1 d1 - qv n2 m2 d2).num)) := by
  obtain ⟨a1, a2, a3, hr1, s1, s2, s3, s5⟩ := ev_parts N n1 q2 m1 d1 k (by omega) hm1 hd1
  obtain ⟨b1, b2, b3, hr2, t1, t2, t3, t5⟩ := ev_parts N n2 q4 m2 d2 k (by omega) hm2 hd2
  have l1 := s1.2
  have l2 := s2.2
  have l3 := t1.2
  have l4 := t2.2
  rw [s5, t5, ← mk_cmp s3 t3, ← zv_F b3, ← zv_F a3]
  have hM1 := fun q q' => ev_r2_Mul N a1 false q q' a2 b3 s1.1 t2.1 (by omega)
  have hM2 := fun q q' => ev_r2_Mul N b1 false q q' b2 a3 t1.1 s2.1 (by omega)
  have g1 : Sm (k + k) (dg (zv a1 a2 * zv false b3).natAbs) := sm_zmul' s1 t2
  have g2 : Sm (k + k) (dg (zv b1 b2 * zv false a3).natAbs) := sm_zmul' t1 s2
  have hC := fun q q' => ev_r2_Compare N (decide (zv a1 a2 * zv false b3 < 0)) (decide (zv b1 b2 * zv false a3 < 0)) q q' _ _ (g1.le (by omega)) (g2.le (by omega))
  rw [zv_of, zv_of] at hC
  refine Ev.x N.ref03_Compare rfl rfl ?_
  (repeat' (first | (refine AKM.x ?_; conv => whnf) | (refine CallP.go (hr1) ?_; conv => whnf) | (refine CallP.go (hr2) ?_; conv => whnf) | (refine CallP.go (hM1 _ _) ?_; conv => whnf) | (refine CallP.go (hM2 _ _) ?_; conv => whnf) | (refine CallP.go (hC _ _) ?_; conv => whnf)))
  exact FinP.i rfl
end Go.Eng
/-
  Rational numbers in lowest terms: the arithmetic of the references.
-/
namespace Go.Eng
open F
attribute [local irreducible] AKM CmpP Req OpP UnP ConvP RdP LdR StR MkR LenP AppR AppN CpyR RowP SnR Bds SlS CallP CalP FinP pw LdM GetM SetM PutM MkM AppM SnM FlP
set_option maxHeartbeats 4000000
variable {L : Lib}
theorem Bt.sm3 {k : Nat} {x : Rat} (h : Bt k x) (hk : k < 2199023255552) : Sm 68719476736 (dg x.num.natAbs) ∧ Sm 68719476736 (dg x.den) := h.dig (by omega)
theorem ev_add3 (N : RefGLib L) {x y : Rat} {k l : Nat} (hx : Bt k x) (hy : Bt l y) (hk : k < 2199023255552) (hl : l < 2199023255552) : Ev L 126 [.agg (eQ x), .agg (eQ y)] (.agg (eQ (x + y))) := by
  have := ev_r3_Add N 68719476736 (by omega) (decide (x.num < 0)) (decide (y.num < 0)) false false _ _ _ _ (hx.sm3 hk).1 (hx.sm3 hk).2 (hy.sm3 hl).1 (hy.sm3 hl).2
  rw [qv_of, qv_of] at this
  exact this
theorem ev_mul3 (N : RefGLib L) {x y : Rat} {k l : Nat} (hx : Bt k x) (hy : Bt l y) (hk : k < 2199023255552) (hl : l < 2199023255552) : Ev L 128 [.agg (eQ x), .agg (eQ y)] (.agg (eQ (x * y))) := by
  have := ev_r3_Mul N 68719476736 (by omega) (decide (x.num < 0)) (decide (y.num < 0)) false false _ _ _ _ (hx.sm3 hk).1 (hx.sm3 hk).2 (hy.sm3 hl).1 (hy.sm3 hl).2
  rw [qv_of, qv_of] at this
  exact this
theorem ev_trim3 (N : RefGLib L) {x : Rat} {k : Nat} (hx : Bt k x) (hk : k < 2199023255552) : Ev L 123 [.agg (eQ x)] (.agg (eQ x)) := by
  have := ev_r3_Trim N (decide (x.num < 0)) false _ _ ((hx.sm3 hk).1.le (by omega)) ((hx.sm3 hk).2.le (by omega))
  rw [qv_of] at this
  exact this
theorem ev_cmp3 (N : RefGLib L) {x y : Rat} {k l : Nat} (hx : Bt k x) (hy : Bt l y) (hk : k < 2199023255552) (hl : l < 2199023255552) : Ev L 127 [.agg (eQ x), .agg (eQ y)] (.int .i64 (sgn (x - y).num)) := by
  have := ev_r3_Compare N 68719476736 (by omega) (decide (x.num < 0)) (decide (y.num < 0)) false false _ _ _ _ (hx.sm3 hk).1 (hx.sm3 hk).2 (hy.sm3 hl).1 (hy.sm3 hl).2
  rw [qv_of, qv_of] at this
  exact this
theorem sgn_sub {x y : Rat} : sgn (x - y).num = 0 ↔ x = y := by
  have h : sgn (x - y).num = 0 ↔ (x - y).num = 0 := by unfold sgn; split <;> (try split) <;> omega
  rw [h, Rat.num_eq_zero]
  constructor
  · intro h; grind
  · rintro rfl; exact Rat.sub_self
theorem ev_SameRats (N : RefGLib L) (a b : List Rat) (q1 q2 : Bool) (k : Nat) (ha : Bs k a) (hb : Bs k b) (hk : k < 2199023255552) (hl : a.length ≤ 1099511627776) : Ev L 129 [.sl q1 (a.map eQ), .sl q2 (b.map eQ)] (.bool (decide (a = b))) := by
  refine Ev.x N.ref21_SameRats rfl rfl ?_
  by_cases hlen : a.length = b.length
  · (repeat' (first | (refine CmpP.go (fun hc => ?_) (fun hc => ?_) <;> first | (exfalso; omega) | (conv => whnf)) | (refine LenP.go ?_; conv => whnf) | (refine AKM.x ?_; conv => whnf)))
    refine AKM.loop1 (fun i => a.length - i) (fun (i : Nat) => i ≤ a.length ∧ a.take i = b.take i) (fun i => [(5, .int .i64 i)]) (fun _ => []) [] [] 0 (by (conv => whnf); exact ⟨rfl, rfl, rfl⟩) ⟨by omega, rfl⟩ ?_
    intro i ⟨p1, p2⟩ ih
    by_cases hi : i < a.length
    · obtain ⟨x, hx⟩ : ∃ x, a[i]? = some x := ⟨_, List.getElem?_eq_getElem hi⟩
      obtain ⟨y, hy⟩ : ∃ y, b[i]? = some y := ⟨_, List.getElem?_eq_getElem (by omega)⟩
      have hx' : a[(i : Int).toNat]? = some x := hx
      have hy' : b[(i : Int).toNat]? = some y := hy
      have hC3 := ev_cmp3 N (ha.at hx) (hb.at hy) hk hk
      have hs := sgn_sub (x := x) (y := y)
      generalize sgn (x - y).num = sg at *
      by_cases hxy : x = y
      · have h0 : sg = 0 := hs.2 hxy
        (repeat' (first | (refine CmpP.go (fun hc => ?_) (fun hc => ?_) <;> first | (exfalso; omega) | (conv => whnf)) | (refine OpP.add (by omega) ?_; conv => whnf) | (refine LenP.go ?_; conv => whnf) | (refine RdP.at (by assumption) (by omega) rfl ?_; conv => whnf) | (refine AKM.x ?_; conv => whnf) | (refine CallP.go (hC3) ?_; conv => whnf)))
        refine AKM.back [] (by (conv => whnf); exact ⟨rfl, rfl, rfl⟩) (ih (i + 1) (by omega) ⟨by omega, ?_⟩)
        rw [List.take_add_one, List.take_add_one, p2, hx, hy, hxy]
      · have hne : sg ≠ 0 := fun h => hxy (hs.1 h)
        (repeat' (first | (refine CmpP.go (fun hc => ?_) (fun hc => ?_) <;> first | (exfalso; omega) | (conv => whnf)) | (refine LenP.go ?_; conv => whnf) | (refine RdP.at (by assumption) (by omega) rfl ?_; conv => whnf) | (refine AKM.x ?_; conv => whnf) | (refine CallP.go (hC3) ?_; conv => whnf)))
        refine FinP.df (fun h => hxy ?_)
        rw [h, hy] at hx
        exact (Option.some.inj hx).symm
    · obtain rfl : i = a.length := by omega
      clear ih
      (repeat' (first | (refine CmpP.go (fun hc => ?_) (fun hc => ?_) <;> first | (exfalso; omega) | (conv => whnf)) | (refine LenP.go ?_; conv => whnf) | (refine AKM.x ?_; conv => whnf)))
      refine FinP.dt ?_
      rw [List.take_of_length_le (Nat.le_refl _), List.take_of_length_le (by omega)] at p2
      exact p2
  · (repeat' (first | (refine CmpP.go (fun hc => ?_) (fun hc => ?_) <;> first | (exfalso; omega) | (conv => whnf)) | (refine LenP.go ?_; conv => whnf) | (refine AKM.x ?_; conv => whnf)))
    exact FinP.df (fun h => hlen (by rw [h]))
end Go.Eng

/-
  Systems (layer 22): the references.
-/
namespace Go.Eng
open F
attribute [local irreducible] AKM CmpP Req OpP UnP ConvP RdP LdR StR MkR LenP AppR AppN CpyR RowP SnR Bds SlS CallP CalP FinP pw LdM GetM SetM PutM MkM AppM SnM FlP
set_option maxHeartbeats 4000000
variable {L : Lib}
theorem ev_Sound22 (N : SysGLib L) (S : SysQ) (n k : Nat) (h : S.Ok n k) (hn : n ≤ 64) : Ev L 136 [.agg (eS S)] (.bool true) := by
  have h1 := h.la
  have h2 := h.lb
  have h3 := h.lc
  refine Ev.x N.ref22_Sound rfl rfl ?_
  (repeat' (first | (refine CmpP.go (fun hc => ?_) (fun hc => ?_) <;> first | (exfalso; omega) | (conv => whnf)) | (refine LenP.go ?_; conv => whnf) | (refine AKM.x ?_; conv => whnf)))
  refine AKM.loop1 (fun i => S.a.length - i) (fun (i : Nat) => i ≤ S.a.length) (fun i => [(4, .int .i64 i)]) (fun _ => []) [] [] 0 (by (conv => whnf); exact ⟨rfl, rfl, rfl⟩) (by omega) ?_
  intro i p1 ih
  by_cases hi : i < S.a.length
  · obtain ⟨r, hr⟩ : ∃ r, S.a[i]? = some r := ⟨_, List.getElem?_eq_getElem hi⟩
    have hr' : S.a[(i : Int).toNat]? = some r := hr
    have hrl := h.lr r (List.mem_of_getElem? hr)
    (repeat' (first | (refine CmpP.go (fun hc => ?_) (fun hc => ?_) <;> first | (exfalso; omega) | (conv => whnf)) | (refine OpP.add (by omega) ?_; conv => whnf) | (refine LenP.go ?_; conv => whnf) | (refine RdP.at (by assumption) (by omega) rfl ?_; conv => whnf) | (refine AKM.x ?_; conv => whnf)))
    exact AKM.back [] (by (conv => whnf); exact ⟨rfl, rfl, rfl⟩) (ih (i + 1) (by omega) (by omega))
  · obtain rfl : i = S.a.length := by omega
    clear ih
    (repeat' (first | (refine CmpP.go (fun hc => ?_) (fun hc => ?_) <;> first | (exfalso; omega) | (conv => whnf)) | (refine AKM.x ?_; conv => whnf)))
    exact FinP.b rfl
theorem ev_Inner (N : SysGLib L) (a b : List Rat) (q1 q2 : Bool) (k s : Nat) (hl : a.length = b.length) (ha : Bs k a) (hb : Bs s b) (hK : a.length * (k + s + 1) + k + s < 2199023255552) (hal : a.length ≤ 1099511627776) : Ev L 137 [.sl q1 (a.map eQ), .sl q2 (b.map eQ)] (.agg (eQ (dotQ a b))) := by
  have hO := ev_r3_Of N.toRefGLib 0 (by omega)
  refine Ev.x N.ref22_Inner rfl rfl ?_
  (repeat' (first | (refine AKM.x ?_; conv => whnf) | (refine CallP.go (hO) ?_; conv => whnf)))
  refine AKM.loop2 (fun i _ => a.length - i) (fun (i : Nat) (acc : Rat) => i ≤ a.length ∧ acc = dotQ (a.take i) (b.take i)) (fun i acc => [(6, .int .i64 i)]) (fun i acc => [(5, 5, .bx (eQ acc))]) [] [] 0 ((0 : Int) : Rat) (by (conv => whnf); exact ⟨rfl, rfl, rfl⟩) ⟨by omega, by simp [dotQ]⟩ ?_
  intro i acc ⟨p1, p2⟩ ih
  by_cases hi : i < a.length
  · obtain ⟨x, hx⟩ : ∃ x, a[i]? = some x := ⟨_, List.getElem?_eq_getElem hi⟩
    obtain ⟨y, hy⟩ : ∃ y, b[i]? = some y := ⟨_, List.getElem?_eq_getElem (by omega)⟩
    have hx' : a[(i : Int).toNat]? = some x := hx
    have hy' : b[(i : Int).toNat]? = some y := hy
    have bx := ha.at hx
    have by' := hb.at hy
    have hM := ev_mul3 N.toRefGLib bx by' (by omega) (by omega)
    have hacc : Bt (a.length * (k + s + 1)) acc := by
      rw [p2]
      have := (ha.take i).dot (hb.take i)
      refine this.le (Nat.mul_le_mul_right _ ?_)
      rw [List.length_take]; omega
    have hA := ev_add3 N.toRefGLib hacc (bx.mul by') (by omega) (by omega)
    have hst := dotQ_take hx hy
    (repeat' (first | (refine CmpP.go (fun hc => ?_) (fun hc => ?_) <;> first | (exfalso; omega) | (conv => whnf)) | (refine OpP.add (by omega) ?_; conv => whnf) | (refine LenP.go ?_; conv => whnf) | (refine RdP.at (by assumption) (by omega) rfl ?_; conv => whnf) | (refine AKM.x ?_; conv => whnf) | (refine CallP.go (hM) ?_; conv => whnf) | (refine CallP.go (hA) ?_; conv => whnf)))
    refine AKM.back [] (by (conv => whnf); exact ⟨rfl, rfl, rfl⟩) (ih (i + 1) (acc + x * y) (by omega) ⟨by omega, ?_⟩)
    rw [hst, ← p2]
  · obtain rfl : i = a.length := by omega
    clear ih
    rw [dotQ_all rfl] at p2
    rw [← p2]
    (repeat' (first | (refine CmpP.go (fun hc => ?_) (fun hc => ?_) <;> first | (exfalso; omega) | (conv => whnf)) | (refine LenP.go ?_; conv => whnf) | (refine AKM.x ?_; conv => whnf)))
    exact FinP.go rfl (cl_eQ _)
/-- 1 at one place, 0 elsewhere -/
def unitL (n : Nat) (j : Int) : List Rat := (List.range n).map fun i : Nat => if (i : Int) = j then 1 else 0
theorem unitL_len (n : Nat) (j : Int) : (unitL n j).length = n := by simp [unitL]
theorem unitL_succ (n : Nat) (j : Int) : unitL (n + 1) j = unitL n j ++ [if (n : Int) = j then 1 else 0] := by simp [unitL, List.range_succ]
theorem ev_zero22 (N : SysGLib L) (n : Nat) (j : Int) (hn : n ≤ 65536) : Ev L 135 [.int .i64 (n : Int), .int .i64 j] (.sl false ((unitL n j).map eQ)) := by
  have hO := ev_r3_Of N.toRefGLib 0 (by omega)
  have hI := ev_r3_Of N.toRefGLib 1 (by omega)
  refine Ev.x N.ref22_zero rfl rfl ?_
  (repeat' (refine AKM.x ?_; conv => whnf))
  refine AKM.loop1 (fun i => n - i) (fun (i : Nat) => i ≤ n) (fun i => [(6, .int .i64 i), (5, .row 5 0 3 0 i)]) (fun i => [(5, 5, .rw 3 ((unitL i j).map eQ))]) [] [] 0 (by (conv => whnf); exact ⟨rfl, rfl, rfl⟩) (by omega) ?_
  intro i p1 ih
  have hlen := unitL_len i j
  by_cases hi : i < n
  · have hsucc := unitL_succ i j
    by_cases hj : (i : Int) = j
    · rw [if_pos hj] at hsucc
      (repeat' (first | (refine CmpP.go (fun hc => ?_) (fun hc => ?_) <;> first | (exfalso; omega) | (conv => whnf)) | (refine RowP.e1 ?_; conv => whnf) | (refine AKM.x ?_; conv => whnf) | (refine CallP.go (hI) ?_; conv => whnf)))
      refine AppR.one (enc := eQ) ((1 : Int) : Rat) rfl hlen.symm rfl (by omega) (by omega) ?_
      (conv => whnf)
      (repeat' (refine OpP.add (by omega) ?_; conv => whnf))
      rw [show (unitL i j ++ [((1 : Int) : Rat)]).length = i + 1 by simp [hlen], show unitL i j ++ [((1 : Int) : Rat)] = unitL (i + 1) j from hsucc.symm]
      exact AKM.back [(5, 18)] (by (conv => whnf); exact ⟨rfl, rfl, rfl⟩) (ih (i + 1) (by omega) (by omega))
    · rw [if_neg hj] at hsucc
      (repeat' (first | (refine CmpP.go (fun hc => ?_) (fun hc => ?_) <;> first | (exfalso; omega) | (conv => whnf)) | (refine RowP.e1 ?_; conv => whnf) | (refine AKM.x ?_; conv => whnf) | (refine CallP.go (hO) ?_; conv => whnf)))
      refine AppR.one (enc := eQ) ((0 : Int) : Rat) rfl hlen.symm rfl (by omega) (by omega) ?_
      (conv => whnf)
      (repeat' (refine OpP.add (by omega) ?_; conv => whnf))
      rw [show (unitL i j ++ [((0 : Int) : Rat)]).length = i + 1 by simp [hlen], show unitL i j ++ [((0 : Int) : Rat)] = unitL (i + 1) j from hsucc.symm]
      exact AKM.back [(5, 22)] (by (conv => whnf); exact ⟨rfl, rfl, rfl⟩) (ih (i + 1) (by omega) (by omega))
  · obtain rfl : i = n := by omega
    clear ih
    (repeat' (first | (refine CmpP.go (fun hc => ?_) (fun hc => ?_) <;> first | (exfalso; omega) | (conv => whnf)) | (refine AKM.x ?_; conv => whnf)))
    refine SnR.all (enc := eQ) (fun _ => rfl) rfl hlen.symm ?_
    (conv => whnf)
    exact FinP.go rfl (by simp only [Clean, true_and]; exact cl_eQs _)
theorem unitL_neg (n : Nat) : unitL n (-1) = List.replicate n 0 := by
  refine List.ext_getElem? fun i => ?_
  simp only [unitL, List.getElem?_map, List.getElem?_replicate, List.getElem?_range]
  by_cases h : i < n
  · rw [List.getElem?_range h, if_pos h]
    simp
  · rw [List.getElem?_eq_none (by simp; omega), if_neg h]; rfl
theorem unitL_zero (n : Nat) : unitL n 0 = impL n := by
  refine List.ext_getElem? fun i => ?_
  cases n with
  | zero => simp [unitL, impL]
  | succ n =>
    simp only [unitL, List.getElem?_map, impL]
    cases i with
    | zero => rw [List.getElem?_range (by omega)]; simp
    | succ i =>
      rw [List.getElem?_cons_succ, List.getElem?_replicate]
      by_cases h : i < n
      · rw [List.getElem?_range (by omega), if_pos h]
        simp
      · rw [List.getElem?_eq_none (by simp; omega), if_neg h]; rfl
theorem ev_Respond22 (N : SysGLib L) (S : SysQ) (n k s : Nat) (h : S.Ok n k) (hn : n ≤ 64) (st xs : List Rat) (q1 q2 : Bool) (hst : st.length = n) (bst : Bs s st) (bxs : Bs k xs) (hxl : xs.length ≤ 4096)
    (hK : ∀ i, i ≤ xs.length → respK n k s i < 1099511627776) (hs0 : s < 1099511627776) (hk0 : k < 1099511627776) :
    Ev L 139 [.agg (eS S), .sl q1 (st.map eQ), .sl q2 (xs.map eQ)] (.tup [.sl false ((S.outs st xs).map eQ), .sl false ((S.state st xs).map eQ), .int .i64 0]) := by
  have hSd := ev_Sound22 N S n k h hn
  have hla := h.la
  have hlb := h.lb
  have hlc := h.lc
  refine Ev.x N.ref22_Respond rfl rfl ?_
  (repeat' (first | (refine CmpP.go (fun hc => ?_) (fun hc => ?_) <;> first | (exfalso; omega) | (conv => whnf)) | (refine LenP.go ?_; conv => whnf) | (refine AKM.x ?_; conv => whnf) | (refine CallP.go (hSd) ?_; conv => whnf)))
  refine AKM.loop1 (fun i => st.length - i) (fun (i : Nat) => i ≤ st.length) (fun i => [(11, .int .i64 i), (10, .row 10 0 3 0 i)]) (fun i => [(10, 10, .rw 3 ((st.take i).map eQ))]) [] [] 0 (by (conv => whnf); exact ⟨rfl, rfl, rfl⟩) (by omega) ?_
  intro i p1 ih
  by_cases hi : i < st.length
  · obtain ⟨x, hx⟩ : ∃ x, st[i]? = some x := ⟨_, List.getElem?_eq_getElem hi⟩
    have hx' : st[(i : Int).toNat]? = some x := hx
    have hT := ev_trim3 N.toRefGLib (bst.at hx) (by omega)
    have hlen : (st.take i).length = i := by rw [List.length_take]; omega
    (repeat' (first | (refine CmpP.go (fun hc => ?_) (fun hc => ?_) <;> first | (exfalso; omega) | (conv => whnf)) | (refine LenP.go ?_; conv => whnf) | (refine RdP.at (by assumption) (by omega) rfl ?_; conv => whnf) | (refine RowP.e1 ?_; conv => whnf) | (refine AKM.x ?_; conv => whnf) | (refine CallP.go (hT) ?_; conv => whnf)))
    refine AppR.one (enc := eQ) x rfl hlen.symm rfl (by omega) (by omega) ?_
    (conv => whnf)
    (repeat' (refine OpP.add (by omega) ?_; conv => whnf))
    rw [← take_snoc' hx, show (st.take (i + 1)).length = i + 1 by rw [List.length_take]; omega]
    exact AKM.back [(10, 43)] (by (conv => whnf); exact ⟨rfl, rfl, rfl⟩) (ih (i + 1) (by omega) (by omega))
  obtain rfl : i = st.length := by omega
  clear ih
  rw [List.take_of_length_le (Nat.le_refl _)]
  (repeat' (first | (refine CmpP.go (fun hc => ?_) (fun hc => ?_) <;> first | (exfalso; omega) | (conv => whnf)) | (refine LenP.go ?_; conv => whnf) | (refine AKM.x ?_; conv => whnf)))
  refine AKM.loop4 (fun i _ _ _ => xs.length - i) (fun (i : Nat) (nw os : List Rat) (_ : Nat) => i ≤ xs.length ∧ nw = S.state st (xs.take i) ∧ os = S.outs st (xs.take i)) (fun i nw os _ => [(12, .int .i64 i), (9, .row 9 0 3 0 os.length), (10, .row 10 0 3 0 nw.length)]) (fun i nw os t => [(9, 9, .rw 3 (os.map eQ)), (10, t, .rw 3 (nw.map eQ))]) [] [] 0 st [] 10 (by (conv => whnf); exact ⟨rfl, rfl, rfl⟩) ⟨by omega, rfl, rfl⟩ ?_
  intro i nw os t ⟨p1, p2, p3⟩ ih
  have hnl : nw.length = n := by rw [p2]; exact h.state_len _ _ hst
  have hol : os.length = i := by rw [p3, outs_len, List.length_take]; omega
  by_cases hi : i < xs.length
  · obtain ⟨x, hx⟩ : ∃ x, xs[i]? = some x := ⟨_, List.getElem?_eq_getElem hi⟩
    have hx' : xs[(i : Int).toNat]? = some x := hx
    have bx := bxs.at hx
    have bnw : Bs (respK n k s i) nw := by
      have := h.state_bs (xs.take i) st s hst bst (bxs.take i)
      rw [List.length_take, Nat.min_eq_left (by omega)] at this
      rw [p2]; exact this
    have hk1 := hK i (by omega)
    have hk2 := hK (i + 1) (by omega)
    rw [respK_succ] at hk2
    obtain ⟨bn, bo⟩ := h.next_bs hnl bnw bx
    have hst2 : S.state st (xs.take (i + 1)) = S.next nw x := by rw [take_snoc' hx, state_snoc, ← p2]
    have hos2 : S.outs st (xs.take (i + 1)) = os ++ [S.out nw x] := by rw [take_snoc' hx, outs_snoc, ← p2, ← p3]
    generalize hkk : respK n k s i = kk at *
    have hkk2 : n * (k + kk + 1) + (k + k) + 1 < 1099511627776 := by unfold stepK at hk2; exact hk2
    have hP := fun q q' => ev_Inner N S.c nw q q' k kk (by omega) h.bc bnw (by rw [hlc]; omega) (by omega)
    have hM1 := ev_mul3 N.toRefGLib h.bd bx (by omega) (by omega)
    have bd1 := h.bc.dot bnw
    rw [hlc] at bd1
    have hA1 := ev_add3 N.toRefGLib bd1 (h.bd.mul bx) (by omega) (by omega)
    (repeat' (first | (refine CmpP.go (fun hc => ?_) (fun hc => ?_) <;> first | (exfalso; omega) | (conv => whnf)) | (refine LenP.go ?_; conv => whnf) | (refine RdP.at (by assumption) (by omega) rfl ?_; conv => whnf) | (refine SnR.all (fun _ => rfl) rfl (by first | rfl | simp) ?_; conv => whnf) | (refine RowP.e1 ?_; conv => whnf) | (refine AKM.x ?_; conv => whnf) | (refine CallP.go (hP _ _) ?_; conv => whnf) | (refine CallP.go (hM1) ?_; conv => whnf) | (refine CallP.go (hA1) ?_; conv => whnf)))
    refine AppR.one (enc := eQ) (S.out nw x) rfl rfl rfl (by omega) (by omega) ?_
    (conv => whnf)
    skip
    refine CalP.walk 1000 N.ref22_Times rfl rfl ?_
    (repeat' (refine AKM.x ?_; conv => whnf))
    refine AKM.loop1 (fun j => S.a.length - j) (fun (j : Nat) => j ≤ S.a.length) (fun j => [(6, .int .i64 j), (5, .row 138005 0 3 0 j)]) (fun j => [(138005, 138005, .rw 3 (((S.a.take j).map fun r => dotQ r nw).map eQ))]) [] [] 0 (by (conv => whnf); exact ⟨rfl, rfl, rfl⟩) (by omega) ?_
    intro j r1 jh
    by_cases hj : j < S.a.length
    · obtain ⟨r, hr⟩ : ∃ r, S.a[j]? = some r := ⟨_, List.getElem?_eq_getElem hj⟩
      have hr' : S.a[(j : Int).toNat]? = some r := hr
      have hrl := h.lr r (List.mem_of_getElem? hr)
      have hP2 := fun q q' => ev_Inner N r nw q q' k kk (by omega) (h.ba r (List.mem_of_getElem? hr)) bnw (by rw [hrl]; omega) (by omega)
      have hlen : ((S.a.take j).map fun r => dotQ r nw).length = j := by simp; omega
      have hsn : (S.a.take (j + 1)).map (fun r => dotQ r nw) = ((S.a.take j).map fun r => dotQ r nw) ++ [dotQ r nw] := by rw [List.take_add_one, hr]; simp
      (repeat' (first | (refine CmpP.go (fun hc => ?_) (fun hc => ?_) <;> first | (exfalso; omega) | (conv => whnf)) | (refine LenP.go ?_; conv => whnf) | (refine RdP.at (by assumption) (by omega) rfl ?_; conv => whnf) | (refine SnR.all (fun _ => rfl) rfl (by first | rfl | simp) ?_; conv => whnf) | (refine RowP.e1 ?_; conv => whnf) | (refine AKM.x ?_; conv => whnf) | (refine CallP.go (hP2 _ _) ?_; conv => whnf)))
      refine AppR.one (enc := eQ) (dotQ r nw) rfl hlen.symm rfl (by omega) (by omega) ?_
      (conv => whnf)
      (repeat' (refine OpP.add (by omega) ?_; conv => whnf))
      rw [← hsn, show ((S.a.take (j + 1)).map fun r => dotQ r nw).length = j + 1 by simp; omega]
      exact AKM.back [(138005, 138021)] (by (conv => whnf); exact ⟨rfl, rfl, rfl⟩) (jh (j + 1) (by omega) (by omega))
    obtain rfl : j = S.a.length := by omega
    clear jh
    rw [List.take_of_length_le (Nat.le_refl _)]
    (repeat' (first | (refine CmpP.go (fun hc => ?_) (fun hc => ?_) <;> first | (exfalso; omega) | (conv => whnf)) | (refine LenP.go ?_; conv => whnf) | (refine AKM.x ?_; conv => whnf)))
    refine ⟨rfl, _, rfl, ?_⟩
    (conv => whnf)
    skip
    have hnl2 := h.next_len nw x
    generalize hNx : S.next nw x = nx at *
    generalize hT : (S.a.map fun r => dotQ r nw) = T at *
    have hTl : T.length = S.a.length := by rw [← hT]; simp
    rw [← hTl]
    refine AKM.loop1 (fun j => T.length - j) (fun (j : Nat) => j ≤ T.length) (fun j => [(14, .int .i64 j)]) (fun j => [(138005, 138005, .rw 3 ((nx.take j ++ T.drop j).map eQ))]) [] [] 0 (by (conv => whnf); exact ⟨rfl, rfl, rfl⟩) (by omega) ?_
    intro j r2 jh
    by_cases hj : j < T.length
    · obtain ⟨r, hr⟩ : ∃ r, S.a[j]? = some r := ⟨_, List.getElem?_eq_getElem (by omega)⟩
      obtain ⟨b, hb0⟩ : ∃ b, S.b[j]? = some b := ⟨_, List.getElem?_eq_getElem (by omega)⟩
      have hb' : S.b[(j : Int).toNat]? = some b := hb0
      have hrl := h.lr r (List.mem_of_getElem? hr)
      have bb := h.bb.at hb0
      have hM2 := ev_mul3 N.toRefGLib bb bx (by omega) (by omega)
      have bd2 := (h.ba r (List.mem_of_getElem? hr)).dot bnw
      rw [hrl] at bd2
      have hA2 := ev_add3 N.toRefGLib bd2 (bb.mul bx) (by omega) (by omega)
      have hnj : nx[j]? = some (dotQ r nw + b * x) := by rw [← hNx]; exact nextQ_at nw x S.a S.b j r b hr hb0
      have hTj : T[j]? = some (dotQ r nw) := by rw [← hT]; simp [hr]
      have htl : (nx.take j).length = j := by rw [List.length_take]; omega
      have hol2 : (nx.take j ++ T.drop j).length = T.length := by simp; omega
      have hoj : (nx.take j ++ T.drop j)[j]? = some (dotQ r nw) := by
        rw [List.getElem?_append_right (by omega), htl, Nat.sub_self, List.getElem?_drop]; exact hTj
      have hset : (nx.take j ++ T.drop j).set j (dotQ r nw + b * x) = nx.take (j + 1) ++ T.drop (j + 1) := by
        obtain ⟨hi2, he2⟩ := List.getElem?_eq_some_iff.1 hTj
        rw [List.set_append_right _ _ (by omega), htl, Nat.sub_self, List.drop_eq_getElem_cons hi2, List.set_cons_zero, take_snoc' hnj]
        simp
      (repeat' (first | (refine CmpP.go (fun hc => ?_) (fun hc => ?_) <;> first | (exfalso; omega) | (conv => whnf)) | (refine Req.go (by omega) ?_; conv => whnf) | (refine RdP.at (by assumption) (by omega) rfl ?_; conv => whnf) | (refine LdR.nat (by omega) (fun _ => rfl) (fun v hv => ?_); conv => whnf) | (refine AKM.x ?_; conv => whnf)))
      obtain rfl : v = dotQ r nw := by
        rw [hoj] at hv
        exact (Option.some.inj hv).symm
      (repeat' (first | (refine Req.go (by omega) ?_; conv => whnf) | (refine CallP.go (hM2) ?_; conv => whnf) | (refine CallP.go (hA2) ?_; conv => whnf)))
      refine StR.nat (enc := eQ) (dotQ r nw + b * x) rfl (fun _ => rfl) (by omega) ?_
      (conv => whnf)
      (repeat' (refine OpP.add (by omega) ?_; conv => whnf))
      rw [hset]
      exact AKM.back [] (by (conv => whnf); exact ⟨rfl, rfl, rfl⟩) (jh (j + 1) (by omega) (by omega))
    · obtain rfl : j = T.length := by omega
      clear jh
      rw [List.take_of_length_le (by omega), List.drop_of_length_le (Nat.le_refl _), List.append_nil]
      rw [show T.length = nx.length by omega]
      (repeat' (first | (refine CmpP.go (fun hc => ?_) (fun hc => ?_) <;> first | (exfalso; omega) | (conv => whnf)) | (refine OpP.add (by omega) ?_; conv => whnf) | (refine AKM.x ?_; conv => whnf)))
      refine AKM.back [(10, 138005), (9, 64)] (by (conv => whnf); exact ⟨rfl, rfl, rfl⟩) (ih (i + 1) nx (os ++ [S.out nw x]) 138005 (by omega) ⟨by omega, by rw [hst2], by rw [hos2]⟩)
  · obtain rfl : i = xs.length := by omega
    clear ih
    rw [List.take_of_length_le (Nat.le_refl _)] at p2 p3
    rw [← p2, ← p3]
    (repeat' (first | (refine CmpP.go (fun hc => ?_) (fun hc => ?_) <;> first | (exfalso; omega) | (conv => whnf)) | (refine LenP.go ?_; conv => whnf) | (refine SnR.all (fun _ => rfl) rfl (by first | rfl | simp) ?_; conv => whnf) | (refine AKM.x ?_; conv => whnf)))
    exact FinP.go rfl (cl_three _ _ _)
theorem ev_Impulse22 (N : SysGLib L) (S : SysQ) (n k c : Nat) (h : S.Ok n k) (hn : n ≤ 64) (hc0 : c ≤ 4096) (hK : ∀ i, i ≤ c → respK n k 0 i < 1099511627776) (hk0 : k < 1099511627776) :
    Ev L 140 [.agg (eS S), .int .i64 (c : Int)] (.tup [.sl false ((S.outs (List.replicate n 0) (impL c)).map eQ), .int .i64 0]) := by
  have hSd := ev_Sound22 N S n k h hn
  have hla := h.la
  have hZ := ev_zero22 N n (-1) (by omega)
  have hI := ev_zero22 N c 0 (by omega)
  rw [unitL_neg, ← hla] at hZ
  rw [unitL_zero] at hI
  have hR := fun q1 q2 => ev_Respond22 N S n k 0 h hn (List.replicate S.a.length 0) (impL c) q1 q2 (by simp [hla]) (fun x hx => by rw [(List.mem_replicate.1 hx).2]; exact Bt.zero 0) (impL_bs k c) (by rw [impL_len]; omega) (by rw [impL_len]; exact hK) (by omega) hk0
  rw [← hla]
  refine Ev.x N.ref22_Impulse rfl rfl ?_
  (repeat' (first | (refine CmpP.go (fun hc => ?_) (fun hc => ?_) <;> first | (exfalso; omega) | (conv => whnf)) | (refine LenP.go ?_; conv => whnf) | (refine AKM.x ?_; conv => whnf) | (refine CallP.go (hSd) ?_; conv => whnf) | (refine CallP.go (hZ) ?_; conv => whnf) | (refine CallP.go (hI) ?_; conv => whnf) | (refine CallP.go (hR _ _) ?_; conv => whnf)))
  exact FinP.go rfl (cl_two _ _)
end Go.Eng

/-
  The world of rational numbers: small numbers, systems.
-/
namespace Go.Eng
open F
attribute [local irreducible] AKM CmpP Req OpP UnP ConvP RdP LdR StR MkR LenP AppR AppN CpyR RowP SnR Bds SlS CallP CalP FinP pw LdM GetM SetM PutM MkM AppM SnM FlP
set_option maxHeartbeats 4000000
variable {L : Lib}
def ratV (v : Int) : Rat := Rat.divInt (v % 25 - 12) (1 + v / 25 % 8)
def ratsL (l : List Int) (n : Nat) : List Rat := (List.range n).map fun i : Nat => ratV (withS (atS l (i : Int)) 2000)
theorem ratsL_len (l : List Int) (n : Nat) : (ratsL l n).length = n := by simp [ratsL]
theorem ratsL_succ (l : List Int) (n : Nat) : ratsL l (n + 1) = ratsL l n ++ [ratV (withS (atS l (n : Int)) 2000)] := by simp [ratsL, List.range_succ]
theorem ratV_bt {v : Int} (h : 0 ≤ v) : Bt 4 (ratV v) := by
  unfold ratV
  obtain ⟨d, hd⟩ := Int.eq_ofNat_of_zero_le (show 0 ≤ 1 + v / 25 % 8 by omega)
  rw [hd, Rat.divInt_ofNat]
  refine Bt.mk ?_ ?_
  · show _ ≤ 16; omega
  · show _ ≤ 16; omega
theorem ratsL_bs (l : List Int) (n : Nat) : Bs 4 (ratsL l n) := by
  intro x hx
  simp only [ratsL, List.mem_map] at hx
  obtain ⟨i, _, rfl⟩ := hx
  refine ratV_bt ?_
  unfold withS
  split <;> omega
theorem ev_Rats (N : RatsGLib L) (l : List Int) (q : Bool) (n : Nat) (hl : ∀ x ∈ l, InI x) (hn : n ≤ 1000000) : Ev L 141 [.sl q (l.map encInt), .int .i64 (n : Int)] (.sl false ((ratsL l n).map eQ)) := by
  have hat : ∀ i : Nat, InI (atS l (i : Int)) := fun i => by
    unfold atS
    split
    · rw [List.getD_eq_getElem?_getD]
      cases e : l[((i : Int)).toNat]? with
      | none => simp [InI]
      | some x => exact hl x (List.mem_of_getElem? e)
    · simp [InI]
  refine Ev.x N.world_Rats rfl rfl ?_
  (repeat' (refine AKM.x ?_; conv => whnf))
  refine AKM.loop1 (fun i => n - i) (fun (i : Nat) => i ≤ n) (fun i => [(6, .int .i64 i), (5, .row 5 0 3 0 i)]) (fun i => [(5, 5, .rw 3 ((ratsL l i).map eQ))]) [] [] 0 (by (conv => whnf); exact ⟨rfl, rfl, rfl⟩) (by omega) ?_
  intro i p1 ih
  by_cases hi : i < n
  · have hA := ev_world_At N.toWorldLib l q (i : Int)
    have hA' := fun q => ev_world_At N.toWorldLib l q (i : Int)
    have hW := ev_world_Within N.toWorldLib (atS l (i : Int)) 2000 (hat i) (by omega)
    have hw0 : 0 ≤ withS (atS l (i : Int)) 2000 ∧ withS (atS l (i : Int)) 2000 < 2000 := by unfold withS; split <;> omega
    have hsucc := ratsL_succ l i
    have hlen := ratsL_len l i
    have hF := ev_r3_Frac N.toRefGLib (withS (atS l (i : Int)) 2000 % 25 - 12) (1 + withS (atS l (i : Int)) 2000 / 25 % 8) (by omega) (by omega)
    have hF' : Ev L 125 [.int .i64 (withS (atS l (i : Int)) 2000 % 25 - 12), .int .i64 (1 + withS (atS l (i : Int)) 2000 / 25 % 8)] (.agg (eQ (ratV (withS (atS l (i : Int)) 2000)))) := hF
    clear hF
    generalize ratV (withS (atS l (i : Int)) 2000) = y at *
    generalize withS (atS l (i : Int)) 2000 = v at *
    (repeat' (first | (refine CmpP.go (fun hc => ?_) (fun hc => ?_) <;> first | (exfalso; omega) | (conv => whnf)) | (refine OpP.add (by omega) ?_; conv => whnf) | (refine OpP.sub (by omega) ?_; conv => whnf) | (refine OpP.rem (by omega) (fun _ _ _ => ?_) (fun _ _ _ _ => ?_) <;> first | (exfalso; omega) | (conv => whnf)) | (refine OpP.quo (by omega) (by omega) (fun _ => ?_) (fun _ _ => ?_) <;> first | (exfalso; omega) | (conv => whnf)) | (refine RowP.e1 ?_; conv => whnf) | (refine AKM.x ?_; conv => whnf) | (refine CallP.go (hA' _) ?_; conv => whnf) | (refine CallP.go (hW) ?_; conv => whnf) | (refine CallP.go (hF') ?_; conv => whnf)))
    refine AppR.one (enc := eQ) y rfl hlen.symm rfl (by omega) (by omega) ?_
    (conv => whnf)
    (repeat' (refine OpP.add (by omega) ?_; conv => whnf))
    rw [show (ratsL l i ++ [y]).length = i + 1 by simp [hlen], ← hsucc]
    exact AKM.back [(5, 27)] (by (conv => whnf); exact ⟨rfl, rfl, rfl⟩) (ih (i + 1) (by omega) (by omega))
  · obtain rfl : i = n := by omega
    clear ih
    have hlen := ratsL_len l i
    (repeat' (first | (refine CmpP.go (fun hc => ?_) (fun hc => ?_) <;> first | (exfalso; omega) | (conv => whnf)) | (refine AKM.x ?_; conv => whnf)))
    refine SnR.all (enc := eQ) (fun _ => rfl) rfl hlen.symm ?_
    (conv => whnf)
    exact FinP.go rfl (by simp only [Clean, true_and]; exact cl_eQs _)
def rowX (X : List Rat) (n j : Nat) : List Rat := (X.take (j * n + n)).drop (j * n)
def rowsX (X : List Rat) (n i : Nat) : List (List Rat) := (List.range i).map (rowX X n)
theorem rowsX_succ (X : List Rat) (n i : Nat) : rowsX X n (i + 1) = rowsX X n i ++ [rowX X n i] := by simp [rowsX, List.range_succ]
def sysOf (l : List Int) (n : Nat) : SysQ :=
  let X := ratsL l (n * n + 2 * n + 1)
  ⟨rowsX X n n, (X.take (n * n + n)).drop (n * n), (X.take (n * n + 2 * n)).drop (n * n + n), X.getD (n * n + 2 * n) 0⟩
theorem ev_System (N : RatsGLib L) (l : List Int) (q : Bool) (n : Nat) (hl : ∀ x ∈ l, InI x) (hn : n ≤ 64) : Ev L 142 [.sl q (l.map encInt), .int .i64 (n : Int)] (.agg (eS (sysOf l n))) := by
  have hnn : n * n ≤ 4096 := Nat.mul_le_mul hn hn
  have hR := fun q => ev_Rats N l q (n * n + 2 * n + 1) hl (by omega)
  have hXl := ratsL_len l (n * n + 2 * n + 1)
  have hc1 : ((n * n + 2 * n + 1 : Nat) : Int) = (n : Int) * n + 2 * n + 1 := by simp
  rw [hc1] at hR
  have e1 : ((n : Int) * n).toNat = n * n := by rw [← Int.natCast_mul]; rfl
  have e2 : ((n : Int) * n + n).toNat = n * n + n := by rw [← Int.natCast_mul]; omega
  have e3 : ((n : Int) * n + 2 * n).toNat = n * n + 2 * n := by rw [← Int.natCast_mul]; omega
  unfold sysOf
  simp only []
  generalize ratsL l (n * n + 2 * n + 1) = X at *
  obtain ⟨d, hd0⟩ : ∃ d, X[n * n + 2 * n]? = some d := ⟨_, List.getElem?_eq_getElem (by omega)⟩
  have hd1 : X[((n : Int) * n + 2 * n).toNat]? = some d := by rw [e3]; exact hd0
  have hdD : X.getD (n * n + 2 * n) 0 = d := by rw [List.getD_eq_getElem?_getD, hd0]; rfl
  rw [hdD]
  refine Ev.x N.world_System rfl rfl ?_
  (repeat' (first | (refine OpP.add (by omega) ?_; conv => whnf) | (refine OpP.mul (by omega) ?_; conv => whnf) | (refine RdP.at (by assumption) (by omega) rfl ?_; conv => whnf) | (refine SlS.go (fun _ => rfl) (Bds.ss (by omega) ?_); conv => whnf) | (refine AKM.x ?_; conv => whnf) | (refine CallP.go (hR _) ?_; conv => whnf)))
  rw [e1, e2, e3]
  generalize (X.take (n * n + n)).drop (n * n) = B at *
  generalize (X.take (n * n + 2 * n)).drop (n * n + n) = C at *
  refine AKM.loop2 (fun i _ => n - i) (fun (i : Nat) (fl : Bool) => i ≤ n ∧ fl = decide (i = 0)) (fun i _ => [(7, .int .i64 i)]) (fun i fl => bif fl then [] else [(6, 6, .bx ([.row 1000 0 1 0 i, .sl false (B.map eQ), .sl false (C.map eQ)] ++ eQ d)), (1000, 68, .rw 1 ((rowsX X n i).map fun r => [AV.sl false (r.map eQ)]))]) [] [] 0 true (by (conv => whnf); exact ⟨rfl, rfl, rfl⟩) ⟨by omega, by simp⟩ ?_
  intro i fl ⟨p1, p2⟩ ih
  have hrl : (rowsX X n i).length = i := by simp [rowsX]
  by_cases hi : i < n
  · have h1 : i * n + n ≤ n * n := by
      have := Nat.mul_le_mul_right n (show i + 1 ≤ n by omega)
      rw [Nat.succ_mul] at this; exact this
    have f1 : ((i : Int) * n).toNat = i * n := by rw [← Int.natCast_mul]; rfl
    have f2 : ((i : Int) * n + n).toNat = i * n + n := by rw [← Int.natCast_mul]; omega
    have f3 : 0 ≤ (i : Int) * n := by rw [← Int.natCast_mul]; omega
    have f4 : (i : Int) * n + n ≤ X.length := by rw [← Int.natCast_mul]; omega
    have f5 : rowX X n i = (X.take (i * n + n)).drop (i * n) := rfl
    have hsucc := rowsX_succ X n i
    cases fl
    · have hi0 : i ≠ 0 := by simpa using p2.symm
      (repeat' (first | (refine CmpP.go (fun hc => ?_) (fun hc => ?_) <;> first | (exfalso; omega) | (conv => whnf)) | (refine OpP.add (by omega) ?_; conv => whnf) | (refine OpP.mul (by omega) ?_; conv => whnf) | (refine SlS.go (fun _ => rfl) (Bds.ss (by omega) ?_); conv => whnf) | (refine RowP.e1 ?_; conv => whnf) | (refine AKM.x ?_; conv => whnf)))
      rw [f1, f2, ← f5]
      refine AppR.one (l := rowsX X n i) (z := 1) (bytes := 24) (enc := fun r : List Rat => [AV.sl false (r.map eQ)]) (rowX X n i) rfl hrl.symm rfl (by omega) (by omega) ?_
      (conv => whnf)
      (repeat' (refine OpP.add (by omega) ?_; conv => whnf))
      rw [← hsucc, show (rowsX X n (i + 1)).length = i + 1 by simp [rowsX]]
      exact AKM.back [(1000, 68)] (by (conv => whnf); exact ⟨rfl, rfl, rfl⟩) (ih (i + 1) false (by omega) ⟨by omega, by simp⟩)
    · have hi0 : i = 0 := by simpa using p2.symm
      subst hi0
      (repeat' (first | (refine CmpP.go (fun hc => ?_) (fun hc => ?_) <;> first | (exfalso; omega) | (conv => whnf)) | (refine OpP.add (by omega) ?_; conv => whnf) | (refine OpP.mul (by omega) ?_; conv => whnf) | (refine SlS.go (fun _ => rfl) (Bds.ss (by omega) ?_); conv => whnf) | (refine RowP.e1 ?_; conv => whnf) | (refine AKM.x ?_; conv => whnf)))
      rw [f1, f2, ← f5]
      refine AppN.one (enc := fun r => [AV.sl false (r.map eQ)]) (rowX X n 0) rfl rfl (by omega) ?_
      (conv => whnf)
      (repeat' (refine OpP.add (by omega) ?_; conv => whnf))
      exact AKM.back [(1000, 68)] (by (conv => whnf); exact ⟨rfl, rfl, rfl⟩) (ih 1 false (by omega) ⟨by omega, by simp⟩)
  · obtain rfl : i = n := by omega
    clear ih
    cases fl
    · (repeat' (first | (refine CmpP.go (fun hc => ?_) (fun hc => ?_) <;> first | (exfalso; omega) | (conv => whnf)) | (refine AKM.x ?_; conv => whnf)))
      refine SnR.all (enc := fun r => [AV.sl false (r.map eQ)]) (fun _ => rfl) rfl hrl.symm ?_
      (conv => whnf)
      skip
      exact FinP.go rfl (cl_eS _)
    · have hi0 : i = 0 := by simpa using p2.symm
      subst hi0
      (repeat' (first | (refine CmpP.go (fun hc => ?_) (fun hc => ?_) <;> first | (exfalso; omega) | (conv => whnf)) | (refine AKM.x ?_; conv => whnf)))
      exact FinP.go rfl (cl_eS ⟨[], B, C, d⟩)
end Go.Eng

/-
  The law NetworkResponds.
-/
namespace Go.Eng
open F
attribute [local irreducible] AKM CmpP Req OpP UnP ConvP RdP LdR StR MkR LenP AppR AppN CpyR RowP SnR Bds SlS CallP CalP FinP pw LdM GetM SetM PutM MkM AppM SnM FlP
set_option maxHeartbeats 8000000
variable {L : Lib}
theorem rowX_len {X : List Rat} {n j : Nat} (h : j * n + n ≤ X.length) : (rowX X n j).length = n := by
  simp only [rowX, List.length_drop, List.length_take]; omega
theorem sysOf_ok (l : List Int) (n : Nat) : (sysOf l n).Ok n 4 := by
  have hX := ratsL_len l (n * n + 2 * n + 1)
  have hb := ratsL_bs l (n * n + 2 * n + 1)
  have mem : ∀ (i j : Nat) (x : Rat), x ∈ ((ratsL l (n * n + 2 * n + 1)).take j).drop i → Bt 4 x := fun i j x hx => hb x (List.mem_of_mem_take (List.mem_of_mem_drop hx))
  have hr : ∀ r ∈ rowsX (ratsL l (n * n + 2 * n + 1)) n n, ∃ j, j < n ∧ r = rowX (ratsL l (n * n + 2 * n + 1)) n j := fun r hr => by
    simp only [rowsX, List.mem_map, List.mem_range] at hr
    obtain ⟨j, h1, rfl⟩ := hr
    exact ⟨j, h1, rfl⟩
  refine ⟨by simp [sysOf, rowsX], ?_, ?_, ?_, ?_, fun x hx => mem _ _ x hx, fun x hx => mem _ _ x hx, ?_⟩
  · intro r h
    obtain ⟨j, h1, rfl⟩ := hr r h
    refine rowX_len ?_
    have := Nat.mul_le_mul_right n (show j + 1 ≤ n by omega)
    rw [Nat.succ_mul] at this
    omega
  · simp only [sysOf, List.length_drop, List.length_take]; omega
  · simp only [sysOf, List.length_drop, List.length_take]; omega
  · intro r h x hx
    obtain ⟨j, h1, rfl⟩ := hr r h
    exact mem _ _ x hx
  · show Bt 4 ((ratsL l (n * n + 2 * n + 1)).getD (n * n + 2 * n) 0)
    rw [List.getD_eq_getElem?_getD]
    cases e : (ratsL l (n * n + 2 * n + 1))[n * n + 2 * n]? with
    | none => exact Bt.zero 4
    | some x => exact hb.at e
theorem SysQ.Ok.le {S : SysQ} {n k j : Nat} (h : S.Ok n k) (hj : k ≤ j) : S.Ok n j := ⟨h.la, h.lr, h.lb, h.lc, fun r hr => (h.ba r hr).le hj, h.bb.le hj, h.bc.le hj, h.bd.le hj⟩
theorem SysQ.Ok.outs_bs {S : SysQ} {n k K : Nat} (h : S.Ok n k) : ∀ (xs now : List Rat) (s : Nat), now.length = n → Bs s now → Bs k xs → (∀ i, i ≤ xs.length → respK n k s i ≤ K) → Bs K (S.outs now xs) ∧ Bs K (S.state now xs)
  | [], now, s, _, hs, _, hK => ⟨fun x hx => by simp [SysQ.outs] at hx, hs.le (hK 0 (by simp))⟩
  | x :: xs, now, s, hl, hs, hx, hK => by
    obtain ⟨b1, b2⟩ := h.next_bs hl hs (hx x (by simp))
    obtain ⟨c1, c2⟩ := h.outs_bs xs (S.next now x) (stepK n k s) (h.next_len now x) b1 (fun z hz => hx z (by simp [hz])) (fun i hi => hK (i + 1) (by simp; omega))
    refine ⟨?_, c2⟩
    intro z hz
    simp only [SysQ.outs, List.mem_cons] at hz
    rcases hz with rfl | hz
    · exact b2.le (hK 1 (by simp))
    · exact c1 z hz
theorem addL_len {a b : List Rat} (h : a.length = b.length) : (addL a b).length = a.length := by simp [addL, h]
theorem addL_at {a b : List Rat} {i : Nat} {x y : Rat} (hx : a[i]? = some x) (hy : b[i]? = some y) : (addL a b)[i]? = some (x + y) := by simp [addL, List.getElem?_zipWith, hx, hy]
theorem addL_bs {a b : List Rat} {k l : Nat} (ha : Bs k a) (hb : Bs l b) : Bs (k + l + 1) (addL a b) := by
  intro z hz
  obtain ⟨i, hi⟩ := List.getElem?_of_mem hz
  simp only [addL, List.getElem?_zipWith] at hi
  split at hi
  · rename_i x y hx hy
    obtain rfl : x + y = z := by simpa using hi
    exact (ha.at hx).add (hb.at hy)
  · cases hi
theorem respK_small : ∀ n, n < 4 → ∀ s, s < 10 → ∀ i, i < 7 → respK n 9 s i ≤ 1000000 := by decide +kernel
theorem ev_law22_NetworkResponds (I : FixedLib L) (J : NetLib L) (W : WorldLib L) (A : SysGLib L) (T : RatsGLib L) (E : LawSLib L) (l : List Int) (size : Int) (s t x y : List Int) (h1 : ∀ v ∈ l, InI v) (h2 : InI size) (h3 : ∀ v ∈ s, InI v) (h4 : ∀ v ∈ t, InI v) (h5 : ∀ v ∈ x, InI v) (h6 : ∀ v ∈ y, InI v) (q0 q1 q2 q3 q4 : Bool) :
    Ev L 143 [.sl q0 (l.map encInt), .int .i64 size, .sl q1 (s.map encInt), .sl q2 (t.map encInt), .sl q3 (x.map encInt), .sl q4 (y.map encInt)] (.bool true) := by
  obtain ⟨g1, g2⟩ := with_range (v := size) (m := 4) (by omega)
  have hW := ev_world_Within W size 4 h2 (by omega)
  obtain ⟨n, hn⟩ := Int.eq_ofNat_of_zero_le g1
  rw [hn] at hW
  have hn4 : n < 4 := by omega
  have hS := fun q => ev_System T l q n h1 (by omega)
  have hok := (sysOf_ok l n).le (show 4 ≤ 9 by omega)
  have hRs := fun q => ev_Rats T s q n h3 (by omega)
  have hRt := fun q => ev_Rats T t q n h4 (by omega)
  have hRx : ∀ q, Ev L 141 [.sl q (x.map encInt), .int .i64 5] (.sl false ((ratsL x 5).map eQ)) := fun q => ev_Rats T x q 5 h5 (by omega)
  have hRy : ∀ q, Ev L 141 [.sl q (y.map encInt), .int .i64 5] (.sl false ((ratsL y 5).map eQ)) := fun q => ev_Rats T y q 5 h6 (by omega)
  have la := ratsL_len s n
  have lb := ratsL_len t n
  have lp := ratsL_len x 5
  have lq := ratsL_len y 5
  have ba := ratsL_bs s n
  have bb := ratsL_bs t n
  have bp := ratsL_bs x 5
  have bq := ratsL_bs y 5
  have hkn := ev_example I J
  generalize sysOf l n = S at *
  generalize ratsL s n = a at *
  generalize ratsL t n = b at *
  generalize ratsL x 5 = p at *
  generalize ratsL y 5 = q at *
  have lc := addL_len (a := a) (b := b) (by omega)
  have lr := addL_len (a := p) (b := q) (by omega)
  have bc := addL_bs ba bb
  have br := addL_bs bp bq
  have hK9 : ∀ i, i ≤ 5 → respK n 9 9 i ≤ 1000000 := fun i hi => respK_small n hn4 9 (by omega) i (by omega)
  have hK0 : ∀ i, i ≤ 6 → respK n 9 0 i ≤ 1000000 := fun i hi => respK_small n hn4 0 (by omega) i (by omega)
  have hadd := outs_add S hok p q a b la lb (by omega)
  have P1 := fun q' q'' => ev_Respond A S n 9 9 hok (by omega) a p q' q'' la (ba.le (by omega)) (bp.le (by omega)) (by omega) (fun i hi => by have := hK9 i (by omega); omega) (by omega) (by omega)
  have P2 := fun q' q'' => ev_Respond22 A S n 9 9 hok (by omega) a p q' q'' la (ba.le (by omega)) (bp.le (by omega)) (by omega) (fun i hi => by have := hK9 i (by omega); omega) (by omega) (by omega)
  have P3 := fun q' q'' => ev_Respond A S n 9 9 hok (by omega) b q q' q'' lb (bb.le (by omega)) (bq.le (by omega)) (by omega) (fun i hi => by have := hK9 i (by omega); omega) (by omega) (by omega)
  have P4 := fun q' q'' => ev_Respond A S n 9 9 hok (by omega) (addL a b) (addL p q) q' q'' (by omega) (bc.le (by omega)) (br.le (by omega)) (by omega) (fun i hi => by have := hK9 i (by omega); omega) (by omega) (by omega)
  have P5 : Ev L 134 [.agg (eS S), .int .i64 6] _ := ev_Impulse A S n 9 6 hok (by omega) (by omega) (fun i hi => by have := hK0 i (by omega); omega) (by omega)
  have P6 : Ev L 140 [.agg (eS S), .int .i64 6] _ := ev_Impulse22 A S n 9 6 hok (by omega) (by omega) (fun i hi => by have := hK0 i (by omega); omega) (by omega)
  obtain ⟨u1, u2⟩ := hok.outs_bs (K := 1000000) p a 9 la (ba.le (by omega)) (bp.le (by omega)) (fun i hi => hK9 i (by omega))
  obtain ⟨u3, u4⟩ := hok.outs_bs (K := 1000000) q b 9 lb (bb.le (by omega)) (bq.le (by omega)) (fun i hi => hK9 i (by omega))
  obtain ⟨u5, u6⟩ := hok.outs_bs (K := 1000000) (impL 6) (List.replicate n 0) 0 (by simp) (Bs.zeros _ _) (impL_bs _ _) (fun i hi => hK0 i (by rw [impL_len] at hi; omega))
  have lu := outs_len S p a
  have lv := outs_len S q b
  have lw := outs_len S (addL p q) (addL a b)
  have ls := hok.state_len p a la
  have li := outs_len S (impL 6) (List.replicate n 0)
  rw [impL_len] at li
  rw [hadd] at P4 lw
  have G1 := fun q1 q2 => ev_SameRats A.toRefGLib (S.outs a p) (S.outs a p) q1 q2 1000000 u1 u1 (by omega) (by omega)
  have G2 := fun q1 q2 => ev_SameRats A.toRefGLib (S.state a p) (S.state a p) q1 q2 1000000 u2 u2 (by omega) (by omega)
  have G3 := fun q1 q2 => ev_SameRats A.toRefGLib (S.outs (List.replicate n 0) (impL 6)) (S.outs (List.replicate n 0) (impL 6)) q1 q2 1000000 u5 u5 (by omega) (by omega)
  rw [decide_eq_true rfl] at G1 G2 G3
  generalize S.outs a p = U at *
  generalize S.outs b q = V at *
  generalize S.state a p = Z at *
  generalize S.state b q = Z2 at *
  generalize S.state (addL a b) (addL p q) = Z3 at *
  generalize S.outs (List.replicate n 0) (impL 6) = M at *
  refine Ev.x E.law22_NetworkResponds rfl rfl ?_
  (repeat' (first | (refine AKM.x ?_; conv => whnf) | (refine CallP.go (hW) ?_; conv => whnf) | (refine CallP.go (hS _) ?_; conv => whnf) | (refine CallP.go (hRs _) ?_; conv => whnf) | (refine CallP.go (hRt _) ?_; conv => whnf) | (refine CallP.go (hRx _) ?_; conv => whnf) | (refine CallP.go (hRy _) ?_; conv => whnf)))
  refine AKM.loop1 (fun i => n - i) (fun (i : Nat) => i ≤ n) (fun i => [(21, .int .i64 i), (19, .row 19 0 3 0 i)]) (fun i => [(19, 19, .rw 3 (((addL a b).take i).map eQ))]) [] [] 0 (by (conv => whnf); exact ⟨rfl, rfl, rfl⟩) (by omega) ?_
  intro i k1 ih
  by_cases hi : i < n
  · obtain ⟨v1, hv1⟩ : ∃ v, a[i]? = some v := ⟨_, List.getElem?_eq_getElem (by omega)⟩
    obtain ⟨v2, hv2⟩ : ∃ v, b[i]? = some v := ⟨_, List.getElem?_eq_getElem (by omega)⟩
    have hv1' : a[(i : Int).toNat]? = some v1 := hv1
    have hv2' : b[(i : Int).toNat]? = some v2 := hv2
    have hA := ev_add3 A.toRefGLib (ba.at hv1) (bb.at hv2) (by omega) (by omega)
    have hat := addL_at hv1 hv2
    have htl : ((addL a b).take i).length = i := by rw [List.length_take]; omega
    (repeat' (first | (refine CmpP.go (fun hc => ?_) (fun hc => ?_) <;> first | (exfalso; omega) | (conv => whnf)) | (refine RdP.at (by assumption) (by omega) rfl ?_; conv => whnf) | (refine RowP.e1 ?_; conv => whnf) | (refine AKM.x ?_; conv => whnf) | (refine CallP.go (hA) ?_; conv => whnf)))
    refine AppR.one (enc := eQ) (v1 + v2) rfl htl.symm rfl (by omega) (by omega) ?_
    (conv => whnf)
    (repeat' (refine OpP.add (by omega) ?_; conv => whnf))
    rw [← take_snoc' hat, show ((addL a b).take (i + 1)).length = i + 1 by rw [List.length_take]; omega]
    exact AKM.back [(19, 71)] (by (conv => whnf); exact ⟨rfl, rfl, rfl⟩) (ih (i + 1) (by omega) (by omega))
  obtain rfl : i = n := by omega
  clear ih
  rw [show (addL a b).take i = addL a b by rw [List.take_of_length_le (by omega)]]
  (repeat' (first | (refine CmpP.go (fun hc => ?_) (fun hc => ?_) <;> first | (exfalso; omega) | (conv => whnf)) | (refine AKM.x ?_; conv => whnf)))
  refine AKM.loop1 (fun i => 5 - i) (fun (i : Nat) => i ≤ 5) (fun i => [(22, .int .i64 i), (20, .row 20 0 3 0 i)]) (fun i => [(20, 20, .rw 3 (((addL p q).take i).map eQ))]) [] [] 0 (by (conv => whnf); exact ⟨rfl, rfl, rfl⟩) (by omega) ?_
  intro i k1 ih
  by_cases hi : i < 5
  · obtain ⟨v1, hv1⟩ : ∃ v, p[i]? = some v := ⟨_, List.getElem?_eq_getElem (by omega)⟩
    obtain ⟨v2, hv2⟩ : ∃ v, q[i]? = some v := ⟨_, List.getElem?_eq_getElem (by omega)⟩
    have hv1' : p[(i : Int).toNat]? = some v1 := hv1
    have hv2' : q[(i : Int).toNat]? = some v2 := hv2
    have hA := ev_add3 A.toRefGLib (bp.at hv1) (bq.at hv2) (by omega) (by omega)
    have hat := addL_at hv1 hv2
    have htl : ((addL p q).take i).length = i := by rw [List.length_take]; omega
    (repeat' (first | (refine CmpP.go (fun hc => ?_) (fun hc => ?_) <;> first | (exfalso; omega) | (conv => whnf)) | (refine RdP.at (by assumption) (by omega) rfl ?_; conv => whnf) | (refine RowP.e1 ?_; conv => whnf) | (refine AKM.x ?_; conv => whnf) | (refine CallP.go (hA) ?_; conv => whnf)))
    refine AppR.one (enc := eQ) (v1 + v2) rfl htl.symm rfl (by omega) (by omega) ?_
    (conv => whnf)
    (repeat' (refine OpP.add (by omega) ?_; conv => whnf))
    rw [← take_snoc' hat, show ((addL p q).take (i + 1)).length = i + 1 by rw [List.length_take]; omega]
    exact AKM.back [(20, 87)] (by (conv => whnf); exact ⟨rfl, rfl, rfl⟩) (ih (i + 1) (by omega) (by omega))
  obtain rfl : i = 5 := by omega
  clear ih
  rw [show (addL p q).take 5 = addL p q by rw [List.take_of_length_le (by omega)]]
  (repeat' (first | (refine CmpP.go (fun hc => ?_) (fun hc => ?_) <;> first | (exfalso; omega) | (conv => whnf)) | (refine AKM.x ?_; conv => whnf) | (refine CallP.go (P1 _ _) ?_; conv => whnf) | (refine CallP.go (P2 _ _) ?_; conv => whnf) | (refine CallP.go (P3 _ _) ?_; conv => whnf)))
  refine SnR.all (enc := eQ) (fun _ => rfl) rfl (by omega) ?_
  (conv => whnf)
  refine SnR.all (enc := eQ) (fun _ => rfl) rfl (by omega) ?_
  (conv => whnf)
  have lW := addL_len (a := U) (b := V) (by omega)
  (repeat' (first | (refine CmpP.go (fun hc => ?_) (fun hc => ?_) <;> first | (exfalso; omega) | (conv => whnf)) | (refine LenP.go ?_; conv => whnf) | (refine CallP.go (P4 _ _) ?_; conv => whnf) | (refine CallP.go (P5) ?_; conv => whnf) | (refine CallP.go (P6) ?_; conv => whnf)))
  refine AKM.loop1 (fun i => 5 - i) (fun (i : Nat) => i ≤ 5) (fun i => [(39, .int .i64 i)]) (fun _ => []) [] [] 0 (by (conv => whnf); exact ⟨rfl, rfl, rfl⟩) (by omega) ?_
  intro z k1 ih
  by_cases hz : z < 5
  · obtain ⟨v1, hv1⟩ : ∃ v, U[z]? = some v := ⟨_, List.getElem?_eq_getElem (by omega)⟩
    obtain ⟨v2, hv2⟩ : ∃ v, V[z]? = some v := ⟨_, List.getElem?_eq_getElem (by omega)⟩
    have hv1' : U[(z : Int).toNat]? = some v1 := hv1
    have hv2' : V[(z : Int).toNat]? = some v2 := hv2
    have hv3 : (addL U V)[(z : Int).toNat]? = some (v1 + v2) := addL_at hv1 hv2
    have b1 := u1.at hv1
    have b2 := u3.at hv2
    have hA := ev_add3 A.toRefGLib b1 b2 (by omega) (by omega)
    have hC3 := ev_cmp3 A.toRefGLib (b1.add b2) (b1.add b2) (by omega) (by omega)
    rw [sgn_sub.2 rfl] at hC3
    (repeat' (first | (refine CmpP.go (fun hc => ?_) (fun hc => ?_) <;> first | (exfalso; omega) | (conv => whnf)) | (refine OpP.add (by omega) ?_; conv => whnf) | (refine RdP.at (by assumption) (by omega) rfl ?_; conv => whnf) | (refine AKM.x ?_; conv => whnf) | (refine CallP.go (hA) ?_; conv => whnf) | (refine CallP.go (hC3) ?_; conv => whnf)))
    exact AKM.back [] (by (conv => whnf); exact ⟨rfl, rfl, rfl⟩) (ih (z + 1) (by omega) (by omega))
  obtain rfl : z = 5 := by omega
  clear ih
  (repeat' (first | (refine CmpP.go (fun hc => ?_) (fun hc => ?_) <;> first | (exfalso; omega) | (conv => whnf)) | (refine AKM.x ?_; conv => whnf) | (refine CallP.go (hkn) ?_; conv => whnf) | (refine CallP.go (G1 _ _) ?_; conv => whnf) | (refine CallP.go (G2 _ _) ?_; conv => whnf) | (refine CallP.go (G3 _ _) ?_; conv => whnf)))
  exact FinP.b rfl
end Go.Eng

/-
  Arguments of any type of integers, bools, slices and structs, opened: what they hold, as the abstract machine reads it.
-/
namespace Go.Eng
open Go.ChangeShapes Go.WideShapes Go.ChangeAt Go.RowKit

inductive Ty where
  | int (k : IntKind)
  | bool
  | sl (e : Ty)
  | nil
  | cons (a r : Ty)
def Ty.cells : Ty → Nat
  | .int _ => 1 | .bool => 1 | .sl _ => 1
  | .nil => 0
  | .cons a r => a.cells + r.cells
/-- cells of a type -/
def HasL : Ty → List AV → Prop
  | .int k, cs => ∃ n, cs = [.int k n] ∧ (Lit.int k n).wf = true
  | .bool, cs => ∃ b, cs = [.bool b]
  | .sl e, cs => ∃ es, cs = [.sl true es] ∧ es.length ≤ maxLen ∧ ∀ x ∈ es, HasL e x
  | .nil, cs => cs = []
  | .cons a r, cs => ∃ x y, cs = x ++ y ∧ HasL a x ∧ HasL r y
theorem HasL.len : ∀ {ty : Ty} {cs : List AV}, HasL ty cs → cs.length = ty.cells
  | .int _, cs, h => by obtain ⟨n, rfl, _⟩ := h; rfl
  | .bool, cs, h => by obtain ⟨n, rfl⟩ := h; rfl
  | .sl _, cs, h => by obtain ⟨n, rfl, _⟩ := h; rfl
  | .nil, cs, h => by rw [show cs = [] from h]; rfl
  | .cons a r, cs, h => by obtain ⟨x, y, rfl, h1, h2⟩ := h; simp [Ty.cells, HasL.len h1, HasL.len h2]

/-- as the program has it -/
def okTy (P : Program) : Nat → TypeId → Ty → Bool
  | 0, _, _ => false
  | n + 1, t, ty => match P.underlying t, ty with
    | some (.int k), .int k' => decide (k = k')
    | some .bool, .bool => true
    | some (.slice e), .sl ty' => okTy P n e ty' && (P.cellsOf e == ty'.cells && decide (0 < ty'.cells))
    | some (.struct fs), ty => go (okTy P n) fs.toList 0 ty && P.cellsOf t == ty.cells
    | _, _ => false
where
  go (ok : TypeId → Ty → Bool) : List Field → Nat → Ty → Bool
    | [], _, .nil => true
    | f :: fs, off, .cons a r => (f.offset == off && (ok f.type a && P.cellsOf f.type == a.cells)) && go ok fs (off + a.cells) r
    | _, _, _ => false

section
variable {H : Type} {enc : TypeId × Value → H} {P : Program} {w : World} {base : Nat} {spare : Nat → Bool} {held : Bool} {R : Bool → Nat → Prop}
def RdL (w : World) (R : Bool → Nat → Prop) (as : List AV) (cs : List Value) : Prop := as.length = cs.length ∧ ∀ (j : Nat) (a : AV) (c : Value), as[j]? = some a → cs[j]? = some c → Rd w R a c
theorem RdL.one {a : AV} {c : Value} (h : Rd w R a c) : RdL w R [a] [c] := by
  refine ⟨rfl, fun j a' c' h1 h2 => ?_⟩
  cases j with
  | zero => simp at h1 h2; subst h1 h2; exact h
  | succ j => simp at h1
theorem RdL.append {as bs : List AV} {cs ds : List Value} (h1 : RdL w R as cs) (h2 : RdL w R bs ds) : RdL w R (as ++ bs) (cs ++ ds) := by
  refine ⟨by simp [h1.1, h2.1], fun j a c ha hc => ?_⟩
  by_cases hj : j < as.length
  · rw [List.getElem?_append_left hj] at ha
    rw [List.getElem?_append_left (by rw [← h1.1]; exact hj)] at hc
    exact h1.2 j a c ha hc
  · rw [List.getElem?_append_right (by omega)] at ha
    rw [List.getElem?_append_right (by rw [← h1.1]; omega), ← h1.1] at hc
    exact h2.2 _ a c ha hc
theorem add_off (a : Addr) (i : Nat) (h : a.spot = none) : a.add i = ⟨a.block, a.off + i, none⟩ := by
  obtain ⟨b, o, s⟩ := a
  simp only at h
  subst h
  exact add_none b o i
theorem open_go (hR : ∀ b, b < w.heap.size → R true b) (m : Nat) (ih : ∀ (ty : Ty) (t : TypeId) (cs : List Value) (fuel : Nat) (x : DataW H × List MemPlace), okTy P m t ty = true → DataW.trod enc P w base spare held fuel t cs = some x → ∃ as, HasL ty as ∧ RdL w R as cs)
    (n : Nat) (cs : List Value) : ∀ (fs : List Field) (off : Nat) (ty : Ty), okTy.go P (okTy P m) fs off ty = true → (∀ f ∈ fs, ∃ y, DataW.trod enc P w base spare held n f.type ((cs.drop f.offset).take (P.cellsOf f.type)) = some y) → off + ty.cells = cs.length → ∃ as, HasL ty as ∧ RdL w R as (cs.drop off)
  | [], off, ty, hok, _, hl => by
    cases ty <;> simp only [okTy.go, Bool.false_eq_true] at hok
    simp only [Ty.cells] at hl
    exact ⟨[], rfl, by rw [List.drop_of_length_le (by omega)]; exact ⟨rfl, fun j a c h => by simp at h⟩⟩
  | f :: fs, off, ty, hok, hf, hl => by
    cases ty <;> simp only [okTy.go, Bool.false_eq_true, Bool.and_eq_true, beq_iff_eq] at hok
    rename_i a r
    obtain ⟨⟨h1, h2, h3⟩, h4⟩ := hok
    simp only [Ty.cells] at hl
    obtain ⟨y, hy⟩ := hf f List.mem_cons_self
    rw [h1, h3] at hy
    obtain ⟨as1, g1, g2⟩ := ih a f.type _ n y h2 hy
    obtain ⟨as2, g3, g4⟩ := open_go hR m ih n cs fs (off + a.cells) r h4 (fun f' h' => hf f' (List.mem_cons_of_mem _ h')) (by omega)
    refine ⟨as1 ++ as2, ⟨as1, as2, rfl, g1, g3⟩, ?_⟩
    have := g2.append g4
    rwa [show (cs.drop off).take a.cells ++ cs.drop (off + a.cells) = cs.drop off by rw [← List.drop_drop, List.take_append_drop]] at this
theorem open_any (hR : ∀ b, b < w.heap.size → R true b) : ∀ (m : Nat) (ty : Ty) (t : TypeId) (cs : List Value) (fuel : Nat) (x : DataW H × List MemPlace), okTy P m t ty = true → DataW.trod enc P w base spare held fuel t cs = some x → ∃ as, HasL ty as ∧ RdL w R as cs
  | 0, _, _, _, _, _, h, _ => by simp [okTy] at h
  | m + 1, ty, t, cs, fuel, x, hok, h => by
    have ih := open_any hR m
    simp only [okTy] at hok
    split at hok
    · rename_i k k' hu
      obtain rfl : k = k' := by simpa using hok
      obtain ⟨n, rfl, _, hw⟩ := DataW.trod_int hu h
      exact ⟨[.int k n], ⟨n, rfl, hw⟩, RdL.one (.int k n)⟩
    · rename_i hu
      cases fuel with
      | zero => simp [DataW.trod] at h
      | succ fuel =>
        unfold DataW.trod at h
        rw [hu] at h
        split at h <;> simp_all
        exact ⟨_, ⟨_, rfl⟩, RdL.one (.bool _)⟩
    · rename_i e ty' hu
      simp only [Bool.and_eq_true, beq_iff_eq, decide_eq_true_eq] at hok
      obtain ⟨h1, h2, h3⟩ := hok
      rcases DataW.trod_slice hu h with ⟨rfl, _⟩ | ⟨a, len, cap, elems, rest, n, _, rfl, _, hb, hl, hm, hlen, hel, _, _⟩
      · exact ⟨[.sl true []], ⟨[], rfl, by simp, by simp⟩, RdL.one (.sl0 true none 0)⟩
      · have each : ∀ i, i < len → ∃ as cs', HasL ty' as ∧ RdL w R as cs' ∧ cs'.length = ty'.cells ∧ ∀ j, j < ty'.cells → w.cell? ((a.add (i * ty'.cells)).add j) = cs'[j]? := by
          intro i hi
          have := hel i hi
          rw [h2, List.getElem?_eq_getElem (by omega), Option.bind_eq_some_iff] at this
          obtain ⟨cs', hc, ht⟩ := this
          obtain ⟨as, g1, g2⟩ := ih ty' e cs' n _ h1 ht
          obtain ⟨_, q1, q2⟩ := World.cells?_some hc
          exact ⟨as, cs', g1, g2, q1, q2⟩
        by_cases h0 : len = 0
        · subst h0
          exact ⟨[.sl true []], ⟨[], rfl, by simp, by simp⟩, RdL.one (.sl0 true (some a) cap)⟩
        · have hspot : a.spot = none := by
            obtain ⟨as, cs', _, _, q1, q2⟩ := each 0 (by omega)
            have := q2 0 h3
            rw [List.getElem?_eq_getElem (by omega)] at this
            simpa [Addr.add] using World.cell?_spot this
          have hblk : a.block < w.heap.size := by
            obtain ⟨as, cs', _, _, q1, q2⟩ := each 0 (by omega)
            have := q2 0 h3
            rw [List.getElem?_eq_getElem (by omega)] at this
            simpa [Addr.add] using cell_lt this
          have pick : ∃ f : Nat → List AV × List Value, ∀ i, i < len → HasL ty' (f i).1 ∧ RdL w R (f i).1 (f i).2 ∧ (f i).2.length = ty'.cells ∧ ∀ j, j < ty'.cells → w.cell? ((a.add (i * ty'.cells)).add j) = (f i).2[j]? := by
            refine ⟨fun i => if hi : i < len then (Classical.choose (each i hi), Classical.choose (Classical.choose_spec (each i hi))) else ([], []), fun i hi => ?_⟩
            simp only [hi, dif_pos]
            exact Classical.choose_spec (Classical.choose_spec (each i hi))
          obtain ⟨f, hf⟩ := pick
          have hget : ∀ i e', ((List.range len).map fun i => (f i).1)[i]? = some e' → i < len ∧ e' = (f i).1 := by
            intro i e' he
            rw [List.getElem?_map] at he
            by_cases hi : i < len
            · rw [List.getElem?_range hi] at he
              simp at he
              exact ⟨hi, he.symm⟩
            · rw [List.getElem?_eq_none (by simpa using hi)] at he
              cases he
          refine ⟨[.sl true ((List.range len).map fun i => (f i).1)], ⟨_, rfl, by simp; omega, fun x hx => ?_⟩, RdL.one ?_⟩
          · obtain ⟨i, hi, rfl⟩ := List.mem_map.1 hx
            exact (hf i (List.mem_range.1 hi)).1
          · obtain ⟨ab, ao, as⟩ := a
            simp only at hspot
            subst hspot
            have hlen' : ((List.range len).map fun i => (f i).1).length = len := by simp
            have := Rd.sl (w := w) (R := R) true ((List.range len).map fun i => (f i).1) ab ao ty'.cells cap (fun i j => ((f i).2[j]?).getD default) (by intro e; have := congrArg List.length e; simp at this; omega) h3 (hR ab hblk) (by rw [hlen']; exact hl)
              (fun e' he => by
                obtain ⟨i, hi, rfl⟩ := List.mem_map.1 he
                exact (hf i (List.mem_range.1 hi)).1.len)
              (fun i e' he j c hc => by
                obtain ⟨hi, rfl⟩ := hget i e' he
                obtain ⟨g1, g2, g3, g4⟩ := hf i hi
                have hj : j < ty'.cells := by
                  have := (List.getElem?_eq_some_iff.1 hc).1
                  rwa [g1.len] at this
                have h5 := g4 j hj
                rw [add_off ⟨ab, ao, none⟩ (i * ty'.cells) rfl, add_off _ _ rfl] at h5
                simp only at h5
                rw [show ao + (i * ty'.cells + j) = ao + i * ty'.cells + j by omega, h5, List.getElem?_eq_getElem (by omega)]
                rfl)
              (fun i e' he j c hc => by
                obtain ⟨hi, rfl⟩ := hget i e' he
                obtain ⟨g1, g2, g3, g4⟩ := hf i hi
                have hj : j < ty'.cells := by
                  have := (List.getElem?_eq_some_iff.1 hc).1
                  rwa [g1.len] at this
                have h6 : (f i).2[j]? = some ((f i).2[j]'(by omega)) := List.getElem?_eq_getElem _
                rw [h6]
                exact g2.2 j c _ hc h6)
            rwa [hlen'] at this
    · rename_i fs hu
      simp only [Bool.and_eq_true, beq_iff_eq] at hok
      obtain ⟨h1, h2⟩ := hok
      obtain ⟨xs, n, _, _, hl, hlen, hf⟩ := DataW.trod_struct hu h
      have := open_go hR m ih n cs fs.toList 0 _ h1 (fun f hf' => by
        obtain ⟨i, hi, rfl⟩ := List.getElem_of_mem hf'
        have h5 := hf i fs.toList[i] (by simp)
        rw [h5, List.getElem?_eq_getElem (by simpa [hlen] using hi)]
        exact ⟨_, rfl⟩) (by rw [hl, h2]; omega)
      simpa using this
    · exact absurd hok (by simp)
/-- one cell: a number, a bool, a slice -/
theorem open_cell {S : Nat → Prop} {ty : Ty} {t : TypeId} {v : Value} {d : DataW H} {ps : List MemPlace} {m : Nat} (hok : okTy P m t ty = true) (hv : v.cells.toList = [v]) (h : DataW.Trod enc P w base spare held t v d ps) :
    ∃ a, HasL ty [a] ∧ CA w.heap.size S ⟨fun _ _ => none, Own.emp, w⟩ a v := by
  obtain ⟨fuel, hf⟩ := h
  rw [hv] at hf
  obtain ⟨as, h1, h2⟩ := open_any (R := safe w.heap.size S ⟨fun _ _ => none, Own.emp, w⟩) (fun b hb => Or.inr (Or.inr ⟨rfl, hb⟩)) m ty t [v] fuel _ hok hf
  obtain ⟨a, rfl⟩ : ∃ a, as = [a] := by
    have := h2.1
    match as, this with
    | [a], _ => exact ⟨a, rfl⟩
  exact ⟨a, h1, .one (.rd (h2.2 0 a v rfl rfl))⟩
/-- a struct -/
theorem open_st {S : Nat → Prop} {ty : Ty} {t : TypeId} {cs : Array Value} {d : DataW H} {ps : List MemPlace} {m : Nat} (hok : okTy P m t ty = true) (h : DataW.Trod enc P w base spare held t (.agg cs) d ps) :
    ∃ as, HasL ty as ∧ CA w.heap.size S ⟨fun _ _ => none, Own.emp, w⟩ (.agg as) (.agg cs) := by
  obtain ⟨fuel, hf⟩ := h
  obtain ⟨as, h1, h2⟩ := open_any (R := safe w.heap.size S ⟨fun _ _ => none, Own.emp, w⟩) (fun b hb => Or.inr (Or.inr ⟨rfl, hb⟩)) m ty t cs.toList fuel _ hok hf
  refine ⟨as, h1, ?_⟩
  have := CA.agg (B := w.heap.size) (S := S) (m := ⟨fun _ _ => none, Own.emp, w⟩) as cs.toList ⟨h2.1, fun j c v hc hv => .rd (h2.2 j c v hc hv)⟩
  simpa using this
end
/-- a list of what is encoded -/
theorem list_of {α : Type} {enc : α → List AV} : ∀ {es : List (List AV)}, (∀ x ∈ es, ∃ y, x = enc y) → ∃ l : List α, es = l.map enc
  | [], _ => ⟨[], rfl⟩
  | e :: r, h => by
    obtain ⟨y, rfl⟩ := h e List.mem_cons_self
    obtain ⟨l, rfl⟩ := list_of fun x hx => h x (List.mem_cons_of_mem _ hx)
    exact ⟨y :: l, rfl⟩
theorem args_nil {B : Nat} {S : Nat → Prop} {m : M} : ∀ (j : Nat) (c : AV) (v : Value), ([] : List AV)[j]? = some c → ([] : List Value)[j]? = some v → CA B S m c v := fun j c v h => by simp at h
theorem args_cons {B : Nat} {S : Nat → Prop} {m : M} {a : AV} {u : Value} {as : List AV} {us : List Value} (h : CA B S m a u) (hr : ∀ (j : Nat) (c : AV) (v : Value), as[j]? = some c → us[j]? = some v → CA B S m c v) :
    ∀ (j : Nat) (c : AV) (v : Value), (a :: as)[j]? = some c → (u :: us)[j]? = some v → CA B S m c v
  | 0, c, v, h1, h2 => by simp at h1 h2; subst h1 h2; exact h
  | j + 1, c, v, h1, h2 => hr j c v (by simpa using h1) (by simpa using h2)
/-! typed data -/
theorem has_int {k : IntKind} {cs : List AV} (h : HasL (.int k) cs) : ∃ n, cs = [.int k n] ∧ (Lit.int k n).wf = true := h
theorem has_bool {cs : List AV} (h : HasL .bool cs) : ∃ b, cs = [.bool b] := h
theorem has_sl {α : Type} {enc : α → List AV} {e : Ty} {cs : List AV} (he : ∀ x, HasL e x → ∃ y, x = enc y) (h : HasL (.sl e) cs) : ∃ l : List α, cs = [.sl true (l.map enc)] ∧ l.length < 9223372036854775808 := by
  obtain ⟨es, rfl, hl, hx⟩ := h
  obtain ⟨l, rfl⟩ := list_of (enc := enc) fun x hm => he x (hx x hm)
  refine ⟨l, rfl, ?_⟩
  have : maxLen = 9223372036854775807 := rfl
  simp at hl
  omega
/-- the law, called -/
theorem law_calls {P : Program} {num : Nat → Nat} {L : Lib} (hP : ProgOK P num L) {f : Nat} {vs : List AV} (h : Ev L f vs (.bool true)) {S : Nat → Prop} {w : World} {us : List Value} (hl : vs.length = us.length)
    (ha : ∀ (j : Nat) (c : AV) (v : Value), vs[j]? = some c → us[j]? = some v → CA w.heap.size S ⟨fun _ _ => none, Own.emp, w⟩ c v) :
    Calls P (num f) us.toArray w fun e w' => e = .returned (.bool true) ∧ Below w.heap.size w w' := by
  obtain ⟨n, hn⟩ := h
  refine ((calls_ok hP n).pure f vs _ hn S w us hl ha).mono ?_
  rintro e w' ⟨u, rfl, hb, hcv, _⟩
  refine ⟨?_, hb⟩
  cases hcv with
  | ca hca => cases hca with
    | one hcc => cases hcc with
      | rd hrd => cases hrd; rfl
end Go.Eng

/-
  Arguments of the laws, as typed data.
-/
namespace Go.Eng
abbrev tI : Ty := .int .i64
abbrev tW : Ty := .cons tI (.cons tI (.cons tI (.cons tI .nil)))
abbrev tT : Ty := .cons tI (.cons tI .nil)
abbrev tNd : Ty := .cons (.sl tT) .nil
abbrev tN : Ty := .cons tW (.cons tW (.cons tI (.cons (.sl tNd) (.cons (.sl tI) (.cons tI .nil)))))
theorem has_i {cs : List AV} (h : HasL tI cs) : ∃ n, cs = encInt n := by obtain ⟨n, rfl, _⟩ := h; exact ⟨n, rfl⟩
theorem has_ints {cs : List AV} (h : HasL (.sl tI) cs) : ∃ l : List Int, cs = [.sl true (l.map encInt)] ∧ l.length < 9223372036854775808 := has_sl (fun _ => has_i) h
theorem has_w {cs : List AV} (h : HasL tW cs) : ∃ w : Wd, cs = encW w := by
  obtain ⟨_, _, rfl, ⟨a, rfl, _⟩, _, _, rfl, ⟨b, rfl, _⟩, _, _, rfl, ⟨c, rfl, _⟩, _, _, rfl, ⟨d, rfl, _⟩, rfl⟩ := h
  exact ⟨⟨a, b, c, d⟩, rfl⟩
theorem has_t {cs : List AV} (h : HasL tT cs) : ∃ t : Int × Int, cs = encT t := by
  obtain ⟨_, _, rfl, ⟨a, rfl, _⟩, _, _, rfl, ⟨b, rfl, _⟩, rfl⟩ := h
  exact ⟨(a, b), rfl⟩
theorem has_nd {cs : List AV} (h : HasL tNd cs) : ∃ n : Nd, cs = encNd n := by
  obtain ⟨_, _, rfl, hs, rfl⟩ := h
  obtain ⟨l, rfl, _⟩ := has_sl (enc := encT) (fun _ => has_t) hs
  exact ⟨⟨true, l⟩, rfl⟩
theorem has_net {cs : List AV} (h : HasL tN cs) : ∃ n : Nt, cs = encN n ∧ n.nodes.length < 9223372036854775808 ∧ n.next.length < 9223372036854775808 := by
  obtain ⟨_, _, rfl, h1, _, _, rfl, h2, _, _, rfl, ⟨s, rfl, _⟩, _, _, rfl, h3, _, _, rfl, h4, _, _, rfl, ⟨o, rfl, _⟩, rfl⟩ := h
  obtain ⟨w1, rfl⟩ := has_w h1
  obtain ⟨w2, rfl⟩ := has_w h2
  obtain ⟨nodes, rfl, l1⟩ := has_sl (enc := encNd) (fun _ => has_nd) h3
  obtain ⟨next, rfl, l2⟩ := has_ints h4
  exact ⟨⟨w1, w2, s, true, nodes, true, next, o⟩, rfl, l1, l2⟩
end Go.Eng

/-
  Arguments of the laws: numbers and lists of numbers, with their ranges.
-/
namespace Go.Eng
theorem list_ofR {α : Type} {enc : α → List AV} {p : α → Prop} : ∀ {es : List (List AV)}, (∀ x ∈ es, ∃ y, x = enc y ∧ p y) → ∃ l : List α, es = l.map enc ∧ ∀ y ∈ l, p y
  | [], _ => ⟨[], rfl, by simp⟩
  | e :: es, h => by
    obtain ⟨y, rfl, hy⟩ := h e List.mem_cons_self
    obtain ⟨l, rfl, hl⟩ := list_ofR (enc := enc) (p := p) fun x hx => h x (List.mem_cons_of_mem _ hx)
    exact ⟨y :: l, rfl, by simpa using ⟨hy, hl⟩⟩
theorem has_slR {α : Type} {enc : α → List AV} {p : α → Prop} {e : Ty} {cs : List AV} (he : ∀ x, HasL e x → ∃ y, x = enc y ∧ p y) (h : HasL (.sl e) cs) : ∃ l : List α, cs = [.sl true (l.map enc)] ∧ l.length < 9223372036854775808 ∧ ∀ y ∈ l, p y := by
  obtain ⟨es, rfl, hl, hx⟩ := h
  obtain ⟨l, rfl, hp⟩ := list_ofR (enc := enc) (p := p) fun x hm => he x (hx x hm)
  refine ⟨l, rfl, ?_, hp⟩
  have : maxLen = 9223372036854775807 := rfl
  simp at hl
  omega
theorem wf_InR {n : Int} (h : (Lit.int .i64 n).wf = true) : InI n := by
  simp only [Lit.wf, Bool.and_eq_true, decide_eq_true_eq] at h
  have h1 : IntKind.i64.min = -9223372036854775808 := rfl
  have h2 : IntKind.i64.max = 9223372036854775807 := rfl
  rw [h1, h2] at h
  unfold InI
  constructor <;> omega
theorem has_iR {cs : List AV} (h : HasL tI cs) : ∃ n, cs = encInt n ∧ InI n := by obtain ⟨n, rfl, hw⟩ := h; exact ⟨n, rfl, wf_InR hw⟩
theorem has_intsR {cs : List AV} (h : HasL (.sl tI) cs) : ∃ l : List Int, cs = [.sl true (l.map encInt)] ∧ l.length < 9223372036854775808 ∧ ∀ v ∈ l, InI v := has_slR (fun _ => has_iR) h
end Go.Eng
