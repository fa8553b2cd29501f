/-
  The references of integers (ref02).
-/
import Derived.Test.YtdehnieflanifaaGreatB10
import Derived.Test.YtdehnieflanifaaGreatB9
import Derived.Test.YtdehnieflanifaaGreatB8
import Derived.Test.YtdehnieflanifaaGreatB1
import Derived.Test.YtdehnieflanifaaGreatB4
import Derived.Test.YtdehnieflanifaaGreatB7
set_option linter.unusedSimpArgs false
set_option linter.unusedVariables false
set_option linter.unnecessarySimpa false
namespace Go.Eng
open F
attribute [local irreducible] AKM CmpP Req OpP UnP ConvP RdP LdR StR MkR LenP AppR AppN CpyR RowP SnR Bds SlS CallP CalP FinP pw LdM GetM SetM PutM MkM AppM SnM FlP CallR
set_option maxHeartbeats 4000000
variable {L : Lib}
theorem ev_r2_Trim (N : RefGLib L) (n q : Bool) (m : List Nat) (hm : Sm 274877906944 m) : Ev L 111 [.agg (rZ q n m)] (.agg (eZ (zv n m))) := by
 have hT := fun q => ev_r1_Trim N m q hm.1 (by have := hm.2; omega)
 have hz := dg_len0 (val m)
 have ha := zv_abs n m
 refine Ev.x N.ref02_Trim rfl rfl ?_
 cases n
 ·rw [zv_F] at *
  (repeat' (first | (refine AKM.x ?_; conv => whnf) | (refine CallP.go (hT _) ?_; conv => whnf)))
  exact FinP.go (agg_eZ ha.symm (sgn_F (by omega))) (cl_eZ _)
 ·rw [zv_T] at *
  (repeat' (first | (refine CmpP.go (fun hc => ?_) (fun hc => ?_) <;> first | (exfalso; omega) | (conv => whnf)) | (refine LenP.go ?_; conv => whnf) | (refine AKM.x ?_; conv => whnf) | (refine CallP.go (hT _) ?_; conv => whnf)))
  ·exact FinP.go (agg_eZ ha.symm (sgn_T (by omega))) (cl_eZ _)
  ·exact FinP.go (agg_eZ ha.symm (sgn_F (by omega))) (cl_eZ _)
theorem ev_r2_Sign (N : RefGLib L) (n q : Bool) (m : List Nat) (hm : Sm 274877906944 m) : Ev L 113 [.agg (rZ q n m)] (.int .i64 (sgn (zv n m))) := by
 have hT := fun q => ev_r2_Trim N n q m hm
 generalize zv n m = z at *
 have hz := dg_len0 z.natAbs
 refine Ev.x N.ref02_Sign rfl rfl ?_
 (repeat' (first | (refine CmpP.go (fun hc => ?_) (fun hc => ?_) <;> first | (exfalso; omega) | (conv => whnf)) | (refine LenP.go ?_; conv => whnf) | (refine AKM.x ?_; conv => whnf) | (refine CallP.go (hT _) ?_; conv => whnf)))
 ·exact FinP.i (sgn_zero (by omega))
 ·cases hd : decide (z < 0)
  ·(conv => whnf)
   exact FinP.i (sgn_pos (by have := of_decide_eq_false hd; omega))
  ·(conv => whnf)
   exact FinP.i (sgn_neg (of_decide_eq_true hd))
theorem ev_r2_Neg (N : RefGLib L) (n q : Bool) (m : List Nat) (hm : Sm 274877906944 m) : Ev L 114 [.agg (rZ q n m)] (.agg (eZ (-(zv n m)))) := by
 have hT := fun q => ev_r2_Trim N n q m hm
 generalize zv n m = z at *
 have hz := dg_len0 z.natAbs
 refine Ev.x N.ref02_Neg rfl rfl ?_
 (repeat' (first | (refine AKM.x ?_; conv => whnf) | (refine CallP.go (hT _) ?_; conv => whnf)))
 cases hd : decide (z < 0)
 ·have h1 := of_decide_eq_false hd
  (conv => whnf)
  (repeat' (first | (refine CmpP.go (fun hc => ?_) (fun hc => ?_) <;> first | (exfalso; omega) | (conv => whnf)) | (refine LenP.go ?_; conv => whnf)))
  ·exact FinP.go (agg_eZ (by omega) (sgn_T (by omega))) (cl_eZ _)
  ·exact FinP.go (agg_eZ (by omega) (sgn_F (by omega))) (cl_eZ _)
 ·have h1 := of_decide_eq_true hd
  (conv => whnf)
  skip
  exact FinP.go (agg_eZ (by omega) (sgn_F (by omega))) (cl_eZ _)
theorem ev_r2_Mul (N : RefGLib L) (n1 n2 q1 q2 : Bool) (a b : List Nat) (ha : Dig a) (hb : Dig b) (hl : a.length + b.length ≤ 274877906944) : Ev L 118 [.agg (rZ q1 n1 a), .agg (rZ q2 n2 b)] (.agg (eZ (zv n1 a * zv n2 b))) := by
 have h1 := fun q q' => ev_r1_Mul N a b q q' ha hb (by omega)
 have sa : Sm a.length a := ⟨ha, Nat.le_refl _⟩
 have sb : Sm b.length b := ⟨hb, Nat.le_refl _⟩
 have hT := fun n q => ev_r2_Trim N n q (dg (val a * val b)) ((sa.mul sb rfl).le hl)
 have e : ∀ n, zv n (dg (val a * val b)) = bif n then -((val a * val b : Nat) : Int) else ((val a * val b : Nat) : Int) := fun n => by unfold zv; rw [val_dg]
 have e2 : zv n1 a * zv n2 b = zv (n1 != n2) (dg (val a * val b)) := by
  rw [e]
  cases n1 <;> cases n2 <;> simp [zv_F, zv_T, Int.mul_neg, Int.neg_mul]
 rw [e2]
 refine Ev.x N.ref02_Mul rfl rfl ?_
 cases n1 <;> cases n2
 all_goals
  (repeat' (first | (refine AKM.x ?_; conv => whnf) | (refine CallP.go (h1 _ _) ?_; conv => whnf) | (refine CallP.go (hT _ _) ?_; conv => whnf)))
  exact FinP.go rfl (cl_eZ _)
theorem ev_r2_Add (N : RefGLib L) (n1 n2 q1 q2 : Bool) (a b : List Nat) (ha : Sm 274877906943 a) (hb : Sm 274877906943 b) : Ev L 115 [.agg (rZ q1 n1 a), .agg (rZ q2 n2 b)] (.agg (eZ (zv n1 a + zv n2 b))) := by
 have t1 := fun q => ev_r2_Trim N n1 q a (ha.le (by omega))
 have t2 := fun q => ev_r2_Trim N n2 q b (hb.le (by omega))
 have s1 : Sm 274877906943 (dg (zv n1 a).natAbs) := by rw [zv_abs]; exact ha.nrm
 have s2 : Sm 274877906943 (dg (zv n2 b).natAbs) := by rw [zv_abs]; exact hb.nrm
 generalize zv n1 a = x at *
 generalize zv n2 b = y at *
 have h1 := fun q q' => ev_r1_Add N (dg x.natAbs) (dg y.natAbs) q q' s1.1 s2.1 (by have := s1.2; omega) (by have := s2.2; omega)
 have h2 := fun q q' => ev_r1_Sub N (dg x.natAbs) (dg y.natAbs) q q' s1.1 s2.1 (by have := s1.2; omega) (by have := s2.2; omega)
 have h3 := fun q q' => ev_r1_Sub N (dg y.natAbs) (dg x.natAbs) q q' s2.1 s1.1 (by have := s2.2; omega) (by have := s1.2; omega)
 have hcmp := fun q q' => ev_r1_Compare N (dg x.natAbs) (dg y.natAbs) q q' s1.1 s2.1 (by have := s1.2; omega) (by have := s2.2; omega)
 rw [val_dg, val_dg] at h1 h2 h3 hcmp
 have u1 := fun n q => ev_r2_Trim N n q (dg (x.natAbs + y.natAbs)) (s1.add s2 (by rw [val_dg, val_dg]; omega))
 have u2 := fun n q => ev_r2_Trim N n q (dg (x.natAbs - y.natAbs)) ((s1.low (V := x.natAbs - y.natAbs) (by rw [val_dg]; omega)).le (by omega))
 have u3 := fun n q => ev_r2_Trim N n q (dg (y.natAbs - x.natAbs)) ((s2.low (V := y.natAbs - x.natAbs) (by rw [val_dg]; omega)).le (by omega))
 have e : ∀ n V, zv n (dg V) = bif n then -(V : Int) else (V : Int) := fun n V => by unfold zv; rw [val_dg]
 refine Ev.x N.ref02_Add rfl rfl ?_
 (repeat' (first | (refine AKM.x ?_; conv => whnf) | (refine CallP.go (t1 _) ?_; conv => whnf) | (refine CallP.go (t2 _) ?_; conv => whnf)))
 cases hx : decide (x < 0) <;> cases hy : decide (y < 0)
 ·have g1 := of_decide_eq_false hx
  have g2 := of_decide_eq_false hy
  have hz : x + y = zv false (dg (x.natAbs + y.natAbs)) := by rw [e]; simp only [cond_true, cond_false]; omega
  rw [hz]
  (conv => whnf)
  (repeat' (first | (refine CallP.go (h1 _ _) ?_; conv => whnf) | (refine CallP.go (u1 _ _) ?_; conv => whnf)))
  exact FinP.go rfl (cl_eZ _)
 ·have g1 := of_decide_eq_false hx
  have g2 := of_decide_eq_true hy
  by_cases hlt : x.natAbs < y.natAbs
  ·have hz : x + y = zv true (dg (y.natAbs - x.natAbs)) := by rw [e]; simp only [cond_true, cond_false]; omega
   rw [hz]
   rw [← cmpS_lt (by omega)] at hcmp
   (conv => whnf)
   (repeat' (first | (refine CmpP.go (fun hc => ?_) (fun hc => ?_) <;> first | (exfalso; omega) | (conv => whnf)) | (refine CallP.go (hcmp _ _) ?_; conv => whnf) | (refine CallP.go (h3 _ _) ?_; conv => whnf) | (refine CallP.go (u3 _ _) ?_; conv => whnf)))
   exact FinP.go rfl (cl_eZ _)
  ·have hz : x + y = zv false (dg (x.natAbs - y.natAbs)) := by rw [e]; simp only [cond_true, cond_false]; omega
   rw [hz]
   have hge := cmpS_ge (show y.natAbs ≤ x.natAbs by omega)
   generalize cmpS (x.natAbs : Nat) (y.natAbs : Nat) = cm at *
   (conv => whnf)
   (repeat' (first | (refine CmpP.go (fun hc => ?_) (fun hc => ?_) <;> first | (exfalso; omega) | (conv => whnf)) | (refine CallP.go (hcmp _ _) ?_; conv => whnf) | (refine CallP.go (h2 _ _) ?_; conv => whnf) | (refine CallP.go (u2 _ _) ?_; conv => whnf)))
   exact FinP.go rfl (cl_eZ _)
 ·have g1 := of_decide_eq_true hx
  have g2 := of_decide_eq_false hy
  by_cases hlt : x.natAbs < y.natAbs
  ·have hz : x + y = zv false (dg (y.natAbs - x.natAbs)) := by rw [e]; simp only [cond_true, cond_false]; omega
   rw [hz]
   rw [← cmpS_lt (by omega)] at hcmp
   (conv => whnf)
   (repeat' (first | (refine CmpP.go (fun hc => ?_) (fun hc => ?_) <;> first | (exfalso; omega) | (conv => whnf)) | (refine CallP.go (hcmp _ _) ?_; conv => whnf) | (refine CallP.go (h3 _ _) ?_; conv => whnf) | (refine CallP.go (u3 _ _) ?_; conv => whnf)))
   exact FinP.go rfl (cl_eZ _)
  ·have hz : x + y = zv true (dg (x.natAbs - y.natAbs)) := by rw [e]; simp only [cond_true, cond_false]; omega
   rw [hz]
   have hge := cmpS_ge (show y.natAbs ≤ x.natAbs by omega)
   generalize cmpS (x.natAbs : Nat) (y.natAbs : Nat) = cm at *
   (conv => whnf)
   (repeat' (first | (refine CmpP.go (fun hc => ?_) (fun hc => ?_) <;> first | (exfalso; omega) | (conv => whnf)) | (refine CallP.go (hcmp _ _) ?_; conv => whnf) | (refine CallP.go (h2 _ _) ?_; conv => whnf) | (refine CallP.go (u2 _ _) ?_; conv => whnf)))
   exact FinP.go rfl (cl_eZ _)
 ·have g1 := of_decide_eq_true hx
  have g2 := of_decide_eq_true hy
  have hz : x + y = zv true (dg (x.natAbs + y.natAbs)) := by rw [e]; simp only [cond_true, cond_false]; omega
  rw [hz]
  (conv => whnf)
  (repeat' (first | (refine CallP.go (h1 _ _) ?_; conv => whnf) | (refine CallP.go (u1 _ _) ?_; conv => whnf)))
  exact FinP.go rfl (cl_eZ _)
theorem ev_r2_Sub (N : RefGLib L) (n1 n2 q1 q2 : Bool) (a b : List Nat) (ha : Sm 274877906943 a) (hb : Sm 274877906943 b) : Ev L 116 [.agg (rZ q1 n1 a), .agg (rZ q2 n2 b)] (.agg (eZ (zv n1 a - zv n2 b))) := by
 have t2 := fun q => ev_r2_Neg N n2 q b (hb.le (by omega))
 have s2 : Sm 274877906943 (dg (-(zv n2 b)).natAbs) := by rw [Int.natAbs_neg, zv_abs]; exact hb.nrm
 have h1 := fun q q' => ev_r2_Add N n1 (decide (-(zv n2 b) < 0)) q q' a (dg (-(zv n2 b)).natAbs) ha s2
 rw [zv_of, ← Int.sub_eq_add_neg] at h1
 refine Ev.x N.ref02_Sub rfl rfl ?_
 (repeat' (first | (refine AKM.x ?_; conv => whnf) | (refine CallP.go (t2 _) ?_; conv => whnf) | (refine CallP.go (h1 _ _) ?_; conv => whnf)))
 exact FinP.go rfl (cl_eZ _)
theorem ev_r2_Compare (N : RefGLib L) (n1 n2 q1 q2 : Bool) (a b : List Nat) (ha : Sm 274877906943 a) (hb : Sm 274877906943 b) : Ev L 117 [.agg (rZ q1 n1 a), .agg (rZ q2 n2 b)] (.int .i64 (sgn (zv n1 a - zv n2 b))) := by
 have h1 := fun q q' => ev_r2_Sub N n1 n2 q q' a b ha hb
 have s1 : Sm 274877906943 (dg (zv n1 a).natAbs) := by rw [zv_abs]; exact ha.nrm
 have s2 : Sm 274877906943 (dg (zv n2 b).natAbs) := by rw [zv_abs]; exact hb.nrm
 have s3 : Sm 274877906944 (dg (zv n1 a - zv n2 b).natAbs) := s1.add s2 (by rw [val_dg, val_dg]; omega)
 have h2 := fun q => ev_r2_Sign N (decide (zv n1 a - zv n2 b < 0)) q (dg (zv n1 a - zv n2 b).natAbs) s3
 rw [zv_of] at h2
 refine Ev.x N.ref02_Compare rfl rfl ?_
 (repeat' (first | (refine AKM.x ?_; conv => whnf) | (refine CallP.go (h1 _ _) ?_; conv => whnf) | (refine CallP.go (h2 _) ?_; conv => whnf)))
 exact FinP.i rfl
theorem ev_r2_Of (N : RefGLib L) (z : Int) (hz : -9223372036854775808 ≤ z ∧ z ≤ 9223372036854775807) : Ev L 112 [.int .i64 z] (.agg (eZ z)) := by
 have two : ∀ k : Nat, k < 18446744073709551616 → ∀ n q, Ev L 111 [.agg [.bool n, .sl q [[.int .u32 ((k % 4294967296 : Nat) : Int)], [.int .u32 ((k / 4294967296 : Nat) : Int)]]]] (.agg (eZ (bif n then -(k : Int) else (k : Int)))) := fun k hk n q => by
  have := ev_r2_Trim N n q [k % 4294967296, k / 4294967296] ⟨(dg2 hk).2, by simp⟩
  unfold zv at this
  rw [val_two hk] at this
  exact this
 refine Ev.x N.ref02_Of rfl rfl ?_
 by_cases h0 : 0 ≤ z
 ·obtain ⟨k, rfl⟩ := Int.eq_ofNat_of_zero_le h0
  have hT := two k (by omega)
  (repeat' (first | (refine CmpP.go (fun hc => ?_) (fun hc => ?_) <;> first | (exfalso; omega) | (conv => whnf)) | (refine OpP.nshr32 ?_; conv => whnf) | (refine ConvP.u64 (by omega) ?_; conv => whnf) | (refine ConvP.n32i (by omega) ?_; conv => whnf) | (refine ConvP.n32 ?_; conv => whnf) | (refine SnR.e2 rfl rfl ?_; conv => whnf) | (refine AKM.x ?_; conv => whnf)))
  generalize k % 4294967296 = lo at *
  generalize k / 4294967296 = hi at *
  (repeat' (refine CallP.go (hT _ _) ?_; conv => whnf))
  exact FinP.go rfl (cl_eZ _)
 ·obtain ⟨k, hk⟩ := Int.eq_ofNat_of_zero_le (show 0 ≤ -(z + 1) by omega)
  have hz2 : z = -((k + 1 : Nat) : Int) := by omega
  have hT := two (k + 1) (by omega)
  (repeat' (first | (refine CmpP.go (fun hc => ?_) (fun hc => ?_) <;> first | (exfalso; omega) | (conv => whnf)) | (refine OpP.add (by omega) ?_; conv => whnf) | (refine OpP.wadd ?_; conv => whnf) | (refine UnP.neg (by omega) ?_; conv => whnf) | (refine ConvP.u64 (by omega) ?_; conv => whnf) | (refine AKM.x ?_; conv => whnf)))
  rw [show IntKind.u64.wrap (-(z + 1) + 1) = ((k + 1 : Nat) : Int) by rw [IntWalk.u64_in _ (by omega)]; omega]
  rw [hz2]
  generalize k + 1 = k1 at *
  (repeat' (first | (refine OpP.nshr32 ?_; conv => whnf) | (refine ConvP.n32i (by omega) ?_; conv => whnf) | (refine ConvP.n32 ?_; conv => whnf) | (refine SnR.e2 rfl rfl ?_; conv => whnf)))
  generalize k1 % 4294967296 = lo at *
  generalize k1 / 4294967296 = hi at *
  (repeat' (refine CallP.go (hT _ _) ?_; conv => whnf))
  exact FinP.go rfl (cl_eZ _)
theorem ev_r2_Gcd (N : RefGLib L) (n1 n2 q1 q2 : Bool) (a b : List Nat) (ha : Sm 274877906944 a) (hb : Sm 274877906944 b) : Ev L 120 [.agg (rZ q1 n1 a), .agg (rZ q2 n2 b)] (.agg (eZ ((Nat.gcd (val a) (val b) : Nat) : Int))) := by
 have h1 := fun q q' => ev_r1_Gcd N a b q q' ha.1 hb.1 ha.2 hb.2
 refine Ev.x N.ref02_Gcd rfl rfl ?_
 (repeat' (first | (refine AKM.x ?_; conv => whnf) | (refine CallP.go (h1 _ _) ?_; conv => whnf)))
 exact FinP.go (agg_eZ (by omega) (sgn_F (by omega))) (cl_eZ _)
theorem ediv_cases (n1 n2 : Bool) (A B : Nat) (hB : B ≠ 0) : (bif n1 then -(A : Int) else (A : Int)) / (bif n2 then -(B : Int) else (B : Int)) = (bif n1 != n2 then -((if n1 = true ∧ A % B ≠ 0 then A / B + 1 else A / B : Nat) : Int) else ((if n1 = true ∧ A % B ≠ 0 then A / B + 1 else A / B : Nat) : Int)) ∧
  (bif n1 then -(A : Int) else (A : Int)) % (bif n2 then -(B : Int) else (B : Int)) = ((if n1 = true ∧ A % B ≠ 0 then B - A % B else A % B : Nat) : Int) := by
 have hBp : (0 : Int) < B := by omega
 have key : ∀ x : Int, x / (bif n2 then -(B : Int) else (B : Int)) = (bif n2 then -(x / B) else x / B) ∧ x % (bif n2 then -(B : Int) else (B : Int)) = x % B := fun x => by
  cases n2
  ·exact ⟨rfl, rfl⟩
  ·exact ⟨Int.ediv_neg x B, Int.emod_neg x B⟩
 rw [(key _).1, (key _).2]
 cases n1
 ·have h1 : ((A : Int)) / B = ((A / B : Nat) : Int) := by simp
  have h2 : ((A : Int)) % B = ((A % B : Nat) : Int) := by simp
  simp only [cond_false, h1, h2]
  cases n2 <;> simp
 ·have hd := Nat.div_add_mod A B
  have hlt := Nat.mod_lt A (show B > 0 by omega)
  by_cases h0 : A % B = 0
  ·have e : -(A : Int) = (B : Int) * (-((A / B : Nat) : Int)) := by
    rw [h0, Nat.add_zero] at hd
    rw [Int.mul_neg, ← Int.natCast_mul, hd]
   have h1 : -(A : Int) / B = -((A / B : Nat) : Int) := by rw [e, Int.mul_ediv_cancel_left _ (by omega)]
   have h2 : -(A : Int) % B = 0 := by rw [e, Int.mul_emod_right]
   simp only [cond_true, h1, h2, h0]
   cases n2 <;> simp
  ·have e : -(A : Int) = (B : Int) * (-((A / B + 1 : Nat) : Int)) + ((B - A % B : Nat) : Int) := by
    have h3 : (B : Int) * ((A / B : Nat) : Int) + ((A % B : Nat) : Int) = A := by rw [← Int.natCast_mul, ← Int.natCast_add, hd]
    rw [Int.mul_neg, Int.natCast_add, Int.mul_add]
    omega
   have h1 : -(A : Int) / B = -((A / B + 1 : Nat) : Int) := by
    rw [e, Int.mul_add_ediv_left _ _ (by omega), Int.ediv_eq_zero_of_lt (by omega) (by omega), Int.add_zero]
   have h2 : -(A : Int) % B = ((B - A % B : Nat) : Int) := by
    rw [e, Int.mul_add_emod_self_left, Int.emod_eq_of_lt (by omega) (by omega)]
   simp only [cond_true, h1, h2]
   cases n2 <;> simp [h0]
theorem ev_r2_Div (N : RefGLib L) (n1 n2 q1 q2 : Bool) (a b : List Nat) (ha : Sm 274877906943 a) (hb : Sm 274877906943 b) (h0 : zv n2 b ≠ 0) : Ev L 119 [.agg (rZ q1 n1 a), .agg (rZ q2 n2 b)] (.tup [.agg (eZ (zv n1 a / zv n2 b)), .agg (eZ (zv n1 a % zv n2 b)), .int .i64 0]) := by
 have t1 := fun q => ev_r2_Trim N n1 q a (ha.le (by omega))
 have t2 := fun q => ev_r2_Trim N n2 q b (hb.le (by omega))
 have s1 : Sm 274877906943 (dg (zv n1 a).natAbs) := by rw [zv_abs]; exact ha.nrm
 have s2 : Sm 274877906943 (dg (zv n2 b).natAbs) := by rw [zv_abs]; exact hb.nrm
 generalize zv n1 a = x at *
 generalize zv n2 b = y at *
 have hDM := fun q q' => ev_r1_DivMod N (dg x.natAbs) (dg y.natAbs) q q' s1.1 s2.1 (by have := s1.2; omega) (by have := s2.2; omega) (by rw [val_dg]; omega)
 rw [val_dg, val_dg] at hDM
 obtain ⟨e1, e2⟩ := ediv_cases (decide (x < 0)) (decide (y < 0)) x.natAbs y.natAbs (by omega)
 have hx : (bif decide (x < 0) then -(x.natAbs : Int) else (x.natAbs : Int)) = x := by have := zv_of x; unfold zv at this; rw [val_dg] at this; exact this
 have hy : (bif decide (y < 0) then -(y.natAbs : Int) else (y.natAbs : Int)) = y := by have := zv_of y; unfold zv at this; rw [val_dg] at this; exact this
 rw [hx, hy] at e1 e2
 rw [e1, e2]
 have l1 := s1.2
 have l2 := s2.2
 have hq : Sm 274877906943 (dg (x.natAbs / y.natAbs)) := s1.low (by rw [val_dg]; exact Nat.div_le_self _ _)
 have hr : Sm 274877906943 (dg (x.natAbs % y.natAbs)) := s2.low (by rw [val_dg]; exact Nat.le_of_lt (Nat.mod_lt _ (by omega)))
 have hrz := dg_len0 (x.natAbs % y.natAbs)
 have hone : Ev L 103 [.sl false ((dg (x.natAbs / y.natAbs)).map e32), .sl true [[.int .u32 1]]] (.sl false ((dg (x.natAbs / y.natAbs + 1)).map e32)) := by
  have := ev_r1_Add N (dg (x.natAbs / y.natAbs)) [1] false true (dig_dg _) (dig_one (by omega)) (by have := hq.2; omega) (by simp)
  rw [val_dg, show val [1] = 1 from rfl] at this
  exact this
 have hq1 : Sm 274877906944 (dg (x.natAbs / y.natAbs + 1)) := hq.add (b := [1]) (sm_one (by omega) (by omega)) (by rw [val_dg]; simp [val])
 have hsub := fun q q' => ev_r1_Sub N (dg y.natAbs) (dg (x.natAbs % y.natAbs)) q q' s2.1 hr.1 (by omega) (by have := hr.2; omega)
 rw [val_dg, val_dg] at hsub
 have u1 := fun n q => ev_r2_Trim N n q (dg (x.natAbs / y.natAbs)) (hq.le (by omega))
 have u2 := fun n q => ev_r2_Trim N n q (dg (x.natAbs / y.natAbs + 1)) hq1
 have ez : ∀ n V, zv n (dg V) = bif n then -(V : Int) else (V : Int) := fun n V => by unfold zv; rw [val_dg]
 have fin : ∀ (z : Int) (V : Nat), FinP (.tup [.agg (eZ z), .agg [.bool false, .sl false ((dg V).map e32)], .int .i64 0]) (.tup [.agg (eZ z), .agg (eZ (V : Int)), .int .i64 0]) := fun z V => by
  have e3 : AV.agg (eZ (V : Int)) = .agg [.bool false, .sl false ((dg V).map e32)] := (agg_eZ (by omega) (sgn_F (by omega))).symm
  rw [e3]
  refine FinP.go rfl ?_
  simp only [Clean, CleanL, and_true, true_and]
  exact ⟨cl_dig _, cl_dig _⟩
 clear e1 e2 hx hy
 generalize x.natAbs / y.natAbs = qq at *
 generalize x.natAbs % y.natAbs = rr at *
 refine Ev.x N.ref02_Div rfl rfl ?_
 (repeat' (first | (refine CmpP.go (fun hc => ?_) (fun hc => ?_) <;> first | (exfalso; omega) | (conv => whnf)) | (refine AKM.x ?_; conv => whnf) | (refine CallP.go (t1 _) ?_; conv => whnf) | (refine CallP.go (t2 _) ?_; conv => whnf) | (refine CallP.go (hDM _ _) ?_; conv => whnf)))
 generalize decide (x < 0) = p at *
 generalize decide (y < 0) = r at *
 cases p
 ·rw [if_neg (by simp), if_neg (by simp), ← ez]
  cases r
  all_goals
   (conv => whnf)
   (repeat' (refine CallP.go (u1 _ _) ?_; conv => whnf))
   exact fin _ _
 ·by_cases hr0 : rr = 0
  ·rw [if_neg (by simp [hr0]), if_neg (by simp [hr0]), ← ez]
   cases r
   all_goals
    (conv => whnf)
    (repeat' (first | (refine CmpP.go (fun hc => ?_) (fun hc => ?_) <;> first | (exfalso; omega) | (conv => whnf)) | (refine LenP.go ?_; conv => whnf) | (refine CallP.go (u1 _ _) ?_; conv => whnf)))
    exact fin _ _
  ·rw [if_pos ⟨rfl, hr0⟩, if_pos ⟨rfl, hr0⟩, ← ez]
   cases r
   all_goals
    (conv => whnf)
    (repeat' (first | (refine CmpP.go (fun hc => ?_) (fun hc => ?_) <;> first | (exfalso; omega) | (conv => whnf)) | (refine LenP.go ?_; conv => whnf) | (refine SnR.e1 rfl ?_; conv => whnf) | (refine CallP.go (hone) ?_; conv => whnf) | (refine CallP.go (hsub _ _) ?_; conv => whnf) | (refine CallP.go (u2 _ _) ?_; conv => whnf)))
    exact fin _ _
end Go.Eng
namespace Go.Eng
open F
attribute [local irreducible] AKM CmpP Req OpP UnP ConvP RdP LdR StR MkR LenP AppR AppN CpyR RowP SnR Bds SlS CallP CalP FinP pw LdM GetM SetM PutM MkM AppM SnM FlP CallR
set_option maxHeartbeats 4000000
variable {L : Lib}
theorem dg_one' : dg 1 = [1] := by rw [dg_pos (by omega)]; simp [dg_zero]
theorem agg_zeroQ : AV.agg [.bool false, .sl false [], .sl false [[.int .u32 1]]] = .agg (eQ 0) := by
 show _ = AV.agg (rQ _ _ _ _ _)
 rw [Rat.zero_num, Rat.zero_den, dg_one', show (0 : Int).natAbs = 0 from rfl, dg_zero]; rfl
theorem divInt_parts {x y : Int} (hy : y ≠ 0) : (Rat.divInt x y).num = (if y < 0 then -(x / ((Nat.gcd x.natAbs y.natAbs : Nat) : Int)) else x / ((Nat.gcd x.natAbs y.natAbs : Nat) : Int)) ∧ (Rat.divInt x y).den = (y / ((Nat.gcd x.natAbs y.natAbs : Nat) : Int)).natAbs := by
 have h1 := Rat.num_divInt x y
 have h2 := Rat.den_divInt x y
 rw [if_neg hy] at h2
 have hg : Int.gcd y x = Nat.gcd x.natAbs y.natAbs := by rw [Int.gcd, Nat.gcd_comm]
 rw [hg] at h1 h2
 have hgp : 0 < Nat.gcd x.natAbs y.natAbs := Nat.gcd_pos_of_pos_right _ (by omega)
 have dx : ((Nat.gcd x.natAbs y.natAbs : Nat) : Int) ∣ x := Int.ofNat_dvd_left.2 (Nat.gcd_dvd_left _ _)
 have dy : ((Nat.gcd x.natAbs y.natAbs : Nat) : Int) ∣ y := Int.ofNat_dvd_left.2 (Nat.gcd_dvd_right _ _)
 generalize Nat.gcd x.natAbs y.natAbs = g at *
 rw [h1, h2]
 obtain ⟨u, rfl⟩ := dx
 obtain ⟨v, rfl⟩ := dy
 have hg0 : (g : Int) ≠ 0 := by omega
 refine ⟨?_, ?_⟩
 ·rw [Int.mul_ediv_cancel_left _ hg0]
  split
  ·rename_i h
   rw [Int.sign_eq_neg_one_of_neg h, show -1 * ((g : Int) * u) = g * (-u) by rw [Int.mul_neg]; omega, Int.mul_ediv_cancel_left _ hg0]
  ·rw [Int.sign_eq_one_of_pos (by omega), Int.one_mul, Int.mul_ediv_cancel_left _ hg0]
 ·rw [Int.mul_ediv_cancel_left _ hg0, Int.natAbs_mul, Int.natAbs_natCast, Nat.mul_div_cancel_left _ hgp]
theorem ev_reduce (N : RefGLib L) (n1 n2 q1 q2 : Bool) (a b : List Nat) (ha : Sm 274877906943 a) (hb : Sm 274877906943 b) : Ev L 121 [.agg (rZ q1 n1 a), .agg (rZ q2 n2 b)] (.agg (eQ (Rat.divInt (zv n1 a) (zv n2 b)))) := by
 have t1 := fun q => ev_r2_Sign N n1 q a (ha.le (by omega))
 have t2 := fun q => ev_r2_Sign N n2 q b (hb.le (by omega))
 by_cases h1 : zv n1 a = 0
 ·rw [h1, Rat.zero_divInt, ← agg_zeroQ]
  rw [h1, ← sgn_zero rfl] at t1
  refine Ev.x N.ref03_reduce rfl rfl ?_
  (repeat' (first | (refine CmpP.go (fun hc => ?_) (fun hc => ?_) <;> first | (exfalso; omega) | (conv => whnf)) | (refine SnR.e1 rfl ?_; conv => whnf) | (refine AKM.x ?_; conv => whnf) | (refine CallP.go (t1 _) ?_; conv => whnf)))
  exact FinP.go rfl (cl_agg3 false [] [1])
 have s1 : sgn (zv n1 a) ≠ 0 := by unfold sgn; split <;> (try split) <;> omega
 by_cases h2 : zv n2 b = 0
 ·rw [h2, Rat.divInt_zero, ← agg_zeroQ]
  rw [h2, ← sgn_zero rfl] at t2
  generalize sgn (zv n1 a) = sg at *
  refine Ev.x N.ref03_reduce rfl rfl ?_
  (repeat' (first | (refine CmpP.go (fun hc => ?_) (fun hc => ?_) <;> first | (exfalso; omega) | (conv => whnf)) | (refine SnR.e1 rfl ?_; conv => whnf) | (refine AKM.x ?_; conv => whnf) | (refine CallP.go (t1 _) ?_; conv => whnf) | (refine CallP.go (t2 _) ?_; conv => whnf)))
  exact FinP.go rfl (cl_agg3 false [] [1])
 have s2 : sgn (zv n2 b) ≠ 0 := by unfold sgn; split <;> (try split) <;> omega
 obtain ⟨p1, p2⟩ := divInt_parts (x := zv n1 a) h2
 have hG := fun q q' => ev_r2_Gcd N n1 n2 q q' a b (ha.le (by omega)) (hb.le (by omega))
 have hle : Nat.gcd (val a) (val b) ≤ val b := Nat.gcd_le_right _ (by have := zv_abs n2 b; omega)
 have hgp : 0 < Nat.gcd (val a) (val b) := Nat.gcd_pos_of_pos_right _ (by have := zv_abs n2 b; omega)
 have sg : Sm 274877906943 (dg (Nat.gcd (val a) (val b))) := hb.low hle
 rw [zv_abs, zv_abs] at p1 p2
 have hgf : decide (((Nat.gcd (val a) (val b) : Nat) : Int) < 0) = false := by simp
 have sg' : Sm 274877906943 (dg (((Nat.gcd (val a) (val b) : Nat) : Int)).natAbs) := by rw [Int.natAbs_natCast]; exact sg
 have zg : zv (decide (((Nat.gcd (val a) (val b) : Nat) : Int) < 0)) (dg (((Nat.gcd (val a) (val b) : Nat) : Int)).natAbs) = ((Nat.gcd (val a) (val b) : Nat) : Int) := zv_of _
 have hD1 := fun q q' => ev_r2_Div N n1 _ q q' a _ ha sg' (by rw [zg]; omega)
 have hD2 := fun q q' => ev_r2_Div N n2 _ q q' b _ hb sg' (by rw [zg]; omega)
 rw [zg] at hD1 hD2
 have hnb : Sm 274877906943 (dg (zv n1 a / ((Nat.gcd (val a) (val b) : Nat) : Int)).natAbs) := ha.low (by
  have : (zv n1 a / ((Nat.gcd (val a) (val b) : Nat) : Int)).natAbs ≤ (zv n1 a).natAbs := Int.natAbs_ediv_le_natAbs _ _
  rw [zv_abs] at this; exact this)
 have hg0 : 0 < ((Nat.gcd (val a) (val b) : Nat) : Int) := by omega
 generalize ((Nat.gcd (val a) (val b) : Nat) : Int) = g at *
 generalize zv n1 a = x at *
 generalize zv n2 b = y at *
 generalize sgn x = sx at *
 generalize sgn y = sy at *
 have hN := fun q => ev_r2_Neg N (decide (x / g < 0)) q (dg (x / g).natAbs) (hnb.le (by omega))
 rw [zv_of] at hN
 have hyd : decide (y / g < 0) = decide (y < 0) := by
  congr 1
  rw [eq_iff_iff, Int.ediv_lt_iff_lt_mul (by omega), Int.zero_mul]
 refine Ev.x N.ref03_reduce rfl rfl ?_
 (repeat' (first | (refine CmpP.go (fun hc => ?_) (fun hc => ?_) <;> first | (exfalso; omega) | (conv => whnf)) | (refine AKM.x ?_; conv => whnf) | (refine CallP.go (t1 _) ?_; conv => whnf) | (refine CallP.go (t2 _) ?_; conv => whnf) | (refine CallP.go (hG _ _) ?_; conv => whnf) | (refine CallP.go (hD1 _ _) ?_; conv => whnf) | (refine CallP.go (hD2 _ _) ?_; conv => whnf)))
 cases hyn : decide (y / g < 0)
 ·rw [hyn] at hyd
  rw [if_neg (of_decide_eq_false hyd.symm)] at p1
  (conv => whnf)
  skip
  refine FinP.go ?_ (cl_eQ _)
  show _ = AV.agg (rQ _ _ _ _ _)
  rw [p1, p2]
 ·rw [hyn] at hyd
  rw [if_pos (of_decide_eq_true hyd.symm)] at p1
  (conv => whnf)
  (repeat' (refine CallP.go (hN _) ?_; conv => whnf))
  refine FinP.go ?_ (cl_eQ _)
  show _ = AV.agg (rQ _ _ _ _ _)
  rw [p1, p2]
theorem divInt_val {z : Int} {d : List Nat} : Rat.divInt z (zv false d) = mkRat z (val d) := by rw [zv_F, Rat.divInt_ofNat]
def PtIs (n : Bool) (m d : List Nat) (n' : Bool) (m' d' : List Nat) (k : Nat) : Prop := Sm k m' ∧ Sm k d' ∧ val d' ≠ 0 ∧ qv n m d = mkRat (zv n' m') (val d')
theorem cl_parts3 (n : Bool) (m d : List Nat) : Clean (.tup [.agg (rZ false n m), .agg (rZ false false d)]) := by
 simp only [Clean, CleanL, and_true, true_and]
 exact ⟨cl_dig _, cl_dig _⟩
theorem ev_parts (N : RefGLib L) (n q : Bool) (m d : List Nat) (k : Nat) (hk : 1 ≤ k ∧ k ≤ 274877906943) (hm : Sm k m) (hd : Sm k d) : ∃ n' m' d', Ev L 122 [.agg (rQ false q n m d)] (.tup [.agg (rZ false n' m'), .agg (rZ false false d')]) ∧ PtIs n m d n' m' d' k := by
 have t1 := fun q => ev_r1_Trim N d q hd.1 (by have := hd.2; omega)
 have hl := dg_len0 (val d)
 by_cases h0 : val d = 0
 ·refine ⟨false, [], [1], ?_, sm_nil _, sm_one hk.1 (by omega), by decide, by unfold qv; rw [h0, Rat.mkRat_zero, zv_nil, Rat.zero_mkRat]⟩
  refine Ev.x N.ref03_parts rfl rfl ?_
  (repeat' (first | (refine CmpP.go (fun hc => ?_) (fun hc => ?_) <;> first | (exfalso; omega) | (conv => whnf)) | (refine LenP.go ?_; conv => whnf) | (refine SnR.e1 rfl ?_; conv => whnf) | (refine AKM.x ?_; conv => whnf) | (refine CallP.go (t1 _) ?_; conv => whnf)))
  exact FinP.go rfl (cl_parts3 false [] [1])
 ·refine ⟨n, m, dg (val d), ?_, hm, hd.nrm, by rw [val_dg]; exact h0, by rw [val_dg]; rfl⟩
  refine Ev.x N.ref03_parts rfl rfl ?_
  (repeat' (first | (refine CmpP.go (fun hc => ?_) (fun hc => ?_) <;> first | (exfalso; omega) | (conv => whnf)) | (refine LenP.go ?_; conv => whnf) | (refine AKM.x ?_; conv => whnf) | (refine CallP.go (t1 _) ?_; conv => whnf)))
  exact FinP.go rfl (cl_parts3 _ _ _)
theorem ev_r3_Trim (N : RefGLib L) (n q : Bool) (m d : List Nat) (hm : Sm 274877906943 m) (hd : Sm 274877906943 d) : Ev L 123 [.agg (rQ false q n m d)] (.agg (eQ (qv n m d))) := by
 obtain ⟨n', m', d', hp, s1, s2, s3, s4⟩ := ev_parts N n q m d 274877906943 (by omega) hm hd
 have hr := fun q q' => ev_reduce N n' false q q' m' d' s1 s2
 rw [divInt_val, ← s4] at hr
 refine Ev.x N.ref03_Trim rfl rfl ?_
 (repeat' (first | (refine AKM.x ?_; conv => whnf) | (refine CallP.go (hp) ?_; conv => whnf) | (refine CallP.go (hr _ _) ?_; conv => whnf)))
 exact FinP.go rfl (cl_eQ _)
theorem agg_whole' (z : Int) : AV.agg [.bool (decide (z < 0)), .sl false ((dg z.natAbs).map e32), .sl false [[.int .u32 1]]] = .agg (eQ (z : Rat)) := by
 show _ = AV.agg (rQ _ _ _ _ _)
 rw [Rat.num_intCast, Rat.den_intCast, dg_one']; rfl
theorem ev_r3_Of (N : RefGLib L) (z : Int) (hz : -9223372036854775808 ≤ z ∧ z ≤ 9223372036854775807) : Ev L 124 [.int .i64 z] (.agg (eQ (z : Rat))) := by
 have h1 := ev_r2_Of N z hz
 refine Ev.x N.ref03_Of rfl rfl ?_
 (repeat' (first | (refine SnR.e1 rfl ?_; conv => whnf) | (refine AKM.x ?_; conv => whnf) | (refine CallP.go (h1) ?_; conv => whnf)))
 exact FinP.go (agg_whole' z) (cl_eQ _)
theorem sm_of {z : Int} (hz : -9223372036854775808 ≤ z ∧ z ≤ 9223372036854775808) : Sm 2 (dg z.natAbs) := Sm.dg (by omega)
theorem ev_r3_Frac (N : RefGLib L) (x y : Int) (hx : -9223372036854775808 ≤ x ∧ x ≤ 9223372036854775807) (hy : -9223372036854775808 ≤ y ∧ y ≤ 9223372036854775807) : Ev L 125 [.int .i64 x, .int .i64 y] (.agg (eQ (Rat.divInt x y))) := by
 have h1 := ev_r2_Of N x hx
 have h2 := ev_r2_Of N y hy
 have hr := fun q q' => ev_reduce N (decide (x < 0)) (decide (y < 0)) q q' _ _ ((sm_of (z := x) (by omega)).le (by omega)) ((sm_of (z := y) (by omega)).le (by omega))
 rw [zv_of, zv_of] at hr
 refine Ev.x N.ref03_Frac rfl rfl ?_
 (repeat' (first | (refine AKM.x ?_; conv => whnf) | (refine CallP.go (h1) ?_; conv => whnf) | (refine CallP.go (h2) ?_; conv => whnf) | (refine CallP.go (hr _ _) ?_; conv => whnf)))
 exact FinP.go rfl (cl_eQ _)
theorem sm_zmul' {k l : Nat} {n1 n2 : Bool} {a b : List Nat} (ha : Sm k a) (hb : Sm l b) : Sm (k + l) (dg (zv n1 a * zv n2 b).natAbs) := ha.mul hb (by rw [Int.natAbs_mul, zv_abs, zv_abs])
theorem sm_zadd' {k : Nat} {x y : Int} (ha : Sm k (dg x.natAbs)) (hb : Sm k (dg y.natAbs)) : Sm (k + 1) (dg (x + y).natAbs) := ha.add hb (by rw [val_dg, val_dg]; omega)
theorem ev_r3_Add (N : RefGLib L) (k : Nat) (hk : 1 ≤ k ∧ k ≤ 68719476736) (n1 n2 q2 q4 : Bool) (m1 d1 m2 d2 : List Nat) (hm1 : Sm k m1) (hd1 : Sm k d1) (hm2 : Sm k m2) (hd2 : Sm k d2) :
  Ev L 126 [.agg (rQ false q2 n1 m1 d1), .agg (rQ false q4 n2 m2 d2)] (.agg (eQ (qv n1 m1 d1 + qv n2 m2 d2))) := by
 obtain ⟨a1, a2, a3, hr1, s1, s2, s3, s5⟩ := ev_parts N n1 q2 m1 d1 k (by omega) hm1 hd1
 obtain ⟨b1, b2, b3, hr2, t1, t2, t3, t5⟩ := ev_parts N n2 q4 m2 d2 k (by omega) hm2 hd2
 have l1 := s1.2
 have l2 := s2.2
 have l3 := t1.2
 have l4 := t2.2
 rw [s5, t5, mk_add s3 t3, ← zv_F b3, ← zv_F a3]
 have hM1 := fun q q' => ev_r2_Mul N a1 false q q' a2 b3 s1.1 t2.1 (by omega)
 have hM2 := fun q q' => ev_r2_Mul N b1 false q q' b2 a3 t1.1 s2.1 (by omega)
 have hM3 := fun q q' => ev_r2_Mul N false false q q' a3 b3 s2.1 t2.1 (by omega)
 have g1 : Sm (k + k) (dg (zv a1 a2 * zv false b3).natAbs) := sm_zmul' s1 t2
 have g2 : Sm (k + k) (dg (zv b1 b2 * zv false a3).natAbs) := sm_zmul' t1 s2
 have g3 := sm_zadd' g1 g2
 have g4 : Sm (k + k) (dg (zv false a3 * zv false b3).natAbs) := sm_zmul' s2 t2
 have hA := fun q q' => ev_r2_Add N (decide (zv a1 a2 * zv false b3 < 0)) (decide (zv b1 b2 * zv false a3 < 0)) q q' _ _ (g1.le (by omega)) (g2.le (by omega))
 rw [zv_of, zv_of] at hA
 have hR := fun q q' => ev_reduce N (decide (zv a1 a2 * zv false b3 + zv b1 b2 * zv false a3 < 0)) (decide (zv false a3 * zv false b3 < 0)) q q' _ _ (g3.le (by omega)) (g4.le (by omega))
 rw [zv_of, zv_of, show zv false a3 * zv false b3 = ((val a3 * val b3 : Nat) : Int) by rw [zv_F, zv_F]; simp, Rat.divInt_ofNat] at hR
 rw [show zv false a3 * zv false b3 = ((val a3 * val b3 : Nat) : Int) by rw [zv_F, zv_F]; simp] at hM3
 refine Ev.x N.ref03_Add rfl rfl ?_
 (repeat' (first | (refine AKM.x ?_; conv => whnf) | (refine CallP.go (hr1) ?_; conv => whnf) | (refine CallP.go (hr2) ?_; conv => whnf) | (refine CallP.go (hM1 _ _) ?_; conv => whnf) | (refine CallP.go (hM2 _ _) ?_; conv => whnf) | (refine CallP.go (hA _ _) ?_; conv => whnf) | (refine CallP.go (hM3 _ _) ?_; conv => whnf) | (refine CallP.go (hR _ _) ?_; conv => whnf)))
 exact FinP.go rfl (cl_eQ _)
theorem ev_r3_Mul (N : RefGLib L) (k : Nat) (hk : 1 ≤ k ∧ k ≤ 68719476736) (n1 n2 q2 q4 : Bool) (m1 d1 m2 d2 : List Nat) (hm1 : Sm k m1) (hd1 : Sm k d1) (hm2 : Sm k m2) (hd2 : Sm k d2) :
  Ev L 128 [.agg (rQ false q2 n1 m1 d1), .agg (rQ false q4 n2 m2 d2)] (.agg (eQ (qv n1 m1 d1 * qv n2 m2 d2))) := by
 obtain ⟨a1, a2, a3, hr1, s1, s2, s3, s5⟩ := ev_parts N n1 q2 m1 d1 k (by omega) hm1 hd1
 obtain ⟨b1, b2, b3, hr2, t1, t2, t3, t5⟩ := ev_parts N n2 q4 m2 d2 k (by omega) hm2 hd2
 have l1 := s1.2
 have l2 := s2.2
 have l3 := t1.2
 have l4 := t2.2
 rw [s5, t5, mk_mul]
 have hM1 := fun q q' => ev_r2_Mul N a1 b1 q q' a2 b2 s1.1 t1.1 (by omega)
 have hM3 := fun q q' => ev_r2_Mul N false false q q' a3 b3 s2.1 t2.1 (by omega)
 have g1 : Sm (k + k) (dg (zv a1 a2 * zv b1 b2).natAbs) := sm_zmul' s1 t1
 have g4 : Sm (k + k) (dg (zv false a3 * zv false b3).natAbs) := sm_zmul' s2 t2
 have hR := fun q q' => ev_reduce N (decide (zv a1 a2 * zv b1 b2 < 0)) (decide (zv false a3 * zv false b3 < 0)) q q' _ _ (g1.le (by omega)) (g4.le (by omega))
 rw [zv_of, zv_of, show zv false a3 * zv false b3 = ((val a3 * val b3 : Nat) : Int) by rw [zv_F, zv_F]; simp, Rat.divInt_ofNat] at hR
 rw [show zv false a3 * zv false b3 = ((val a3 * val b3 : Nat) : Int) by rw [zv_F, zv_F]; simp] at hM3
 refine Ev.x N.ref03_Mul rfl rfl ?_
 (repeat' (first | (refine AKM.x ?_; conv => whnf) | (refine CallP.go (hr1) ?_; conv => whnf) | (refine CallP.go (hr2) ?_; conv => whnf) | (refine CallP.go (hM1 _ _) ?_; conv => whnf) | (refine CallP.go (hM3 _ _) ?_; conv => whnf) | (refine CallP.go (hR _ _) ?_; conv => whnf)))
 exact FinP.go rfl (cl_eQ _)
theorem mk_cmp {a b : Int} {d e : Nat} (hd : d ≠ 0) (he : e ≠ 0) : sgn (a * e - b * d) = sgn (mkRat a d - mkRat b e).num := by
 have h : mkRat a d - mkRat b e = mkRat (a * e - b * d) (d * e) := by
  rw [Rat.sub_eq_add_neg, Rat.neg_mkRat, mk_add hd he, Int.neg_mul, ← Int.sub_eq_add_neg]
 rw [h, mk_sgn (Nat.mul_ne_zero hd he)]
theorem ev_r3_Compare (N : RefGLib L) (k : Nat) (hk : 1 ≤ k ∧ k ≤ 68719476736) (n1 n2 q2 q4 : Bool) (m1 d1 m2 d2 : List Nat) (hm1 : Sm k m1) (hd1 : Sm k d1) (hm2 : Sm k m2) (hd2 : Sm k d2) :
  Ev L 127 [.agg (rQ false q2 n1 m1 d1), .agg (rQ false q4 n2 m2 d2)] (.int .i64 (sgn (qv n1 m1 d1 - qv n2 m2 d2).num)) := by
 obtain ⟨a1, a2, a3, hr1, s1, s2, s3, s5⟩ := ev_parts N n1 q2 m1 d1 k (by omega) hm1 hd1
 obtain ⟨b1, b2, b3, hr2, t1, t2, t3, t5⟩ := ev_parts N n2 q4 m2 d2 k (by omega) hm2 hd2
 have l1 := s1.2
 have l2 := s2.2
 have l3 := t1.2
 have l4 := t2.2
 rw [s5, t5, ← mk_cmp s3 t3, ← zv_F b3, ← zv_F a3]
 have hM1 := fun q q' => ev_r2_Mul N a1 false q q' a2 b3 s1.1 t2.1 (by omega)
 have hM2 := fun q q' => ev_r2_Mul N b1 false q q' b2 a3 t1.1 s2.1 (by omega)
 have g1 : Sm (k + k) (dg (zv a1 a2 * zv false b3).natAbs) := sm_zmul' s1 t2
 have g2 : Sm (k + k) (dg (zv b1 b2 * zv false a3).natAbs) := sm_zmul' t1 s2
 have hC := fun q q' => ev_r2_Compare N (decide (zv a1 a2 * zv false b3 < 0)) (decide (zv b1 b2 * zv false a3 < 0)) q q' _ _ (g1.le (by omega)) (g2.le (by omega))
 rw [zv_of, zv_of] at hC
 refine Ev.x N.ref03_Compare rfl rfl ?_
 (repeat' (first | (refine AKM.x ?_; conv => whnf) | (refine CallP.go (hr1) ?_; conv => whnf) | (refine CallP.go (hr2) ?_; conv => whnf) | (refine CallP.go (hM1 _ _) ?_; conv => whnf) | (refine CallP.go (hM2 _ _) ?_; conv => whnf) | (refine CallP.go (hC _ _) ?_; conv => whnf)))
 exact FinP.i rfl
end Go.Eng

namespace Go.Eng
open F
attribute [local irreducible] AKM CmpP Req OpP UnP ConvP RdP LdR StR MkR LenP AppR AppN CpyR RowP SnR Bds SlS CallP CalP FinP pw LdM GetM SetM PutM MkM AppM SnM FlP CallR
set_option maxHeartbeats 4000000
variable {L : Lib}
theorem Bt.sm3 {k : Nat} {x : Rat} (h : Bt k x) (hk : k < 2199023255552) : Sm 68719476736 (dg x.num.natAbs) ∧ Sm 68719476736 (dg x.den) := h.dig (by omega)
theorem ev_add3 (N : RefGLib L) {x y : Rat} {k l : Nat} (hx : Bt k x) (hy : Bt l y) (hk : k < 2199023255552) (hl : l < 2199023255552) : Ev L 126 [.agg (eQ x), .agg (eQ y)] (.agg (eQ (x + y))) := by
 have := ev_r3_Add N 68719476736 (by omega) (decide (x.num < 0)) (decide (y.num < 0)) false false _ _ _ _ (hx.sm3 hk).1 (hx.sm3 hk).2 (hy.sm3 hl).1 (hy.sm3 hl).2
 rw [qv_of, qv_of] at this
 exact this
theorem ev_mul3 (N : RefGLib L) {x y : Rat} {k l : Nat} (hx : Bt k x) (hy : Bt l y) (hk : k < 2199023255552) (hl : l < 2199023255552) : Ev L 128 [.agg (eQ x), .agg (eQ y)] (.agg (eQ (x * y))) := by
 have := ev_r3_Mul N 68719476736 (by omega) (decide (x.num < 0)) (decide (y.num < 0)) false false _ _ _ _ (hx.sm3 hk).1 (hx.sm3 hk).2 (hy.sm3 hl).1 (hy.sm3 hl).2
 rw [qv_of, qv_of] at this
 exact this
theorem ev_trim3 (N : RefGLib L) {x : Rat} {k : Nat} (hx : Bt k x) (hk : k < 2199023255552) : Ev L 123 [.agg (eQ x)] (.agg (eQ x)) := by
 have := ev_r3_Trim N (decide (x.num < 0)) false _ _ ((hx.sm3 hk).1.le (by omega)) ((hx.sm3 hk).2.le (by omega))
 rw [qv_of] at this
 exact this
theorem ev_cmp3 (N : RefGLib L) {x y : Rat} {k l : Nat} (hx : Bt k x) (hy : Bt l y) (hk : k < 2199023255552) (hl : l < 2199023255552) : Ev L 127 [.agg (eQ x), .agg (eQ y)] (.int .i64 (sgn (x - y).num)) := by
 have := ev_r3_Compare N 68719476736 (by omega) (decide (x.num < 0)) (decide (y.num < 0)) false false _ _ _ _ (hx.sm3 hk).1 (hx.sm3 hk).2 (hy.sm3 hl).1 (hy.sm3 hl).2
 rw [qv_of, qv_of] at this
 exact this
theorem sgn_sub {x y : Rat} : sgn (x - y).num = 0 ↔ x = y := by
 have h : sgn (x - y).num = 0 ↔ (x - y).num = 0 := by unfold sgn; split <;> (try split) <;> omega
 rw [h, Rat.num_eq_zero]
 constructor
 ·intro h; grind
 ·rintro rfl; exact Rat.sub_self
theorem ev_SameRats (N : RefGLib L) (a b : List Rat) (q1 q2 : Bool) (k : Nat) (ha : Bs k a) (hb : Bs k b) (hk : k < 2199023255552) (hl : a.length ≤ 1099511627776) : Ev L 129 [.sl q1 (a.map eQ), .sl q2 (b.map eQ)] (.bool (decide (a = b))) := by
 refine Ev.x N.ref21_SameRats rfl rfl ?_
 by_cases hlen : a.length = b.length
 ·(repeat' (first | (refine CmpP.go (fun hc => ?_) (fun hc => ?_) <;> first | (exfalso; omega) | (conv => whnf)) | (refine LenP.go ?_; conv => whnf) | (refine AKM.x ?_; conv => whnf)))
  refine AKM.loop1 (fun i => a.length - i) (fun (i : Nat) => i ≤ a.length ∧ a.take i = b.take i) (fun i => [(5, .int .i64 i)]) (fun _ => []) [] [] 0 (by (conv => whnf); exact ⟨rfl, rfl, rfl⟩) ⟨by omega, rfl⟩ ?_
  intro i ⟨p1, p2⟩ ih
  by_cases hi : i < a.length
  ·obtain ⟨x, hx⟩ : ∃ x, a[i]? = some x := ⟨_, List.getElem?_eq_getElem hi⟩
   obtain ⟨y, hy⟩ : ∃ y, b[i]? = some y := ⟨_, List.getElem?_eq_getElem (by omega)⟩
   have hx' : a[(i : Int).toNat]? = some x := hx
   have hy' : b[(i : Int).toNat]? = some y := hy
   have hC3 := ev_cmp3 N (ha.at hx) (hb.at hy) hk hk
   have hs := sgn_sub (x := x) (y := y)
   generalize sgn (x - y).num = sg at *
   by_cases hxy : x = y
   ·have h0 : sg = 0 := hs.2 hxy
    (repeat' (first | (refine CmpP.go (fun hc => ?_) (fun hc => ?_) <;> first | (exfalso; omega) | (conv => whnf)) | (refine OpP.add (by omega) ?_; conv => whnf) | (refine LenP.go ?_; conv => whnf) | (refine RdP.at (by assumption) (by omega) rfl ?_; conv => whnf) | (refine AKM.x ?_; conv => whnf) | (refine CallP.go (hC3) ?_; conv => whnf)))
    refine AKM.back [] (by (conv => whnf); exact ⟨rfl, rfl, rfl⟩) (ih (i + 1) (by omega) ⟨by omega, ?_⟩)
    rw [List.take_add_one, List.take_add_one, p2, hx, hy, hxy]
   ·have hne : sg ≠ 0 := fun h => hxy (hs.1 h)
    (repeat' (first | (refine CmpP.go (fun hc => ?_) (fun hc => ?_) <;> first | (exfalso; omega) | (conv => whnf)) | (refine LenP.go ?_; conv => whnf) | (refine RdP.at (by assumption) (by omega) rfl ?_; conv => whnf) | (refine AKM.x ?_; conv => whnf) | (refine CallP.go (hC3) ?_; conv => whnf)))
    refine FinP.df (fun h => hxy ?_)
    rw [h, hy] at hx
    exact (Option.some.inj hx).symm
  ·obtain rfl : i = a.length := by omega
   clear ih
   (repeat' (first | (refine CmpP.go (fun hc => ?_) (fun hc => ?_) <;> first | (exfalso; omega) | (conv => whnf)) | (refine LenP.go ?_; conv => whnf) | (refine AKM.x ?_; conv => whnf)))
   refine FinP.dt ?_
   rw [List.take_of_length_le (Nat.le_refl _), List.take_of_length_le (by omega)] at p2
   exact p2
 ·(repeat' (first | (refine CmpP.go (fun hc => ?_) (fun hc => ?_) <;> first | (exfalso; omega) | (conv => whnf)) | (refine LenP.go ?_; conv => whnf) | (refine AKM.x ?_; conv => whnf)))
  exact FinP.df (fun h => hlen (by rw [h]))
end Go.Eng

namespace Go.Eng
def sumQ (vals : List Rat) : List (Int × Int) → Rat
 | [] => 0
 | t :: ts => (t.2 : Rat) * vals.getD t.1.toNat 0 + sumQ vals ts
theorem sumQ_snoc (vals : List Rat) (t : Int × Int) : ∀ ts, sumQ vals (ts ++ [t]) = sumQ vals ts + (t.2 : Rat) * vals.getD t.1.toNat 0
 | [] => by simp only [List.nil_append, sumQ]; grind
 | u :: ts => by simp only [List.cons_append, sumQ]; rw [sumQ_snoc vals t ts]; grind
theorem sumQ_take {vals : List Rat} {ts : List (Int × Int)} {i : Nat} {t : Int × Int} (h : ts[i]? = some t) : sumQ vals (ts.take (i + 1)) = sumQ vals (ts.take i) + (t.2 : Rat) * vals.getD t.1.toNat 0 := by
 rw [List.take_add_one, h, Option.toList_some, sumQ_snoc]
def exS (u : Rat) (ex : Int) : Nat → List Rat → List (List (Int × Int)) → List Rat
 | _, vals, [] => vals
 | k, vals, ts :: r => exS u ex (k + 1) (vals ++ [sumQ vals ts / u + (if (k : Int) = ex then 1 else 0)]) r
theorem exS_len (u : Rat) (ex : Int) : ∀ (k : Nat) (vals : List Rat) (l : List (List (Int × Int))), (exS u ex k vals l).length = vals.length + l.length
 | _, _, [] => rfl
 | k, vals, ts :: r => by rw [exS, exS_len u ex (k + 1)]; simp; omega
theorem Bs.getD {k : Nat} {l : List Rat} (h : Bs k l) (i : Nat) : Bt k (l.getD i 0) := by
 rw [List.getD_eq_getElem?_getD]
 cases e : l[i]? with
 | none => exact Bt.zero k
 | some x => exact h.at e
theorem Bs.sum {k j : Nat} {vals : List Rat} (hv : Bs k vals) : ∀ (ts : List (Int × Int)), (∀ t ∈ ts, Bt j ((t.2 : Int) : Rat)) → Bt (ts.length * (j + k + 1)) (sumQ vals ts)
 | [], _ => Bt.zero _
 | t :: ts, h => by
  have h1 := (h t (by simp)).mul (hv.getD t.1.toNat)
  have h2 := Bs.sum hv ts (fun u hu => h u (by simp [hu]))
  refine (h1.add h2).le ?_
  rw [List.length_cons, Nat.succ_mul]; omega
def LinV (C : List (List Rat)) (z vals : List Rat) : Prop := ∀ m, m < vals.length → vals.getD m 0 = dotQ (C.map fun c => c.getD m 0) z
theorem dotQ_smul (x : Rat) : ∀ (a z : List Rat), dotQ (a.map fun c => x * c) z = x * dotQ a z
 | [], z => by cases z <;> simp [dotQ]
 | p :: a, [] => by simp [dotQ]
 | p :: a, q :: z => by
  simp only [List.map_cons, dotQ]
  rw [dotQ_smul x a z]; grind
theorem dotQ_mapadd {α : Type} (f g : α → Rat) : ∀ (a : List α) (z : List Rat), dotQ (a.map fun c => f c + g c) z = dotQ (a.map f) z + dotQ (a.map g) z
 | [], z => by cases z <;> (simp only [List.map_nil, dotQ]; grind)
 | p :: a, [] => by simp only [List.map_cons, dotQ]; grind
 | p :: a, q :: z => by
  simp only [List.map_cons, dotQ]
  rw [dotQ_mapadd f g a z]; grind
theorem dotQ_zero {α : Type} : ∀ (a : List α) (z : List Rat), dotQ (a.map fun _ => (0 : Rat)) z = 0
 | [], z => by cases z <;> rfl
 | p :: a, [] => rfl
 | p :: a, q :: z => by
  simp only [List.map_cons, dotQ]
  rw [dotQ_zero a z]; grind
theorem LinV.sum {C : List (List Rat)} {z vals : List Rat} (h : LinV C z vals) : ∀ (ts : List (Int × Int)), (∀ t ∈ ts, t.1.toNat < vals.length) → sumQ vals ts = dotQ (C.map fun c => sumQ c ts) z
 | [], _ => (dotQ_zero C z).symm
 | t :: ts, ht => by
  simp only [sumQ]
  rw [dotQ_mapadd (fun c => (t.2 : Rat) * c.getD t.1.toNat 0) (fun c => sumQ c ts), ← LinV.sum h ts (fun u hu => ht u (by simp [hu])), h _ (ht t (by simp))]
  have := dotQ_smul (t.2 : Rat) (C.map fun c => c.getD t.1.toNat 0) z
  rw [List.map_map] at this
  rw [← this]; rfl
theorem getD_snoc_lt {l : List Rat} {x : Rat} {m : Nat} (h : m < l.length) : (l ++ [x]).getD m 0 = l.getD m 0 := by
 rw [List.getD_eq_getElem?_getD, List.getD_eq_getElem?_getD, List.getElem?_append_left h]
theorem getD_snoc_eq {l : List Rat} {x : Rat} {m : Nat} (h : m = l.length) : (l ++ [x]).getD m 0 = x := by
 subst h
 rw [List.getD_eq_getElem?_getD, List.getElem?_append_right (Nat.le_refl _)]; simp
theorem LinV.all {u : Rat} (hu : u ≠ 0) {z : List Rat} : ∀ (l : List (List (Int × Int))) (k : Nat) (C : List (List Rat)) (vals : List Rat), LinV C z vals → (∀ c ∈ C, c.length = vals.length) → (∀ i ts, l[i]? = some ts → ∀ t ∈ ts, t.1.toNat < vals.length + i) →
  LinV (C.map fun c => exS u (-1) k c l) z (exS u (-1) k vals l)
 | [], _, C, vals, h, _, _ => by
  have e : (C.map fun c => exS u (-1) 0 c []) = C := by
   simp [exS]
  simpa [exS] using h
 | ts :: l, k, C, vals, h, hc, ht => by
  have hts := ht 0 ts rfl
  have e0 : ¬ (k : Int) = -1 := by omega
  simp only [exS, if_neg e0, Rat.add_zero]
  have hs := h.sum ts (fun t h1 => by have := hts t h1; omega)
  have hstep : LinV (C.map fun c => c ++ [sumQ c ts / u]) z (vals ++ [sumQ vals ts / u]) := by
   intro m hm
   simp only [List.length_append, List.length_cons, List.length_nil] at hm
   rw [List.map_map]
   by_cases hm2 : m < vals.length
   ·rw [getD_snoc_lt hm2, h m hm2]
    congr 1
    refine List.map_congr_left fun c hcm => ?_
    simp only [Function.comp]
    rw [getD_snoc_lt (by rw [hc c hcm]; exact hm2)]
   ·rw [getD_snoc_eq (by omega)]
    have e1 : (C.map ((fun c => c.getD m 0) ∘ fun c => c ++ [sumQ c ts / u])) = C.map fun c => u⁻¹ * sumQ c ts := by
     refine List.map_congr_left fun c hcm => ?_
     simp only [Function.comp]
     rw [getD_snoc_eq (by rw [hc c hcm]; omega), Rat.div_def, Rat.mul_comm]
    rw [e1, hs, Rat.div_def, Rat.mul_comm]
    have := dotQ_smul u⁻¹ (C.map fun c => sumQ c ts) z
    rw [List.map_map] at this
    rw [← this]; rfl
  have ih := LinV.all hu l (k + 1) (C.map fun c => c ++ [sumQ c ts / u]) (vals ++ [sumQ vals ts / u]) hstep (fun c hcm => by
   obtain ⟨c0, h0, rfl⟩ := List.mem_map.1 hcm
   simp [hc c0 h0]) (fun i ts2 h2 t h3 => by
   have := ht (i + 1) ts2 h2 t h3
   simp; omega)
  rw [List.map_map] at ih
  exact ih
def gS : Nat → Nat
 | 0 => 0
 | i + 1 => 4 * gS i + 125
theorem gS_mono (i : Nat) : gS i ≤ gS (i + 1) := by rw [gS]; omega
theorem Bt.ofInt {k : Nat} {z : Int} (h : z.natAbs ≤ 2 ^ k) : Bt k ((z : Int) : Rat) := ⟨by rw [Rat.num_intCast]; exact h, by rw [Rat.den_intCast]; exact Nat.one_le_two_pow⟩
theorem Bt.divz {k j : Nat} {x : Rat} {z : Int} (h : Bt k x) (hz : 1 ≤ z) (hj : z.natAbs ≤ 2 ^ j) : Bt (k + j) (x / (z : Rat)) := by
 obtain ⟨d, rfl⟩ := Int.eq_ofNat_of_zero_le (show 0 ≤ z by omega)
 have e : x / ((d : Int) : Rat) = x * mkRat 1 d := by
  rw [Rat.div_def, Rat.mkRat_eq_div, Rat.div_def]
  congr 1
  rw [show ((1 : Int) : Rat) = 1 from rfl, Rat.one_mul]; rfl
 rw [e]
 exact h.mul (Bt.mk (by simp; exact Nat.one_le_two_pow) (by simpa using hj))
structure SmallN (l : List (List (Int × Int))) : Prop where
 len : ∀ ts ∈ l, ts.length ≤ 4
 cf : ∀ ts ∈ l, ∀ t ∈ ts, t.2.natAbs ≤ 2 ^ 24
theorem node_bt {ts : List (Int × Int)} {vals : List Rat} {k : Nat} {z : Int} (h1 : ts.length ≤ 4) (h2 : ∀ t ∈ ts, t.2.natAbs ≤ 2 ^ 24) (hv : Bs k vals) (hz : 1 ≤ z) (hz2 : z.natAbs ≤ 2 ^ 24) (b : Bool) : Bt (4 * k + 125) (sumQ vals ts / (z : Rat) + (if b = true then 1 else 0)) := by
 have a1 := hv.sum ts (j := 24) (fun t ht => Bt.ofInt (h2 t ht))
 have a2 : Bt (4 * (24 + k + 1)) (sumQ vals ts) := a1.le (Nat.mul_le_mul_right _ h1)
 have a3 := a2.divz hz hz2
 have a4 : Bt 0 (if b = true then (1 : Rat) else 0) := by cases b <;> first | exact Bt.zero 0 | exact Bt.one 0
 exact (a3.add a4).le (by omega)
theorem exS_bs {z ex : Int} (hz : 1 ≤ z) (hz2 : z.natAbs ≤ 2 ^ 24) : ∀ (l : List (List (Int × Int))) (k : Nat) (vals : List Rat), SmallN l → Bs (gS k) vals → Bs (gS (k + l.length)) (exS (z : Rat) ex k vals l)
 | [], k, vals, _, hv => hv
 | ts :: l, k, vals, h, hv => by
  have h1 := node_bt (h.len ts (by simp)) (h.cf ts (by simp)) hv hz hz2 (decide ((k : Int) = ex))
  simp only [decide_eq_true_eq] at h1
  rw [exS, List.length_cons, show k + (l.length + 1) = k + 1 + l.length by omega]
  refine exS_bs hz hz2 l (k + 1) _ ⟨fun t ht => h.len t (by simp [ht]), fun t ht => h.cf t (by simp [ht])⟩ ?_
  intro x hx
  rcases List.mem_append.1 hx with hx | hx
  ·exact (hv x hx).le (gS_mono k)
  ·simp only [List.mem_singleton] at hx
   rw [hx]
   exact h1
theorem exS_take (u : Rat) (ex : Int) (vals : List Rat) (l : List (List (Int × Int))) (i : Nat) (ts : List (Int × Int)) (h : l[i]? = some ts) : exS u ex 0 vals (l.take (i + 1)) = exS u ex 0 vals (l.take i) ++ [sumQ (exS u ex 0 vals (l.take i)) ts / u + (if (i : Int) = ex then 1 else 0)] := by
 have key : ∀ (l : List (List (Int × Int))) (k : Nat) (vals : List Rat) (ts : List (Int × Int)), exS u ex k vals (l ++ [ts]) = exS u ex k vals l ++ [sumQ (exS u ex k vals l) ts / u + (if ((k + l.length : Nat) : Int) = ex then 1 else 0)] := by
  intro l
  induction l with
  | nil => intro k vals ts; simp [exS]
  | cons a l ih =>
   intro k vals ts
   rw [List.cons_append, exS, ih, exS, List.length_cons, show k + 1 + l.length = k + (l.length + 1) by omega]
 have hi := (List.getElem?_eq_some_iff.1 h).1
 rw [List.take_add_one, h, Option.toList_some, key, List.length_take, Nat.min_eq_left (by omega), Nat.zero_add]
end Go.Eng

namespace Go.Eng
theorem mxB_none (σ : Stp) (k : Nat) : ∀ (n i : Nat), mxB σ k i (List.replicate n none) = List.replicate n [.nil]
 | 0, _ => rfl
 | n + 1, i => by
  rw [List.replicate_succ, List.replicate_succ]
  show [AV.nil] :: mxB σ k (i + 1) (List.replicate n none) = _
  rw [mxB_none σ k n (i + 1)]
theorem AKM.mxN {L : Lib} {kk : List It} {tm : Tm} {M : Mem} {Q : Tm → Mem → Prop} (k s n : Nat) (e : mget M k = some (s, .mx (List.replicate n none))) (h : AKM L kk tm ((k, s, .rw 1 (List.replicate n [.nil])) :: M) Q) : AKM L kk tm M Q := by
 intro σ st hr
 have hg : ∀ j t c, mref ((k, s, .rw 1 (List.replicate n [.nil])) :: M) j t = some c → ∃ c0, mref M j t = some c0 ∧ c0.blk σ j = c.blk σ j := by
  intro j t c g
  by_cases hj : j = k
  ·subst hj
   cases t with
   | zero =>
    have h1 : mget ((j, s, Cel.rw 1 (List.replicate n [.nil])) :: M) j = some (s, .rw 1 (List.replicate n [.nil])) := by simp [mget]
    simp only [mref, h1, Option.some.injEq] at g
    subst g
    refine ⟨.mx (List.replicate n none), by simp only [mref, e], ?_⟩
    simp only [Cel.blk, mxB_none]
   | succ i =>
    have h1 : mget ((j, s, Cel.rw 1 (List.replicate n [.nil])) :: M) j = some (s, .rw 1 (List.replicate n [.nil])) := by simp [mget]
    simp only [mref, h1] at g
    cases g
  ·have h1 : mget ((k, s, Cel.rw 1 (List.replicate n [.nil])) :: M) j = mget M j := by
    have hb : Nat.beq j k = false := by
     cases hbb : Nat.beq j k with
     | false => rfl
     | true => exact absurd (Nat.eq_of_beq_eq_true hbb) hj
    simp only [mget, hb, cond_false]
   refine ⟨c, ?_, rfl⟩
   simp only [mref, h1] at g ⊢
   exact g
 refine h σ st ⟨hr.tm, ⟨?_, ?_, ?_, ?_⟩⟩
 ·intro j s' c g
  by_cases hj : j = k
  ·subst hj
   have h1 : mget ((j, s, Cel.rw 1 (List.replicate n [.nil])) :: M) j = some (s, .rw 1 (List.replicate n [.nil])) := by simp [mget]
   rw [h1] at g
   simp only [Option.some.injEq, Prod.mk.injEq] at g
   obtain ⟨rfl, _⟩ := g
   exact hr.sat.site _ _ _ e
  ·have h1 : mget ((k, s, Cel.rw 1 (List.replicate n [.nil])) :: M) j = mget M j := by
    have hb : Nat.beq j k = false := by
     cases hbb : Nat.beq j k with
     | false => rfl
     | true => exact absurd (Nat.eq_of_beq_eq_true hbb) hj
    simp only [mget, hb, cond_false]
   rw [h1] at g
   exact hr.sat.site _ _ _ g
 ·intro j t c g
  obtain ⟨c0, q1, q2⟩ := hg j t c g
  rw [← q2]; exact hr.sat.blk _ _ _ q1
 ·intro j t c g
  obtain ⟨c0, q1, _⟩ := hg j t c g
  exact hr.sat.old _ _ _ q1
 ·intro j t j' t' c c' g g' hσ
  obtain ⟨c0, q1, _⟩ := hg j t c g
  obtain ⟨c1, q2, _⟩ := hg j' t' c' g'
  exact hr.sat.inj _ _ _ _ _ _ q1 q2 hσ
end Go.Eng

namespace Go.Eng
variable {L : Lib}
def RetR (fn : AFn) (z : Nat) (es : List (List AV)) (tm : Tm) (M : Mem) : Prop := match fn.res with
 | [.tmp t] => match tg tm t with
  | .row k 0 z' 0 n => match mget M k with
   | some (_, .rw z'' es') => z' = z ∧ z'' = z ∧ n = es.length ∧ es' = es ∧ CleanLL es
   | _ => False
  | _ => False
 | _ => False
theorem EvR.x {f : Nat} {fn : AFn} {vs : List AV} {z : Nat} {es : List (List AV)} (hL : L f = some fn) (hp : Nat.beq vs.length fn.pars = true) (hd : datAL vs = true) (h : AKM L [.code fn.body] (initTm 0 vs) [] (RetR fn z es)) : EvR L f vs z es := by
 obtain ⟨n, c, st', hr, σ, tm, M, hR, hq⟩ := h (fun _ _ => (0, 0)) ⟨initTm 0 vs, Own.emp⟩ ⟨fun j => Or.inr (by rw [tg_eq]; exact datAL_tg hd j), ⟨(fun _ _ _ e => by cases e), (fun _ _ _ e => by simp [mref, mget] at e), (fun _ _ _ e => by simp [mref, mget] at e), (fun _ _ _ _ _ _ e => by simp [mref, mget] at e)⟩⟩
 unfold RetR at hq
 split at hq
 ·rename_i t hres
  split at hq
  ·rename_i k z' m htm
   split at hq
   ·rename_i s z'' es' hM
    obtain ⟨rfl, rfl, rfl, rfl, hcl⟩ := hq
    have hv : tget st'.tm t = .row (σ k 0).1 (σ k 0).2 z'' 0 es'.length := by
     rcases hR.tm t with e | e
     ·rw [htm] at e; cases e
     ·rw [e, htm]; rfl
    have hb := hR.sat.blk k 0 (.rw z'' es') (by simp only [mref, hM])
    obtain ⟨q, hq⟩ := EvI.intro (r := .row (σ k 0).1 (σ k 0).2 z'' 0 es'.length) (o' := st'.own) hL (beq_iff.1 hp) ⟨n, c, st', hr, by simp [hres, resOf, hv, resTmp, resVal], rfl⟩
    refine ⟨q, ?_⟩
    simp only [hq, adoptR, Own.get, hb]
    rw [if_pos (show (Cel.blk σ k (.rw z'' es')).es.length = es'.length ∧ CleanLL (Cel.blk σ k (.rw z'' es')).es from ⟨rfl, hcl⟩)]
    rfl
   ·exact hq.elim
  ·exact hq.elim
 ·exact hq.elim
theorem AKM.xf {Q : Tm → Mem → Prop} {c : ACode} {k : List It} {tm : Tm} {M : Mem} (n : Nat) (h : fT (cnm 0 tm) fun tm => fM (mcan M) fun M => XK L Q n (.code c :: k) tm M) : AKM L (.code c :: k) tm M Q := by
 rw [fT_eq, fM_eq] at h
 exact AKM.can (XK_sound h)
theorem CallR.go {α : Type} {enc : α → List AV} {l : List α} {f z : Nat} {vs : List AV} {K : Nat → List (List AV) → Nat → Prop} (n : Nat) (h : EvR L f vs z (l.map enc)) (hn : n = l.length) (hk : K z (l.map enc) n) : CallR L f vs K := ⟨z, _, n, h, by simpa using hn, hk⟩
end Go.Eng



namespace Go.Eng
open F
attribute [local irreducible] AKM CmpP Req OpP UnP ConvP RdP LdR StR MkR LenP AppR AppN CpyR RowP SnR Bds SlS CallP CalP FinP pw LdM GetM SetM PutM MkM AppM SnM FlP CallR
set_option maxHeartbeats 4000000
variable {L : Lib}
def intsQ (l : List Int) : List Rat := l.map fun v => ((v : Int) : Rat)
def tsOf (n : Nt) : List (List (Int × Int)) := n.nodes.map Nd.ts
def spreadQ (n : Nt) (src ex : Int) : List Rat := exS ((pw n.c.f : Int) : Rat) ex 0 (unitL (1 + n.s).toNat src) (tsOf n)
theorem nodesB_at {c : Wd} {s : Int} : ∀ {l : List Nd} {k j : Nat} {nd : Nd}, nodesB c s k l = true → l[j]? = some nd → nd.ts.all (termB c s (k + j)) = true
 | [], _, _, _, _, h => by simp at h
 | e :: l, k, 0, nd, hb, h => by
  simp only [List.getElem?_cons_zero, Option.some.injEq] at h
  subst h
  simp only [nodesB, Bool.and_eq_true] at hb
  exact hb.1.2
 | e :: l, k, j + 1, nd, hb, h => by
  simp only [List.getElem?_cons_succ] at h
  simp only [nodesB, Bool.and_eq_true] at hb
  rw [show k + (j + 1) = k + 1 + j by omega]
  exact nodesB_at hb.2 h
theorem unit_set (m p : Nat) : (List.replicate m (0 : Rat)).set p 1 = unitL m p := by
 refine List.ext_getElem? fun j => ?_
 simp only [unitL, List.getElem?_set, List.getElem?_map, List.getElem?_replicate, List.length_replicate]
 by_cases h : j < m
 ·rw [List.getElem?_range h]
  by_cases e : p = j
  ·subst e; simp [h]
  ·simp [h, e]; intro h3; omega
 ·rw [List.getElem?_eq_none (by simpa using h)]
  simp [h]
  intro e; omega
theorem Bs.unit (k m : Nat) (p : Int) : Bs k (unitL m p) := by
 intro x hx
 simp only [unitL, List.mem_map] at hx
 obtain ⟨a, _, rfl⟩ := hx
 split
 ·exact Bt.one k
 ·exact Bt.zero k
theorem ev_zerosR (N : SysGLib L) (m : Nat) (hm : m ≤ 65536) : EvR L 131 [.int .i64 (m : Int)] 3 ((List.replicate m (0 : Rat)).map eQ) := by
 have hO := ev_rational_Of N.toRatGLib 0 (by omega)
 refine EvR.x N.network_zeros rfl rfl ?_
 (repeat' (refine AKM.x ?_; conv => whnf))
 refine MkR.go (enc := eO) none m rfl rfl (by omega) ?_
 (conv => whnf)
 skip
 refine AKM.loop1 (fun i => m - i) (fun (i : Nat) => i ≤ m) (fun i => [(9, .int .i64 i)]) (fun i => [(131006, 131006, .rw 3 ((fillO (List.replicate i 0) m).map eO))]) [] [] 0 (by first | exact (by (conv => whnf); exact ⟨rfl, rfl, rfl⟩) | (rw [← fillO_nil]; exact (by (conv => whnf); exact ⟨rfl, rfl, rfl⟩))) (by omega) ?_
 intro i p1 ih
 by_cases hi : i < m
 ·have hl := fillO_len (l := List.replicate i (0 : Rat)) (m := m) (by simp; omega)
  have hs := fillO_set (l := List.replicate i (0 : Rat)) (m := m) (x := 0) (by simp; omega)
  rw [List.length_replicate] at hs
  (repeat' (first | (refine CmpP.go (fun hc => ?_) (fun hc => ?_) <;> first | (exfalso; omega) | (conv => whnf)) | (refine Req.go (by omega) ?_; conv => whnf) | (refine AKM.x ?_; conv => whnf) | (refine CallP.go (hO) ?_; conv => whnf)))
  refine StR.nat (enc := eO) (some 0) rfl (fun e => by cases e <;> rfl) (by omega) ?_
  (conv => whnf)
  (repeat' (refine OpP.add (by omega) ?_; conv => whnf))
  rw [hs]
  rw [show List.replicate i (0 : Rat) ++ [0] = List.replicate (i + 1) 0 by rw [List.replicate_succ']]
  exact AKM.back [] (by (conv => whnf); exact ⟨rfl, rfl, rfl⟩) (ih (i + 1) (by omega) (by omega))
 obtain rfl : i = m := by omega
 clear ih
 rw [fillO_full (by simp)]
 (repeat' (first | (refine CmpP.go (fun hc => ?_) (fun hc => ?_) <;> first | (exfalso; omega) | (conv => whnf)) | (refine AKM.x ?_; conv => whnf)))
 exact ⟨rfl, rfl, by simp, rfl, cl_eQs _⟩
theorem ev_spread (N : LinGLib L) (n : Nt) (src ex : Int) (hv : netB n = true) (hsm : SmallN (tsOf n)) (hnl : n.nodes.length ≤ 4) (hs : -1 ≤ src ∧ src ≤ n.s) (hex : InI ex) : Ev L 144 [.agg (encN n), .int .i64 src, .int .i64 ex] (.sl false ((spreadQ n src ex).map eQ)) := by
 rw [netB_iff] at hv
 obtain ⟨h1, h2, h3, h4, h5, h6⟩ := hv
 have hwf : 0 ≤ n.c.f ∧ n.c.f ≤ 62 := by unfold WV at h2; omega
 have hP := ev_rational_Of N.toRatGLib (pw n.c.f) (by have := pw_pos n.c.f; have := pw_le62 hwf.2; omega)
 have hO := ev_rational_Of N.toRatGLib 0 (by omega)
 have hI := ev_rational_Of N.toRatGLib 1 (by omega)
 refine Ev.x N.network_spread rfl rfl ?_
 (repeat' (first | (refine OpP.add (by omega) ?_; conv => whnf) | (refine AKM.x ?_; conv => whnf)))
 obtain ⟨m, hm⟩ : ∃ m : Nat, 1 + n.s = m := ⟨_, (Int.toNat_of_nonneg (by omega)).symm⟩
 rw [hm]
 have hZ := ev_zerosR N.toSysGLib m (by omega)
 refine CallR.go (enc := eQ) m hZ (by simp) ?_
 (conv => whnf)
 have hu1 := pw_pos n.c.f
 have hu2 : (pw n.c.f).natAbs ≤ 2 ^ 24 := by
  have hf : n.c.f < 24 := by unfold WV at h2; omega
  have h9 : (2 : Nat) ^ n.c.f.toNat ≤ 2 ^ 24 := Nat.pow_le_pow_right (by omega) (by omega)
  rw [pw]
  exact_mod_cast h9
 have hu0 : ((pw n.c.f : Int) : Rat) ≠ 0 := by
  intro e
  have : pw n.c.f = 0 := by exact_mod_cast e
  omega
 have hlt : (tsOf n).length = n.nodes.length := by simp [tsOf]
 have hvals : ∀ j, j ≤ n.nodes.length → Bs 10625 (exS ((pw n.c.f : Int) : Rat) ex 0 (unitL m src) ((tsOf n).take j)) := by
  intro j hj
  have h := exS_bs (ex := ex) hu1 hu2 ((tsOf n).take j) 0 (unitL m src) ⟨fun ts h => hsm.len ts (List.mem_of_mem_take h), fun ts h => hsm.cf ts (List.mem_of_mem_take h)⟩ (Bs.unit _ _ _)
  have e : 0 + ((tsOf n).take j).length = j := by rw [List.length_take, hlt]; omega
  rw [e] at h
  intro x hx
  refine (h x hx).le ?_
  rcases j with _ | _ | _ | _ | _ | j
  ·decide
  ·decide
  ·decide
  ·decide
  ·decide
  ·omega
 have hvl : ∀ j, j ≤ n.nodes.length → (exS ((pw n.c.f : Int) : Rat) ex 0 (unitL m src) ((tsOf n).take j)).length = m + j := by
  intro j hj
  rw [exS_len, unitL_len, List.length_take, hlt]; omega
 have hst := exS_take ((pw n.c.f : Int) : Rat) ex (unitL m src) (tsOf n)
 have hfin : spreadQ n src ex = exS ((pw n.c.f : Int) : Rat) ex 0 (unitL m src) ((tsOf n).take n.nodes.length) := by
  rw [spreadQ, hm, Int.toNat_natCast, ← hlt, List.take_length]
 rw [hfin]
 clear hfin
 (repeat' (first | (refine CmpP.go (fun hc => ?_) (fun hc => ?_) <;> first | (exfalso; omega) | (conv => whnf)) | (refine OpP.shl1 (by omega) (fun _ _ => ?_); conv => whnf)))
 obtain ⟨p, rfl⟩ : ∃ p : Nat, src = p := ⟨_, (Int.toNat_of_nonneg (by omega)).symm⟩
 (repeat' (first | (refine Req.go (by omega) ?_; conv => whnf) | (refine CallP.go (hI) ?_; conv => whnf)))
 refine StR.at (enc := eQ) p 1 (by omega) rfl (fun _ => rfl) (by simp; omega) ?_
 (conv => whnf)
 rw [unit_set]
 rotate_left
 obtain rfl : src = -1 := by omega
 rw [← unitL_neg]
 all_goals
  (repeat' (first | (refine OpP.shl1 (by omega) (fun _ _ => ?_); conv => whnf) | (refine LenP.go ?_; conv => whnf) | (refine CallP.go (hP) ?_; conv => whnf)))
  generalize unitL m _ = w at *
  refine AKM.loop1 (fun j => n.nodes.length - j) (fun (j : Nat) => j ≤ n.nodes.length) (fun j => [(34, .int .i64 j), (7, .row 19 0 3 0 (m + j : Nat))]) (fun j => [(19, 19, .rw 3 ((exS ((pw n.c.f : Int) : Rat) ex 0 w ((tsOf n).take j)).map eQ))]) [] [] 0 (by (conv => whnf); exact ⟨rfl, rfl, rfl⟩) (by omega) ?_
  intro j p2 ih
  by_cases hj : j < n.nodes.length
  ·obtain ⟨nd, hnd⟩ : ∃ nd, n.nodes[j]? = some nd := ⟨_, List.getElem?_eq_getElem hj⟩
   have hnd' : n.nodes[(j : Int).toNat]? = some nd := hnd
   have hts : (tsOf n)[j]? = some nd.ts := by simp [tsOf, hnd]
   have hbv := hvals j p2
   have hlv := hvl j p2
   have hstj := hst j nd.ts hts
   have htm := nodesB_at h4 hnd
   have hL : nd.ts.length ≤ 4 := hsm.len _ (List.mem_of_getElem? hts)
   have hC := hsm.cf _ (List.mem_of_getElem? hts)
   generalize hV : exS ((pw n.c.f : Int) : Rat) ex 0 w ((tsOf n).take j) = V at *
   (repeat' (first | (refine CmpP.go (fun hc => ?_) (fun hc => ?_) <;> first | (exfalso; omega) | (conv => whnf)) | (refine LenP.go ?_; conv => whnf) | (refine RdP.at (by assumption) (by omega) rfl ?_; conv => whnf) | (refine AKM.x ?_; conv => whnf) | (refine CallP.go (hO) ?_; conv => whnf)))
   refine AKM.loop2 (fun t _ => nd.ts.length - t) (fun (t : Nat) (acc : Rat) => t ≤ nd.ts.length ∧ acc = sumQ V (nd.ts.take t)) (fun t acc => [(43, .int .i64 t)]) (fun t acc => [(11, 11, .bx (eQ acc))]) [] [] 0 (0 : Rat) (by (conv => whnf); exact ⟨rfl, rfl, rfl⟩) ⟨by omega, rfl⟩ ?_
   intro t acc ⟨p3, p4⟩ jh
   have hsum : Bt 42600 acc := by
    rw [p4]
    have a1 := hbv.sum (nd.ts.take t) (j := 24) (fun e he => Bt.ofInt (hC e (List.mem_of_mem_take he)))
    refine a1.le (Nat.le_trans (Nat.mul_le_mul_right _ (show (nd.ts.take t).length ≤ 4 by rw [List.length_take]; omega)) (by decide))
   by_cases ht : t < nd.ts.length
   ·obtain ⟨e, he⟩ : ∃ e, nd.ts[t]? = some e := ⟨_, List.getElem?_eq_getElem ht⟩
    have he' : nd.ts[(t : Int).toNat]? = some e := he
    have hme := List.mem_of_getElem? he
    have hok := List.all_eq_true.1 htm e hme
    simp only [termB, decide_eq_true_eq] at hok
    have hce := hC e hme
    obtain ⟨x, hx⟩ : ∃ x, V[e.1.toNat]? = some x := ⟨_, List.getElem?_eq_getElem (by omega)⟩
    have hxd : V.getD e.1.toNat 0 = x := by rw [List.getD_eq_getElem?_getD, hx]; rfl
    have hbx := hbv.at hx
    have hstk := sumQ_take (vals := V) he
    rw [hxd] at hstk
    have hSg := ev_signQ N.toRatGLib hbx (by omega)
    have hE := ev_rational_Of N.toRatGLib e.2 (by have : (2 : Nat) ^ 24 = 16777216 := rfl; omega)
    have hM := ev_mulQ N.toRatGLib (Bt.ofInt hce) hbx (by omega) (by omega)
    have hA := ev_addQ N.toRatGLib hsum ((Bt.ofInt hce).mul hbx) (by omega) (by omega)
    have z1 := sgn_num (x := x)
    generalize sgn x.num = sx at *
    by_cases q1 : e.2 = 0
    ·(repeat' (first | (refine CmpP.go (fun hc => ?_) (fun hc => ?_) <;> first | (exfalso; omega) | (conv => whnf)) | (refine OpP.add (by omega) ?_; conv => whnf) | (refine RdP.at (by assumption) (by omega) rfl ?_; conv => whnf) | (refine AKM.x ?_; conv => whnf)))
     exact AKM.back [] (by (conv => whnf); exact ⟨rfl, rfl, rfl⟩) (jh (t + 1) acc (by omega) ⟨by omega, by rw [hstk, q1, show ((0 : Int) : Rat) = 0 from rfl, Rat.zero_mul, Rat.add_zero]; exact p4⟩)
    ·by_cases q2 : sx = 0
     ·have hx0 := z1.1 q2
      (repeat' (first | (refine CmpP.go (fun hc => ?_) (fun hc => ?_) <;> first | (exfalso; omega) | (conv => whnf)) | (refine Req.go (by omega) ?_; conv => whnf) | (refine RdP.at (by assumption) (by omega) rfl ?_; conv => whnf) | (refine LdR.int (by omega) (fun _ => rfl) (fun v hv => ?_); conv => whnf) | (refine AKM.x ?_; conv => whnf)))
      cases hx.symm.trans hv
      (repeat' (first | (refine CmpP.go (fun hc => ?_) (fun hc => ?_) <;> first | (exfalso; omega) | (conv => whnf)) | (refine OpP.add (by omega) ?_; conv => whnf) | (refine CallP.go (hSg) ?_; conv => whnf)))
      exact AKM.back [] (by (conv => whnf); exact ⟨rfl, rfl, rfl⟩) (jh (t + 1) acc (by omega) ⟨by omega, by rw [hstk, hx0, Rat.mul_zero, Rat.add_zero]; exact p4⟩)
     ·(repeat' (first | (refine CmpP.go (fun hc => ?_) (fun hc => ?_) <;> first | (exfalso; omega) | (conv => whnf)) | (refine Req.go (by omega) ?_; conv => whnf) | (refine RdP.at (by assumption) (by omega) rfl ?_; conv => whnf) | (refine LdR.int (by omega) (fun _ => rfl) (fun v hv => ?_); conv => whnf) | (refine AKM.x ?_; conv => whnf)))
      cases hx.symm.trans hv
      (repeat' (first | (refine CmpP.go (fun hc => ?_) (fun hc => ?_) <;> first | (exfalso; omega) | (conv => whnf)) | (refine Req.go (by omega) ?_; conv => whnf) | (refine LdR.int (by omega) (fun _ => rfl) (fun v hv => ?_); conv => whnf) | (refine CallP.go (hSg) ?_; conv => whnf) | (refine CallP.go (hE) ?_; conv => whnf)))
      cases hx.symm.trans hv
      (repeat' (first | (refine OpP.add (by omega) ?_; conv => whnf) | (refine CallP.go (hM) ?_; conv => whnf) | (refine CallP.go (hA) ?_; conv => whnf)))
      exact AKM.back [] (by (conv => whnf); exact ⟨rfl, rfl, rfl⟩) (jh (t + 1) (acc + ((e.2 : Int) : Rat) * x) (by omega) ⟨by omega, by rw [hstk, ← p4]⟩)
   ·obtain rfl : t = nd.ts.length := by omega
    clear jh
    rw [List.take_length] at p4
    have hD := ev_divQ N.toRatGLib hsum (Bt.ofInt hu2) (by omega) (by omega) hu0
    rw [← p4] at hstj
    by_cases q5 : (j : Int) = ex
    ·have hA1 := ev_addQ N.toRatGLib (hsum.divz hu1 hu2) (Bt.ofInt (k := 0) (z := 1) (by decide)) (by omega) (by omega)
     rw [if_pos q5] at hstj
     (repeat' (first | (refine CmpP.go (fun hc => ?_) (fun hc => ?_) <;> first | (exfalso; omega) | (conv => whnf)) | (refine RowP.e1 ?_; conv => whnf) | (refine AKM.x ?_; conv => whnf) | (refine CallP.go (hD) ?_; conv => whnf) | (refine CallP.go (hI) ?_; conv => whnf) | (refine CallP.go (hA1) ?_; conv => whnf)))
     refine AppR.one (enc := eQ) (acc / ((pw n.c.f : Int) : Rat) + ((1 : Int) : Rat)) rfl hlv.symm rfl (by omega) (by omega) ?_
     rw [show ((1 : Int) : Rat) = 1 from rfl, ← hstj, hvl (j + 1) (by omega)]
     (repeat' (refine OpP.add (by omega) ?_; conv => whnf))
     exact AKM.back [(19, 86)] (by (conv => whnf); exact ⟨rfl, rfl, rfl⟩) (ih (j + 1) (by omega) (by omega))
    ·rw [if_neg q5, Rat.add_zero] at hstj
     (repeat' (first | (refine CmpP.go (fun hc => ?_) (fun hc => ?_) <;> first | (exfalso; omega) | (conv => whnf)) | (refine RowP.e1 ?_; conv => whnf) | (refine AKM.x ?_; conv => whnf) | (refine CallP.go (hD) ?_; conv => whnf)))
     refine AppR.one (enc := eQ) (acc / ((pw n.c.f : Int) : Rat)) rfl hlv.symm rfl (by omega) (by omega) ?_
     rw [← hstj, hvl (j + 1) (by omega)]
     (repeat' (refine OpP.add (by omega) ?_; conv => whnf))
     exact AKM.back [(19, 86)] (by (conv => whnf); exact ⟨rfl, rfl, rfl⟩) (ih (j + 1) (by omega) (by omega))
  ·obtain rfl : j = n.nodes.length := by omega
   clear ih
   (repeat' (first | (refine CmpP.go (fun hc => ?_) (fun hc => ?_) <;> first | (exfalso; omega) | (conv => whnf)) | (refine AKM.x ?_; conv => whnf)))
   have hlv := hvl n.nodes.length p2
   refine SnR.all (enc := eQ) (fun _ => rfl) rfl (by omega) ?_
   exact FinP.go rfl (by simp only [Clean, true_and]; exact cl_eQs _)
end Go.Eng

namespace Go.Eng
open F
attribute [local irreducible] AKM CmpP Req OpP UnP ConvP RdP LdR StR MkR LenP AppR AppN CpyR RowP SnR Bds SlS CallP CalP FinP pw LdM GetM SetM PutM MkM AppM SnM FlP CallR
set_option maxHeartbeats 4000000
variable {L : Lib}
def linQ (n : Nt) : SysQ where
 a := n.next.map fun e => (List.range n.s.toNat).map fun (j : Nat) => (spreadQ n ((j : Int) + 1) (-1)).getD e.toNat 0
 b := n.next.map fun e => (spreadQ n 0 (-1)).getD e.toNat 0
 c := (List.range n.s.toNat).map fun (j : Nat) => (spreadQ n ((j : Int) + 1) (-1)).getD n.out.toNat 0
 d := (spreadQ n 0 (-1)).getD n.out.toNat 0
abbrev eC : Option (List Rat) → List AV
 | none => [.nil]
 | some l => [.sl false (l.map eQ)]
def fillC (l : List (List Rat)) (m : Nat) : List (Option (List Rat)) := l.map some ++ List.replicate (m - l.length) none
theorem fillC_len {l : List (List Rat)} {m : Nat} (h : l.length ≤ m) : (fillC l m).length = m := by simp [fillC]; omega
theorem fillC_set {l : List (List Rat)} {m : Nat} {x : List Rat} (h : l.length < m) : (fillC l m).set l.length (some x) = fillC (l ++ [x]) m := by
 unfold fillC
 rw [List.set_append_right _ _ (by simp)]
 obtain ⟨k, hk⟩ : ∃ k, m - l.length = k + 1 := ⟨m - l.length - 1, by omega⟩
 rw [hk, List.length_map, Nat.sub_self, List.replicate_succ, List.set_cons_zero, List.length_append, List.length_singleton, show m - (l.length + 1) = k by omega]
 simp
theorem fillM_set {α : Type} (a b : α) {t m : Nat} (_ : t ≤ m) (h : t < m) : (List.replicate t a ++ List.replicate (m - t) b).set t a = List.replicate (t + 1) a ++ List.replicate (m - (t + 1)) b := by
 obtain ⟨k, hk⟩ : ∃ k, m - t = k + 1 := ⟨m - t - 1, by omega⟩
 rw [List.set_append_right _ _ (by simp), hk, List.length_replicate, Nat.sub_self, List.replicate_succ, List.set_cons_zero, show m - (t + 1) = k by omega, List.replicate_succ', List.append_assoc]
 rfl
def fz {α : Type} (z : α) (l : List α) (m : Nat) : List α := l ++ List.replicate (m - l.length) z
theorem fz_len {α : Type} {z : α} {l : List α} {m : Nat} (h : l.length ≤ m) : (fz z l m).length = m := by simp [fz]; omega
theorem fz_len' {α : Type} (z : α) (l : List α) (m : Nat) : (fz z l m).length = l.length + (m - l.length) := by simp [fz]
theorem fz_set {α : Type} {z x : α} {l : List α} {m : Nat} (h : l.length < m) : (fz z l m).set l.length x = fz z (l ++ [x]) m := by
 unfold fz
 obtain ⟨k, hk⟩ : ∃ k, m - l.length = k + 1 := ⟨m - l.length - 1, by omega⟩
 rw [List.set_append_right _ _ (by simp), hk, Nat.sub_self, List.replicate_succ, List.set_cons_zero, List.length_append, List.length_singleton, show m - (l.length + 1) = k by omega, List.append_assoc]
 rfl
theorem fz_at {α : Type} {z : α} {l : List α} {m : Nat} (h : l.length < m) : (fz z l m)[l.length]? = some z := by
 unfold fz
 rw [List.getElem?_append_right (by omega), Nat.sub_self, List.getElem?_replicate, if_pos (by omega)]
theorem fz_full {α : Type} {z : α} {l : List α} {m : Nat} (h : l.length = m) : fz z l m = l := by simp [fz, h]
theorem fillC_full (l : List (List Rat)) : (fillC l l.length).map eC = l.map fun c => [AV.sl false (c.map eQ)] := by
 simp [fillC, Function.comp_def]
def colsQ (n : Nt) (i : Nat) : List (List Rat) := (List.range i).map fun (j : Nat) => spreadQ n (j : Int) (-1)
theorem colsQ_succ (n : Nt) (i : Nat) : colsQ n (i + 1) = colsQ n i ++ [spreadQ n (i : Int) (-1)] := by simp [colsQ, List.range_succ]
theorem colsQ_len (n : Nt) (i : Nat) : (colsQ n i).length = i := by simp [colsQ]
theorem list_set_self {α : Type} {l : List α} {i : Nat} {x : α} (h : l[i]? = some x) : l.set i x = l := by
 refine List.ext_getElem? fun j => ?_
 rw [List.getElem?_set]
 split
 ·rename_i e; subst e
  rw [h]; split
  ·rfl
  ·rename_i h2; rw [List.getElem?_eq_none (by omega)] at h; cases h
 ·rfl
theorem take_snocA {α : Type} {l : List α} {i : Nat} {x : α} (h : l[i]? = some x) : l.take (i + 1) = l.take i ++ [x] := by
 rw [List.take_add_one, h]; rfl
theorem spreadQ_len (n : Nt) (src ex : Int) : (spreadQ n src ex).length = (1 + n.s).toNat + n.nodes.length := by
 simp only [spreadQ, exS_len, unitL_len, tsOf, List.length_map]
theorem spreadQ_bs (n : Nt) (src ex : Int) (h2 : WV n.c) (hsm : SmallN (tsOf n)) (hnl : n.nodes.length ≤ 4) : Bs 10625 (spreadQ n src ex) := by
 have hlt : (tsOf n).length = n.nodes.length := by simp [tsOf]
 have hu1 := pw_pos n.c.f
 have hu2 : (pw n.c.f).natAbs ≤ 2 ^ 24 := by
  have hf : n.c.f < 24 := by unfold WV at h2; omega
  have h9 : (2 : Nat) ^ n.c.f.toNat ≤ 2 ^ 24 := Nat.pow_le_pow_right (by omega) (by omega)
  rw [pw]
  exact_mod_cast h9
 have h := exS_bs (ex := ex) hu1 hu2 (tsOf n) 0 (unitL (1 + n.s).toNat src) hsm (Bs.unit _ _ _)
 rw [hlt, Nat.zero_add] at h
 intro x hx
 refine (h x hx).le ?_
 generalize n.nodes.length = j at hnl
 rcases j with _ | _ | _ | _ | _ | j
 ·decide
 ·decide
 ·decide
 ·decide
 ·decide
 ·omega
theorem hcolsat (n : Nt) (t : Nat) (j : Int) (h : 0 ≤ j ∧ j ≤ t) : (colsQ n (t + 1))[j.toNat]? = some (spreadQ n j (-1)) := by
 unfold colsQ
 rw [List.getElem?_map, List.getElem?_range (by omega), Option.map_some, Int.toNat_of_nonneg h.1]
theorem ev_Linear (I : FixedLib L) (N : LinGLib L) (n : Nt) (hv : netB n = true) (hsm : SmallN (tsOf n)) (hnl : n.nodes.length ≤ 4) : Ev L 146 [.agg (encN n)] (.tup [.agg (eS (linQ n)), .int .i64 0]) := by
 have hV := ev_network_Valid n I N.toNetLib
 rw [hv] at hV
 have hSp := fun (j : Int) (h : 0 ≤ j ∧ j ≤ n.s) => ev_spread N n j (-1) hv hsm hnl (by omega) (by unfold InI; omega)
 have hO := ev_rational_Of N.toRatGLib 0 (by omega)
 rw [netB_iff] at hv
 obtain ⟨h1, h2, h3, h4, h5, h6⟩ := hv
 have hnx : ∀ e ∈ n.next, 0 ≤ e ∧ e ≤ n.s + n.nodes.length := fun e he => by simpa using List.all_eq_true.1 h5 e he
 refine Ev.x N.network_Linear rfl rfl ?_
 (repeat' (first | (refine OpP.add (by omega) ?_; conv => whnf) | (refine AKM.x ?_; conv => whnf) | (refine CallP.go (hV) ?_; conv => whnf)))
 obtain ⟨m, hm⟩ : ∃ m : Nat, n.s = m := ⟨n.s.toNat, (Int.toNat_of_nonneg (by omega)).symm⟩
 rw [hm]
 unfold MkM
 refine ⟨⟨by omega, by omega, by simp only [roomMax]; omega, by omega⟩, ?_⟩
 rw [show ((m : Int) + 1).toNat = m + 1 by omega]
 (conv => whnf)
 skip
 refine AKM.mxN 146018 146018 (m + 1) rfl ?_
 skip
 rw [show List.replicate (m + 1) [AV.nil] = (fillC (colsQ n 0) (m + 1)).map eC by simp [fillC, colsQ]]
 refine AKM.loop1 (fun i => m + 1 - i) (fun (i : Nat) => i ≤ m + 1) (fun i => [(21, .int .i64 i)]) (fun i => [(146018, 146018, .rw 1 ((fillC (colsQ n i) (m + 1)).map eC))]) [] [] 0 (by (conv => whnf); exact ⟨rfl, rfl, rfl⟩) (by omega) ?_
 intro i p1 ih
 by_cases hi : i < m + 1
 ·have hl := fillC_len (l := colsQ n i) (m := m + 1) (by rw [colsQ_len]; omega)
  have hst := fillC_set (l := colsQ n i) (m := m + 1) (x := spreadQ n (i : Int) (-1)) (by rw [colsQ_len]; omega)
  rw [colsQ_len, ← colsQ_succ] at hst
  have hS := hSp i (by omega)
  unfold encN at hS
  rw [hm] at hS
  (repeat' (first | (refine CmpP.go (fun hc => ?_) (fun hc => ?_) <;> first | (exfalso; omega) | (conv => whnf)) | (refine Req.go (by omega) ?_; conv => whnf) | (refine AKM.x ?_; conv => whnf) | (refine CallP.go (hS) ?_; conv => whnf)))
  refine StR.nat (enc := eC) (some (spreadQ n (i : Int) (-1))) rfl (fun e => by cases e <;> rfl) (by omega) ?_
  (conv => whnf)
  (repeat' (refine OpP.add (by omega) ?_; conv => whnf))
  rw [hst]
  exact AKM.back [] (by (conv => whnf); exact ⟨rfl, rfl, rfl⟩) (ih (i + 1) (by omega) (by omega))
 ·obtain rfl : i = m + 1 := by omega
  clear ih
  (repeat' (first | (refine CmpP.go (fun hc => ?_) (fun hc => ?_) <;> first | (exfalso; omega) | (conv => whnf)) | (refine AKM.x ?_; conv => whnf)))
  refine CalP.walkC 1000 N.network_zero rfl rfl ?_
  (repeat' (refine AKM.x ?_; conv => whnf))
  unfold MkM
  refine ⟨⟨by omega, by omega, by simp only [roomMax]; omega, by omega⟩, ?_⟩
  rw [Int.toNat_natCast]
  (conv => whnf)
  have hZ := ev_zerosR N.toSysGLib m (by omega)
  refine CallR.go (enc := eQ) m hZ (by simp) ?_
  (conv => whnf)
  refine CallR.go (enc := eQ) m hZ (by simp) ?_
  (conv => whnf)
  (repeat' (refine CallP.go (hO) ?_; conv => whnf))
  refine AKM.loop1 (fun t => m - t) (fun (t : Nat) => t ≤ m) (fun t => [(16, .int .i64 t)]) (fun t => [(145006, 145006, .mx (List.replicate t (some (3, (List.replicate m (0 : Rat)).map eQ)) ++ List.replicate (m - t) none))]) [] [] 0 (by (conv => whnf); exact ⟨rfl, rfl, rfl⟩) (by omega) ?_
  intro t p4 th
  by_cases ht : t < m
  ·(repeat' (first | (refine CmpP.go (fun hc => ?_) (fun hc => ?_) <;> first | (exfalso; omega) | (conv => whnf)) | (refine AKM.x ?_; conv => whnf)))
   refine CallR.go (enc := eQ) m hZ (by simp) ?_
   (conv => whnf)
   (repeat' (first | (refine Req.go (by omega) ?_; conv => whnf) | fail))
   unfold Req SetM
   refine ⟨by simp, by simp; omega, ?_⟩
   (conv => whnf)
   rw [show 0 + ((t : Int)).toNat = t by omega, fillM_set _ _ p4 ht]
   (repeat' (refine OpP.add (by omega) ?_; conv => whnf))
   exact AKM.back [] (by (conv => whnf); exact ⟨rfl, rfl, rfl⟩) (th (t + 1) (by omega) (by omega))
  obtain rfl : t = m := by omega
  clear th
  have hcs := hcolsat n t
  rw [show List.replicate t (some (3, List.map eQ (List.replicate t 0))) ++ List.replicate (t - t) none = mxR 3 eQ (fz (List.replicate t 0) [] t) by simp [mxR, fz], show List.replicate t (0 : Rat) = fz 0 [] t by simp [fz], show (fillC (colsQ n (t + 1)) (t + 1)).map eC = (colsQ n (t + 1)).map fun c => [AV.sl false (c.map eQ)] by rw [← fillC_full, colsQ_len]]
  (repeat' (first | (refine CmpP.go (fun hc => ?_) (fun hc => ?_) <;> first | (exfalso; omega) | (conv => whnf)) | (refine AKM.x ?_; conv => whnf)))
  refine ⟨rfl, ?_⟩
  (conv => whnf)
  (repeat' (refine LenP.go ?_; conv => whnf))
  have hsn : n.s.toNat = t := by omega
  have hnl2 : n.next.length = t := by omega
  have hcql := colsQ_len n (t + 1)
  refine AKM.loop1 (fun i => n.next.length - i) (fun (i : Nat) => i ≤ n.next.length) (fun i => [(37, .int .i64 i)]) (fun i => [(145006, 145006, .mx (mxR 3 eQ (fz (List.replicate t 0) ((linQ n).a.take i) t))), (145008, 145008, .rw 3 ((fz 0 ((linQ n).b.take i) t).map eQ))]) [] [] 0 (by (conv => whnf); exact ⟨rfl, rfl, rfl⟩) (by omega) ?_
  intro i q1 ih
  by_cases hi : i < n.next.length
  ·obtain ⟨e, he⟩ : ∃ e, n.next[i]? = some e := ⟨_, List.getElem?_eq_getElem hi⟩
   have hx' : n.next[(i : Int).toNat]? = some e := he
   have hrow : (linQ n).a[i]? = some ((List.range t).map fun (j : Nat) => (spreadQ n ((j : Int) + 1) (-1)).getD e.toNat 0) := by
    rw [← hsn]; simp only [linQ, List.getElem?_map, he, Option.map_some]
   have hbe : (linQ n).b[i]? = some ((spreadQ n 0 (-1)).getD e.toNat 0) := by
    simp only [linQ, List.getElem?_map, he, Option.map_some]
   have hal : (linQ n).a.length = t := by simp [linQ, hnl2]
   have hbl : (linQ n).b.length = t := by simp [linQ, hnl2]
   have htk : ((linQ n).a.take i).length = i := by rw [List.length_take]; omega
   have htb : ((linQ n).b.take i).length = i := by rw [List.length_take]; omega
   have hA0 : fz (List.replicate t 0) ((linQ n).a.take i) t = (fz (List.replicate t 0) ((linQ n).a.take i) t).set i (fz 0 [] t) := by
    have := fz_at (z := List.replicate t (0 : Rat)) (l := (linQ n).a.take i) (m := t) (by omega)
    rw [htk] at this
    rw [show fz (0 : Rat) [] t = List.replicate t 0 by simp [fz]]
    exact (list_set_self this).symm
   have hAs := fz_set (z := List.replicate t (0 : Rat)) (l := (linQ n).a.take i) (m := t) (x := (List.range t).map fun (j : Nat) => (spreadQ n ((j : Int) + 1) (-1)).getD e.toNat 0) (by omega)
   have hBs := fz_set (z := (0 : Rat)) (l := (linQ n).b.take i) (m := t) (x := (spreadQ n 0 (-1)).getD e.toNat 0) (by omega)
   rw [htk, ← take_snocA hrow] at hAs
   rw [htb, ← take_snocA hbe] at hBs
   have hAl := fz_len (z := List.replicate t (0 : Rat)) (l := (linQ n).a.take i) (m := t) (by omega)
   have hBl := fz_len (z := (0 : Rat)) (l := (linQ n).b.take i) (m := t) (by omega)
   have hen := hnx e (List.mem_of_getElem? he)
   generalize fz (List.replicate t 0) ((linQ n).a.take i) t = A0 at *
   generalize fz (0 : Rat) ((linQ n).b.take i) t = B0 at *
   have hA1 : A0 = A0.set i (fz 0 ((List.range 0).map fun (j : Nat) => (spreadQ n ((j : Int) + 1) (-1)).getD e.toNat 0) t) := hA0
   (repeat' (first | (refine CmpP.go (fun hc => ?_) (fun hc => ?_) <;> first | (exfalso; omega) | (conv => whnf)) | (refine RdP.at (by assumption) (by omega) rfl ?_; conv => whnf) | (refine AKM.x ?_; conv => whnf)))
   refine AKM.loop1 (fun j => t - j) (fun (j : Nat) => j ≤ t) (fun j => [(44, .int .i64 j)]) (fun j => [(145006, 145006, .mx (mxR 3 eQ (A0.set i (fz 0 ((List.range j).map fun (j : Nat) => (spreadQ n ((j : Int) + 1) (-1)).getD e.toNat 0) t))))]) [] [] 0 (by first | exact (by (conv => whnf); exact ⟨rfl, rfl, rfl⟩) | (rw [← hA1]; exact (by (conv => whnf); exact ⟨rfl, rfl, rfl⟩))) (by omega) ?_
   intro j q2 jh
   have hcl : ((List.range j).map fun (j : Nat) => (spreadQ n ((j : Int) + 1) (-1)).getD e.toNat 0).length = j := by simp
   by_cases hj : j < t
   ·have hcol := hcs ((j : Int) + 1) (by omega)
    have hxl := spreadQ_len n ((j : Int) + 1) (-1)
    have hxb := spreadQ_bs n ((j : Int) + 1) (-1) h2 hsm hnl
    obtain ⟨x, hx⟩ : ∃ x, (spreadQ n ((j : Int) + 1) (-1))[e.toNat]? = some x := ⟨_, List.getElem?_eq_getElem (by omega)⟩
    have hxd : (spreadQ n ((j : Int) + 1) (-1)).getD e.toNat 0 = x := by rw [List.getD_eq_getElem?_getD, hx]; rfl
    have hT := ev_trimQ N.toRatGLib (hxb.at hx) (by omega)
    have hcs2 := fz_set (z := (0 : Rat)) (l := (List.range j).map fun (j : Nat) => (spreadQ n ((j : Int) + 1) (-1)).getD e.toNat 0) (m := t) (x := x) (by omega)
    have hcl2 := fz_len (z := (0 : Rat)) (l := (List.range j).map fun (j : Nat) => (spreadQ n ((j : Int) + 1) (-1)).getD e.toNat 0) (m := t) (by omega)
    rw [hcl, show ((List.range j).map fun (j : Nat) => (spreadQ n ((j : Int) + 1) (-1)).getD e.toNat 0) ++ [x] = (List.range (j + 1)).map fun (j : Nat) => (spreadQ n ((j : Int) + 1) (-1)).getD e.toNat 0 by rw [List.range_succ, List.map_append, List.map_singleton, hxd]] at hcs2
    have hrw : (A0.set i (fz 0 ((List.range j).map fun (j : Nat) => (spreadQ n ((j : Int) + 1) (-1)).getD e.toNat 0) t))[i]? = some (fz 0 ((List.range j).map fun (j : Nat) => (spreadQ n ((j : Int) + 1) (-1)).getD e.toNat 0) t) := by
     rw [List.getElem?_set, if_pos rfl, if_pos (by omega)]
    have hsl : (A0.set i (fz 0 ((List.range j).map fun (j : Nat) => (spreadQ n ((j : Int) + 1) (-1)).getD e.toNat 0) t)).length = t := by rw [List.length_set]; omega
    (repeat' (first | (refine CmpP.go (fun hc => ?_) (fun hc => ?_) <;> first | (exfalso; omega) | (conv => whnf)) | (refine Req.go (by omega) ?_; conv => whnf) | (refine OpP.add (by omega) ?_; conv => whnf) | (refine LdR.int (by omega) (fun _ => rfl) (fun v hv => ?_); conv => whnf) | (refine LdM.nat (by omega) (fun r hr => ?_); conv => whnf) | (refine AKM.x ?_; conv => whnf)))
    cases hrw.symm.trans hr
    cases hcol.symm.trans hv
    (repeat' (first | (refine RdP.at (by assumption) (by omega) rfl ?_; conv => whnf) | (refine CallP.go (hT) ?_; conv => whnf)))
    refine Req.go (by rw [List.length_map]; omega) ?_
    (conv => whnf)
    (repeat' (refine GetM.ati (by assumption) ?_; conv => whnf))
    refine StR.nat (enc := eQ) x rfl (fun _ => rfl) (by omega) ?_
    (conv => whnf)
    rw [hcs2]
    refine PutM.nat (by simp only [fz_len' , hcl, List.length_map, List.length_range]; omega) ?_
    rw [List.set_set]
    (conv => whnf)
    (repeat' (refine OpP.add (by omega) ?_; conv => whnf))
    exact AKM.back [] (by (conv => whnf); exact ⟨rfl, rfl, rfl⟩) (jh (j + 1) (by omega) (by omega))
   ·obtain rfl : j = t := by omega
    clear jh
    rw [fz_full hcl, hAs]
    have hcol := hcs 0 (by omega)
    have hxl := spreadQ_len n 0 (-1)
    have hxb := spreadQ_bs n 0 (-1) h2 hsm hnl
    obtain ⟨x, hx⟩ : ∃ x, (spreadQ n 0 (-1))[e.toNat]? = some x := ⟨_, List.getElem?_eq_getElem (by omega)⟩
    have hxd : (spreadQ n 0 (-1)).getD e.toNat 0 = x := by rw [List.getD_eq_getElem?_getD, hx]; rfl
    rw [hxd] at hBs
    have hT := ev_trimQ N.toRatGLib (hxb.at hx) (by omega)
    (repeat' (first | (refine CmpP.go (fun hc => ?_) (fun hc => ?_) <;> first | (exfalso; omega) | (conv => whnf)) | (refine Req.go (by omega) ?_; conv => whnf) | (refine LdR.int (by omega) (fun _ => rfl) (fun v hv => ?_); conv => whnf) | (refine AKM.x ?_; conv => whnf)))
    cases hcol.symm.trans hv
    (repeat' (first | (refine Req.go (by omega) ?_; conv => whnf) | (refine RdP.at (by assumption) (by omega) rfl ?_; conv => whnf) | (refine CallP.go (hT) ?_; conv => whnf)))
    refine StR.nat (enc := eQ) x rfl (fun _ => rfl) (by omega) ?_
    (conv => whnf)
    rw [hBs]
    (repeat' (refine OpP.add (by omega) ?_; conv => whnf))
    exact AKM.back [] (by (conv => whnf); exact ⟨rfl, rfl, rfl⟩) (ih (i + 1) (by omega) (by omega))
  ·obtain rfl : i = n.next.length := by omega
   clear ih
   have hal : (linQ n).a.length = t := by simp [linQ, hnl2]
   have hbl : (linQ n).b.length = t := by simp [linQ, hnl2]
   rw [List.take_of_length_le (show (linQ n).a.length ≤ n.next.length by omega), List.take_of_length_le (show (linQ n).b.length ≤ n.next.length by omega), fz_full hal, fz_full hbl]
   (repeat' (first | (refine CmpP.go (fun hc => ?_) (fun hc => ?_) <;> first | (exfalso; omega) | (conv => whnf)) | (refine AKM.x ?_; conv => whnf)))
   refine AKM.loop1 (fun j => t - j) (fun (j : Nat) => j ≤ t) (fun j => [(78, .int .i64 j)]) (fun j => [(145010, 145010, .rw 3 ((fz 0 ((List.range j).map fun (j : Nat) => (spreadQ n ((j : Int) + 1) (-1)).getD n.out.toNat 0) t).map eQ))]) [] [] 0 (by (conv => whnf); exact ⟨rfl, rfl, rfl⟩) (by omega) ?_
   intro j q2 jh
   have hcl : ((List.range j).map fun (j : Nat) => (spreadQ n ((j : Int) + 1) (-1)).getD n.out.toNat 0).length = j := by simp
   by_cases hj : j < t
   ·have hcol := hcs ((j : Int) + 1) (by omega)
    have hxl := spreadQ_len n ((j : Int) + 1) (-1)
    have hxb := spreadQ_bs n ((j : Int) + 1) (-1) h2 hsm hnl
    obtain ⟨x, hx⟩ : ∃ x, (spreadQ n ((j : Int) + 1) (-1))[n.out.toNat]? = some x := ⟨_, List.getElem?_eq_getElem (by omega)⟩
    have hxd : (spreadQ n ((j : Int) + 1) (-1)).getD n.out.toNat 0 = x := by rw [List.getD_eq_getElem?_getD, hx]; rfl
    have hT := ev_trimQ N.toRatGLib (hxb.at hx) (by omega)
    have hcs2 := fz_set (z := (0 : Rat)) (l := (List.range j).map fun (j : Nat) => (spreadQ n ((j : Int) + 1) (-1)).getD n.out.toNat 0) (m := t) (x := x) (by omega)
    have hcl2 := fz_len (z := (0 : Rat)) (l := (List.range j).map fun (j : Nat) => (spreadQ n ((j : Int) + 1) (-1)).getD n.out.toNat 0) (m := t) (by omega)
    rw [hcl, show ((List.range j).map fun (j : Nat) => (spreadQ n ((j : Int) + 1) (-1)).getD n.out.toNat 0) ++ [x] = (List.range (j + 1)).map fun (j : Nat) => (spreadQ n ((j : Int) + 1) (-1)).getD n.out.toNat 0 by rw [List.range_succ, List.map_append, List.map_singleton, hxd]] at hcs2
    (repeat' (first | (refine CmpP.go (fun hc => ?_) (fun hc => ?_) <;> first | (exfalso; omega) | (conv => whnf)) | (refine Req.go (by omega) ?_; conv => whnf) | (refine OpP.add (by omega) ?_; conv => whnf) | (refine LdR.int (by omega) (fun _ => rfl) (fun v hv => ?_); conv => whnf) | (refine AKM.x ?_; conv => whnf)))
    cases hcol.symm.trans hv
    (repeat' (first | (refine Req.go (by omega) ?_; conv => whnf) | (refine RdP.at (by assumption) (by omega) rfl ?_; conv => whnf) | (refine CallP.go (hT) ?_; conv => whnf)))
    refine StR.nat (enc := eQ) x rfl (fun _ => rfl) (by omega) ?_
    (conv => whnf)
    rw [hcs2]
    (repeat' (refine OpP.add (by omega) ?_; conv => whnf))
    exact AKM.back [] (by (conv => whnf); exact ⟨rfl, rfl, rfl⟩) (jh (j + 1) (by omega) (by omega))
   ·obtain rfl : j = t := by omega
    clear jh
    rw [fz_full hcl]
    have hcol := hcs 0 (by omega)
    have hxl := spreadQ_len n 0 (-1)
    have hxb := spreadQ_bs n 0 (-1) h2 hsm hnl
    obtain ⟨x, hx⟩ : ∃ x, (spreadQ n 0 (-1))[n.out.toNat]? = some x := ⟨_, List.getElem?_eq_getElem (by omega)⟩
    have hxd : (spreadQ n 0 (-1)).getD n.out.toNat 0 = x := by rw [List.getD_eq_getElem?_getD, hx]; rfl
    have hT := ev_trimQ N.toRatGLib (hxb.at hx) (by omega)
    have hd : (linQ n).d = x := hxd
    have hcc : (linQ n).c = (List.range j).map fun (j : Nat) => (spreadQ n ((j : Int) + 1) (-1)).getD n.out.toNat 0 := by rw [linQ, hsn]
    rw [← hcc]
    (repeat' (first | (refine CmpP.go (fun hc => ?_) (fun hc => ?_) <;> first | (exfalso; omega) | (conv => whnf)) | (refine Req.go (by omega) ?_; conv => whnf) | (refine LdR.int (by omega) (fun _ => rfl) (fun v hv => ?_); conv => whnf) | (refine AKM.x ?_; conv => whnf)))
    cases hcol.symm.trans hv
    (repeat' (first | (refine RdP.at (by assumption) (by omega) rfl ?_; conv => whnf) | (refine CallP.go (hT) ?_; conv => whnf)))
    have hcn : (linQ n).c.length = j := by rw [hcc, hcl]
    refine SnM.all (fun _ => rfl) rfl hal.symm ?_
    (conv => whnf)
    refine SnR.all (enc := eQ) (fun _ => rfl) rfl hbl.symm ?_
    (conv => whnf)
    refine SnR.all (enc := eQ) (fun _ => rfl) rfl hcn.symm ?_
    (conv => whnf)
    refine FinP.go (by rw [← hd]; rfl) ?_
    simp only [Clean, CleanL, and_true]
    exact cl_eS (linQ n)
end Go.Eng

namespace Go.Eng
variable {n : Nt}
end Go.Eng



namespace Go.Eng
open F
attribute [local irreducible] AKM CmpP Req OpP UnP ConvP RdP LdR StR MkR LenP AppR AppN CpyR RowP SnR Bds SlS CallP CalP FinP pw LdM GetM SetM PutM MkM AppM SnM FlP CallR
set_option maxHeartbeats 8000000
variable {L : Lib}
theorem coef_rng {n : Nt} (hb : netB n = true) {nd : Nd} (h : nd ∈ n.nodes) {t : Int × Int} (ht : t ∈ nd.ts) : -16777216 ≤ t.2 ∧ t.2 ≤ 16777216 := by
 obtain ⟨h1, h2, h3, h4, h5, h6⟩ := (netB_iff n).1 hb
 obtain ⟨i, hi⟩ := List.getElem?_of_mem h
 have := List.all_eq_true.1 (nodesB_at h4 hi) t ht
 simp only [termB, decide_eq_true_eq] at this
 have h2' := h2
 unfold WV at h2'
 have e := pw_le (n := n.c.f) (m := 23) (by omega)
 have e2 : pw 23 = 8388608 := by unfold pw; rfl
 have e3 := pw_pos n.c.f
 rcases this with ⟨_, _, h | h⟩
 ·omega
 ·have := FT_le h; omega
theorem netR_nodesL (r : Rw) : (netR r).nodes.length ≤ 4 := by simp [netR, nodesR]; omega
theorem netR_tsl (r : Rw) {nd : Nd} (h : nd ∈ (netR r).nodes) : nd.ts.length ≤ 4 := by
 simp only [netR, nodesR, List.map_map, List.mem_map] at h
 obtain ⟨k, _, rfl⟩ := h
 simp only [Function.comp, nodeR]
 split
 ·simp [termsR]; omega
 ·simp
theorem netR_small (r : Rw) : SmallN (tsOf (netR r)) := by
 constructor
 ·intro ts h
  obtain ⟨nd, h1, rfl⟩ := List.mem_map.1 h
  exact netR_tsl r h1
 ·intro ts h t ht
  obtain ⟨nd, h1, rfl⟩ := List.mem_map.1 h
  have := coef_rng (netR_ok r) h1 ht
  have e : (2 : Nat) ^ 24 = 16777216 := rfl
  omega
theorem linQ_ok {n : Nt} (hb : netB n = true) (hsm : SmallN (tsOf n)) (hnl : n.nodes.length ≤ 4) : (linQ n).Ok n.s.toNat 10625 := by
 obtain ⟨h1, h2, h3, h4, h5, h6⟩ := (netB_iff n).1 hb
 have hB := fun j => spreadQ_bs n j (-1) h2 hsm hnl
 refine ⟨by simp [linQ]; omega, ?_, by simp [linQ]; omega, by simp [linQ], ?_, ?_, ?_, (hB 0).getD _⟩
 ·intro r hr
  obtain ⟨e, _, rfl⟩ := List.mem_map.1 hr
  simp
 ·intro r hr x hx
  obtain ⟨e, _, rfl⟩ := List.mem_map.1 hr
  obtain ⟨j, _, rfl⟩ := List.mem_map.1 hx
  exact (hB _).getD _
 ·intro x hx
  obtain ⟨e, _, rfl⟩ := List.mem_map.1 hx
  exact (hB _).getD _
 ·intro x hx
  obtain ⟨j, _, rfl⟩ := List.mem_map.1 hx
  exact (hB _).getD _
end Go.Eng

namespace Go.Eng
open F
attribute [local irreducible] AKM CmpP Req OpP UnP ConvP RdP LdR StR MkR LenP AppR AppN CpyR RowP SnR Bds SlS CallP CalP FinP pw LdM GetM SetM PutM MkM AppM SnM FlP CallR
set_option maxHeartbeats 4000000
variable {L : Lib}
theorem qv_not (n : Bool) (m d : List Nat) : qv (!n) m d = -(qv n m d) := by
 unfold qv
 have h : zv (!n) m = -(zv n m) := by cases n <;> simp [zv]
 rw [h, Rat.neg_mkRat]
theorem cl_rQ (n : Bool) (m d : List Nat) : Clean (.agg (rQ false false n m d)) := by
 simp only [Clean, CleanL, and_true, true_and]
 exact ⟨cl_dig _, cl_dig _⟩
theorem ev_flip (N : RatHLib L) (n : Bool) (m d : List Nat) : Ev L 149 [.agg (rQ false false n m d)] (.agg (rQ false false (!n) m d)) := by
 refine Ev.x N.rational_flip rfl rfl ?_
 cases n
 all_goals
  (repeat' (refine AKM.x ?_; conv => whnf))
  exact FinP.go rfl (cl_rQ _ _ _)
theorem ev_subQ (N : RatHLib L) {x y : Rat} {k l : Nat} (hx : Bt k x) (hy : Bt l y) (hk : k < 2199023255552) (hl : l < 2199023255552) : Ev L 150 [.agg (eQ x), .agg (eQ y)] (.agg (eQ (x - y))) := by
 have hF := ev_flip N (decide (y.num < 0)) (dg y.num.natAbs) (dg y.den)
 have hA := fun q3 q4 => ev_rational_Add N.toRatGLib 68719476736 (by omega) (decide (x.num < 0)) (!decide (y.num < 0)) false false q3 q4 _ _ _ _ (hx.sm hk).1 (hx.sm hk).2 (hy.sm hl).1 (hy.sm hl).2
 rw [qv_not, qv_of, qv_of, ← Rat.sub_eq_add_neg] at hA
 refine Ev.x N.rational_Sub rfl rfl ?_
 (repeat' (first | (refine FlP.n3 ?_; conv => whnf) | (refine AKM.x ?_; conv => whnf) | (refine CallP.go (hF) ?_; conv => whnf) | (refine CallP.go (hA _ _) ?_; conv => whnf)))
 exact FinP.go rfl (cl_eQ _)
end Go.Eng

namespace Go.Eng
open F
attribute [local irreducible] AKM CmpP Req OpP UnP ConvP RdP LdR StR MkR LenP AppR AppN CpyR RowP SnR Bds SlS CallP CalP FinP pw LdM GetM SetM PutM MkM AppM SnM FlP CallR
set_option maxHeartbeats 4000000
variable {L : Lib}
theorem ev_neg3 (N : RefHLib L) {x : Rat} {k : Nat} (hx : Bt k x) (hk : k < 2199023255552) : Ev L 152 [.agg (eQ x)] (.agg (eQ (-x))) := by
 have hT := ev_trim3 N.toRefGLib hx hk
 have hN := fun q => ev_r2_Neg N.toRefGLib (decide (x.num < 0)) q (dg x.num.natAbs) ((hx.sm3 hk).1.le (by omega))
 rw [zv_of] at hN
 refine Ev.x N.ref03_Neg rfl rfl ?_
 (repeat' (first | (refine AKM.x ?_; conv => whnf) | (refine CallP.go (hT) ?_; conv => whnf) | (refine CallP.go (hN _) ?_; conv => whnf)))
 refine FinP.go ?_ (cl_eQ _)
 show _ = AV.agg (rQ _ _ _ _ _)
 rw [Rat.neg_num, Rat.neg_den]
theorem ev_sub3 (N : RefHLib L) {x y : Rat} {k l : Nat} (hx : Bt k x) (hy : Bt l y) (hk : k < 2199023255552) (hl : l < 2199023255552) : Ev L 153 [.agg (eQ x), .agg (eQ y)] (.agg (eQ (x - y))) := by
 have hn : Bt l (-y) := ⟨by rw [Rat.neg_num, Int.natAbs_neg]; exact hy.1, by rw [Rat.neg_den]; exact hy.2⟩
 have hN := ev_neg3 N hy hl
 have hA := ev_add3 N.toRefGLib hx hn hk hl
 rw [← Rat.sub_eq_add_neg] at hA
 refine Ev.x N.ref03_Sub rfl rfl ?_
 (repeat' (first | (refine AKM.x ?_; conv => whnf) | (refine CallP.go (hN) ?_; conv => whnf) | (refine CallP.go (hA) ?_; conv => whnf)))
 exact FinP.go rfl (cl_eQ _)
theorem mk_div3 {a c : Int} {b d : Nat} (hb : b ≠ 0) (hd : d ≠ 0) (hc : c ≠ 0) : mkRat a b / mkRat c d = Rat.divInt (a * d) (b * c) := by
 rw [Rat.div_def, ← Rat.divInt_ofNat, ← Rat.divInt_ofNat, Rat.inv_divInt, Rat.divInt_mul_divInt]
theorem ev_div3 (N : RefHLib L) {x y : Rat} {k l : Nat} (hx : Bt k x) (hy : Bt l y) (hk : k < 2199023255552) (hl : l < 2199023255552) (h0 : y ≠ 0) : Ev L 154 [.agg (eQ x), .agg (eQ y)] (.tup [.agg (eQ (x / y)), .int .i64 0]) := by
 obtain ⟨a1, a2, a3, hr1, s1, s2, s3, s5⟩ := ev_parts N.toRefGLib (decide (x.num < 0)) false (dg x.num.natAbs) (dg x.den) 68719476736 (by omega) (hx.sm3 hk).1 (hx.sm3 hk).2
 obtain ⟨b1, b2, b3, hr2, t1, t2, t3, t5⟩ := ev_parts N.toRefGLib (decide (y.num < 0)) false (dg y.num.natAbs) (dg y.den) 68719476736 (by omega) (hy.sm3 hl).1 (hy.sm3 hl).2
 have l1 := s1.2
 have l2 := s2.2
 have l3 := t1.2
 have l4 := t2.2
 rw [qv_of] at s5 t5
 have hb0 : zv b1 b2 ≠ 0 := fun h => h0 (by rw [t5, h, Rat.zero_mkRat])
 have hS := fun q => ev_r2_Sign N.toRefGLib b1 q b2 (t1.le (by omega))
 have hsg : sgn (zv b1 b2) ≠ 0 := by unfold sgn; split <;> (try split) <;> omega
 have hM1 := fun q q' => ev_r2_Mul N.toRefGLib a1 false q q' a2 b3 s1.1 t2.1 (by omega)
 have hM2 := fun q q' => ev_r2_Mul N.toRefGLib false b1 q q' a3 b2 s2.1 t1.1 (by omega)
 have g1 : Sm (68719476736 + 68719476736) (dg (zv a1 a2 * zv false b3).natAbs) := sm_zmul' s1 t2
 have g2 : Sm (68719476736 + 68719476736) (dg (zv false a3 * zv b1 b2).natAbs) := sm_zmul' s2 t1
 have hR := fun q q' => ev_reduce N.toRefGLib (decide (zv a1 a2 * zv false b3 < 0)) (decide (zv false a3 * zv b1 b2 < 0)) q q' _ _ (g1.le (by omega)) (g2.le (by omega))
 rw [zv_of, zv_of] at hR
 have he : x / y = Rat.divInt (zv a1 a2 * zv false b3) (zv false a3 * zv b1 b2) := by rw [s5, t5, mk_div3 s3 t3 hb0, zv_F, zv_F]
 rw [he]
 generalize sgn (zv b1 b2) = sg at *
 refine Ev.x N.ref03_Div rfl rfl ?_
 (repeat' (first | (refine CmpP.go (fun hc => ?_) (fun hc => ?_) <;> first | (exfalso; omega) | (conv => whnf)) | (refine AKM.x ?_; conv => whnf) | (refine CallP.go (hr1) ?_; conv => whnf) | (refine CallP.go (hr2) ?_; conv => whnf) | (refine CallP.go (hS _) ?_; conv => whnf) | (refine CallP.go (hM1 _ _) ?_; conv => whnf) | (refine CallP.go (hM2 _ _) ?_; conv => whnf) | (refine CallP.go (hR _ _) ?_; conv => whnf)))
 exact FinP.go rfl (by simp only [Clean, CleanL, and_true, true_and]; exact ⟨cl_dig _, cl_dig _⟩)
end Go.Eng

namespace Go.Eng
open F
attribute [local irreducible] AKM CmpP Req OpP UnP ConvP RdP LdR StR MkR LenP AppR AppN CpyR RowP SnR Bds SlS CallP CalP FinP pw LdM GetM SetM PutM MkM AppM SnM FlP CallR
set_option maxHeartbeats 4000000
variable {L : Lib}
def errK (n : Nt) (vals : List Int) (k : Nat) : Rat := ((vals.getD ((1 + n.s).toNat + k) 0 : Int) : Rat) - sumQ (intsQ vals) ((tsOf n).getD k []) / ((pw n.c.f : Int) : Rat)
def errQ (n : Nt) (vals : List Int) (i : Nat) : List Rat := (List.range i).map (errK n vals)
theorem errQ_len (n : Nt) (vals : List Int) (i : Nat) : (errQ n vals i).length = i := by simp [errQ]
theorem errQ_succ (n : Nt) (vals : List Int) (i : Nat) : errQ n vals (i + 1) = errQ n vals i ++ [errK n vals i] := by simp [errQ, List.range_succ]
theorem intsQ_at {l : List Int} {i : Nat} {v : Int} (h : l[i]? = some v) : (intsQ l).getD i 0 = ((v : Int) : Rat) := by
 rw [List.getD_eq_getElem?_getD, intsQ, List.getElem?_map, h]; rfl
theorem node_sum_bs {n : Nt} {vals : List Int} (hb : ∀ v ∈ vals, v.natAbs ≤ 2 ^ 24) {ts : List (Int × Int)} (hC : ∀ t ∈ ts, t.2.natAbs ≤ 2 ^ 24) (hl : ts.length ≤ 4) (i : Nat) : Bt 196 (sumQ (intsQ vals) (ts.take i)) := by
 have hV : Bs 24 (intsQ vals) := by
  intro x hx
  obtain ⟨v, hv, rfl⟩ := List.mem_map.1 hx
  exact Bt.ofInt (hb v hv)
 have a1 := hV.sum (ts.take i) (j := 24) (fun e he => Bt.ofInt (hC e (List.mem_of_mem_take he)))
 refine a1.le ?_
 have : (ts.take i).length ≤ 4 := by rw [List.length_take]; omega
 omega
theorem ev_Errors (I : FixedLib L) (N : ModGLib L) (n : Nt) (vals : List Int) (q : Bool) (hv : netB n = true) (hsm : SmallN (tsOf n)) (hvl : (vals.length : Int) = 1 + n.s + n.nodes.length) (hvb : ∀ v ∈ vals, v.natAbs ≤ 2 ^ 24) :
  Ev L 160 [.agg (encN n), .sl q (vals.map encInt)] (.tup [.sl false ((errQ n vals n.nodes.length).map eQ), .int .i64 0]) := by
 have hV := ev_network_Valid n I N.toNetLib
 rw [hv] at hV
 rw [netB_iff] at hv
 obtain ⟨h1, h2, h3, h4, h5, h6⟩ := hv
 have hwf : 0 ≤ n.c.f ∧ n.c.f ≤ 62 := by unfold WV at h2; omega
 have hP := ev_rational_Of N.toRatGLib (pw n.c.f) (by have := pw_pos n.c.f; have := pw_le62 hwf.2; omega)
 have hO := ev_rational_Of N.toRatGLib 0 (by omega)
 have hu1 := pw_pos n.c.f
 have hu2 : (pw n.c.f).natAbs ≤ 2 ^ 24 := by
  have hf : n.c.f < 24 := by unfold WV at h2; omega
  have h9 : (2 : Nat) ^ n.c.f.toNat ≤ 2 ^ 24 := Nat.pow_le_pow_right (by omega) (by omega)
  rw [pw]
  exact_mod_cast h9
 have hu0 : ((pw n.c.f : Int) : Rat) ≠ 0 := by
  intro e
  have : pw n.c.f = 0 := by exact_mod_cast e
  omega
 have e24 : (2 : Nat) ^ 24 = 16777216 := rfl
 refine Ev.x N.network_Errors rfl rfl ?_
 (repeat' (first | (refine CmpP.go (fun hc => ?_) (fun hc => ?_) <;> first | (exfalso; omega) | (conv => whnf)) | (refine OpP.add (by omega) ?_; conv => whnf) | (refine OpP.shl1 (by omega) (fun _ _ => ?_); conv => whnf) | (refine LenP.go ?_; conv => whnf) | (refine AKM.x ?_; conv => whnf) | (refine CallP.go (hV) ?_; conv => whnf) | (refine CallP.go (hP) ?_; conv => whnf)))
 refine MkR.go (enc := eO) none n.nodes.length rfl rfl (by omega) ?_
 (conv => whnf)
 (repeat' (refine LenP.go ?_; conv => whnf))
 refine AKM.loop1 (fun j => n.nodes.length - j) (fun (j : Nat) => j ≤ n.nodes.length) (fun j => [(40, .int .i64 j)]) (fun j => [(36, 36, .rw 3 ((fillO (errQ n vals j) n.nodes.length).map eO))]) [] [] 0 (by first | exact (by (conv => whnf); exact ⟨rfl, rfl, rfl⟩) | (rw [show errQ n vals 0 = [] from rfl, fillO_nil]; exact (by (conv => whnf); exact ⟨rfl, rfl, rfl⟩))) (by omega) ?_
 intro j p2 ih
 by_cases hj : j < n.nodes.length
 ·obtain ⟨nd, hnd⟩ : ∃ nd, n.nodes[j]? = some nd := ⟨_, List.getElem?_eq_getElem hj⟩
  have hnd' : n.nodes[(j : Int).toNat]? = some nd := hnd
  have hts : (tsOf n)[j]? = some nd.ts := by simp [tsOf, hnd]
  have htm := nodesB_at h4 hnd
  have hL : nd.ts.length ≤ 4 := hsm.len _ (List.mem_of_getElem? hts)
  have hC := hsm.cf _ (List.mem_of_getElem? hts)
  (repeat' (first | (refine CmpP.go (fun hc => ?_) (fun hc => ?_) <;> first | (exfalso; omega) | (conv => whnf)) | (refine LenP.go ?_; conv => whnf) | (refine RdP.at (by assumption) (by omega) rfl ?_; conv => whnf) | (refine AKM.x ?_; conv => whnf) | (refine CallP.go (hO) ?_; conv => whnf)))
  refine AKM.loop2 (fun t _ => nd.ts.length - t) (fun (t : Nat) (acc : Rat) => t ≤ nd.ts.length ∧ acc = sumQ (intsQ vals) (nd.ts.take t)) (fun t acc => [(49, .int .i64 t)]) (fun t acc => [(10, 10, .bx (eQ acc))]) [] [] 0 (0 : Rat) (by (conv => whnf); exact ⟨rfl, rfl, rfl⟩) ⟨by omega, rfl⟩ ?_
  intro t acc ⟨p3, p4⟩ jh
  have hsum : Bt 196 acc := by rw [p4]; exact node_sum_bs (n := n) hvb hC hL t
  by_cases ht : t < nd.ts.length
  ·obtain ⟨e, he⟩ : ∃ e, nd.ts[t]? = some e := ⟨_, List.getElem?_eq_getElem ht⟩
   have he' : nd.ts[(t : Int).toNat]? = some e := he
   have hme := List.mem_of_getElem? he
   have hok := List.all_eq_true.1 htm e hme
   simp only [termB, decide_eq_true_eq] at hok
   have hce := hC e hme
   obtain ⟨x, hx⟩ : ∃ x, vals[e.1.toNat]? = some x := ⟨_, List.getElem?_eq_getElem (by omega)⟩
   have hbx := hvb x (List.mem_of_getElem? hx)
   have hstk := sumQ_take (vals := intsQ vals) he
   rw [intsQ_at hx, ← p4] at hstk
   have hE := ev_rational_Of N.toRatGLib e.2 (by omega)
   have hE2 := ev_rational_Of N.toRatGLib x (by omega)
   have hM := ev_mulQ N.toRatGLib (Bt.ofInt hce) (Bt.ofInt hbx) (by omega) (by omega)
   have hA := ev_addQ N.toRatGLib hsum ((Bt.ofInt hce).mul (Bt.ofInt hbx)) (by omega) (by omega)
   (repeat' (first | (refine CmpP.go (fun hc => ?_) (fun hc => ?_) <;> first | (exfalso; omega) | (conv => whnf)) | (refine OpP.add (by omega) ?_; conv => whnf) | (refine RdP.at (by assumption) (by omega) rfl ?_; conv => whnf) | (refine AKM.x ?_; conv => whnf) | (refine CallP.go (hE) ?_; conv => whnf) | (refine CallP.go (hE2) ?_; conv => whnf) | (refine CallP.go (hM) ?_; conv => whnf) | (refine CallP.go (hA) ?_; conv => whnf)))
   exact AKM.back [] (by (conv => whnf); exact ⟨rfl, rfl, rfl⟩) (jh (t + 1) (acc + ((e.2 : Int) : Rat) * ((x : Int) : Rat)) (by omega) ⟨by omega, hstk.symm⟩)
  ·obtain rfl : t = nd.ts.length := by omega
   clear jh
   rw [List.take_length] at p4
   have hD := ev_divQ N.toRatGLib hsum (Bt.ofInt hu2) (by omega) (by omega) hu0
   obtain ⟨y, hy⟩ : ∃ y, vals[(1 + n.s + j).toNat]? = some y := ⟨_, List.getElem?_eq_getElem (by omega)⟩
   have hby := hvb y (List.mem_of_getElem? hy)
   have hE2 := ev_rational_Of N.toRatGLib y (by omega)
   have hS := ev_subQ N.toRatHLib (Bt.ofInt hby) (hsum.divz hu1 hu2) (by omega) (by omega)
   have hek : errK n vals j = ((y : Int) : Rat) - acc / ((pw n.c.f : Int) : Rat) := by
    rw [errK, List.getD_eq_getElem?_getD, List.getD_eq_getElem?_getD, show (1 + n.s).toNat + j = (1 + n.s + j).toNat by omega, hy, hts, p4]; rfl
   have hl := fillO_len (l := errQ n vals j) (m := n.nodes.length) (by rw [errQ_len]; omega)
   have hs := fillO_set (l := errQ n vals j) (m := n.nodes.length) (x := errK n vals j) (by rw [errQ_len]; omega)
   rw [errQ_len, ← errQ_succ] at hs
   (repeat' (first | (refine CmpP.go (fun hc => ?_) (fun hc => ?_) <;> first | (exfalso; omega) | (conv => whnf)) | (refine Req.go (by omega) ?_; conv => whnf) | (refine OpP.add (by omega) ?_; conv => whnf) | (refine RdP.at (by assumption) (by omega) rfl ?_; conv => whnf) | (refine AKM.x ?_; conv => whnf) | (refine CallP.go (hD) ?_; conv => whnf) | (refine CallP.go (hE2) ?_; conv => whnf) | (refine CallP.go (hS) ?_; conv => whnf)))
   refine StR.nat (enc := eO) (some (errK n vals j)) (by rw [hek]) (fun e => by cases e <;> rfl) (by omega) ?_
   (conv => whnf)
   (repeat' (refine OpP.add (by omega) ?_; conv => whnf))
   rw [hs]
   exact AKM.back [] (by (conv => whnf); exact ⟨rfl, rfl, rfl⟩) (ih (j + 1) (by omega) (by omega))
 ·obtain rfl : j = n.nodes.length := by omega
  clear ih
  rw [fillO_full (errQ_len _ _ _)]
  (repeat' (first | (refine CmpP.go (fun hc => ?_) (fun hc => ?_) <;> first | (exfalso; omega) | (conv => whnf)) | (refine AKM.x ?_; conv => whnf)))
  refine SnR.all (enc := eQ) (fun _ => rfl) rfl (errQ_len _ _ _).symm ?_
  (conv => whnf)
  exact FinP.go rfl (cl_two _ _)
theorem ev_Errors22 (I : FixedLib L) (N : ModGLib L) (n : Nt) (vals : List Int) (q : Bool) (hv : netB n = true) (hsm : SmallN (tsOf n)) (hvl : (vals.length : Int) = 1 + n.s + n.nodes.length) (hvb : ∀ v ∈ vals, v.natAbs ≤ 2 ^ 24) :
  Ev L 162 [.agg (encN n), .sl q (vals.map encInt)] (.tup [.sl false ((errQ n vals n.nodes.length).map eQ), .int .i64 0]) := by
 have hV := ev_ref22_Valid n I N.toNetLib
 rw [hv] at hV
 rw [netB_iff] at hv
 obtain ⟨h1, h2, h3, h4, h5, h6⟩ := hv
 have hwf : 0 ≤ n.c.f ∧ n.c.f ≤ 62 := by unfold WV at h2; omega
 have hP := ev_r3_Of N.toRefGLib (pw n.c.f) (by have := pw_pos n.c.f; have := pw_le62 hwf.2; omega)
 have hO := ev_r3_Of N.toRefGLib 0 (by omega)
 have hu1 := pw_pos n.c.f
 have hu2 : (pw n.c.f).natAbs ≤ 2 ^ 24 := by
  have hf : n.c.f < 24 := by unfold WV at h2; omega
  have h9 : (2 : Nat) ^ n.c.f.toNat ≤ 2 ^ 24 := Nat.pow_le_pow_right (by omega) (by omega)
  rw [pw]
  exact_mod_cast h9
 have hu0 : ((pw n.c.f : Int) : Rat) ≠ 0 := by
  intro e
  have : pw n.c.f = 0 := by exact_mod_cast e
  omega
 have e24 : (2 : Nat) ^ 24 = 16777216 := rfl
 refine Ev.x N.ref22_Errors rfl rfl ?_
 (repeat' (first | (refine CmpP.go (fun hc => ?_) (fun hc => ?_) <;> first | (exfalso; omega) | (conv => whnf)) | (refine OpP.add (by omega) ?_; conv => whnf) | (refine LenP.go ?_; conv => whnf) | (refine AKM.x ?_; conv => whnf) | (refine CallP.go (hV) ?_; conv => whnf)))
 refine AKM.loop1 (fun j => n.nodes.length - j) (fun (j : Nat) => j ≤ n.nodes.length) (fun j => [(7, .int .i64 j), (6, .row 6 0 3 0 j)]) (fun j => [(6, 6, .rw 3 ((errQ n vals j).map eQ))]) [] [] 0 (by (conv => whnf); exact ⟨rfl, rfl, rfl⟩) (by omega) ?_
 intro j p2 ih
 have hlj := errQ_len n vals j
 by_cases hj : j < n.nodes.length
 ·obtain ⟨nd, hnd⟩ : ∃ nd, n.nodes[j]? = some nd := ⟨_, List.getElem?_eq_getElem hj⟩
  have hnd' : n.nodes[(j : Int).toNat]? = some nd := hnd
  have hts : (tsOf n)[j]? = some nd.ts := by simp [tsOf, hnd]
  have htm := nodesB_at h4 hnd
  have hL : nd.ts.length ≤ 4 := hsm.len _ (List.mem_of_getElem? hts)
  have hC := hsm.cf _ (List.mem_of_getElem? hts)
  (repeat' (first | (refine CmpP.go (fun hc => ?_) (fun hc => ?_) <;> first | (exfalso; omega) | (conv => whnf)) | (refine LenP.go ?_; conv => whnf) | (refine AKM.x ?_; conv => whnf) | (refine CallP.go (hO) ?_; conv => whnf)))
  refine AKM.loop2 (fun t _ => nd.ts.length - t) (fun (t : Nat) (acc : Rat) => t ≤ nd.ts.length ∧ acc = sumQ (intsQ vals) (nd.ts.take t)) (fun t acc => [(9, .int .i64 t)]) (fun t acc => [(8, 8, .bx (eQ acc))]) [] [] 0 (0 : Rat) (by (conv => whnf); exact ⟨rfl, rfl, rfl⟩) ⟨by omega, rfl⟩ ?_
  intro t acc ⟨p3, p4⟩ jh
  have hsum : Bt 196 acc := by rw [p4]; exact node_sum_bs (n := n) hvb hC hL t
  by_cases ht : t < nd.ts.length
  ·obtain ⟨e, he⟩ : ∃ e, nd.ts[t]? = some e := ⟨_, List.getElem?_eq_getElem ht⟩
   have he' : nd.ts[(t : Int).toNat]? = some e := he
   have hme := List.mem_of_getElem? he
   have hok := List.all_eq_true.1 htm e hme
   simp only [termB, decide_eq_true_eq] at hok
   have hce := hC e hme
   obtain ⟨x, hx⟩ : ∃ x, vals[e.1.toNat]? = some x := ⟨_, List.getElem?_eq_getElem (by omega)⟩
   have hbx := hvb x (List.mem_of_getElem? hx)
   have hstk := sumQ_take (vals := intsQ vals) he
   rw [intsQ_at hx, ← p4] at hstk
   have hE := ev_r3_Of N.toRefGLib e.2 (by omega)
   have hE2 := ev_r3_Of N.toRefGLib x (by omega)
   have hM := ev_mul3 N.toRefGLib (Bt.ofInt hce) (Bt.ofInt hbx) (by omega) (by omega)
   have hA := ev_add3 N.toRefGLib hsum ((Bt.ofInt hce).mul (Bt.ofInt hbx)) (by omega) (by omega)
   (repeat' (first | (refine CmpP.go (fun hc => ?_) (fun hc => ?_) <;> first | (exfalso; omega) | (conv => whnf)) | (refine OpP.add (by omega) ?_; conv => whnf) | (refine LenP.go ?_; conv => whnf) | (refine RdP.at (by assumption) (by omega) rfl ?_; conv => whnf) | (refine AKM.x ?_; conv => whnf) | (refine CallP.go (hE) ?_; conv => whnf) | (refine CallP.go (hE2) ?_; conv => whnf) | (refine CallP.go (hM) ?_; conv => whnf) | (refine CallP.go (hA) ?_; conv => whnf)))
   exact AKM.back [] (by (conv => whnf); exact ⟨rfl, rfl, rfl⟩) (jh (t + 1) (acc + ((e.2 : Int) : Rat) * ((x : Int) : Rat)) (by omega) ⟨by omega, hstk.symm⟩)
  ·obtain rfl : t = nd.ts.length := by omega
   clear jh
   rw [List.take_length] at p4
   have hD := ev_div3 N.toRefHLib hsum (Bt.ofInt hu2) (by omega) (by omega) hu0
   obtain ⟨y, hy⟩ : ∃ y, vals[(1 + n.s + j).toNat]? = some y := ⟨_, List.getElem?_eq_getElem (by omega)⟩
   have hby := hvb y (List.mem_of_getElem? hy)
   have hE2 := ev_r3_Of N.toRefGLib y (by omega)
   have hS := ev_sub3 N.toRefHLib (Bt.ofInt hby) (hsum.divz hu1 hu2) (by omega) (by omega)
   have hek : errK n vals j = ((y : Int) : Rat) - acc / ((pw n.c.f : Int) : Rat) := by
    rw [errK, List.getD_eq_getElem?_getD, List.getD_eq_getElem?_getD, show (1 + n.s).toNat + j = (1 + n.s + j).toNat by omega, hy, hts, p4]; rfl
   (repeat' (first | (refine CmpP.go (fun hc => ?_) (fun hc => ?_) <;> first | (exfalso; omega) | (conv => whnf)) | (refine OpP.add (by omega) ?_; conv => whnf) | (refine OpP.shl1 (by omega) (fun _ _ => ?_); conv => whnf) | (refine ConvP.u64 (by omega) ?_; conv => whnf) | (refine LenP.go ?_; conv => whnf) | (refine RdP.at (by assumption) (by omega) rfl ?_; conv => whnf) | (refine RowP.e1 ?_; conv => whnf) | (refine AKM.x ?_; conv => whnf) | (refine CallP.go (hP) ?_; conv => whnf) | (refine CallP.go (hD) ?_; conv => whnf) | (refine CallP.go (hE2) ?_; conv => whnf) | (refine CallP.go (hS) ?_; conv => whnf)))
   refine AppR.one (enc := eQ) (errK n vals j) (by rw [hek]) hlj.symm rfl (by omega) (by omega) ?_
   rw [← errQ_succ, errQ_len]
   (conv => whnf)
   (repeat' (refine OpP.add (by omega) ?_; conv => whnf))
   exact AKM.back [(6, 88)] (by (conv => whnf); exact ⟨rfl, rfl, rfl⟩) (ih (j + 1) (by omega) (by omega))
 ·obtain rfl : j = n.nodes.length := by omega
  clear ih
  (repeat' (first | (refine CmpP.go (fun hc => ?_) (fun hc => ?_) <;> first | (exfalso; omega) | (conv => whnf)) | (refine LenP.go ?_; conv => whnf) | (refine AKM.x ?_; conv => whnf)))
  refine SnR.all (enc := eQ) (fun _ => rfl) rfl (errQ_len _ _ _).symm ?_
  (conv => whnf)
  exact FinP.go rfl (cl_two _ _)
end Go.Eng

namespace Go.Eng
def injQ (n : Nt) (k : Int) : SysQ where
 a := (linQ n).a
 b := n.next.map fun e => (spreadQ n (-1) k).getD e.toNat 0
 c := (linQ n).c
 d := (spreadQ n (-1) k).getD n.out.toNat 0
theorem cl_eS0 (e : Int) : Clean (.tup [.agg [.sl false [], .sl false [], .sl false [], .bool false, .sl false [], .sl false []], .int .i64 e]) := by
 simp [Clean, CleanL, CleanLL]
def injR (n : Nt) (k : Int) : AV := if 0 ≤ k ∧ k < n.nodes.length then .tup [.agg (eS (injQ n k)), .int .i64 0] else .tup [.agg [.sl false [], .sl false [], .sl false [], .bool false, .sl false [], .sl false []], .int .i64 1]
theorem mix_set {a b : List Rat} {i : Nat} {x : Rat} (h : a[i]? = some x) (hb : i < b.length) : (a.take i ++ b.drop i).set i x = a.take (i + 1) ++ b.drop (i + 1) := by
 have hl := (List.getElem?_eq_some_iff.1 h).1
 have ht : (a.take i).length = i := by rw [List.length_take]; omega
 rw [List.set_append_right _ _ (by omega), ht, Nat.sub_self, List.drop_eq_getElem_cons hb, List.set_cons_zero, List.take_add_one, h, List.append_assoc]
 rfl
end Go.Eng

namespace Go.Eng
open F
attribute [local irreducible] AKM CmpP Req OpP UnP ConvP RdP LdR StR MkR LenP AppR AppN CpyR RowP SnR Bds SlS CallP CalP FinP pw LdM GetM SetM PutM MkM AppM SnM FlP CallR
set_option maxHeartbeats 40000000
variable {L : Lib}
theorem ev_Inject (I : FixedLib L) (N : ModGLib L) (n : Nt) (node : Int) (hv : netB n = true) (hsm : SmallN (tsOf n)) (hnl : n.nodes.length ≤ 4) (hnI : InI node) : Ev L 161 [.agg (encN n), .int .i64 node] (injR n node) := by
 have hV := ev_network_Valid n I N.toNetLib
 rw [hv] at hV
 have hSp := fun (j : Int) (h : 0 ≤ j ∧ j ≤ n.s) => ev_spread N.toLinGLib n j (-1) hv hsm hnl (by omega) (by unfold InI; omega)
 have hSn := ev_spread N.toLinGLib n (-1) node hv hsm hnl (by have := (netB_iff n).1 hv; omega) hnI
 have hO := ev_rational_Of N.toRatGLib 0 (by omega)
 rw [netB_iff] at hv
 obtain ⟨h1, h2, h3, h4, h5, h6⟩ := hv
 have hnx : ∀ e ∈ n.next, 0 ≤ e ∧ e ≤ n.s + n.nodes.length := fun e he => by simpa using List.all_eq_true.1 h5 e he
 refine Ev.x N.network_Inject rfl rfl ?_
 (repeat' (refine AKM.x ?_; conv => whnf))
 refine CalP.walkC 1000 N.network_Linear rfl rfl ?_
 (repeat' (first | (refine OpP.add (by omega) ?_; conv => whnf) | (refine AKM.x ?_; conv => whnf) | (refine CallP.go (hV) ?_; conv => whnf)))
 obtain ⟨m, hm⟩ : ∃ m : Nat, n.s = m := ⟨n.s.toNat, (Int.toNat_of_nonneg (by omega)).symm⟩
 rw [hm]
 unfold MkM
 refine ⟨⟨by omega, by omega, by simp only [roomMax]; omega, by omega⟩, ?_⟩
 rw [show ((m : Int) + 1).toNat = m + 1 by omega]
 (conv => whnf)
 skip
 refine AKM.mxN 146018 146018 (m + 1) rfl ?_
 skip
 rw [show List.replicate (m + 1) [AV.nil] = (fillC (colsQ n 0) (m + 1)).map eC by simp [fillC, colsQ]]
 refine AKM.loop1 (fun i => m + 1 - i) (fun (i : Nat) => i ≤ m + 1) (fun i => [(21, .int .i64 i)]) (fun i => [(146018, 146018, .rw 1 ((fillC (colsQ n i) (m + 1)).map eC))]) [] [] 0 (by (conv => whnf); exact ⟨rfl, rfl, rfl⟩) (by omega) ?_
 intro i p1 ih
 by_cases hi : i < m + 1
 ·have hl := fillC_len (l := colsQ n i) (m := m + 1) (by rw [colsQ_len]; omega)
  have hst := fillC_set (l := colsQ n i) (m := m + 1) (x := spreadQ n (i : Int) (-1)) (by rw [colsQ_len]; omega)
  rw [colsQ_len, ← colsQ_succ] at hst
  have hS := hSp i (by omega)
  unfold encN at hS
  rw [hm] at hS
  (repeat' (first | (refine CmpP.go (fun hc => ?_) (fun hc => ?_) <;> first | (exfalso; omega) | (conv => whnf)) | (refine Req.go (by omega) ?_; conv => whnf) | (refine AKM.x ?_; conv => whnf) | (refine CallP.go (hS) ?_; conv => whnf)))
  refine StR.nat (enc := eC) (some (spreadQ n (i : Int) (-1))) rfl (fun e => by cases e <;> rfl) (by omega) ?_
  (conv => whnf)
  (repeat' (refine OpP.add (by omega) ?_; conv => whnf))
  rw [hst]
  exact AKM.back [] (by (conv => whnf); exact ⟨rfl, rfl, rfl⟩) (ih (i + 1) (by omega) (by omega))
 ·obtain rfl : i = m + 1 := by omega
  clear ih
  (repeat' (first | (refine CmpP.go (fun hc => ?_) (fun hc => ?_) <;> first | (exfalso; omega) | (conv => whnf)) | (refine AKM.x ?_; conv => whnf)))
  refine CalP.walkC 1000 N.network_zero rfl rfl ?_
  (repeat' (refine AKM.x ?_; conv => whnf))
  unfold MkM
  refine ⟨⟨by omega, by omega, by simp only [roomMax]; omega, by omega⟩, ?_⟩
  rw [Int.toNat_natCast]
  (conv => whnf)
  have hZ := ev_zerosR N.toSysGLib m (by omega)
  refine CallR.go (enc := eQ) m hZ (by simp) ?_
  (conv => whnf)
  refine CallR.go (enc := eQ) m hZ (by simp) ?_
  (conv => whnf)
  (repeat' (refine CallP.go (hO) ?_; conv => whnf))
  refine AKM.loop1 (fun t => m - t) (fun (t : Nat) => t ≤ m) (fun t => [(16, .int .i64 t)]) (fun t => [(145006, 145006, .mx (List.replicate t (some (3, (List.replicate m (0 : Rat)).map eQ)) ++ List.replicate (m - t) none))]) [] [] 0 (by (conv => whnf); exact ⟨rfl, rfl, rfl⟩) (by omega) ?_
  intro t p4 th
  by_cases ht : t < m
  ·(repeat' (first | (refine CmpP.go (fun hc => ?_) (fun hc => ?_) <;> first | (exfalso; omega) | (conv => whnf)) | (refine AKM.x ?_; conv => whnf)))
   refine CallR.go (enc := eQ) m hZ (by simp) ?_
   (conv => whnf)
   (repeat' (first | (refine Req.go (by omega) ?_; conv => whnf) | fail))
   unfold Req SetM
   refine ⟨by simp, by simp; omega, ?_⟩
   (conv => whnf)
   rw [show 0 + ((t : Int)).toNat = t by omega, fillM_set _ _ p4 ht]
   (repeat' (refine OpP.add (by omega) ?_; conv => whnf))
   exact AKM.back [] (by (conv => whnf); exact ⟨rfl, rfl, rfl⟩) (th (t + 1) (by omega) (by omega))
  obtain rfl : t = m := by omega
  clear th
  have hcs := hcolsat n t
  rw [show List.replicate t (some (3, List.map eQ (List.replicate t 0))) ++ List.replicate (t - t) none = mxR 3 eQ (fz (List.replicate t 0) [] t) by simp [mxR, fz], show List.replicate t (0 : Rat) = fz 0 [] t by simp [fz], show (fillC (colsQ n (t + 1)) (t + 1)).map eC = (colsQ n (t + 1)).map fun c => [AV.sl false (c.map eQ)] by rw [← fillC_full, colsQ_len]]
  (repeat' (first | (refine CmpP.go (fun hc => ?_) (fun hc => ?_) <;> first | (exfalso; omega) | (conv => whnf)) | (refine AKM.x ?_; conv => whnf)))
  refine ⟨rfl, ?_⟩
  (conv => whnf)
  (repeat' (refine LenP.go ?_; conv => whnf))
  have hsn : n.s.toNat = t := by omega
  have hnl2 : n.next.length = t := by omega
  have hcql := colsQ_len n (t + 1)
  refine AKM.loop1 (fun i => n.next.length - i) (fun (i : Nat) => i ≤ n.next.length) (fun i => [(37, .int .i64 i)]) (fun i => [(145006, 145006, .mx (mxR 3 eQ (fz (List.replicate t 0) ((linQ n).a.take i) t))), (145008, 145008, .rw 3 ((fz 0 ((linQ n).b.take i) t).map eQ))]) [] [] 0 (by (conv => whnf); exact ⟨rfl, rfl, rfl⟩) (by omega) ?_
  intro i q1 ih
  by_cases hi : i < n.next.length
  ·obtain ⟨e, he⟩ : ∃ e, n.next[i]? = some e := ⟨_, List.getElem?_eq_getElem hi⟩
   have hx' : n.next[(i : Int).toNat]? = some e := he
   have hrow : (linQ n).a[i]? = some ((List.range t).map fun (j : Nat) => (spreadQ n ((j : Int) + 1) (-1)).getD e.toNat 0) := by
    rw [← hsn]; simp only [linQ, List.getElem?_map, he, Option.map_some]
   have hbe : (linQ n).b[i]? = some ((spreadQ n 0 (-1)).getD e.toNat 0) := by
    simp only [linQ, List.getElem?_map, he, Option.map_some]
   have hal : (linQ n).a.length = t := by simp [linQ, hnl2]
   have hbl : (linQ n).b.length = t := by simp [linQ, hnl2]
   have htk : ((linQ n).a.take i).length = i := by rw [List.length_take]; omega
   have htb : ((linQ n).b.take i).length = i := by rw [List.length_take]; omega
   have hA0 : fz (List.replicate t 0) ((linQ n).a.take i) t = (fz (List.replicate t 0) ((linQ n).a.take i) t).set i (fz 0 [] t) := by
    have := fz_at (z := List.replicate t (0 : Rat)) (l := (linQ n).a.take i) (m := t) (by omega)
    rw [htk] at this
    rw [show fz (0 : Rat) [] t = List.replicate t 0 by simp [fz]]
    exact (list_set_self this).symm
   have hAs := fz_set (z := List.replicate t (0 : Rat)) (l := (linQ n).a.take i) (m := t) (x := (List.range t).map fun (j : Nat) => (spreadQ n ((j : Int) + 1) (-1)).getD e.toNat 0) (by omega)
   have hBs := fz_set (z := (0 : Rat)) (l := (linQ n).b.take i) (m := t) (x := (spreadQ n 0 (-1)).getD e.toNat 0) (by omega)
   rw [htk, ← take_snocA hrow] at hAs
   rw [htb, ← take_snocA hbe] at hBs
   have hAl := fz_len (z := List.replicate t (0 : Rat)) (l := (linQ n).a.take i) (m := t) (by omega)
   have hBl := fz_len (z := (0 : Rat)) (l := (linQ n).b.take i) (m := t) (by omega)
   have hen := hnx e (List.mem_of_getElem? he)
   generalize fz (List.replicate t 0) ((linQ n).a.take i) t = A0 at *
   generalize fz (0 : Rat) ((linQ n).b.take i) t = B0 at *
   have hA1 : A0 = A0.set i (fz 0 ((List.range 0).map fun (j : Nat) => (spreadQ n ((j : Int) + 1) (-1)).getD e.toNat 0) t) := hA0
   (repeat' (first | (refine CmpP.go (fun hc => ?_) (fun hc => ?_) <;> first | (exfalso; omega) | (conv => whnf)) | (refine RdP.at (by assumption) (by omega) rfl ?_; conv => whnf) | (refine AKM.x ?_; conv => whnf)))
   refine AKM.loop1 (fun j => t - j) (fun (j : Nat) => j ≤ t) (fun j => [(44, .int .i64 j)]) (fun j => [(145006, 145006, .mx (mxR 3 eQ (A0.set i (fz 0 ((List.range j).map fun (j : Nat) => (spreadQ n ((j : Int) + 1) (-1)).getD e.toNat 0) t))))]) [] [] 0 (by first | exact (by (conv => whnf); exact ⟨rfl, rfl, rfl⟩) | (rw [← hA1]; exact (by (conv => whnf); exact ⟨rfl, rfl, rfl⟩))) (by omega) ?_
   intro j q2 jh
   have hcl : ((List.range j).map fun (j : Nat) => (spreadQ n ((j : Int) + 1) (-1)).getD e.toNat 0).length = j := by simp
   by_cases hj : j < t
   ·have hcol := hcs ((j : Int) + 1) (by omega)
    have hxl := spreadQ_len n ((j : Int) + 1) (-1)
    have hxb := spreadQ_bs n ((j : Int) + 1) (-1) h2 hsm hnl
    obtain ⟨x, hx⟩ : ∃ x, (spreadQ n ((j : Int) + 1) (-1))[e.toNat]? = some x := ⟨_, List.getElem?_eq_getElem (by omega)⟩
    have hxd : (spreadQ n ((j : Int) + 1) (-1)).getD e.toNat 0 = x := by rw [List.getD_eq_getElem?_getD, hx]; rfl
    have hT := ev_trimQ N.toRatGLib (hxb.at hx) (by omega)
    have hcs2 := fz_set (z := (0 : Rat)) (l := (List.range j).map fun (j : Nat) => (spreadQ n ((j : Int) + 1) (-1)).getD e.toNat 0) (m := t) (x := x) (by omega)
    have hcl2 := fz_len (z := (0 : Rat)) (l := (List.range j).map fun (j : Nat) => (spreadQ n ((j : Int) + 1) (-1)).getD e.toNat 0) (m := t) (by omega)
    rw [hcl, show ((List.range j).map fun (j : Nat) => (spreadQ n ((j : Int) + 1) (-1)).getD e.toNat 0) ++ [x] = (List.range (j + 1)).map fun (j : Nat) => (spreadQ n ((j : Int) + 1) (-1)).getD e.toNat 0 by rw [List.range_succ, List.map_append, List.map_singleton, hxd]] at hcs2
    have hrw : (A0.set i (fz 0 ((List.range j).map fun (j : Nat) => (spreadQ n ((j : Int) + 1) (-1)).getD e.toNat 0) t))[i]? = some (fz 0 ((List.range j).map fun (j : Nat) => (spreadQ n ((j : Int) + 1) (-1)).getD e.toNat 0) t) := by
     rw [List.getElem?_set, if_pos rfl, if_pos (by omega)]
    have hsl : (A0.set i (fz 0 ((List.range j).map fun (j : Nat) => (spreadQ n ((j : Int) + 1) (-1)).getD e.toNat 0) t)).length = t := by rw [List.length_set]; omega
    (repeat' (first | (refine CmpP.go (fun hc => ?_) (fun hc => ?_) <;> first | (exfalso; omega) | (conv => whnf)) | (refine Req.go (by omega) ?_; conv => whnf) | (refine OpP.add (by omega) ?_; conv => whnf) | (refine LdR.int (by omega) (fun _ => rfl) (fun v hv => ?_); conv => whnf) | (refine LdM.nat (by omega) (fun r hr => ?_); conv => whnf) | (refine AKM.x ?_; conv => whnf)))
    cases hrw.symm.trans hr
    cases hcol.symm.trans hv
    (repeat' (first | (refine RdP.at (by assumption) (by omega) rfl ?_; conv => whnf) | (refine CallP.go (hT) ?_; conv => whnf)))
    refine Req.go (by rw [List.length_map]; omega) ?_
    (conv => whnf)
    (repeat' (refine GetM.ati (by assumption) ?_; conv => whnf))
    refine StR.nat (enc := eQ) x rfl (fun _ => rfl) (by omega) ?_
    (conv => whnf)
    rw [hcs2]
    refine PutM.nat (by simp only [fz_len' , hcl, List.length_map, List.length_range]; omega) ?_
    rw [List.set_set]
    (conv => whnf)
    (repeat' (refine OpP.add (by omega) ?_; conv => whnf))
    exact AKM.back [] (by (conv => whnf); exact ⟨rfl, rfl, rfl⟩) (jh (j + 1) (by omega) (by omega))
   ·obtain rfl : j = t := by omega
    clear jh
    rw [fz_full hcl, hAs]
    have hcol := hcs 0 (by omega)
    have hxl := spreadQ_len n 0 (-1)
    have hxb := spreadQ_bs n 0 (-1) h2 hsm hnl
    obtain ⟨x, hx⟩ : ∃ x, (spreadQ n 0 (-1))[e.toNat]? = some x := ⟨_, List.getElem?_eq_getElem (by omega)⟩
    have hxd : (spreadQ n 0 (-1)).getD e.toNat 0 = x := by rw [List.getD_eq_getElem?_getD, hx]; rfl
    rw [hxd] at hBs
    have hT := ev_trimQ N.toRatGLib (hxb.at hx) (by omega)
    (repeat' (first | (refine CmpP.go (fun hc => ?_) (fun hc => ?_) <;> first | (exfalso; omega) | (conv => whnf)) | (refine Req.go (by omega) ?_; conv => whnf) | (refine LdR.int (by omega) (fun _ => rfl) (fun v hv => ?_); conv => whnf) | (refine AKM.x ?_; conv => whnf)))
    cases hcol.symm.trans hv
    (repeat' (first | (refine Req.go (by omega) ?_; conv => whnf) | (refine RdP.at (by assumption) (by omega) rfl ?_; conv => whnf) | (refine CallP.go (hT) ?_; conv => whnf)))
    refine StR.nat (enc := eQ) x rfl (fun _ => rfl) (by omega) ?_
    (conv => whnf)
    rw [hBs]
    (repeat' (refine OpP.add (by omega) ?_; conv => whnf))
    exact AKM.back [] (by (conv => whnf); exact ⟨rfl, rfl, rfl⟩) (ih (i + 1) (by omega) (by omega))
  ·obtain rfl : i = n.next.length := by omega
   clear ih
   have hal : (linQ n).a.length = t := by simp [linQ, hnl2]
   have hbl : (linQ n).b.length = t := by simp [linQ, hnl2]
   rw [List.take_of_length_le (show (linQ n).a.length ≤ n.next.length by omega), List.take_of_length_le (show (linQ n).b.length ≤ n.next.length by omega), fz_full hal, fz_full hbl]
   (repeat' (first | (refine CmpP.go (fun hc => ?_) (fun hc => ?_) <;> first | (exfalso; omega) | (conv => whnf)) | (refine AKM.x ?_; conv => whnf)))
   refine AKM.loop1 (fun j => t - j) (fun (j : Nat) => j ≤ t) (fun j => [(78, .int .i64 j)]) (fun j => [(145010, 145010, .rw 3 ((fz 0 ((List.range j).map fun (j : Nat) => (spreadQ n ((j : Int) + 1) (-1)).getD n.out.toNat 0) t).map eQ))]) [] [] 0 (by (conv => whnf); exact ⟨rfl, rfl, rfl⟩) (by omega) ?_
   intro j q2 jh
   have hcl : ((List.range j).map fun (j : Nat) => (spreadQ n ((j : Int) + 1) (-1)).getD n.out.toNat 0).length = j := by simp
   by_cases hj : j < t
   ·have hcol := hcs ((j : Int) + 1) (by omega)
    have hxl := spreadQ_len n ((j : Int) + 1) (-1)
    have hxb := spreadQ_bs n ((j : Int) + 1) (-1) h2 hsm hnl
    obtain ⟨x, hx⟩ : ∃ x, (spreadQ n ((j : Int) + 1) (-1))[n.out.toNat]? = some x := ⟨_, List.getElem?_eq_getElem (by omega)⟩
    have hxd : (spreadQ n ((j : Int) + 1) (-1)).getD n.out.toNat 0 = x := by rw [List.getD_eq_getElem?_getD, hx]; rfl
    have hT := ev_trimQ N.toRatGLib (hxb.at hx) (by omega)
    have hcs2 := fz_set (z := (0 : Rat)) (l := (List.range j).map fun (j : Nat) => (spreadQ n ((j : Int) + 1) (-1)).getD n.out.toNat 0) (m := t) (x := x) (by omega)
    have hcl2 := fz_len (z := (0 : Rat)) (l := (List.range j).map fun (j : Nat) => (spreadQ n ((j : Int) + 1) (-1)).getD n.out.toNat 0) (m := t) (by omega)
    rw [hcl, show ((List.range j).map fun (j : Nat) => (spreadQ n ((j : Int) + 1) (-1)).getD n.out.toNat 0) ++ [x] = (List.range (j + 1)).map fun (j : Nat) => (spreadQ n ((j : Int) + 1) (-1)).getD n.out.toNat 0 by rw [List.range_succ, List.map_append, List.map_singleton, hxd]] at hcs2
    (repeat' (first | (refine CmpP.go (fun hc => ?_) (fun hc => ?_) <;> first | (exfalso; omega) | (conv => whnf)) | (refine Req.go (by omega) ?_; conv => whnf) | (refine OpP.add (by omega) ?_; conv => whnf) | (refine LdR.int (by omega) (fun _ => rfl) (fun v hv => ?_); conv => whnf) | (refine AKM.x ?_; conv => whnf)))
    cases hcol.symm.trans hv
    (repeat' (first | (refine Req.go (by omega) ?_; conv => whnf) | (refine RdP.at (by assumption) (by omega) rfl ?_; conv => whnf) | (refine CallP.go (hT) ?_; conv => whnf)))
    refine StR.nat (enc := eQ) x rfl (fun _ => rfl) (by omega) ?_
    (conv => whnf)
    rw [hcs2]
    (repeat' (refine OpP.add (by omega) ?_; conv => whnf))
    exact AKM.back [] (by (conv => whnf); exact ⟨rfl, rfl, rfl⟩) (jh (j + 1) (by omega) (by omega))
   ·obtain rfl : j = t := by omega
    clear jh
    rw [fz_full hcl]
    have hcol := hcs 0 (by omega)
    have hxl := spreadQ_len n 0 (-1)
    have hxb := spreadQ_bs n 0 (-1) h2 hsm hnl
    obtain ⟨x, hx⟩ : ∃ x, (spreadQ n 0 (-1))[n.out.toNat]? = some x := ⟨_, List.getElem?_eq_getElem (by omega)⟩
    have hxd : (spreadQ n 0 (-1)).getD n.out.toNat 0 = x := by rw [List.getD_eq_getElem?_getD, hx]; rfl
    have hT := ev_trimQ N.toRatGLib (hxb.at hx) (by omega)
    have hd : (linQ n).d = x := hxd
    have hcc : (linQ n).c = (List.range j).map fun (j : Nat) => (spreadQ n ((j : Int) + 1) (-1)).getD n.out.toNat 0 := by rw [linQ, hsn]
    rw [← hcc]
    (repeat' (first | (refine CmpP.go (fun hc => ?_) (fun hc => ?_) <;> first | (exfalso; omega) | (conv => whnf)) | (refine Req.go (by omega) ?_; conv => whnf) | (refine LdR.int (by omega) (fun _ => rfl) (fun v hv => ?_); conv => whnf) | (refine AKM.x ?_; conv => whnf)))
    cases hcol.symm.trans hv
    (repeat' (first | (refine RdP.at (by assumption) (by omega) rfl ?_; conv => whnf) | (refine CallP.go (hT) ?_; conv => whnf)))
    unfold encN at hSn
    rw [hm] at hSn
    have hbs := spreadQ_bs n (-1) node h2 hsm hnl
    have hsl := spreadQ_len n (-1) node
    have hib : (injQ n node).b.length = j := by simp [injQ, hnl2]
    refine ⟨rfl, ?_⟩
    (conv => whnf)
    (repeat' (first | (refine CmpP.go (fun hc => ?_) (fun hc => ?_) <;> first | (exfalso; omega) | (conv => whnf)) | (refine LenP.go ?_; conv => whnf) | (refine CallP.go (hSn) ?_; conv => whnf)))
    ·exact FinP.go (by rw [injR, if_neg (by omega)]) (by rw [injR, if_neg (by omega)]; exact cl_eS0 1)
    ·exact FinP.go (by rw [injR, if_neg (by omega)]) (by rw [injR, if_neg (by omega)]; exact cl_eS0 1)
    have hcl0 := hcl
    refine AKM.loop1 (fun i => n.next.length - i) (fun (i : Nat) => i ≤ n.next.length) (fun i => [(36, .int .i64 i)]) (fun i => [(145008, 145008, .rw 3 (((injQ n node).b.take i ++ (linQ n).b.drop i).map eQ))]) [] [] 0 (by first | exact (by (conv => whnf); exact ⟨rfl, rfl, rfl⟩) | (rw [List.take_zero, List.nil_append, List.drop_zero]; exact (by (conv => whnf); exact ⟨rfl, rfl, rfl⟩))) (by omega) ?_
    intro i q1 ih
    by_cases hi : i < n.next.length
    ·obtain ⟨e, he⟩ : ∃ e, n.next[i]? = some e := ⟨_, List.getElem?_eq_getElem hi⟩
     have hx' : n.next[(i : Int).toNat]? = some e := he
     have hen := hnx e (List.mem_of_getElem? he)
     obtain ⟨x, hx⟩ : ∃ x, (spreadQ n (-1) node)[e.toNat]? = some x := ⟨_, List.getElem?_eq_getElem (by omega)⟩
     have hxd : (spreadQ n (-1) node).getD e.toNat 0 = x := by rw [List.getD_eq_getElem?_getD, hx]; rfl
     have hbe : (injQ n node).b[i]? = some x := by simp only [injQ, List.getElem?_map, he, Option.map_some, hxd]
     have hT := ev_trimQ N.toRatGLib (hbs.at hx) (by omega)
     have hmix := mix_set (b := (linQ n).b) hbe (by omega)
     have hml : ((injQ n node).b.take i ++ (linQ n).b.drop i).length = j := by rw [List.length_append, List.length_take, List.length_drop]; omega
     (repeat' (first | (refine CmpP.go (fun hc => ?_) (fun hc => ?_) <;> first | (exfalso; omega) | (conv => whnf)) | (refine Req.go (by omega) ?_; conv => whnf) | (refine RdP.at (by assumption) (by omega) rfl ?_; conv => whnf) | (refine AKM.x ?_; conv => whnf) | (refine CallP.go (hT) ?_; conv => whnf)))
     refine StR.nat (enc := eQ) x rfl (fun _ => rfl) (by omega) ?_
     (conv => whnf)
     rw [hmix]
     (repeat' (refine OpP.add (by omega) ?_; conv => whnf))
     exact AKM.back [] (by (conv => whnf); exact ⟨rfl, rfl, rfl⟩) (ih (i + 1) (by omega) (by omega))
    ·obtain rfl : i = n.next.length := by omega
     clear ih
     rw [List.take_of_length_le (show (injQ n node).b.length ≤ n.next.length by omega), List.drop_of_length_le (show (linQ n).b.length ≤ n.next.length by omega), List.append_nil]
     obtain ⟨x, hx⟩ : ∃ x, (spreadQ n (-1) node)[n.out.toNat]? = some x := ⟨_, List.getElem?_eq_getElem (by omega)⟩
     have hxd : (injQ n node).d = x := by simp only [injQ, List.getD_eq_getElem?_getD, hx]; rfl
     have hT := ev_trimQ N.toRatGLib (hbs.at hx) (by omega)
     (repeat' (first | (refine CmpP.go (fun hc => ?_) (fun hc => ?_) <;> first | (exfalso; omega) | (conv => whnf)) | (refine RdP.at (by assumption) (by omega) rfl ?_; conv => whnf) | (refine AKM.x ?_; conv => whnf) | (refine CallP.go (hT) ?_; conv => whnf)))
     have hcn : (linQ n).c.length = j := by rw [hcc, hcl]
     refine SnM.all (fun _ => rfl) rfl hal.symm ?_
     (conv => whnf)
     refine SnR.all (enc := eQ) (fun _ => rfl) rfl hib.symm ?_
     (conv => whnf)
     refine SnR.all (enc := eQ) (fun _ => rfl) rfl hcn.symm ?_
     (conv => whnf)
     rw [injR, if_pos (by omega)]
     refine FinP.go (by rw [← hxd]; rfl) ?_
     simp only [Clean, CleanL, and_true]
     exact cl_eS (injQ n node)
end Go.Eng

namespace Go.Eng
open F
attribute [local irreducible] AKM CmpP Req OpP UnP ConvP RdP LdR StR MkR LenP AppR AppN CpyR RowP SnR Bds SlS CallP CalP FinP pw LdM GetM SetM PutM MkM AppM SnM FlP CallR
set_option maxHeartbeats 4000000
variable {L : Lib}
end Go.Eng
