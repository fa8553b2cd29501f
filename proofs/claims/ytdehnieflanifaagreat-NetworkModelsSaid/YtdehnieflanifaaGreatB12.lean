/-
  Networks (layer 22): the reference's rows.
-/
import Derived.Test.YtdehnieflanifaaGreatB11
import Derived.Test.YtdehnieflanifaaGreatB4
set_option linter.unusedSimpArgs false
set_option linter.unusedVariables false
set_option linter.unnecessarySimpa false
namespace Go.Eng
open F
attribute [local irreducible] AKM CmpP Req OpP UnP ConvP RdP LdR StR MkR LenP AppR AppN CpyR RowP SnR Bds SlS CallP CalP FinP pw LdM GetM SetM PutM MkM AppM SnM FlP CallR
set_option maxHeartbeats 16000000
variable {L : Lib}
def srcJ (n : Nt) (inj : Int) (j : Nat) : Int := if j < n.s.toNat then (j : Int) + 1 else if inj < 0 then 0 else -1
def exJ (n : Nt) (inj : Int) (j : Nat) : Int := if j < n.s.toNat then -1 else if inj < 0 then -1 else inj
def colP (n : Nt) (inj : Int) (k j : Nat) : List Rat := exS ((pw n.c.f : Int) : Rat) (exJ n inj j) 0 (unitL (1 + n.s).toNat (srcJ n inj j)) ((tsOf n).take k)
def rowK (n : Nt) (inj : Int) (k m : Nat) : List Rat := (List.range (n.s.toNat + 1)).map fun j => (colP n inj k j).getD m 0
def rowsK (n : Nt) (inj : Int) (k : Nat) : List (List Rat) := (List.range ((1 + n.s).toNat + k)).map (rowK n inj k)
def sumsK (n : Nt) (inj : Int) (k : Nat) (ts : List (Int × Int)) (t : Nat) : List Rat := (List.range (n.s.toNat + 1)).map fun j => sumQ (colP n inj k j) (ts.take t) / ((pw n.c.f : Int) : Rat)
theorem colP_len (n : Nt) (inj : Int) (k j : Nat) (hk : k ≤ n.nodes.length) : (colP n inj k j).length = (1 + n.s).toNat + k := by
 simp only [colP, exS_len, unitL_len, List.length_take, tsOf, List.length_map]; omega
theorem rowK_len (n : Nt) (inj : Int) (k m : Nat) : (rowK n inj k m).length = n.s.toNat + 1 := by simp [rowK]
theorem rowsK_len (n : Nt) (inj : Int) (k : Nat) : (rowsK n inj k).length = (1 + n.s).toNat + k := by simp [rowsK]
theorem colP_bs (n : Nt) (inj : Int) (k j : Nat) (h2 : WV n.c) (hsm : SmallN (tsOf n)) (hk : k ≤ n.nodes.length) (hnl : n.nodes.length ≤ 4) : Bs 10625 (colP n inj k j) := by
 have hlt : (tsOf n).length = n.nodes.length := by simp [tsOf]
 have hu1 := pw_pos n.c.f
 have hu2 : (pw n.c.f).natAbs ≤ 2 ^ 24 := by
  have hf : n.c.f < 24 := by unfold WV at h2; omega
  have h9 : (2 : Nat) ^ n.c.f.toNat ≤ 2 ^ 24 := Nat.pow_le_pow_right (by omega) (by omega)
  rw [pw]
  exact_mod_cast h9
 have h := exS_bs (ex := exJ n inj j) hu1 hu2 ((tsOf n).take k) 0 (unitL (1 + n.s).toNat (srcJ n inj j)) ⟨fun ts h => hsm.len ts (List.mem_of_mem_take h), fun ts h => hsm.cf ts (List.mem_of_mem_take h)⟩ (Bs.unit _ _ _)
 rw [List.length_take, hlt, Nat.min_eq_left hk, Nat.zero_add] at h
 intro x hx
 refine (h x hx).le ?_
 rcases k with _ | _ | _ | _ | _ | k
 ·decide
 ·decide
 ·decide
 ·decide
 ·decide
 ·omega
theorem colP_succ (n : Nt) (inj : Int) (k j : Nat) {ts : List (Int × Int)} (h : (tsOf n)[k]? = some ts) : colP n inj (k + 1) j = colP n inj k j ++ [sumQ (colP n inj k j) ts / ((pw n.c.f : Int) : Rat) + (if (k : Int) = exJ n inj j then 1 else 0)] := exS_take _ _ _ _ k ts h
theorem rowK_zero0 (n : Nt) (inj : Int) (hs : 0 ≤ n.s) : rowK n inj 0 0 = unitL (n.s.toNat + 1) (if inj < 0 then n.s else -1) := by
 simp only [rowK, colP, List.take_zero, exS, unitL]
 refine List.map_congr_left fun j hj => ?_
 have hj := List.mem_range.1 hj
 rw [List.getD_eq_getElem?_getD, List.getElem?_map, List.getElem?_range (by omega)]
 simp only [Option.map_some, Option.getD_some, srcJ]
 congr 1
 rw [eq_iff_iff]
 split <;> split <;> omega
theorem rowK_zero (n : Nt) (inj : Int) (i : Nat) (hs : 0 ≤ n.s) (hi : i < n.s.toNat) : rowK n inj 0 (i + 1) = unitL (n.s.toNat + 1) (i : Int) := by
 simp only [rowK, colP, List.take_zero, exS, unitL]
 refine List.map_congr_left fun j hj => ?_
 have hj := List.mem_range.1 hj
 rw [List.getD_eq_getElem?_getD, List.getElem?_map, List.getElem?_range (by omega)]
 simp only [Option.map_some, Option.getD_some, srcJ]
 congr 1
 rw [eq_iff_iff]
 split
 ·omega
 ·split <;> omega
theorem rowsK_succ (n : Nt) (inj : Int) (k : Nat) {ts : List (Int × Int)} (h : (tsOf n)[k]? = some ts) (hk : k < n.nodes.length) : rowsK n inj (k + 1) = rowsK n inj k ++ [rowK n inj (k + 1) ((1 + n.s).toNat + k)] := by
 unfold rowsK
 rw [show (1 + n.s).toNat + (k + 1) = ((1 + n.s).toNat + k) + 1 by omega, List.range_succ, List.map_append, List.map_singleton]
 congr 1
 refine List.map_congr_left fun m hm => ?_
 have hm := List.mem_range.1 hm
 unfold rowK
 refine List.map_congr_left fun j _ => ?_
 rw [colP_succ n inj k j h, getD_snoc_lt (by rw [colP_len n inj k j (by omega)]; omega)]
theorem rowK_new (n : Nt) (inj : Int) (k : Nat) {ts : List (Int × Int)} (h : (tsOf n)[k]? = some ts) (hk : k < n.nodes.length) :
  rowK n inj (k + 1) ((1 + n.s).toNat + k) = (List.range (n.s.toNat + 1)).map fun j => sumQ (colP n inj k j) ts / ((pw n.c.f : Int) : Rat) + (if (k : Int) = exJ n inj j then 1 else 0) := by
 unfold rowK
 refine List.map_congr_left fun j _ => ?_
 rw [colP_succ n inj k j h, getD_snoc_eq (by rw [colP_len n inj k j (by omega)])]
theorem row_plain (n : Nt) (inj : Int) (k : Nat) {ts : List (Int × Int)} (h : (tsOf n)[k]? = some ts) (hk : k < n.nodes.length) (hne : (k : Int) ≠ inj) : sumsK n inj k ts ts.length = rowK n inj (k + 1) ((1 + n.s).toNat + k) := by
 rw [rowK_new n inj k h hk]
 unfold sumsK
 refine List.map_congr_left fun j _ => ?_
 have : ¬ (k : Int) = exJ n inj j := by unfold exJ; split <;> (try split) <;> omega
 rw [if_neg this, Rat.add_zero, List.take_length]
theorem row_inj (n : Nt) (inj : Int) (k : Nat) {ts : List (Int × Int)} (h : (tsOf n)[k]? = some ts) (hk : k < n.nodes.length) (he : (k : Int) = inj) {x : Rat} (hx : (sumsK n inj k ts ts.length)[n.s.toNat]? = some x) : (sumsK n inj k ts ts.length).set n.s.toNat (x + 1) = rowK n inj (k + 1) ((1 + n.s).toNat + k) := by
 rw [rowK_new n inj k h hk]
 refine List.ext_getElem? fun j => ?_
 rw [List.getElem?_set]
 have hl : (sumsK n inj k ts ts.length).length = n.s.toNat + 1 := by simp [sumsK]
 by_cases hj : n.s.toNat = j
 ·subst hj
  rw [if_pos rfl, if_pos (by omega), List.getElem?_map, List.getElem?_range (by omega)]
  simp only [sumsK, List.getElem?_map, List.getElem?_range (show n.s.toNat < n.s.toNat + 1 by omega), Option.map_some, Option.some.injEq, List.take_length] at hx ⊢
  have : (k : Int) = exJ n inj n.s.toNat := by unfold exJ; rw [if_neg (by omega), if_neg (by omega)]; exact he
  rw [if_pos this, hx]
 ·rw [if_neg hj]
  by_cases h2 : j < n.s.toNat + 1
  ·simp only [sumsK, List.getElem?_map, List.getElem?_range h2, Option.map_some, List.take_length]
   have : ¬ (k : Int) = exJ n inj j := by unfold exJ; rw [if_pos (by omega)]; omega
   rw [if_neg this, Rat.add_zero]
  ·rw [List.getElem?_eq_none (by omega), List.getElem?_eq_none (by simp; omega)]
theorem divInt_pw (c f : Int) : Rat.divInt c (pw f) = ((c : Int) : Rat) / ((pw f : Int) : Rat) := by
 obtain ⟨d, hd⟩ := Int.eq_ofNat_of_zero_le (show 0 ≤ pw f by have := pw_pos f; omega)
 rw [hd, Rat.divInt_ofNat, Rat.mkRat_eq_div]; rfl
theorem sums_at (n : Nt) (inj : Int) (k : Nat) (ts : List (Int × Int)) (t j : Nat) (hj : j < n.s.toNat + 1) : (sumsK n inj k ts t)[j]? = some (sumQ (colP n inj k j) (ts.take t) / ((pw n.c.f : Int) : Rat)) := by
 simp only [sumsK, List.getElem?_map, List.getElem?_range hj, Option.map_some]
theorem sums_step (n : Nt) (inj : Int) (k : Nat) {ts : List (Int × Int)} {t j : Nat} {e : Int × Int} (he : ts[t]? = some e) (hj : j < n.s.toNat + 1) :
  (sumsK n inj k ts (t + 1))[j]? = some (sumQ (colP n inj k j) (ts.take t) / ((pw n.c.f : Int) : Rat) + ((e.2 : Int) : Rat) / ((pw n.c.f : Int) : Rat) * (colP n inj k j).getD e.1.toNat 0) := by
 rw [sums_at n inj k ts (t + 1) j hj, sumQ_take he]
 congr 1
 simp only [Rat.div_def]
 grind
theorem sums_zero (n : Nt) (inj : Int) (k : Nat) (ts : List (Int × Int)) {m : Nat} (hm : n.s.toNat = m) : unitL (m + 1) (-1) = sumsK n inj k ts 0 := by
 rw [sumsK, hm, unitL]
 refine List.map_congr_left fun j _ => ?_
 rw [if_neg (by omega), List.take_zero, sumQ, Rat.div_def, Rat.zero_mul]
theorem ev_zero22R (N : SysGLib L) (n : Nat) (j : Int) (hn : n ≤ 65536) : EvR L 135 [.int .i64 (n : Int), .int .i64 j] 3 ((unitL n j).map eQ) := by
 have hO := ev_r3_Of N.toRefGLib 0 (by omega)
 have hI := ev_r3_Of N.toRefGLib 1 (by omega)
 refine EvR.x N.ref22_zero rfl rfl ?_
 (repeat' (refine AKM.x ?_; conv => whnf))
 refine AKM.loop1 (fun i => n - i) (fun (i : Nat) => i ≤ n) (fun i => [(6, .int .i64 i), (5, .row 5 0 3 0 i)]) (fun i => [(5, 5, .rw 3 ((unitL i j).map eQ))]) [] [] 0 (by (conv => whnf); exact ⟨rfl, rfl, rfl⟩) (by omega) ?_
 intro i p1 ih
 have hlen := unitL_len i j
 by_cases hi : i < n
 ·have hsucc := unitL_succ i j
  by_cases hj : (i : Int) = j
  ·rw [if_pos hj] at hsucc
   (repeat' (first | (refine CmpP.go (fun hc => ?_) (fun hc => ?_) <;> first | (exfalso; omega) | (conv => whnf)) | (refine RowP.e1 ?_; conv => whnf) | (refine AKM.x ?_; conv => whnf) | (refine CallP.go (hI) ?_; conv => whnf)))
   refine AppR.one (enc := eQ) ((1 : Int) : Rat) rfl hlen.symm rfl (by omega) (by omega) ?_
   (conv => whnf)
   (repeat' (refine OpP.add (by omega) ?_; conv => whnf))
   rw [show (unitL i j ++ [((1 : Int) : Rat)]).length = i + 1 by simp [hlen], show unitL i j ++ [((1 : Int) : Rat)] = unitL (i + 1) j from hsucc.symm]
   exact AKM.back [(5, 18)] (by (conv => whnf); exact ⟨rfl, rfl, rfl⟩) (ih (i + 1) (by omega) (by omega))
  ·rw [if_neg hj] at hsucc
   (repeat' (first | (refine CmpP.go (fun hc => ?_) (fun hc => ?_) <;> first | (exfalso; omega) | (conv => whnf)) | (refine RowP.e1 ?_; conv => whnf) | (refine AKM.x ?_; conv => whnf) | (refine CallP.go (hO) ?_; conv => whnf)))
   refine AppR.one (enc := eQ) ((0 : Int) : Rat) rfl hlen.symm rfl (by omega) (by omega) ?_
   (conv => whnf)
   (repeat' (refine OpP.add (by omega) ?_; conv => whnf))
   rw [show (unitL i j ++ [((0 : Int) : Rat)]).length = i + 1 by simp [hlen], show unitL i j ++ [((0 : Int) : Rat)] = unitL (i + 1) j from hsucc.symm]
   exact AKM.back [(5, 22)] (by (conv => whnf); exact ⟨rfl, rfl, rfl⟩) (ih (i + 1) (by omega) (by omega))
 ·obtain rfl : i = n := by omega
  clear ih
  (repeat' (first | (refine CmpP.go (fun hc => ?_) (fun hc => ?_) <;> first | (exfalso; omega) | (conv => whnf)) | (refine AKM.x ?_; conv => whnf)))
  exact ⟨rfl, rfl, by simp [hlen], rfl, cl_eQs _⟩
theorem ev_rows (N : ModGLib L) (n : Nt) (inj : Int) (hv : netB n = true) (hsm : SmallN (tsOf n)) (hnl : n.nodes.length ≤ 4) (hinj : InI inj) :
  Ev L 163 [.agg (encN n), .int .i64 inj] (.sl false ((rowsK n inj n.nodes.length).map fun r => [AV.sl false (r.map eQ)])) := by
 rw [netB_iff] at hv
 obtain ⟨h1, h2, h3, h4, h5, h6⟩ := hv
 unfold InI at hinj
 have hwf : 0 ≤ n.c.f ∧ n.c.f ≤ 62 := by unfold WV at h2; omega
 have hu1 := pw_pos n.c.f
 have hu2 : (pw n.c.f).natAbs ≤ 2 ^ 24 := by
  have hf : n.c.f < 24 := by unfold WV at h2; omega
  have h9 : (2 : Nat) ^ n.c.f.toNat ≤ 2 ^ 24 := Nat.pow_le_pow_right (by omega) (by omega)
  rw [pw]
  exact_mod_cast h9
 have e24 : (2 : Nat) ^ 24 = 16777216 := rfl
 obtain ⟨m, hm⟩ : ∃ m : Nat, n.s = m := ⟨n.s.toNat, (Int.toNat_of_nonneg (by omega)).symm⟩
 have hmN : n.s.toNat = m := by omega
 have hm1 : (1 + n.s).toNat = m + 1 := by omega
 have hZ : ∀ j : Int, EvR L 135 [.int .i64 ((m : Int) + 1), .int .i64 j] 3 ((unitL (m + 1) j).map eQ) := fun j => ev_zero22R N.toSysGLib (m + 1) j (by omega)
 have hz0 : rowK n inj 0 0 = unitL (m + 1) (if inj < 0 then n.s else -1) := by rw [rowK_zero0 n inj (by omega), hmN]
 have hzi : ∀ i : Nat, i < m → rowK n inj 0 (i + 1) = unitL (m + 1) (i : Int) := fun i hi => by rw [rowK_zero n inj i (by omega) (by omega), hmN]
 rw [hm] at hz0
 refine Ev.x N.ref22_rows rfl rfl ?_
 refine AKM.xf 6 ?_
 (conv => whnf)
 refine AKM.mx0 5 5 rfl ?_
 (repeat' (first | (refine CmpP.go (fun hc => ?_) (fun hc => ?_) <;> first | (exfalso; omega) | (conv => whnf)) | (refine OpP.add (by omega) ?_; conv => whnf) | (refine AKM.x ?_; conv => whnf)))
 all_goals rw [hm]
 rw [if_neg (by omega)] at hz0
 rotate_left
 rw [if_pos (by omega)] at hz0
 rotate_left
 all_goals
  refine CallR.go (enc := eQ) (m + 1) (hZ _) (by simp [unitL]) ?_
  rw [← hz0]
  (conv => whnf)
  refine Req.go (by rw [List.length_map, rowK_len, hmN]) ?_
  refine AppM.go (ll := []) (r := rowK n inj 0 0) (en := eQ) rfl (by simp) (by simp) ?_
  (conv => whnf)
  skip
  try refine AKM.back (tm' := [(6, .int .i64 0), (5, .row 20 0 1 0 1), (2, .ptr 2 0 0 0), (0 + 1, .int .i64 inj)]) (M' := [(20, 5, .mx (mxR 3 eQ ([] ++ [rowK n inj 0 0]))), (2, 2, .bx [.int .i64 n.d.b, .int .i64 n.d.f, .int .i64 n.d.r, .int .i64 n.d.o, .int .i64 n.c.b, .int .i64 n.c.f, .int .i64 n.c.r, .int .i64 n.c.o, .int .i64 m, .sl n.qn (n.nodes.map encNd), .sl n.qx (n.next.map encInt), .int .i64 n.out])]) [(20, 29)] (by (conv => whnf); exact ⟨rfl, rfl, rfl⟩) ?_
  refine AKM.loop1 (fun i => m - i) (fun (i : Nat) => i ≤ m) (fun i => [(6, .int .i64 i), (5, .row 20 0 1 0 (1 + i))]) (fun i => [(20, 5, .mx (mxR 3 eQ ((List.range (1 + i)).map (rowK n inj 0))))]) [] [] 0 (by (conv => whnf); exact ⟨rfl, rfl, rfl⟩) (by omega) ?_
  intro i p1 ih
  have hlr : ((List.range (1 + i)).map (rowK n inj 0)).length = 1 + i := by simp
  by_cases hi : i < m
  ·have hzi := hzi i hi
   have hsc : (List.range (1 + i)).map (rowK n inj 0) ++ [rowK n inj 0 (i + 1)] = (List.range (1 + (i + 1))).map (rowK n inj 0) := by
    rw [show 1 + (i + 1) = (1 + i) + 1 by omega, List.range_succ, List.map_append, List.map_singleton, Nat.add_comm i 1]
   (repeat' (first | (refine CmpP.go (fun hc => ?_) (fun hc => ?_) <;> first | (exfalso; omega) | (conv => whnf)) | (refine OpP.add (by omega) ?_; conv => whnf) | (refine AKM.x ?_; conv => whnf)))
   refine CallR.go (enc := eQ) (m + 1) (hZ _) (by simp [unitL]) ?_
   rw [← hzi]
   (conv => whnf)
   refine Req.go (by rw [List.length_map, rowK_len, hmN]) ?_
   refine AppM.go (r := rowK n inj 0 (i + 1)) (en := eQ) hlr.symm (by omega) (by omega) ?_
   rw [hsc, show ((List.range (1 + (i + 1))).map (rowK n inj 0)).length = 1 + (i + 1) by simp]
   (conv => whnf)
   (repeat' (refine OpP.add (by omega) ?_; conv => whnf))
   exact AKM.back [(20, 43)] (by (conv => whnf); exact ⟨rfl, rfl, rfl⟩) (ih (i + 1) (by omega) (by omega))
  obtain rfl : i = m := by omega
  clear ih
  rw [show (List.range (1 + i)).map (rowK n inj 0) = rowsK n inj 0 by rw [rowsK, hm1, Nat.add_comm]]
  have hlt : (tsOf n).length = n.nodes.length := by simp [tsOf]
  (repeat' (first | (refine CmpP.go (fun hc => ?_) (fun hc => ?_) <;> first | (exfalso; omega) | (conv => whnf)) | (refine AKM.x ?_; conv => whnf)))
  refine AKM.loop1 (fun k => n.nodes.length - k) (fun (k : Nat) => k ≤ n.nodes.length) (fun k => [(7, .int .i64 k), (5, .row 20 0 1 0 (i + 1 + k))]) (fun k => [(20, 5, .mx (mxR 3 eQ (rowsK n inj k)))]) [] [] 0 (by first | exact (by (conv => whnf); exact ⟨rfl, rfl, rfl⟩) | (rw [Nat.add_comm 1 i]; exact (by (conv => whnf); exact ⟨rfl, rfl, rfl⟩))) (by omega) ?_
  intro k p2 ih
  have hrl := rowsK_len n inj k
  by_cases hk : k < n.nodes.length
  ·obtain ⟨nd, hnd⟩ : ∃ nd, n.nodes[k]? = some nd := ⟨_, List.getElem?_eq_getElem hk⟩
   have hnd' : n.nodes[(k : Int).toNat]? = some nd := hnd
   have hts : (tsOf n)[k]? = some nd.ts := by simp [tsOf, hnd]
   have htm := nodesB_at h4 hnd
   have hL : nd.ts.length ≤ 4 := hsm.len _ (List.mem_of_getElem? hts)
   have hC := hsm.cf _ (List.mem_of_getElem? hts)
   (repeat' (first | (refine CmpP.go (fun hc => ?_) (fun hc => ?_) <;> first | (exfalso; omega) | (conv => whnf)) | (refine OpP.add (by omega) ?_; conv => whnf) | (refine LenP.go ?_; conv => whnf) | (refine AKM.x ?_; conv => whnf)))
   refine CallR.go (enc := eQ) (i + 1) (hZ _) (by simp [unitL]) ?_
   rw [show unitL (i + 1) (-1) = sumsK n inj k nd.ts 0 from sums_zero n inj k nd.ts hmN]
   (conv => whnf)
   refine AKM.loop1 (fun t => nd.ts.length - t) (fun (t : Nat) => t ≤ nd.ts.length) (fun t => [(9, .int .i64 t)]) (fun t => [(54, 54, .rw 3 ((sumsK n inj k nd.ts t).map eQ))]) [] [] 0 (by (conv => whnf); exact ⟨rfl, rfl, rfl⟩) (by omega) ?_
   intro t p3 th
   by_cases ht : t < nd.ts.length
   ·obtain ⟨e, he⟩ : ∃ e, nd.ts[t]? = some e := ⟨_, List.getElem?_eq_getElem ht⟩
    have he' : nd.ts[(t : Int).toNat]? = some e := he
    have hme := List.mem_of_getElem? he
    have hok := List.all_eq_true.1 htm e hme
    simp only [termB, decide_eq_true_eq] at hok
    have hce := hC e hme
    have hF := ev_r3_Frac N.toRefGLib e.2 (pw n.c.f) (by omega) (by omega)
    rw [divInt_pw] at hF
    have hbF : Bt 48 (((e.2 : Int) : Rat) / ((pw n.c.f : Int) : Rat)) := (Bt.ofInt hce).divz hu1 hu2
    (repeat' (first | (refine CmpP.go (fun hc => ?_) (fun hc => ?_) <;> first | (exfalso; omega) | (conv => whnf)) | (refine LenP.go ?_; conv => whnf) | (refine RdP.at (by assumption) (by omega) rfl ?_; conv => whnf) | (refine AKM.x ?_; conv => whnf)))
    refine AKM.loop1 (fun j => i + 1 - j) (fun (j : Nat) => j ≤ i + 1) (fun j => [(11, .int .i64 j)]) (fun j => [(54, 54, .rw 3 (((sumsK n inj k nd.ts (t + 1)).take j ++ (sumsK n inj k nd.ts t).drop j).map eQ))]) [] [] 0 (by first | exact (by (conv => whnf); exact ⟨rfl, rfl, rfl⟩) | (rw [List.take_zero, List.nil_append, List.drop_zero]; exact (by (conv => whnf); exact ⟨rfl, rfl, rfl⟩))) (by omega) ?_
    intro j p4 jh
    have hs1 : (sumsK n inj k nd.ts (t + 1)).length = i + 1 := by simp [sumsK, hmN]
    have hs0 : (sumsK n inj k nd.ts t).length = i + 1 := by simp [sumsK, hmN]
    have hml : ((sumsK n inj k nd.ts (t + 1)).take j ++ (sumsK n inj k nd.ts t).drop j).length = i + 1 := by rw [List.length_append, List.length_take, List.length_drop]; omega
    by_cases hj : j < i + 1
    ·have hbc := colP_bs n inj k j h2 hsm (by omega) hnl
     have hcl := colP_len n inj k j (by omega)
     have hst := sums_step n inj k he (show j < n.s.toNat + 1 by omega)
     have hat := sums_at n inj k nd.ts t j (by omega)
     obtain ⟨x, hx⟩ : ∃ x, (rowK n inj k e.1.toNat)[j]? = some x := ⟨_, List.getElem?_eq_getElem (by rw [rowK_len]; omega)⟩
     have hxd : (colP n inj k j).getD e.1.toNat 0 = x := by
      rw [rowK, List.getElem?_map, List.getElem?_range (by omega), Option.map_some, Option.some.injEq] at hx
      exact hx
     have hbx : Bt 10625 x := by rw [← hxd]; exact hbc.getD _
     rw [hxd] at hst
     have hbs : Bt 42700 (sumQ (colP n inj k j) (nd.ts.take t) / ((pw n.c.f : Int) : Rat)) := by
      have a1 := hbc.sum (nd.ts.take t) (j := 24) (fun e he => Bt.ofInt (hC e (List.mem_of_mem_take he)))
      have a2 : Bt 42600 (sumQ (colP n inj k j) (nd.ts.take t)) := a1.le (by
       have : (nd.ts.take t).length ≤ 4 := by rw [List.length_take]; omega
       omega)
      exact (a2.divz hu1 hu2).le (by omega)
     have hrw : (rowsK n inj k)[e.1.toNat]? = some (rowK n inj k e.1.toNat) := by
      rw [rowsK, List.getElem?_map, List.getElem?_range (by omega)]; rfl
     have hmx : ((sumsK n inj k nd.ts (t + 1)).take j ++ (sumsK n inj k nd.ts t).drop j)[j]? = some (sumQ (colP n inj k j) (nd.ts.take t) / ((pw n.c.f : Int) : Rat)) := by
      rw [List.getElem?_append_right (by rw [List.length_take]; omega), List.length_take, Nat.min_eq_left (by omega), Nat.sub_self, List.getElem?_drop, Nat.add_zero]
      exact hat
     have hset := mix_set (b := sumsK n inj k nd.ts t) hst (by omega)
     have hrx := rowK_len n inj k e.1.toNat
     generalize sumQ (colP n inj k j) (nd.ts.take t) / ((pw n.c.f : Int) : Rat) = sm at *
     have hM := ev_mul3 N.toRefGLib hbF hbx (by omega) (by omega)
     have hA := ev_add3 N.toRefGLib hbs (hbF.mul hbx) (by omega) (by omega)
     (repeat' (first | (refine CmpP.go (fun hc => ?_) (fun hc => ?_) <;> first | (exfalso; omega) | (conv => whnf)) | (refine Req.go (by omega) ?_; conv => whnf) | (refine OpP.shl1 (by omega) (fun _ _ => ?_); conv => whnf) | (refine ConvP.u64 (by omega) ?_; conv => whnf) | (refine LdR.nat (by omega) (fun _ => rfl) (fun v hv => ?_); conv => whnf) | (refine AKM.x ?_; conv => whnf) | (refine CallP.go (hF) ?_; conv => whnf)))
     cases hmx.symm.trans hv
     skip
     refine LdM.int (by omega) (fun r hr => ?_)
     cases hrw.symm.trans hr
     (conv => whnf)
     skip
     refine Req.go (by rw [List.length_map]; omega) ?_
     (conv => whnf)
     refine GetM.atn hrw ?_
     (conv => whnf)
     (repeat' (refine LdR.nat (by omega) (fun _ => rfl) (fun v hv => ?_); conv => whnf))
     cases hx.symm.trans hv
     (repeat' (first | (refine Req.go (by omega) ?_; conv => whnf) | (refine CallP.go (hM) ?_; conv => whnf) | (refine CallP.go (hA) ?_; conv => whnf)))
     refine StR.nat (enc := eQ) (sm + ((e.2 : Int) : Rat) / ((pw n.c.f : Int) : Rat) * x) rfl (fun _ => rfl) (by omega) ?_
     (conv => whnf)
     rw [hset]
     (repeat' (refine OpP.add (by omega) ?_; conv => whnf))
     exact AKM.back [] (by (conv => whnf); exact ⟨rfl, rfl, rfl⟩) (jh (j + 1) (by omega) (by omega))
    ·obtain rfl : j = i + 1 := by omega
     clear jh
     rw [List.take_of_length_le (by omega), List.drop_of_length_le (by omega), List.append_nil]
     (repeat' (first | (refine CmpP.go (fun hc => ?_) (fun hc => ?_) <;> first | (exfalso; omega) | (conv => whnf)) | (refine OpP.add (by omega) ?_; conv => whnf) | (refine AKM.x ?_; conv => whnf)))
     exact AKM.back [] (by (conv => whnf); exact ⟨rfl, rfl, rfl⟩) (th (t + 1) (by omega) (by omega))
   ·obtain rfl : t = nd.ts.length := by omega
    clear th
    have hI := ev_r3_Of N.toRefGLib 1 (by omega)
    have hs0 : (sumsK n inj k nd.ts nd.ts.length).length = i + 1 := by simp [sumsK, hmN]
    have hsu := rowsK_succ n inj k hts hk
    have hrl1 := rowsK_len n inj (k + 1)
    have hat := sums_at n inj k nd.ts nd.ts.length i (by omega)
    have hbc := colP_bs n inj k i h2 hsm (by omega) hnl
    have hbs : Bt 42700 (sumQ (colP n inj k i) (nd.ts.take nd.ts.length) / ((pw n.c.f : Int) : Rat)) := by
     have a1 := hbc.sum (nd.ts.take nd.ts.length) (j := 24) (fun e he => Bt.ofInt (hC e (List.mem_of_mem_take he)))
     have a2 : Bt 42600 (sumQ (colP n inj k i) (nd.ts.take nd.ts.length)) := a1.le (by
      have : (nd.ts.take nd.ts.length).length ≤ 4 := by rw [List.length_take]; omega
      omega)
     exact (a2.divz hu1 hu2).le (by omega)
    have hrx := rowK_len n inj (k + 1) ((1 + n.s).toNat + k)
    by_cases hki : (k : Int) = inj
    ·all_goals try (exfalso; omega)
     all_goals
      have hri := row_inj n inj k hts hk hki (x := sumQ (colP n inj k i) (nd.ts.take nd.ts.length) / ((pw n.c.f : Int) : Rat)) (by rw [hmN]; exact hat)
      rw [hmN] at hri
      generalize sumQ (colP n inj k i) (nd.ts.take nd.ts.length) / ((pw n.c.f : Int) : Rat) = sm at *
      have hA := ev_add3 N.toRefGLib hbs (Bt.ofInt (k := 0) (z := 1) (by decide)) (by omega) (by omega)
      (repeat' (first | (refine CmpP.go (fun hc => ?_) (fun hc => ?_) <;> first | (exfalso; omega) | (conv => whnf)) | (refine Req.go (by omega) ?_; conv => whnf) | (refine LenP.go ?_; conv => whnf) | (refine RdP.at (by assumption) (by omega) rfl ?_; conv => whnf) | (refine LdR.nat (by omega) (fun _ => rfl) (fun v hv => ?_); conv => whnf) | (refine AKM.x ?_; conv => whnf) | (refine CallP.go (hI) ?_; conv => whnf)))
      cases hat.symm.trans hv
      (repeat' (first | (refine Req.go (by omega) ?_; conv => whnf) | (refine CallP.go (hA) ?_; conv => whnf)))
      refine StR.nat (enc := eQ) (sm + 1) rfl (fun _ => rfl) (by omega) ?_
      (conv => whnf)
      rw [hri]
      refine Req.go (by rw [List.length_map]; omega) ?_
      refine AppM.go (r := rowK n inj (k + 1) ((1 + n.s).toNat + k)) (en := eQ) (by omega) (by omega) (by omega) ?_
      rw [← hsu, hrl1, hm1]
      (conv => whnf)
      (repeat' (refine OpP.add (by omega) ?_; conv => whnf))
      exact AKM.back [(20, 123)] (by (conv => whnf); exact ⟨rfl, rfl, rfl⟩) (ih (k + 1) (by omega) (by omega))
    ·rw [row_plain n inj k hts hk hki]
     (repeat' (first | (refine CmpP.go (fun hc => ?_) (fun hc => ?_) <;> first | (exfalso; omega) | (conv => whnf)) | (refine LenP.go ?_; conv => whnf) | (refine RdP.at (by assumption) (by omega) rfl ?_; conv => whnf) | (refine AKM.x ?_; conv => whnf)))
     refine Req.go (by rw [List.length_map]; omega) ?_
     refine AppM.go (r := rowK n inj (k + 1) ((1 + n.s).toNat + k)) (en := eQ) (by omega) (by omega) (by omega) ?_
     rw [← hsu, hrl1, hm1]
     (conv => whnf)
     (repeat' (refine OpP.add (by omega) ?_; conv => whnf))
     exact AKM.back [(20, 123)] (by (conv => whnf); exact ⟨rfl, rfl, rfl⟩) (ih (k + 1) (by omega) (by omega))
  ·obtain rfl : k = n.nodes.length := by omega
   clear ih
   (repeat' (first | (refine CmpP.go (fun hc => ?_) (fun hc => ?_) <;> first | (exfalso; omega) | (conv => whnf)) | (refine LenP.go ?_; conv => whnf) | (refine AKM.x ?_; conv => whnf)))
   refine SnM.all (fun _ => rfl) rfl (by omega) ?_
   (conv => whnf)
   refine FinP.go rfl ?_
   simp only [Clean, true_and]
   exact cleanLL_map (fun r => by simp only [CleanL, Clean, and_true, true_and]; exact cl_eQs r) _
end Go.Eng
namespace Go.Eng
open F
attribute [local irreducible] AKM CmpP Req OpP UnP ConvP RdP LdR StR MkR LenP AppR AppN CpyR RowP SnR Bds SlS CallP CalP FinP pw LdM GetM SetM PutM MkM AppM SnM FlP CallR
set_option maxHeartbeats 16000000
variable {L : Lib}
abbrev eV (r : List Rat) : List AV := [.sl false (r.map eQ)]
def sysR (n : Nt) (R : List (List Rat)) : SysQ where
 a := n.next.map fun e => (R.getD e.toNat []).take n.s.toNat
 b := n.next.map fun e => (R.getD e.toNat []).getD n.s.toNat 0
 c := (R.getD n.out.toNat []).take n.s.toNat
 d := (R.getD n.out.toNat []).getD n.s.toNat 0
theorem ev_system (N : ModGLib L) (n : Nt) (R : List (List Rat)) (hv : netB n = true) (hR : (R.length : Int) = 1 + n.s + n.nodes.length) (hr : ∀ r ∈ R, r.length = n.s.toNat + 1) :
  Ev L 164 [.agg (encN n), .sl false (R.map eV)] (.agg (eS (sysR n R))) := by
 rw [netB_iff] at hv
 obtain ⟨h1, h2, h3, h4, h5, h6⟩ := hv
 have hnx : ∀ e ∈ n.next, 0 ≤ e ∧ e ≤ n.s + n.nodes.length := fun e he => by simpa using List.all_eq_true.1 h5 e he
 obtain ⟨m, hm⟩ : ∃ m : Nat, n.s = m := ⟨n.s.toNat, (Int.toNat_of_nonneg (by omega)).symm⟩
 have hmN : n.s.toNat = m := by omega
 obtain ⟨ro, hro⟩ : ∃ r, R[n.out.toNat]? = some r := ⟨_, List.getElem?_eq_getElem (by omega)⟩
 have hrol := hr ro (List.mem_of_getElem? hro)
 obtain ⟨x, hx⟩ : ∃ x, ro[m]? = some x := ⟨_, List.getElem?_eq_getElem (by omega)⟩
 have hx' : ro[(m : Int).toNat]? = some x := hx
 have hc0 : (sysR n R).c = ro.take m := by simp only [sysR, List.getD_eq_getElem?_getD, hro, hmN, Option.getD_some]
 have hd0 : (sysR n R).d = x := by simp only [sysR, List.getD_eq_getElem?_getD, hro, hmN, Option.getD_some, hx]
 have hal : (sysR n R).a.length = m := by simp [sysR]; omega
 have hbl : (sysR n R).b.length = m := by simp [sysR]; omega
 refine Ev.x N.ref22_system rfl rfl ?_
 (repeat' (first | (refine RdP.at (by assumption) (by omega) rfl ?_; conv => whnf) | (refine AKM.x ?_; conv => whnf)))
 rw [hm]
 refine SlS.to (fun _ => rfl) (by omega) ?_
 (conv => whnf)
 (repeat' (refine RdP.at (by assumption) (by omega) rfl ?_; conv => whnf))
 refine AKM.loop2 (fun i _ => m - i) (fun (i : Nat) (f3 : Bool) => i ≤ m ∧ f3 = decide (i = 0)) (fun i f3 => [(6, .int .i64 i)]) (fun i f3 => bif f3 then [] else [(5, 5, .bx ([.row 45 0 1 0 i, .row 62 0 3 0 i, .sl false ((ro.take m).map eQ)] ++ eQ x)), (45, 45, .rw 1 (((sysR n R).a.take i).map eV)), (62, 62, .rw 3 (((sysR n R).b.take i).map eQ))]) [] [] 0 true (by (conv => whnf); exact ⟨rfl, rfl, rfl⟩) ⟨by omega, rfl⟩ ?_
 intro i f3 ⟨p1, p2⟩ ih
 by_cases hi : i < m
 ·obtain ⟨e, he⟩ : ∃ e, n.next[i]? = some e := ⟨_, List.getElem?_eq_getElem (by omega)⟩
  have hx2 : n.next[(i : Int).toNat]? = some e := he
  have hen := hnx e (List.mem_of_getElem? he)
  obtain ⟨re, hre⟩ : ∃ r, R[e.toNat]? = some r := ⟨_, List.getElem?_eq_getElem (by omega)⟩
  have hrel := hr re (List.mem_of_getElem? hre)
  obtain ⟨y, hy⟩ : ∃ y, re[m]? = some y := ⟨_, List.getElem?_eq_getElem (by omega)⟩
  have hy' : re[(m : Int).toNat]? = some y := hy
  have ha : (sysR n R).a[i]? = some (re.take m) := by simp only [sysR, List.getElem?_map, he, Option.map_some, List.getD_eq_getElem?_getD, hre, hmN, Option.getD_some]
  have hb : (sysR n R).b[i]? = some y := by simp only [sysR, List.getElem?_map, he, Option.map_some, List.getD_eq_getElem?_getD, hre, hmN, Option.getD_some, hy]
  have hta : ((sysR n R).a.take i).length = i := by rw [List.length_take]; omega
  have htb : ((sysR n R).b.take i).length = i := by rw [List.length_take]; omega
  have hta1 : ((sysR n R).a.take (i + 1)).length = i + 1 := by rw [List.length_take]; omega
  have htb1 : ((sysR n R).b.take (i + 1)).length = i + 1 := by rw [List.length_take]; omega
  have hsa := take_snocA ha
  have hsb := take_snocA hb
  cases f3
  ·(repeat' (first | (refine CmpP.go (fun hc => ?_) (fun hc => ?_) <;> first | (exfalso; omega) | (conv => whnf)) | (refine RdP.at (by assumption) (by omega) rfl ?_; conv => whnf) | (refine AKM.x ?_; conv => whnf)))
   refine SlS.to (fun _ => rfl) (by omega) ?_
   (conv => whnf)
   (repeat' (refine RowP.e1 ?_; conv => whnf))
   refine AppR.one (enc := eV) (re.take m) rfl hta.symm rfl (by omega) (by omega) ?_
   rw [← hsa, hta1]
   (conv => whnf)
   (repeat' (first | (refine RdP.at (by assumption) (by omega) rfl ?_; conv => whnf) | (refine RowP.e1 ?_; conv => whnf)))
   refine AppR.one (enc := eQ) y rfl htb.symm rfl (by omega) (by omega) ?_
   rw [← hsb, htb1]
   (conv => whnf)
   (repeat' (refine OpP.add (by omega) ?_; conv => whnf))
   exact AKM.back [(45, 1000045), (62, 1000062)] (by (conv => whnf); exact ⟨rfl, rfl, rfl⟩) (ih (i + 1) false (by omega) ⟨by omega, by simp⟩)
  ·obtain rfl : i = 0 := by simpa using p2.symm
   (repeat' (first | (refine CmpP.go (fun hc => ?_) (fun hc => ?_) <;> first | (exfalso; omega) | (conv => whnf)) | (refine RdP.at (by assumption) (by omega) rfl ?_; conv => whnf) | (refine AKM.x ?_; conv => whnf)))
   refine SlS.to (fun _ => rfl) (by omega) ?_
   (conv => whnf)
   (repeat' (refine RowP.e1 ?_; conv => whnf))
   refine AppN.one (enc := eV) (re.take m) rfl rfl (by omega) ?_
   rw [show [re.take m] = (sysR n R).a.take (0 + 1) by rw [hsa]; rfl]
   (conv => whnf)
   (repeat' (first | (refine RdP.at (by assumption) (by omega) rfl ?_; conv => whnf) | (refine RowP.e1 ?_; conv => whnf)))
   refine AppN.one (enc := eQ) y rfl rfl (by omega) ?_
   rw [show [y] = (sysR n R).b.take (0 + 1) by rw [hsb]; rfl]
   (conv => whnf)
   (repeat' (refine OpP.add (by omega) ?_; conv => whnf))
   exact AKM.back [] (by (conv => whnf); exact ⟨rfl, rfl, rfl⟩) (ih (0 + 1) false (by omega) ⟨by omega, by simp⟩)
 ·obtain rfl : i = m := by omega
  clear ih
  rw [List.take_of_length_le (show (sysR n R).a.length ≤ i by omega), List.take_of_length_le (show (sysR n R).b.length ≤ i by omega)]
  cases f3
  ·(repeat' (first | (refine CmpP.go (fun hc => ?_) (fun hc => ?_) <;> first | (exfalso; omega) | (conv => whnf)) | (refine AKM.x ?_; conv => whnf)))
   refine SnR.all (enc := eV) (fun _ => rfl) rfl hal.symm ?_
   (conv => whnf)
   refine SnR.all (enc := eQ) (fun _ => rfl) rfl hbl.symm ?_
   (conv => whnf)
   exact FinP.go (by rw [← hd0, ← hc0]; rfl) (cl_eS _)
  ·obtain rfl : i = 0 := by simpa using p2.symm
   have ha0 : (sysR n R).a = [] := List.eq_nil_of_length_eq_zero hal
   have hb0 : (sysR n R).b = [] := List.eq_nil_of_length_eq_zero hbl
   (repeat' (first | (refine CmpP.go (fun hc => ?_) (fun hc => ?_) <;> first | (exfalso; omega) | (conv => whnf)) | (refine AKM.x ?_; conv => whnf)))
   exact FinP.go (by rw [← hd0, ← hc0, eS, ha0, hb0]; rfl) (cl_eS _)
theorem colP_lin (n : Nt) (inj : Int) (j : Nat) (hj : j < n.s.toNat) : colP n inj n.nodes.length j = spreadQ n ((j : Int) + 1) (-1) := by
 have hlt : (tsOf n).length = n.nodes.length := by simp [tsOf]
 rw [colP, ← hlt, List.take_length, exJ, srcJ, if_pos hj, if_pos hj]; rfl
theorem colP_last (n : Nt) (inj : Int) : colP n inj n.nodes.length n.s.toNat = if inj < 0 then spreadQ n 0 (-1) else spreadQ n (-1) inj := by
 have hlt : (tsOf n).length = n.nodes.length := by simp [tsOf]
 rw [colP, ← hlt, List.take_length]
 unfold exJ srcJ
 rw [if_neg (Nat.lt_irrefl _), if_neg (Nat.lt_irrefl _)]
 by_cases h : inj < 0
 ·simp only [if_pos h]; rfl
 ·simp only [if_neg h]; rfl
theorem rows_at (n : Nt) (inj : Int) {m : Nat} (hm : m < (1 + n.s).toNat + n.nodes.length) : (rowsK n inj n.nodes.length).getD m [] = rowK n inj n.nodes.length m := by
 rw [List.getD_eq_getElem?_getD, rowsK, List.getElem?_map, List.getElem?_range hm]; rfl
theorem row_take (n : Nt) (inj : Int) (m : Nat) : (rowK n inj n.nodes.length m).take n.s.toNat = (List.range n.s.toNat).map fun (j : Nat) => (spreadQ n ((j : Int) + 1) (-1)).getD m 0 := by
 rw [rowK, ← List.map_take, List.range_succ, List.take_append_of_le_length (by simp), List.take_of_length_le (by simp)]
 refine List.map_congr_left fun j hj => ?_
 rw [colP_lin n inj j (List.mem_range.1 hj)]
theorem row_last (n : Nt) (inj : Int) (m : Nat) : (rowK n inj n.nodes.length m).getD n.s.toNat 0 = (if inj < 0 then spreadQ n 0 (-1) else spreadQ n (-1) inj).getD m 0 := by
 rw [rowK, List.getD_eq_getElem?_getD, List.getElem?_map, List.getElem?_range (by omega), Option.map_some, Option.getD_some, colP_last]
theorem sysR_rows (n : Nt) (inj : Int) (hv : netB n = true) : sysR n (rowsK n inj n.nodes.length) = if inj < 0 then linQ n else injQ n inj := by
 rw [netB_iff] at hv
 obtain ⟨h1, h2, h3, h4, h5, h6⟩ := hv
 have hnx : ∀ e ∈ n.next, 0 ≤ e ∧ e ≤ n.s + n.nodes.length := fun e he => by simpa using List.all_eq_true.1 h5 e he
 have ea : (sysR n (rowsK n inj n.nodes.length)).a = (linQ n).a := by
  simp only [sysR, linQ]
  refine List.map_congr_left fun e he => ?_
  have := hnx e he
  rw [rows_at n inj (by omega), row_take]
 have ec : (sysR n (rowsK n inj n.nodes.length)).c = (linQ n).c := by
  simp only [sysR, linQ]
  rw [rows_at n inj (by omega), row_take]
 have eb : (sysR n (rowsK n inj n.nodes.length)).b = n.next.map fun e => (if inj < 0 then spreadQ n 0 (-1) else spreadQ n (-1) inj).getD e.toNat 0 := by
  simp only [sysR]
  refine List.map_congr_left fun e he => ?_
  have := hnx e he
  rw [rows_at n inj (by omega), row_last]
 have ed : (sysR n (rowsK n inj n.nodes.length)).d = (if inj < 0 then spreadQ n 0 (-1) else spreadQ n (-1) inj).getD n.out.toNat 0 := by
  simp only [sysR]
  rw [rows_at n inj (by omega), row_last]
 generalize sysR n (rowsK n inj n.nodes.length) = S at *
 obtain ⟨a, b, c, d⟩ := S
 simp only at ea eb ec ed
 subst ea eb ec ed
 split <;> rfl
theorem ev_Linear22 (I : FixedLib L) (N : ModGLib L) (n : Nt) (hv : netB n = true) (hsm : SmallN (tsOf n)) (hnl : n.nodes.length ≤ 4) : Ev L 165 [.agg (encN n)] (.tup [.agg (eS (linQ n)), .int .i64 0]) := by
 have hV := ev_ref22_Valid n I N.toNetLib
 rw [hv] at hV
 have hR := ev_rows N n (-1) hv hsm hnl (by unfold InI; omega)
 have h3 := (netB_iff n).1 hv
 have hS := ev_system N n (rowsK n (-1) n.nodes.length) hv (by rw [rowsK_len]; omega) (fun r hr => by
  obtain ⟨m, _, rfl⟩ := List.mem_map.1 hr
  exact rowK_len _ _ _ _)
 rw [sysR_rows n (-1) hv, if_pos (by omega)] at hS
 refine Ev.x N.ref22_Linear rfl rfl ?_
 (repeat' (first | (refine AKM.x ?_; conv => whnf) | (refine CallP.go (hV) ?_; conv => whnf) | (refine CallP.go (hR) ?_; conv => whnf) | (refine CallP.go (hS) ?_; conv => whnf)))
 refine FinP.go rfl ?_
 simp only [Clean, CleanL, and_true]
 exact cl_eS (linQ n)
theorem ev_Inject22 (I : FixedLib L) (N : ModGLib L) (n : Nt) (node : Int) (hv : netB n = true) (hsm : SmallN (tsOf n)) (hnl : n.nodes.length ≤ 4) (hnI : InI node) : Ev L 166 [.agg (encN n), .int .i64 node] (injR n node) := by
 have hV := ev_ref22_Valid n I N.toNetLib
 rw [hv] at hV
 have h3 := (netB_iff n).1 hv
 have hIn := ev_ref21_In I node 0 ((n.nodes.length : Int) - 1)
 refine Ev.x N.ref22_Inject rfl rfl ?_
 by_cases hin : 0 ≤ node ∧ node < n.nodes.length
 ·have hR := ev_rows N n node hv hsm hnl hnI
  have hS := ev_system N n (rowsK n node n.nodes.length) hv (by rw [rowsK_len]; omega) (fun r hr => by
   obtain ⟨m, _, rfl⟩ := List.mem_map.1 hr
   exact rowK_len _ _ _ _)
  rw [sysR_rows n node hv, if_neg (by omega)] at hS
  rw [decide_eq_true (by omega)] at hIn
  (repeat' (first | (refine OpP.sub (by omega) ?_; conv => whnf) | (refine LenP.go ?_; conv => whnf) | (refine AKM.x ?_; conv => whnf) | (refine CallP.go (hV) ?_; conv => whnf) | (refine CallP.go (hIn) ?_; conv => whnf) | (refine CallP.go (hR) ?_; conv => whnf) | (refine CallP.go (hS) ?_; conv => whnf)))
  rw [injR, if_pos hin]
  refine FinP.go rfl ?_
  simp only [Clean, CleanL, and_true]
  exact cl_eS (injQ n node)
 ·rw [decide_eq_false (by omega)] at hIn
  (repeat' (first | (refine OpP.sub (by omega) ?_; conv => whnf) | (refine LenP.go ?_; conv => whnf) | (refine AKM.x ?_; conv => whnf) | (refine CallP.go (hV) ?_; conv => whnf) | (refine CallP.go (hIn) ?_; conv => whnf)))
  rw [injR, if_neg hin]
  exact FinP.go rfl (cl_eS0 1)
end Go.Eng

namespace Go.Eng
open F
attribute [local irreducible] AKM CmpP Req OpP UnP ConvP RdP LdR StR MkR LenP AppR AppN CpyR RowP SnR Bds SlS CallP CalP FinP pw LdM GetM SetM PutM MkM AppM SnM FlP CallR
set_option maxHeartbeats 8000000
variable {L : Lib}
theorem ev_SameSysD (N : ModGLib L) (S : SysQ) (n k : Nat) (h : S.Ok n k) (hn : n ≤ 64) (hk : k < 2199023255552) (g : Bool) (m d : List Nat) (hD : Ev L 127 [.agg (rQ false false g m d), .agg (rQ false false g m d)] (.int .i64 0)) :
  Ev L 167 [.agg ([.sl false (S.a.map fun r => [AV.sl false (r.map eQ)]), .sl false (S.b.map eQ), .sl false (S.c.map eQ)] ++ rQ false false g m d), .agg ([.sl false (S.a.map fun r => [AV.sl false (r.map eQ)]), .sl false (S.b.map eQ), .sl false (S.c.map eQ)] ++ rQ false false g m d)] (.bool true) := by
 have hB := ev_SameRats N.toRefGLib S.b S.b false false k h.bb h.bb hk (by have := h.lb; omega)
 have hC := ev_SameRats N.toRefGLib S.c S.c false false k h.bc h.bc hk (by have := h.lc; omega)
 rw [decide_eq_true rfl] at hB hC
 have hla := h.la
 refine Ev.x N.ref22_SameSystems rfl rfl ?_
 (repeat' (first | (refine CmpP.go (fun hc => ?_) (fun hc => ?_) <;> first | (exfalso; omega) | (conv => whnf)) | (refine LenP.go ?_; conv => whnf) | (refine AKM.x ?_; conv => whnf) | (refine CallP.go (hB) ?_; conv => whnf) | (refine CallP.go (hC) ?_; conv => whnf) | (refine CallP.go (hD) ?_; conv => whnf)))
 refine AKM.loop1 (fun i => S.a.length - i) (fun (i : Nat) => i ≤ S.a.length) (fun i => [(5, .int .i64 i)]) (fun _ => []) [] [] 0 (by (conv => whnf); exact ⟨rfl, rfl, rfl⟩) (by omega) ?_
 intro i p1 ih
 by_cases hi : i < S.a.length
 ·obtain ⟨r, hr⟩ : ∃ r, S.a[i]? = some r := ⟨_, List.getElem?_eq_getElem hi⟩
  have hr' : S.a[(i : Int).toNat]? = some r := hr
  have hrb := h.ba r (List.mem_of_getElem? hr)
  have hrl := h.lr r (List.mem_of_getElem? hr)
  have hR := ev_SameRats N.toRefGLib r r false false k hrb hrb hk (by omega)
  rw [decide_eq_true rfl] at hR
  (repeat' (first | (refine CmpP.go (fun hc => ?_) (fun hc => ?_) <;> first | (exfalso; omega) | (conv => whnf)) | (refine OpP.add (by omega) ?_; conv => whnf) | (refine LenP.go ?_; conv => whnf) | (refine RdP.at (by assumption) (by omega) rfl ?_; conv => whnf) | (refine AKM.x ?_; conv => whnf) | (refine CallP.go (hR) ?_; conv => whnf)))
  exact AKM.back [] (by (conv => whnf); exact ⟨rfl, rfl, rfl⟩) (ih (i + 1) (by omega) (by omega))
 ·obtain rfl : i = S.a.length := by omega
  clear ih
  (repeat' (first | (refine CmpP.go (fun hc => ?_) (fun hc => ?_) <;> first | (exfalso; omega) | (conv => whnf)) | (refine LenP.go ?_; conv => whnf) | (refine AKM.x ?_; conv => whnf)))
  exact FinP.b rfl
theorem ev_SameSys (N : ModGLib L) (S : SysQ) (n k : Nat) (h : S.Ok n k) (hn : n ≤ 64) (hk : k < 2199023255552) : Ev L 167 [.agg (eS S), .agg (eS S)] (.bool true) := by
 have hD := ev_cmp3 N.toRefGLib h.bd h.bd hk hk
 rw [sgn_sub.2 rfl] at hD
 exact ev_SameSysD N S n k h hn hk _ _ _ hD
theorem ev_SameSys0 (N : ModGLib L) : Ev L 167 [.agg [.sl false [], .sl false [], .sl false [], .bool false, .sl false [], .sl false []], .agg [.sl false [], .sl false [], .sl false [], .bool false, .sl false [], .sl false []]] (.bool true) := by
 have hD := ev_r3_Compare N.toRefGLib 1 (by omega) false false false false [] [] [] [] ⟨dig_nil, by simp⟩ ⟨dig_nil, by simp⟩ ⟨dig_nil, by simp⟩ ⟨dig_nil, by simp⟩
 rw [sgn_sub.2 rfl] at hD
 exact ev_SameSysD N ⟨[], [], [], 0⟩ 0 0 ⟨rfl, (fun r h => by cases h), rfl, rfl, (fun r h => by cases h), (fun x h => by cases h), (fun x h => by cases h), Bt.zero 0⟩ (by omega) (by omega) false [] [] hD
end Go.Eng

namespace Go.Eng
open F
attribute [local irreducible] AKM CmpP Req OpP UnP ConvP RdP LdR StR MkR LenP AppR AppN CpyR RowP SnR Bds SlS CallP CalP FinP pw LdM GetM SetM PutM MkM AppM SnM FlP CallR
set_option maxHeartbeats 8000000
variable {L : Lib}
theorem injQ_ok {n : Nt} (hb : netB n = true) (hsm : SmallN (tsOf n)) (hnl : n.nodes.length ≤ 4) (k : Int) : (injQ n k).Ok n.s.toNat 10625 := by
 have h := linQ_ok hb hsm hnl
 obtain ⟨h1, h2, h3, h4, h5, h6⟩ := (netB_iff n).1 hb
 have hB := spreadQ_bs n (-1) k h2 hsm hnl
 refine ⟨h.la, h.lr, by simp [injQ]; omega, h.lc, h.ba, ?_, h.bc, hB.getD _⟩
 intro x hx
 obtain ⟨e, _, rfl⟩ := List.mem_map.1 hx
 exact hB.getD _
theorem errQ_bs {n : Nt} (hb : netB n = true) (hsm : SmallN (tsOf n)) {vals : List Int} (hvb : ∀ v ∈ vals, v.natAbs ≤ 2 ^ 24) (i : Nat) : Bs 300 (errQ n vals i) := by
 obtain ⟨h1, h2, h3, h4, h5, h6⟩ := (netB_iff n).1 hb
 have hu1 := pw_pos n.c.f
 have hu2 : (pw n.c.f).natAbs ≤ 2 ^ 24 := by
  have hf : n.c.f < 24 := by unfold WV at h2; omega
  have h9 : (2 : Nat) ^ n.c.f.toNat ≤ 2 ^ 24 := Nat.pow_le_pow_right (by omega) (by omega)
  rw [pw]
  exact_mod_cast h9
 intro x hx
 obtain ⟨k, _, rfl⟩ := List.mem_map.1 hx
 unfold errK
 have a1 : Bt 24 ((vals.getD ((1 + n.s).toNat + k) 0 : Int) : Rat) := by
  rw [List.getD_eq_getElem?_getD]
  cases e : vals[(1 + n.s).toNat + k]? with
  | none => exact Bt.zero 24
  | some v => exact Bt.ofInt (hvb v (List.mem_of_getElem? e))
 have a2 : Bt 196 (sumQ (intsQ vals) ((tsOf n).getD k [])) := by
  rw [List.getD_eq_getElem?_getD]
  cases e : (tsOf n)[k]? with
  | none => exact Bt.zero 196
  | some ts =>
   have h := List.mem_of_getElem? e
   have := node_sum_bs (n := n) hvb (hsm.cf ts h) (hsm.len ts h) ts.length
   rwa [List.take_length] at this
 have a3 := a2.divz hu1 hu2
 have a4 : Bt 220 (-(sumQ (intsQ vals) ((tsOf n).getD k []) / ((pw n.c.f : Int) : Rat))) := ⟨by rw [Rat.neg_num, Int.natAbs_neg]; exact a3.1, by rw [Rat.neg_den]; exact a3.2⟩
 rw [Rat.sub_eq_add_neg]
 exact (a1.add a4).le (by omega)
theorem ev_law22_NetworkModels (I : FixedLib L) (J : NetLib L) (W : WorldLib L) (R : RunGLib L) (E : LawMLib L) (r : Rw) (h1 : InI r.data) (h2 : InI r.coef) (h3 : InI r.states) (h4 : InI r.out) (h5 : allI r.next) (h6 : ∀ w ∈ r.nodes, allI w.1.2 ∧ allI w.2.2) (hl : r.nodes.length < 9223372036854775808)
  (node : Int) (hnI : InI node) (values : List Int) (q1 : Bool) : Ev L 168 [.agg (encR r), .int .i64 node, .sl q1 (values.map encInt)] (.bool true) := by
 refine Ev.x E.law22_NetworkModels rfl rfl ?_
 have hrw := ev_world_Raw_Net I W R r h1 h2 h3 h4 h5 h6 hl
 have hok := netR_ok r
 have hsm := netR_small r
 have hnl := netR_nodesL r
 generalize netR r = n at *
 obtain ⟨g1, g2, g3, g4, g5, g6⟩ := (netB_iff n).1 hok
 have hc : 1 + n.s + (n.nodes.length : Int) = ((1 + n.s.toNat + n.nodes.length : Nat) : Int) := by omega
 have ew := fun q => ev_world_Below W 1048576 (by omega) values q (1 + n.s.toNat + n.nodes.length) (by omega)
 rw [← hc] at ew
 have hVr : ∀ v ∈ belowS 1048576 values (1 + n.s.toNat + n.nodes.length), -1048576 ≤ v ∧ v ≤ 1048576 := fun v hv => below_rng (by omega) hv
 have hVl : (belowS 1048576 values (1 + n.s.toNat + n.nodes.length)).length = 1 + n.s.toNat + n.nodes.length := below_len _ _ _
 generalize belowS 1048576 values (1 + n.s.toNat + n.nodes.length) = V at *
 have e24 : (2 : Nat) ^ 24 = 16777216 := rfl
 have hvb : ∀ v ∈ V, v.natAbs ≤ 2 ^ 24 := fun v hv => by have := hVr v hv; omega
 have r1 := ev_Linear I E.toLinGLib n hok hsm hnl
 have r2 := ev_Linear22 I E.toModGLib n hok hsm hnl
 have r3 := ev_Inject I E.toModGLib n node hok hsm hnl hnI
 have r4 := ev_Inject22 I E.toModGLib n node hok hsm hnl hnI
 have r5 := fun q => ev_Errors I E.toModGLib n V q hok hsm (by omega) hvb
 have r6 := fun q => ev_Errors22 I E.toModGLib n V q hok hsm (by omega) hvb
 have lo := linQ_ok hok hsm hnl
 have jo := injQ_ok hok hsm hnl node
 have s1 := ev_SameSys E.toModGLib (linQ n) _ _ lo (by omega) (by omega)
 have s2 := ev_SameSys E.toModGLib (injQ n node) _ _ jo (by omega) (by omega)
 have s3 := ev_SameSys0 E.toModGLib
 have s4 := ev_Sound E.toSysGLib (linQ n) _ _ lo (by omega)
 have be := errQ_bs hok hsm hvb n.nodes.length
 have le := errQ_len n V n.nodes.length
 have s5 := fun q1 q2 => ev_SameRats E.toRefGLib _ _ q1 q2 300 be be (by omega) (by omega)
 rw [decide_eq_true rfl] at s5
 have hkn := ev_example I J
 by_cases hin : 0 ≤ node ∧ node < n.nodes.length
 ·rw [injR, if_pos hin] at r3 r4
  (repeat' (first | (refine CmpP.go (fun hc => ?_) (fun hc => ?_) <;> first | (exfalso; omega) | (conv => whnf)) | (refine OpP.add (by omega) ?_; conv => whnf) | (refine LenP.go ?_; conv => whnf) | (refine AKM.x ?_; conv => whnf) | (refine CallP.go (hrw) ?_; conv => whnf) | (refine CallP.go (r1) ?_; conv => whnf) | (refine CallP.go (r2) ?_; conv => whnf) | (refine CallP.go (r3) ?_; conv => whnf) | (refine CallP.go (r4) ?_; conv => whnf) | (refine CallP.go (ew _) ?_; conv => whnf) | (refine CallP.go (r5 _) ?_; conv => whnf) | (refine CallP.go (r6 _) ?_; conv => whnf) | (refine CallP.go (hkn) ?_; conv => whnf) | (refine CallP.go (s1) ?_; conv => whnf) | (refine CallP.go (s2) ?_; conv => whnf) | (refine CallP.go (s4) ?_; conv => whnf) | (refine CallP.go (s5 _ _) ?_; conv => whnf)))
  exact FinP.b rfl
 ·rw [injR, if_neg hin] at r3 r4
  (repeat' (first | (refine CmpP.go (fun hc => ?_) (fun hc => ?_) <;> first | (exfalso; omega) | (conv => whnf)) | (refine OpP.add (by omega) ?_; conv => whnf) | (refine LenP.go ?_; conv => whnf) | (refine AKM.x ?_; conv => whnf) | (refine CallP.go (hrw) ?_; conv => whnf) | (refine CallP.go (r1) ?_; conv => whnf) | (refine CallP.go (r2) ?_; conv => whnf) | (refine CallP.go (r3) ?_; conv => whnf) | (refine CallP.go (r4) ?_; conv => whnf) | (refine CallP.go (ew _) ?_; conv => whnf) | (refine CallP.go (r5 _) ?_; conv => whnf) | (refine CallP.go (r6 _) ?_; conv => whnf) | (refine CallP.go (hkn) ?_; conv => whnf) | (refine CallP.go (s1) ?_; conv => whnf) | (refine CallP.go (s3) ?_; conv => whnf) | (refine CallP.go (s4) ?_; conv => whnf) | (refine CallP.go (s5 _ _) ?_; conv => whnf)))
  exact FinP.b rfl
end Go.Eng
