/-
  Networks made of numbers: Raw.Net.
-/
import Derived.Test.YtlkfmmfmefobnaaB6
import Derived.Test.YtlkfmmfmefobnaaB1
import Derived.Test.YtlkfmmfmefobnaaB3
import Derived.Test.YtlkfmmfmefobnaaB4
import Derived.ProofKit
import Derived.OpenShut
import Derived.ChangeOld
import Derived.WalkKit
import Derived.WideShapes
import Derived.ChangeArms
set_option linter.unusedSimpArgs false
set_option linter.unusedVariables false
set_option linter.unnecessarySimpa false
namespace Go.Eng
open F
attribute [local irreducible] AKM CmpP Req OpP UnP ConvP RdP LdR StR MkR LenP AppR AppN CpyR RowP SnR Bds SlS CallP CalP FinP pw LdM GetM SetM PutM MkM AppM SnM
set_option maxHeartbeats 4000000
variable {L : Lib}
/-- a network in numbers -/
structure Rw where
  data : Int
  coef : Int
  states : Int
  qn : Bool
  nodes : List ((Bool × List Int) × (Bool × List Int))
  qx : Bool
  next : List Int
  out : Int
  whole : Bool
abbrev encWr (w : (Bool × List Int) × (Bool × List Int)) : List AV := [.sl w.1.1 (w.1.2.map encInt), .sl w.2.1 (w.2.2.map encInt)]
abbrev encR (r : Rw) : List AV := [.int .i64 r.data, .int .i64 r.coef, .int .i64 r.states, .sl r.qn (r.nodes.map encWr), .sl r.qx (r.next.map encInt), .int .i64 r.out, .bool r.whole]
def allI (l : List Int) : Prop := ∀ v ∈ l, InI v
theorem at_InI {l : List Int} (h : allI l) (i : Int) : InI (atS l i) := by
  unfold atS
  split
  · rename_i hi
    have hlt : i.toNat < l.length := by omega
    rw [getD_of (List.getElem?_eq_getElem hlt)]
    exact h _ (List.getElem_mem hlt)
  · unfold InI; omega
/-- term i of node k -/
def termR (r : Rw) (k : Nat) (w : (Bool × List Int) × (Bool × List Int)) (i : Nat) : Int × Int :=
  (withS (w.1.2.getD i 0) (1 + withS r.states 4 + k), if r.whole then pw (coefS r.coef).f * (withS (atS w.2.2 (i : Int)) 3 - 1) else toW (coefS r.coef) (atS w.2.2 (i : Int)))
def termsR (r : Rw) (k : Nat) (w : (Bool × List Int) × (Bool × List Int)) (n : Nat) : List (Int × Int) := (List.range n).map (termR r k w)
def nodeR (r : Rw) (k : Nat) : List (Int × Int) := match r.nodes[k]? with
  | some w => termsR r k w (min w.1.2.length 4)
  | none => []
def nodesR (r : Rw) (n : Nat) : List (List (Int × Int)) := (List.range n).map (nodeR r)
def netR (r : Rw) : Nt :=
  ⟨dataS r.data, coefS r.coef, withS r.states 4, false, (nodesR r (min r.nodes.length 4)).map (fun ts => ⟨false, ts⟩), false, (List.range (withS r.states 4).toNat).map (fun i : Nat => withS (atS r.next (i : Int)) (1 + withS r.states 4 + (min r.nodes.length 4 : Nat))), withS r.out (1 + withS r.states 4 + (min r.nodes.length 4 : Nat))⟩
def rowT (ts : List (Int × Int)) : Option (Nat × List (List AV)) := match ts with
  | [] => none
  | t :: ts => some (2, (t :: ts).map encT)
theorem rowsE_T : ∀ ns : List (List (Int × Int)), rowsE false (ns.map rowT) = ns.map fun ts => [AV.sl false (ts.map encT)]
  | [] => rfl
  | [] :: l => by simp only [List.map_cons, rowT, rowsE]; rw [rowsE_T l]; rfl
  | (t :: ts) :: l => by simp only [List.map_cons, rowT, rowsE]; rw [rowsE_T l]
theorem SnM_T {ns : List (List (Int × Int))} {off len : Nat} {K : List (List AV) → Prop} (ho : off = 0) (hl : len = ns.length) (h : K (ns.map fun ts => [AV.sl false (ts.map encT)])) : SnM false (ns.map rowT) off len K := by
  unfold SnM
  refine ⟨ho, by simpa using hl, fun z es hm e he => ?_, by rw [rowsE_T]; exact h⟩
  obtain ⟨ts, _, hr⟩ := List.mem_map.1 hm
  cases ts with
  | nil => simp [rowT] at hr
  | cons t ts =>
    simp only [rowT, Option.some.injEq, Prod.mk.injEq] at hr
    obtain ⟨rfl, rfl⟩ := hr
    obtain ⟨x, _, rfl⟩ := List.mem_map.1 he
    rfl
def nextR (r : Rw) (n : Nat) : List Int := (List.range n).map fun i : Nat => withS (atS r.next (i : Int)) (1 + withS r.states 4 + (min r.nodes.length 4 : Nat))
theorem cl_nodes (ns : List (List (Int × Int))) : CleanLL (ns.map fun ts => [AV.sl false (ts.map encT)]) := cleanLL_map (fun ts => by simp only [CleanL, Clean, true_and, and_true]; exact cleanLL_map (fun _ => by simp [CleanL, Clean]) ts) ns
theorem netR_nodes (r : Rw) : (netR r).nodes.map encNd = (nodesR r (min r.nodes.length 4)).map fun ts => [AV.sl false (ts.map encT)] := by
  simp only [netR, List.map_map]; rfl
theorem netR_clean (r : Rw) : Clean (.agg (encN (netR r))) := by
  have h1 : Clean (.sl (netR r).qn ((netR r).nodes.map encNd)) := by rw [netR_nodes]; simp only [Clean]; exact ⟨rfl, cl_nodes _⟩
  have h2 : Clean (.sl (netR r).qx ((netR r).next.map encInt)) := by simp only [Clean]; exact ⟨rfl, cl_ints _⟩
  simp only [Clean, CleanL, true_and, and_true] at *
  exact ⟨h1, h2⟩
theorem ev_world_Raw_Net (I : FixedLib L) (W : WorldLib L) (R : RunGLib L) (r : Rw) (h1 : InI r.data) (h2 : InI r.coef) (h3 : InI r.states) (h4 : InI r.out) (h5 : allI r.next) (h6 : ∀ w ∈ r.nodes, allI w.1.2 ∧ allI w.2.2) (hl : r.nodes.length < 9223372036854775808) : Ev L 42 [.agg (encR r)] (.agg (encN (netR r))) := by
  have hE : ∀ b, r.whole = b → encR r = [.int .i64 r.data, .int .i64 r.coef, .int .i64 r.states, .sl r.qn (r.nodes.map encWr), .sl r.qx (r.next.map encInt), .int .i64 r.out, .bool b] := fun b h => by rw [← h]
  cases hwh : r.whole
  all_goals (
  rw [hE _ hwh]
  refine Ev.x R.world_Raw_Net rfl rfl ?_
  have hs := with_range (v := r.states) (m := 4) (by omega)
  obtain ⟨hcw, hc1, hc2⟩ := coef_ok r.coef
  have hcw' := hcw
  unfold WV at hcw'
  (repeat' (first | (refine OpP.shl1 (by omega) (fun _ _ => ?_); conv => whnf) | (refine ConvP.u64 (by omega) ?_; conv => whnf) | (refine AKM.x ?_; conv => whnf) | (refine CallP.go (ev_world_Data W _ h1) ?_; conv => whnf) | (refine CallP.go (ev_world_Coef W _ h2) ?_; conv => whnf) | (refine CallP.go (ev_world_Within W _ _ h3 (by omega)) ?_; conv => whnf)))
  refine AKM.loop3 (fun k _ _ => 4 - k) (fun (k : Nat) (ns : List (List (Int × Int))) (fl : Bool) => k ≤ 4 ∧ k ≤ r.nodes.length ∧ ns = nodesR r k ∧ fl = decide (k = 0)) (fun k ns fl => [(5, .int .i64 k)]) (fun k ns fl => bif fl then [] else [(3, 3, .bx [.int .i64 (dataS r.data).b, .int .i64 (dataS r.data).f, .int .i64 (dataS r.data).r, .int .i64 (dataS r.data).o, .int .i64 (coefS r.coef).b, .int .i64 (coefS r.coef).f, .int .i64 (coefS r.coef).r, .int .i64 (coefS r.coef).o, .int .i64 (withS r.states 4), .row 1000 0 1 0 ns.length, .nil, .int .i64 0]), (1000, 107, .mx (ns.map rowT))]) [] [] 0 [] true (by (conv => whnf); exact ⟨rfl, rfl, rfl⟩) ⟨by omega, by omega, rfl, rfl⟩ ?_
  intro k ns fl ⟨p1, p2, p3, p4⟩ ih
  have hns : fl = true → ns = [] := fun h => by
    rw [h] at p4
    have : k = 0 := by simpa using p4.symm
    subst this; rw [p3]; rfl
  by_cases hk : k < r.nodes.length ∧ k < 4
  · obtain ⟨w, hw⟩ : ∃ w, r.nodes[k]? = some w := ⟨_, List.getElem?_eq_getElem hk.1⟩
    obtain ⟨q1, q2⟩ := h6 w (List.mem_of_getElem? hw)
    cases fl
    all_goals (
      (repeat' (first | (refine CmpP.go (fun hc => ?_) (fun hc => ?_) <;> first | (exfalso; omega) | (conv => whnf)) | (refine LenP.go ?_; conv => whnf) | (refine AKM.x ?_; conv => whnf)))
      refine AKM.loop3 (fun i _ _ => 4 - i) (fun (i : Nat) (ts : List (Int × Int)) (fl : Bool) => i ≤ 4 ∧ i ≤ w.1.2.length ∧ ts = termsR r k w i ∧ fl = decide (i = 0)) (fun i ts fl => [(7, .int .i64 i)]) (fun i ts fl => bif fl then [(6, 6, .bx [.nil])] else [(6, 6, .bx [.row 2000 0 2 0 ts.length]), (2000, 101, .rw 2 (ts.map encT))]) [] [] 0 [] true (by (conv => whnf); exact ⟨rfl, rfl, rfl⟩) ⟨by omega, by omega, rfl, rfl⟩ ?_
      intro i ts fl2 ⟨s1, s2, s3, s4⟩ ih2
      have hts : fl2 = true → ts = [] := fun h => by
        rw [h] at s4
        have : i = 0 := by simpa using s4.symm
        subst this; rw [s3]; rfl
      have htc : fl2 = false → ∃ t0 ts', ts = t0 :: ts' := fun h => by
        rw [h] at s4
        have hi0 : ¬ i = 0 := by simpa using s4.symm
        have hl : ts.length = i := by rw [s3]; simp [termsR]
        cases ts with
        | nil => exact absurd hl.symm hi0
        | cons t0 ts' => exact ⟨t0, ts', rfl⟩
      by_cases hi : i < w.1.2.length ∧ i < 4
      · obtain ⟨e0, he0⟩ : ∃ e, w.1.2[i]? = some e := ⟨_, List.getElem?_eq_getElem hi.1⟩
        have hwl : (wordsS (coefS r.coef) w.2.2 (i + 1)).length = i + 1 := by simp [wordsS]
        have ew : ∀ q, Ev L 39 [.agg (encW (coefS r.coef)), .sl q (w.2.2.map encInt), .int .i64 ((i : Int) + 1)] (.sl false ((wordsS (coefS r.coef) w.2.2 (i + 1)).map encInt)) := fun q => by
          have h := ev_world_Words I W (coefS r.coef) hcw w.2.2 q (i + 1) (by omega)
          rwa [Int.natCast_succ] at h
        have hx := with_range (v := atS w.2.2 (i : Int)) (m := 3) (by omega)
        have hmul : -4611686018427387904 ≤ pw (coefS r.coef).f * (withS (atS w.2.2 (i : Int)) 3 - 1) ∧ pw (coefS r.coef).f * (withS (atS w.2.2 (i : Int)) 3 - 1) ≤ 4611686018427387904 := by
          rcases (by omega : withS (atS w.2.2 (i : Int)) 3 = 0 ∨ withS (atS w.2.2 (i : Int)) 3 = 1 ∨ withS (atS w.2.2 (i : Int)) 3 = 2) with h | h | h <;> rw [h] <;> omega
        have hval : ∀ v, (wordsS (coefS r.coef) w.2.2 (i + 1))[i]? = some v → v = toW (coefS r.coef) (atS w.2.2 (i : Int)) := by
          intro v hv
          simp only [wordsS, List.getElem?_map, List.getElem?_range (Nat.lt_succ_self i), Option.map_some, Option.some.injEq] at hv
          exact hv.symm
        cases fl2
        all_goals (
          (repeat' (first | (refine CmpP.go (fun hc => ?_) (fun hc => ?_) <;> first | (exfalso; omega) | (conv => whnf)) | (refine OpP.add (by omega) ?_; conv => whnf) | (refine LenP.go ?_; conv => whnf) | (refine RdP.at (by assumption) (by omega) rfl ?_; conv => whnf) | (refine RdP.nat (by omega) (fun _ => rfl) (fun e he => ?_); conv => whnf) | (refine RowP.e1 ?_; conv => whnf) | (refine AKM.x ?_; conv => whnf) | (refine CallP.go (ev_world_Within W e0 _ (q1 _ (List.mem_of_getElem? he0)) (by omega)) ?_; conv => whnf) | (refine CallP.go (ew _) ?_; conv => whnf)))
          (repeat' (first | (refine OpP.sub (by omega) ?_; conv => whnf) | (refine OpP.mul (by omega) ?_; conv => whnf) | (refine RowP.e1 ?_; conv => whnf) | (refine CallP.go (ev_world_At W w.2.2 _ _) ?_; conv => whnf) | (refine CallP.go (ev_world_Within W _ _ (at_InI q2 _) (by omega)) ?_; conv => whnf)))
          have hv := hval _ he
          subst hv
          first
            | (refine AppR.one (enc := encT) (termR r k w i) (by simp only [termR, hwh, List.getD_eq_getElem?_getD, he0, Option.getD_some]; rfl) rfl rfl (by simp [s3, termsR]; omega) (by simp [s3, termsR]; omega) ?_)
            | (refine AppN.one (enc := encT) (termR r k w i) (by simp only [termR, hwh, List.getD_eq_getElem?_getD, he0, Option.getD_some]; rfl) rfl (by omega) ?_)
          (conv => whnf)
          (repeat' (refine OpP.add (by omega) ?_; conv => whnf))
          have hnew : ts ++ [termR r k w i] = termsR r k w (i + 1) := by rw [termsR, range_snoc, s3]; rfl
          try (obtain rfl := hts rfl)
          exact AKM.back [(2000, 101)] (by (conv => whnf); exact ⟨rfl, rfl, rfl⟩) (ih2 (i + 1) _ false (by omega) ⟨by omega, by omega, hnew, by simp⟩))
      · have hie : i = min w.1.2.length 4 := by omega
        have hnode : ns ++ [ts] = nodesR r (k + 1) := by rw [nodesR, range_snoc, p3, nodeR, hw, s3, hie]; rfl
        have hnl : ns.length = k := by rw [p3]; simp [nodesR]
        cases fl2
        all_goals (
          try (obtain rfl := hts rfl)
          try (obtain ⟨t0, ts', rfl⟩ := htc rfl)
          try (obtain rfl := hns rfl)
          (repeat' (first | (refine CmpP.go (fun hc => ?_) (fun hc => ?_) <;> first | (exfalso; omega) | (conv => whnf)) | (refine Req.go (by omega) ?_; conv => whnf) | (refine OpP.add (by omega) ?_; conv => whnf) | (refine LenP.go ?_; conv => whnf) | (refine RdP.at (by assumption) (by omega) rfl ?_; conv => whnf) | (refine AKM.x ?_; conv => whnf)))
          all_goals (
            try (refine Req.go (by simp) ?_; (conv => whnf))
            (repeat' (refine OpP.add (by omega) ?_; conv => whnf))
            try (refine AppM.any (by simp) (by simp; omega) (by simp; omega) ?_)
            try (rw [show ns.map rowT ++ [some (2, (t0 :: ts').map encT)] = (ns ++ [t0 :: ts']).map rowT by simp [rowT]])
            try (rw [show ns.map rowT ++ [none] = (ns ++ [[]]).map rowT by simp [rowT]])
            try (rw [List.length_map])
            (conv => whnf)
            (repeat' (refine OpP.add (by omega) ?_; conv => whnf))
            exact AKM.back [(1000, 107)] (by (conv => whnf); exact ⟨rfl, rfl, rfl⟩) (ih (k + 1) _ false (by omega) ⟨by omega, by omega, hnode, by simp⟩))))
  · have hke : k = min r.nodes.length 4 := by omega
    have hnl : ns.length = k := by rw [p3]; simp [nodesR]
    rw [hke] at p3
    cases fl
    · have hm5 : ((min r.nodes.length 4 : Nat) : Int) = (ns.length : Int) := by omega
      (repeat' (first | (refine CmpP.go (fun hc => ?_) (fun hc => ?_) <;> first | (exfalso; omega) | (conv => whnf)) | (refine LenP.go ?_; conv => whnf) | (refine AKM.x ?_; conv => whnf)))
      all_goals (
        refine AKM.loop3 (fun i _ _ => 4 - i) (fun (i : Nat) (nx : List Int) (f3 : Bool) => (i : Int) ≤ withS r.states 4 ∧ nx = nextR r i ∧ f3 = decide (i = 0)) (fun i nx f3 => [(9, .int .i64 i)]) (fun i nx f3 => bif f3 then [] else [(3, 3, .bx [.int .i64 (dataS r.data).b, .int .i64 (dataS r.data).f, .int .i64 (dataS r.data).r, .int .i64 (dataS r.data).o, .int .i64 (coefS r.coef).b, .int .i64 (coefS r.coef).f, .int .i64 (coefS r.coef).r, .int .i64 (coefS r.coef).o, .int .i64 (withS r.states 4), .row 1000 0 1 0 ns.length, .row 3000 0 1 0 nx.length, .int .i64 0]), (3000, 130, .rw 1 (nx.map encInt))]) [] [] 0 [] true (by (conv => whnf); exact ⟨rfl, rfl, rfl⟩) ⟨by omega, rfl, rfl⟩ ?_
        intro i nx f3 ⟨s1, s2, s3⟩ ih3
        have hnx : nx.length = i := by rw [s2]; simp [nextR]
        have hnew : nx ++ [withS (atS r.next (i : Int)) (1 + withS r.states 4 + (ns.length : Int))] = nextR r (i + 1) := by rw [← hm5, nextR, range_snoc, s2]; rfl
        have hn0 : f3 = true → nx = [] := fun h => by
          rw [h] at s3
          have : i = 0 := by simpa using s3.symm
          subst this; rw [s2]; rfl
        have hout : (netR r).out = withS r.out (1 + withS r.states 4 + (ns.length : Int)) := by
          show withS r.out (1 + withS r.states 4 + (min r.nodes.length 4 : Nat)) = _
          rw [hm5]
        have hnxt : withS r.states 4 ≤ i → (netR r).next = nx := fun h => by
          have hi : i = (withS r.states 4).toNat := by omega
          rw [s2, hi]; rfl
        have hnod : (netR r).nodes.map encNd = ns.map fun ts => [AV.sl false (ts.map encT)] := by rw [netR_nodes, p3]
        cases f3
        all_goals (
          try (obtain rfl := hn0 rfl)
          (repeat' (first | (refine CmpP.go (fun hc => ?_) (fun hc => ?_) <;> first | (exfalso; omega) | (conv => whnf)) | (refine OpP.add (by omega) ?_; conv => whnf) | (refine RowP.e1 ?_; conv => whnf) | (refine AKM.x ?_; conv => whnf) | (refine CallP.go (ev_world_At W r.next _ _) ?_; conv => whnf) | (refine CallP.go (ev_world_Within W _ _ (at_InI h5 _) (by omega)) ?_; conv => whnf) | (refine CallP.go (ev_world_Within W r.out _ h4 (by omega)) ?_; conv => whnf)))
          · first
              | refine AppR.one (enc := encInt) _ rfl rfl rfl (by omega) (by omega) ?_
              | refine AppN.one (enc := encInt) _ rfl rfl (by omega) ?_
            (conv => whnf)
            (repeat' (refine OpP.add (by omega) ?_; conv => whnf))
            exact AKM.back [(3000, 130)] (by (conv => whnf); exact ⟨rfl, rfl, rfl⟩) (ih3 (i + 1) _ false (by omega) ⟨by omega, hnew, by simp⟩)
          · try (refine SnM_T rfl rfl ?_; (conv => whnf))
            (repeat' (refine SnR.all (fun _ => rfl) rfl (by first | rfl | simp) ?_; conv => whnf))
            refine FinP.go ?_ (netR_clean r)
            have hnx' := hnxt hc
            show _ = AV.agg [_, _, _, _, _, _, _, _, _, .sl _ ((netR r).nodes.map encNd), .sl _ ((netR r).next.map encInt), .int .i64 (netR r).out]
            rw [hnod, hnx', hout]
            rfl))
    · obtain rfl := hns rfl
      have hm5 : ((min r.nodes.length 4 : Nat) : Int) = (0 : Int) := by simp at hnl; omega
      (repeat' (first | (refine CmpP.go (fun hc => ?_) (fun hc => ?_) <;> first | (exfalso; omega) | (conv => whnf)) | (refine LenP.go ?_; conv => whnf) | (refine AKM.x ?_; conv => whnf)))
      all_goals (
        refine AKM.loop3 (fun i _ _ => 4 - i) (fun (i : Nat) (nx : List Int) (f3 : Bool) => (i : Int) ≤ withS r.states 4 ∧ nx = nextR r i ∧ f3 = decide (i = 0)) (fun i nx f3 => [(9, .int .i64 i)]) (fun i nx f3 => bif f3 then [] else [(3, 3, .bx [.int .i64 (dataS r.data).b, .int .i64 (dataS r.data).f, .int .i64 (dataS r.data).r, .int .i64 (dataS r.data).o, .int .i64 (coefS r.coef).b, .int .i64 (coefS r.coef).f, .int .i64 (coefS r.coef).r, .int .i64 (coefS r.coef).o, .int .i64 (withS r.states 4), .nil, .row 3000 0 1 0 nx.length, .int .i64 0]), (3000, 130, .rw 1 (nx.map encInt))]) [] [] 0 [] true (by (conv => whnf); exact ⟨rfl, rfl, rfl⟩) ⟨by omega, rfl, rfl⟩ ?_
        intro i nx f3 ⟨s1, s2, s3⟩ ih3
        have hnx : nx.length = i := by rw [s2]; simp [nextR]
        have hnew : nx ++ [withS (atS r.next (i : Int)) (1 + withS r.states 4 + (0 : Int))] = nextR r (i + 1) := by rw [← hm5, nextR, range_snoc, s2]; rfl
        have hn0 : f3 = true → nx = [] := fun h => by
          rw [h] at s3
          have : i = 0 := by simpa using s3.symm
          subst this; rw [s2]; rfl
        have hout : (netR r).out = withS r.out (1 + withS r.states 4 + (0 : Int)) := by
          show withS r.out (1 + withS r.states 4 + (min r.nodes.length 4 : Nat)) = _
          rw [hm5]
        have hnxt : withS r.states 4 ≤ i → (netR r).next = nx := fun h => by
          have hi : i = (withS r.states 4).toNat := by omega
          rw [s2, hi]; rfl
        have hnod : (netR r).nodes.map encNd = [] := by rw [netR_nodes, ← p3]; rfl
        cases f3
        all_goals (
          try (obtain rfl := hn0 rfl)
          (repeat' (first | (refine CmpP.go (fun hc => ?_) (fun hc => ?_) <;> first | (exfalso; omega) | (conv => whnf)) | (refine OpP.add (by omega) ?_; conv => whnf) | (refine SnR.all (fun _ => rfl) rfl (by first | rfl | simp) ?_; conv => whnf) | (refine RowP.e1 ?_; conv => whnf) | (refine AKM.x ?_; conv => whnf) | (refine CallP.go (ev_world_At W r.next _ _) ?_; conv => whnf) | (refine CallP.go (ev_world_Within W _ _ (at_InI h5 _) (by omega)) ?_; conv => whnf) | (refine CallP.go (ev_world_Within W r.out _ h4 (by omega)) ?_; conv => whnf)))
          · first
              | refine AppR.one (enc := encInt) _ rfl rfl rfl (by omega) (by omega) ?_
              | refine AppN.one (enc := encInt) _ rfl rfl (by omega) ?_
            (conv => whnf)
            (repeat' (refine OpP.add (by omega) ?_; conv => whnf))
            exact AKM.back [(3000, 130)] (by (conv => whnf); exact ⟨rfl, rfl, rfl⟩) (ih3 (i + 1) _ false (by omega) ⟨by omega, hnew, by simp⟩)
          · try (refine SnM_T rfl rfl ?_; (conv => whnf))
            skip
            refine FinP.go ?_ (netR_clean r)
            have hnx' := hnxt hc
            show _ = AV.agg [_, _, _, _, _, _, _, _, _, .sl _ ((netR r).nodes.map encNd), .sl _ ((netR r).next.map encInt), .int .i64 (netR r).out]
            rw [hnod, hnx', hout]
            rfl))
    )
end Go.Eng
/-
  Functions of the program, as the abstract machine reads them (group Steps). Written by a program (gen.py) off the model's own reading of the translation; the seat's check ties them to it.
-/
namespace Go.Eng.F
open C
namespace law22_NetworkSteps
def r0 : List AI := [o 3 (.box 3 0), o 6 (.mov (.c (.bool false)))]
def r1 : List AI := [o 21 (.ld true 12 3), o 22 (.call 31 [21]), o 23 (.un .not 22)]
def r2 : List AI := [o 24 (.call 32 []), m 6 24]
def r3 : List AI := [o 26 (.ld true 12 3), m 27 1, m 28 2, o 29 (.call 24 [26, 27, 28]), m 25 29, o 30 (.ext 25 0), o 31 (.ext 25 1), o 32 (.ext 25 2), m 7 30, m 8 31, m 9 32]
def r4 : List AI := [o 34 (.ld true 12 3), m 35 1, m 36 2, o 37 (.call 29 [34, 35, 36]), m 33 37, o 38 (.ext 33 0), o 39 (.ext 33 1), o 40 (.ext 33 2), m 10 38, m 11 39, m 12 40]
def r5 : List AI := [o 42 (.ld true 12 3), m 43 1, m 44 2, o 45 (.call 26 [42, 43, 44]), m 41 45, o 46 (.ext 41 0), o 47 (.ext 41 1), o 48 (.ext 41 2), o 49 (.ext 41 3), m 13 46,
  m 14 47, m 15 48, m 16 49]
def r6 : List AI := [o 51 (.ld true 12 3), m 52 1, m 53 2, o 54 (.call 30 [51, 52, 53]), m 50 54, o 55 (.ext 50 0), o 56 (.ext 50 1), o 57 (.ext 50 2), o 58 (.ext 50 3), m 17 55,
  m 18 56, m 19 57, m 20 58]
def r7 : List AI := [o 59 (.call 32 []), m 60 59, g 61 60 true (.ld true 12 3), g 62 60 true (.call 21 [61]), g 63 60 true (.ld true 12 3), g 64 60 true (.call 27 [63]),
  g 65 60 true (.beq false 62 64), o 66 (.pick 60 65 (.c (.bool false))), m 67 66, g 68 67 true (.mov 7), g 69 67 true (.mov 10),
  g 70 67 true (.call 20 [68, 69]), o 71 (.pick 67 70 (.c (.bool false))), m 72 71, g 73 72 true (.mov 8), g 74 72 true (.mov 11),
  g 75 72 true (.beq false 73 74), o 76 (.pick 72 75 (.c (.bool false))), m 77 76, g 78 77 true (.mov 9), g 79 77 true (.mov 12), g 80 77 true (.bin .eql 78 79),
  o 81 (.pick 77 80 (.c (.bool false))), m 82 81, g 83 82 true (.mov 13), g 84 82 true (.mov 17), g 85 82 true (.call 20 [83, 84]),
  o 86 (.pick 82 85 (.c (.bool false))), m 87 86, g 88 87 true (.mov 14), g 89 87 true (.mov 18), g 90 87 true (.bin .eql 88 89),
  o 91 (.pick 87 90 (.c (.bool false))), m 92 91, g 93 92 true (.mov 15), g 94 92 true (.mov 19), g 95 92 true (.beq false 93 94),
  o 96 (.pick 92 95 (.c (.bool false))), m 97 96, g 98 97 true (.mov 16), g 99 97 true (.mov 20), g 100 97 true (.bin .eql 98 99),
  o 101 (.pick 97 100 (.c (.bool false))), m 6 101]
def c : ACode := (.seq (.dr (.ops r0 false) [0,6] []) (.seq (.seq (.dr (.ops r1 false) [21,22] []) (.cond 23 (.seq (.dr (.ops r2 false) [1,2,3,23,24] []) .ret) .skip)) (.seq (.dr (.ops r3 false) [23,25,26,27,28,29,30,31,32] []) (.seq (.dr (.ops r4 false) [33,34,35,36,37,38,39,40] []) (.seq (.dr (.ops r5 false) [41,42,43,44,45,46,47,48,49] []) (.seq (.dr (.ops r6 false) [1,2,50,51,52,53,54,55,56,57,58] []) (.seq (.dr (.ops r7 true) [3,7,8,9,10,11,12,13,14,15,16,17,18,19,20,59,60,61,62,63,64,65,66,67,68,69,70,71,72,73,74,75,76,77,78,79,80,81,82,83,84,85,86,87,88,89,90,91,92,93,94,95,96,97,98,99,100,101] []) .ret)))))))
end law22_NetworkSteps
def law22_NetworkSteps : AFn := ⟨3, law22_NetworkSteps.c, [.tmp 6]⟩
/-- a library has these functions -/
structure StepsLib (L : Lib) : Prop extends NetLib L where
  law22_NetworkSteps : L 33 = some F.law22_NetworkSteps
def StepsList : List (Nat × AFn) := [(33, F.law22_NetworkSteps)]

end Go.Eng.F

/-
  The law NetworkSteps, evaluated.
-/
namespace Go.Eng
open F
attribute [local irreducible] AKM CmpP Req OpP UnP ConvP RdP LdR StR MkR LenP AppR AppN CpyR RowP SnR Bds SlS CallP CalP FinP pw LdM GetM SetM PutM MkM AppM SnM
set_option maxHeartbeats 1000000
variable {L : Lib} (n : Nt)
def lightB : Bool := decide (n.nodes.length ≤ 70 ∧ n.next.length ≤ 70) && n.nodes.all fun d => decide (d.ts.length ≤ 70)
theorem ev_law22_light (J : NetLib L) (hn : n.nodes.length < 9223372036854775808) (hx : n.next.length < 9223372036854775808) : Ev L 31 [.agg (encN n)] (.bool (lightB n)) := by
  refine Ev.x J.law22_light rfl rfl ?_
  (repeat' (first | (refine CmpP.go (fun hc => ?_) (fun hc => ?_) <;> first | (exfalso; omega) | (conv => whnf)) | (refine LenP.go ?_; conv => whnf) | (refine AKM.x ?_; conv => whnf)))
  · exact FinP.b (by rw [lightB, decide_eq_false (by omega)]; rfl)
  · exact FinP.b (by rw [lightB, decide_eq_false (by omega)]; rfl)
  · have h0 : lightB n = n.nodes.all fun d => decide (d.ts.length ≤ 70) := by rw [lightB, decide_eq_true (by omega)]; rfl
    rw [h0]
    refine AKM.loop1 (fun i => n.nodes.length - i) (fun (i : Nat) => i ≤ n.nodes.length ∧ ((n.nodes.drop i).all fun d => decide (d.ts.length ≤ 70)) = n.nodes.all fun d => decide (d.ts.length ≤ 70)) (fun i => [(3, .int .i64 i)]) (fun _ => []) [] [] 0 (by (conv => whnf); exact ⟨rfl, rfl, rfl⟩) ⟨by omega, rfl⟩ ?_
    intro i ⟨p1, p2⟩ ih
    (repeat' (first | (refine CmpP.go (fun hc => ?_) (fun hc => ?_) <;> first | (exfalso; omega) | (conv => whnf)) | (refine OpP.add (by omega) ?_; conv => whnf) | (refine LenP.go ?_; conv => whnf) | (refine RdP.nat (by omega) (fun _ => rfl) (fun e he => ?_); conv => whnf) | (refine AKM.x ?_; conv => whnf)))
    · rw [drop_cons he, List.all_cons, decide_eq_false (by omega), Bool.false_and] at p2
      exact FinP.b p2
    · rw [drop_cons he, List.all_cons, decide_eq_true (by omega), Bool.true_and] at p2
      exact AKM.back [] (by (conv => whnf); exact ⟨rfl, rfl, rfl⟩) (ih (i + 1) (by omega) ⟨by omega, p2⟩)
    · rw [drop_len (by omega)] at p2
      exact FinP.b p2
/-- the example of the chapter -/
def knownN : Nt := ⟨⟨8, 0, 1, 1⟩, ⟨8, 1, 1, 1⟩, 0, true, [⟨true, [(0, 3)]⟩], false, [], 1⟩
theorem known_val : valS knownN [] 5 = ([5, 7], false, 0) := by decide +kernel
theorem ev_law22_known (I : FixedLib L) (J : NetLib L) : Ev L 32 [] (.bool true) := by
  have h := ev_network_Values knownN I J [] false 5 (by decide)
  rw [known_val] at h
  refine Ev.go J.law22_known rfl ?_
  repeat' (first | (first | refine K_seq ?_ | refine K_dr ?_ | refine K_ops ?_ | (apply N_drp; (first | exact (rfl : _ = ([] : Tm)) | exact (rfl : _ = ([(_, _)] : Tm)) | exact (rfl : _ = ([(_, _), (_, _)] : Tm)) | exact (rfl : _ = ([(_, _), (_, _), (_, _)] : Tm)) | exact (rfl : _ = ([(_, _), (_, _), (_, _), (_, _)] : Tm)) | exact (rfl : _ = ([(_, _), (_, _), (_, _), (_, _), (_, _)] : Tm)) | exact (rfl : _ = ([(_, _), (_, _), (_, _), (_, _), (_, _), (_, _)] : Tm)) | exact (rfl : _ = ([(_, _), (_, _), (_, _), (_, _), (_, _), (_, _), (_, _)] : Tm)) | exact (rfl : _ = ([(_, _), (_, _), (_, _), (_, _), (_, _), (_, _), (_, _), (_, _)] : Tm)) | exact (rfl : _ = ([(_, _), (_, _), (_, _), (_, _), (_, _), (_, _), (_, _), (_, _), (_, _)] : Tm)) | exact (rfl : _ = ([(_, _), (_, _), (_, _), (_, _), (_, _), (_, _), (_, _), (_, _), (_, _), (_, _)] : Tm)) | exact (rfl : _ = ([(_, _), (_, _), (_, _), (_, _), (_, _), (_, _), (_, _), (_, _), (_, _), (_, _), (_, _)] : Tm)) | exact (rfl : _ = ([(_, _), (_, _), (_, _), (_, _), (_, _), (_, _), (_, _), (_, _), (_, _), (_, _), (_, _), (_, _)] : Tm)) | exact (rfl : _ = ([(_, _), (_, _), (_, _), (_, _), (_, _), (_, _), (_, _), (_, _), (_, _), (_, _), (_, _), (_, _), (_, _)] : Tm)) | exact (rfl : _ = ([(_, _), (_, _), (_, _), (_, _), (_, _), (_, _), (_, _), (_, _), (_, _), (_, _), (_, _), (_, _), (_, _), (_, _)] : Tm)) | exact (rfl : _ = ([(_, _), (_, _), (_, _), (_, _), (_, _), (_, _), (_, _), (_, _), (_, _), (_, _), (_, _), (_, _), (_, _), (_, _), (_, _)] : Tm)) | exact (rfl : _ = ([(_, _), (_, _), (_, _), (_, _), (_, _), (_, _), (_, _), (_, _), (_, _), (_, _), (_, _), (_, _), (_, _), (_, _), (_, _), (_, _)] : Tm)) | exact (rfl : _ = ([(_, _), (_, _), (_, _), (_, _), (_, _), (_, _), (_, _), (_, _), (_, _), (_, _), (_, _), (_, _), (_, _), (_, _), (_, _), (_, _), (_, _)] : Tm)) | exact (rfl : _ = ([(_, _), (_, _), (_, _), (_, _), (_, _), (_, _), (_, _), (_, _), (_, _), (_, _), (_, _), (_, _), (_, _), (_, _), (_, _), (_, _), (_, _), (_, _)] : Tm)) | exact (rfl : _ = ([(_, _), (_, _), (_, _), (_, _), (_, _), (_, _), (_, _), (_, _), (_, _), (_, _), (_, _), (_, _), (_, _), (_, _), (_, _), (_, _), (_, _), (_, _), (_, _)] : Tm)) | exact (rfl : _ = ([(_, _), (_, _), (_, _), (_, _), (_, _), (_, _), (_, _), (_, _), (_, _), (_, _), (_, _), (_, _), (_, _), (_, _), (_, _), (_, _), (_, _), (_, _), (_, _), (_, _)] : Tm)) | exact (rfl : _ = ([(_, _), (_, _), (_, _), (_, _), (_, _), (_, _), (_, _), (_, _), (_, _), (_, _), (_, _), (_, _), (_, _), (_, _), (_, _), (_, _), (_, _), (_, _), (_, _), (_, _), (_, _)] : Tm)) | exact (rfl : _ = ([(_, _), (_, _), (_, _), (_, _), (_, _), (_, _), (_, _), (_, _), (_, _), (_, _), (_, _), (_, _), (_, _), (_, _), (_, _), (_, _), (_, _), (_, _), (_, _), (_, _), (_, _), (_, _)] : Tm)) | exact (rfl : _ = ([(_, _), (_, _), (_, _), (_, _), (_, _), (_, _), (_, _), (_, _), (_, _), (_, _), (_, _), (_, _), (_, _), (_, _), (_, _), (_, _), (_, _), (_, _), (_, _), (_, _), (_, _), (_, _), (_, _)] : Tm)) | exact (rfl : _ = ([(_, _), (_, _), (_, _), (_, _), (_, _), (_, _), (_, _), (_, _), (_, _), (_, _), (_, _), (_, _), (_, _), (_, _), (_, _), (_, _), (_, _), (_, _), (_, _), (_, _), (_, _), (_, _), (_, _), (_, _)] : Tm)) | exact (rfl : _ = ([(_, _), (_, _), (_, _), (_, _), (_, _), (_, _), (_, _), (_, _), (_, _), (_, _), (_, _), (_, _), (_, _), (_, _), (_, _), (_, _), (_, _), (_, _), (_, _), (_, _), (_, _), (_, _), (_, _), (_, _), (_, _)] : Tm)))) | (apply K_condT; exact rfl) | (apply K_condF; exact rfl) | refine K_skip ?_ | refine K_scope ?_ | refine K_block ?_ | refine K_loop ?_ | refine K_blk ?_ | (apply K_exit; exact rfl) | (refine K_ret (clo.intro ?_)) | (refine K_nil (clo.intro ?_)) | refine O_nil ?_ | (apply O_gT; exact rfl) | (apply O_gF1; exact rfl; apply N_put) | (apply O_gU1; exact rfl; apply N_put) | (apply O_mov; (first | exact (rfl : _ = (AV.int _ _)) | exact (rfl : _ = (AV.bool true)) | exact (rfl : _ = (AV.bool false)) | exact (rfl : _ = (AV.ptr _ _ _ _)) | exact (rfl : _ = (AV.tup [])) | exact (rfl : _ = (AV.sl _ _)) | exact (rfl : _ = (AV.row _ _ _ _ _)) | exact (rfl : _ = (AV.dptr _)) | exact (rfl : _ = AV.nil) | exact (rfl : _ = (AV.agg _)) | exact (rfl : _ = (AV.bool _)) | exact (rfl : _ = (AV.tup _))); apply N_put) | (apply O_lss; exact rfl; exact rfl; all_goals (intros; first | (exfalso; omega) | apply N_put)) | (apply O_leq; exact rfl; exact rfl; all_goals (intros; first | (exfalso; omega) | apply N_put)) | (apply O_gtr; exact rfl; exact rfl; all_goals (intros; first | (exfalso; omega) | apply N_put)) | (apply O_geq; exact rfl; exact rfl; all_goals (intros; first | (exfalso; omega) | apply N_put)) | (apply O_eql; exact rfl; exact rfl; all_goals (intros; first | (exfalso; omega) | apply N_put)) | (apply O_neq; exact rfl; exact rfl; all_goals (intros; first | (exfalso; omega) | apply N_put)) | (apply O_shl1; exact rfl; exact rfl; omega; all_goals (intros; first | (exfalso; omega) | apply N_put)) | (apply O_shr; exact rfl; exact rfl; omega; apply N_put) | (apply O_and1; exact rfl; exact rfl; apply N_put) | (apply O_andm; exact rfl; exact rfl; omega; all_goals (intros; first | (exfalso; omega) | apply N_put)) | (apply O_rem; exact rfl; exact rfl; omega; all_goals (intros; first | (exfalso; omega) | apply N_put)) | (apply O_quo; exact rfl; exact rfl; omega; omega; all_goals (intros; first | (exfalso; omega) | apply N_put)) | (apply O_neg; exact rfl; omega; apply N_put) | (apply O_convu; exact rfl; omega; apply N_put) | (apply O_add; exact rfl; exact rfl; omega; apply N_put) | (apply O_sub; exact rfl; exact rfl; omega; apply N_put) | (apply O_bin; exact rfl; exact rfl; (first | exact (rfl : _ = some (AV.int _ _)) | exact (rfl : _ = some (AV.bool true)) | exact (rfl : _ = some (AV.bool false)) | exact (rfl : _ = some (AV.bool _)) | exact (rfl : _ = some (AV.sl _ _)) | exact (rfl : _ = some (AV.row _ _ _ _ _)) | exact (rfl : _ = some AV.nil) | exact (rfl : _ = some (AV.agg [_])) | exact (rfl : _ = some (AV.agg [_, _])) | exact (rfl : _ = some (AV.agg [_, _, _])) | exact (rfl : _ = some (AV.agg [_, _, _, _])) | exact (rfl : _ = some (AV.agg [_, _, _, _, _])) | exact (rfl : _ = some (AV.agg [_, _, _, _, _, _])) | exact (rfl : _ = some (AV.agg [_, _, _, _, _, _, _])) | exact (rfl : _ = some (AV.agg [_, _, _, _, _, _, _, _])) | exact (rfl : _ = some (AV.agg [_, _, _, _, _, _, _, _, _])) | exact (rfl : _ = some (AV.agg [_, _, _, _, _, _, _, _, _, _])) | exact (rfl : _ = some (AV.agg [_, _, _, _, _, _, _, _, _, _, _])) | exact (rfl : _ = some (AV.agg [_, _, _, _, _, _, _, _, _, _, _, _])) | exact (rfl : _ = some (AV.agg [_, _, _, _, _, _, _, _, _, _, _, _, _])) | exact (rfl : _ = some (AV.agg [_, _, _, _, _, _, _, _, _, _, _, _, _, _])) | exact (rfl : _ = some (AV.ptr _ _ _ _)) | exact (rfl : _ = some (AV.agg _))); apply N_put) | (apply O_pickT; exact rfl; (first | exact (rfl : _ = (AV.int _ _)) | exact (rfl : _ = (AV.bool true)) | exact (rfl : _ = (AV.bool false)) | exact (rfl : _ = (AV.ptr _ _ _ _)) | exact (rfl : _ = (AV.tup [])) | exact (rfl : _ = (AV.sl _ _)) | exact (rfl : _ = (AV.row _ _ _ _ _)) | exact (rfl : _ = (AV.dptr _)) | exact (rfl : _ = AV.nil) | exact (rfl : _ = (AV.agg _)) | exact (rfl : _ = (AV.bool _)) | exact (rfl : _ = (AV.tup _))); apply N_put) | (apply O_pickF; exact rfl; (first | exact (rfl : _ = (AV.int _ _)) | exact (rfl : _ = (AV.bool true)) | exact (rfl : _ = (AV.bool false)) | exact (rfl : _ = (AV.ptr _ _ _ _)) | exact (rfl : _ = (AV.tup [])) | exact (rfl : _ = (AV.sl _ _)) | exact (rfl : _ = (AV.row _ _ _ _ _)) | exact (rfl : _ = (AV.dptr _)) | exact (rfl : _ = AV.nil) | exact (rfl : _ = (AV.agg _)) | exact (rfl : _ = (AV.bool _)) | exact (rfl : _ = (AV.tup _))); apply N_put) | (apply O_beq; exact rfl; exact rfl; (first | exact (rfl : _ = true) | exact (rfl : _ = false)); apply N_put) | (apply O_un; (first | exact (rfl : _ = some (AV.int _ _)) | exact (rfl : _ = some (AV.bool true)) | exact (rfl : _ = some (AV.bool false)) | exact (rfl : _ = some (AV.bool _)) | exact (rfl : _ = some (AV.sl _ _)) | exact (rfl : _ = some (AV.row _ _ _ _ _)) | exact (rfl : _ = some AV.nil) | exact (rfl : _ = some (AV.agg [_])) | exact (rfl : _ = some (AV.agg [_, _])) | exact (rfl : _ = some (AV.agg [_, _, _])) | exact (rfl : _ = some (AV.agg [_, _, _, _])) | exact (rfl : _ = some (AV.agg [_, _, _, _, _])) | exact (rfl : _ = some (AV.agg [_, _, _, _, _, _])) | exact (rfl : _ = some (AV.agg [_, _, _, _, _, _, _])) | exact (rfl : _ = some (AV.agg [_, _, _, _, _, _, _, _])) | exact (rfl : _ = some (AV.agg [_, _, _, _, _, _, _, _, _])) | exact (rfl : _ = some (AV.agg [_, _, _, _, _, _, _, _, _, _])) | exact (rfl : _ = some (AV.agg [_, _, _, _, _, _, _, _, _, _, _])) | exact (rfl : _ = some (AV.agg [_, _, _, _, _, _, _, _, _, _, _, _])) | exact (rfl : _ = some (AV.agg [_, _, _, _, _, _, _, _, _, _, _, _, _])) | exact (rfl : _ = some (AV.agg [_, _, _, _, _, _, _, _, _, _, _, _, _, _])) | exact (rfl : _ = some (AV.ptr _ _ _ _)) | exact (rfl : _ = some (AV.agg _))); apply N_put) | (apply O_conv; exact rfl; apply N_put) | (apply O_box; (first | exact (rfl : _ = (AV.int _ _)) | exact (rfl : _ = (AV.bool true)) | exact (rfl : _ = (AV.bool false)) | exact (rfl : _ = (AV.ptr _ _ _ _)) | exact (rfl : _ = (AV.tup [])) | exact (rfl : _ = (AV.sl _ _)) | exact (rfl : _ = (AV.row _ _ _ _ _)) | exact (rfl : _ = (AV.dptr _)) | exact (rfl : _ = AV.nil) | exact (rfl : _ = (AV.agg _)) | exact (rfl : _ = (AV.bool _)) | exact (rfl : _ = (AV.tup _))); exact rfl; apply N_put) | (apply O_fadr; exact rfl; apply N_put) | (apply O_fadrd; exact rfl; apply N_put) | (apply O_ld; exact rfl; (first | exact (rfl : _ = some (AV.int _ _)) | exact (rfl : _ = some (AV.bool true)) | exact (rfl : _ = some (AV.bool false)) | exact (rfl : _ = some (AV.bool _)) | exact (rfl : _ = some (AV.sl _ _)) | exact (rfl : _ = some (AV.row _ _ _ _ _)) | exact (rfl : _ = some AV.nil) | exact (rfl : _ = some (AV.agg [_])) | exact (rfl : _ = some (AV.agg [_, _])) | exact (rfl : _ = some (AV.agg [_, _, _])) | exact (rfl : _ = some (AV.agg [_, _, _, _])) | exact (rfl : _ = some (AV.agg [_, _, _, _, _])) | exact (rfl : _ = some (AV.agg [_, _, _, _, _, _])) | exact (rfl : _ = some (AV.agg [_, _, _, _, _, _, _])) | exact (rfl : _ = some (AV.agg [_, _, _, _, _, _, _, _])) | exact (rfl : _ = some (AV.agg [_, _, _, _, _, _, _, _, _])) | exact (rfl : _ = some (AV.agg [_, _, _, _, _, _, _, _, _, _])) | exact (rfl : _ = some (AV.agg [_, _, _, _, _, _, _, _, _, _, _])) | exact (rfl : _ = some (AV.agg [_, _, _, _, _, _, _, _, _, _, _, _])) | exact (rfl : _ = some (AV.agg [_, _, _, _, _, _, _, _, _, _, _, _, _])) | exact (rfl : _ = some (AV.agg [_, _, _, _, _, _, _, _, _, _, _, _, _, _])) | exact (rfl : _ = some (AV.ptr _ _ _ _)) | exact (rfl : _ = some (AV.agg _))); apply N_put) | (apply O_ldd; exact rfl; (first | exact (rfl : _ = some (AV.int _ _)) | exact (rfl : _ = some (AV.bool true)) | exact (rfl : _ = some (AV.bool false)) | exact (rfl : _ = some (AV.bool _)) | exact (rfl : _ = some (AV.sl _ _)) | exact (rfl : _ = some (AV.row _ _ _ _ _)) | exact (rfl : _ = some AV.nil) | exact (rfl : _ = some (AV.agg [_])) | exact (rfl : _ = some (AV.agg [_, _])) | exact (rfl : _ = some (AV.agg [_, _, _])) | exact (rfl : _ = some (AV.agg [_, _, _, _])) | exact (rfl : _ = some (AV.agg [_, _, _, _, _])) | exact (rfl : _ = some (AV.agg [_, _, _, _, _, _])) | exact (rfl : _ = some (AV.agg [_, _, _, _, _, _, _])) | exact (rfl : _ = some (AV.agg [_, _, _, _, _, _, _, _])) | exact (rfl : _ = some (AV.agg [_, _, _, _, _, _, _, _, _])) | exact (rfl : _ = some (AV.agg [_, _, _, _, _, _, _, _, _, _])) | exact (rfl : _ = some (AV.agg [_, _, _, _, _, _, _, _, _, _, _])) | exact (rfl : _ = some (AV.agg [_, _, _, _, _, _, _, _, _, _, _, _])) | exact (rfl : _ = some (AV.agg [_, _, _, _, _, _, _, _, _, _, _, _, _])) | exact (rfl : _ = some (AV.agg [_, _, _, _, _, _, _, _, _, _, _, _, _, _])) | exact (rfl : _ = some (AV.ptr _ _ _ _)) | exact (rfl : _ = some (AV.agg _))); apply N_put) | (apply O_fld; exact rfl; (first | exact (rfl : _ = some (AV.int _ _)) | exact (rfl : _ = some (AV.bool true)) | exact (rfl : _ = some (AV.bool false)) | exact (rfl : _ = some (AV.bool _)) | exact (rfl : _ = some (AV.sl _ _)) | exact (rfl : _ = some (AV.row _ _ _ _ _)) | exact (rfl : _ = some AV.nil) | exact (rfl : _ = some (AV.agg [_])) | exact (rfl : _ = some (AV.agg [_, _])) | exact (rfl : _ = some (AV.agg [_, _, _])) | exact (rfl : _ = some (AV.agg [_, _, _, _])) | exact (rfl : _ = some (AV.agg [_, _, _, _, _])) | exact (rfl : _ = some (AV.agg [_, _, _, _, _, _])) | exact (rfl : _ = some (AV.agg [_, _, _, _, _, _, _])) | exact (rfl : _ = some (AV.agg [_, _, _, _, _, _, _, _])) | exact (rfl : _ = some (AV.agg [_, _, _, _, _, _, _, _, _])) | exact (rfl : _ = some (AV.agg [_, _, _, _, _, _, _, _, _, _])) | exact (rfl : _ = some (AV.agg [_, _, _, _, _, _, _, _, _, _, _])) | exact (rfl : _ = some (AV.agg [_, _, _, _, _, _, _, _, _, _, _, _])) | exact (rfl : _ = some (AV.agg [_, _, _, _, _, _, _, _, _, _, _, _, _])) | exact (rfl : _ = some (AV.agg [_, _, _, _, _, _, _, _, _, _, _, _, _, _])) | exact (rfl : _ = some (AV.ptr _ _ _ _)) | exact (rfl : _ = some (AV.agg _))); apply N_put) | (apply O_ext; exact rfl; (first | exact (rfl : _ = some (AV.int _ _)) | exact (rfl : _ = some (AV.bool true)) | exact (rfl : _ = some (AV.bool false)) | exact (rfl : _ = some (AV.bool _)) | exact (rfl : _ = some (AV.sl _ _)) | exact (rfl : _ = some (AV.row _ _ _ _ _)) | exact (rfl : _ = some AV.nil) | exact (rfl : _ = some (AV.agg [_])) | exact (rfl : _ = some (AV.agg [_, _])) | exact (rfl : _ = some (AV.agg [_, _, _])) | exact (rfl : _ = some (AV.agg [_, _, _, _])) | exact (rfl : _ = some (AV.agg [_, _, _, _, _])) | exact (rfl : _ = some (AV.agg [_, _, _, _, _, _])) | exact (rfl : _ = some (AV.agg [_, _, _, _, _, _, _])) | exact (rfl : _ = some (AV.agg [_, _, _, _, _, _, _, _])) | exact (rfl : _ = some (AV.agg [_, _, _, _, _, _, _, _, _])) | exact (rfl : _ = some (AV.agg [_, _, _, _, _, _, _, _, _, _])) | exact (rfl : _ = some (AV.agg [_, _, _, _, _, _, _, _, _, _, _])) | exact (rfl : _ = some (AV.agg [_, _, _, _, _, _, _, _, _, _, _, _])) | exact (rfl : _ = some (AV.agg [_, _, _, _, _, _, _, _, _, _, _, _, _])) | exact (rfl : _ = some (AV.agg [_, _, _, _, _, _, _, _, _, _, _, _, _, _])) | exact (rfl : _ = some (AV.ptr _ _ _ _)) | exact (rfl : _ = some (AV.agg _))); apply N_put) | (apply O_iadra; exact rfl; exact rfl; omega; apply N_put) | (apply O_iadrr; exact rfl; exact rfl; omega; apply N_put) | (apply O_iadrE; exact rfl; exact rfl; assumption; omega; (intro _; exact rfl); apply N_put) | (apply O_iadrM; exact rfl; exact rfl; omega; (intro _; exact rfl); intro _ _; apply N_put) | (apply O_lenM; exact rfl; apply N_put) | (apply O_alloc; apply N_put) | (apply O_vrow; apply N_put) | (apply O_st; exact rfl; exact rfl; exact rfl; exact rfl) | (apply O_len; exact rfl; apply N_put) | (apply O_mm; (first | exact (rfl : _ = some (AV.int _ _)) | exact (rfl : _ = some (AV.bool true)) | exact (rfl : _ = some (AV.bool false)) | exact (rfl : _ = some (AV.bool _)) | exact (rfl : _ = some (AV.sl _ _)) | exact (rfl : _ = some (AV.row _ _ _ _ _)) | exact (rfl : _ = some AV.nil) | exact (rfl : _ = some (AV.agg [_])) | exact (rfl : _ = some (AV.agg [_, _])) | exact (rfl : _ = some (AV.agg [_, _, _])) | exact (rfl : _ = some (AV.agg [_, _, _, _])) | exact (rfl : _ = some (AV.agg [_, _, _, _, _])) | exact (rfl : _ = some (AV.agg [_, _, _, _, _, _])) | exact (rfl : _ = some (AV.agg [_, _, _, _, _, _, _])) | exact (rfl : _ = some (AV.agg [_, _, _, _, _, _, _, _])) | exact (rfl : _ = some (AV.agg [_, _, _, _, _, _, _, _, _])) | exact (rfl : _ = some (AV.agg [_, _, _, _, _, _, _, _, _, _])) | exact (rfl : _ = some (AV.agg [_, _, _, _, _, _, _, _, _, _, _])) | exact (rfl : _ = some (AV.agg [_, _, _, _, _, _, _, _, _, _, _, _])) | exact (rfl : _ = some (AV.agg [_, _, _, _, _, _, _, _, _, _, _, _, _])) | exact (rfl : _ = some (AV.agg [_, _, _, _, _, _, _, _, _, _, _, _, _, _])) | exact (rfl : _ = some (AV.ptr _ _ _ _)) | exact (rfl : _ = some (AV.agg _))); apply N_put) | (apply O_build; (first | exact (rfl : _ = some []) | exact (rfl : _ = some [_]) | exact (rfl : _ = some [_, _]) | exact (rfl : _ = some [_, _, _]) | exact (rfl : _ = some [_, _, _, _]) | exact (rfl : _ = some [_, _, _, _, _]) | exact (rfl : _ = some [_, _, _, _, _, _]) | exact (rfl : _ = some [_, _, _, _, _, _, _]) | exact (rfl : _ = some [_, _, _, _, _, _, _, _]) | exact (rfl : _ = some [_, _, _, _, _, _, _, _, _]) | exact (rfl : _ = some [_, _, _, _, _, _, _, _, _, _]) | exact (rfl : _ = some [_, _, _, _, _, _, _, _, _, _, _]) | exact (rfl : _ = some [_, _, _, _, _, _, _, _, _, _, _, _]) | exact (rfl : _ = some [_, _, _, _, _, _, _, _, _, _, _, _, _]) | exact (rfl : _ = some [_, _, _, _, _, _, _, _, _, _, _, _, _, _])); apply N_put) | (apply O_bslice; (first | exact (rfl : _ = some [[AV.int _ _]]) | exact (rfl : _ = some []) | exact (rfl : _ = some [_]) | exact (rfl : _ = some [_, _]) | exact (rfl : _ = some [_, _, _]) | exact (rfl : _ = some [_, _, _, _]) | exact (rfl : _ = some [_, _, _, _, _]) | exact (rfl : _ = some [_, _, _, _, _, _]) | exact (rfl : _ = some [_, _, _, _, _, _, _]) | exact (rfl : _ = some [_, _, _, _, _, _, _, _]) | exact (rfl : _ = some [_, _, _, _, _, _, _, _, _]) | exact (rfl : _ = some [_, _, _, _, _, _, _, _, _, _]) | exact (rfl : _ = some [_, _, _, _, _, _, _, _, _, _, _]) | exact (rfl : _ = some [_, _, _, _, _, _, _, _, _, _, _, _]) | exact (rfl : _ = some [_, _, _, _, _, _, _, _, _, _, _, _, _]) | exact (rfl : _ = some [_, _, _, _, _, _, _, _, _, _, _, _, _, _])); apply N_put)) | (refine O_call1 (h) rfl ?_; apply N_put))
  exact Res.bool true rfl rfl
theorem ev_law22_NetworkSteps (I : FixedLib L) (J : NetLib L) (K : StepsLib L) (st : List Int) (q : Bool) (x : Int) (hn : n.nodes.length < 9223372036854775808) (hx : n.next.length < 9223372036854775808) (hs : st.length < 9223372036854775808) : Ev L 33 [.agg (encN n), .sl q (st.map encInt), .int .i64 x] (.bool true) := by
  refine Ev.x K.law22_NetworkSteps rfl rfl ?_
  have e1 := ev_network_Values n I J st q x hs
  have e2 := ev_ref22_Values n I J st q x hs
  have e3 := ev_network_Step n I J st q x hs
  have e4 := ev_ref22_Step n I J st q x hs
  have e5 := ev_network_Valid n I J
  have e6 := ev_ref22_Valid n I J
  have l1 : (valS n st x).1.length < 9223372036854775808 := by
    by_cases h : (valS n st x).2.2 = 0
    · obtain ⟨h1, h2⟩ := valS_fine n h
      rw [netB_iff] at h1
      omega
    · unfold valS at h ⊢
      split
      · split
        · exfalso; simp_all
        · simp
      · simp
  have l2 : (stepS n st x).1.length < 9223372036854775808 := by
    unfold stepS
    split
    · simp [follS]; exact hx
    · simp
  generalize valS n st x = v at *
  generalize stepS n st x = u at *
  obtain ⟨v1, v2, v3⟩ := v
  obtain ⟨u1, u2, u3, u4⟩ := u
  simp only at l1 l2
  generalize netB n = bb at *
  cases v2 <;> cases u3 <;> cases bb
  all_goals (repeat' (first | (refine CmpP.go (fun hc => ?_) (fun hc => ?_) <;> first | (exfalso; omega) | (conv => whnf)) | (refine AKM.x ?_; conv => whnf) | (refine CallP.B (ev_law22_light n J hn hx) (fun hf => ?_) (fun hf => ?_) <;> (conv => whnf)) | (refine CallP.go (ev_law22_known I J) ?_; conv => whnf) | (refine CallP.go (e1) ?_; conv => whnf) | (refine CallP.go (e2) ?_; conv => whnf) | (refine CallP.go (e3) ?_; conv => whnf) | (refine CallP.go (e4) ?_; conv => whnf) | (refine CallP.go (e5) ?_; conv => whnf) | (refine CallP.go (e6) ?_; conv => whnf) | (refine CallP.b (ev_ref21_SameInts I v1 v1 _ _ l1 l1) (fun hf => ?_) (fun hf => ?_) <;> (conv => whnf)) | (refine CallP.b (ev_ref21_SameInts I u1 u1 _ _ l2 l2) (fun hf => ?_) (fun hf => ?_) <;> (conv => whnf))))
  all_goals first | exact FinP.b rfl | (exfalso; apply hf; rfl)
end Go.Eng

/-
  The law NetworkRuns, evaluated.
-/
namespace Go.Eng
open F
attribute [local irreducible] AKM CmpP Req OpP UnP ConvP RdP LdR StR MkR LenP AppR AppN CpyR RowP SnR Bds SlS CallP CalP FinP pw LdM GetM SetM PutM MkM AppM SnM
set_option maxHeartbeats 4000000
variable {L : Lib}
section
variable (n : Nt)
theorem runA_acc : ∀ (xs outs st : List Int) (c : Int), runA n outs st c xs = (outs ++ (runA n [] st 0 xs).1, (runA n [] st 0 xs).2.1, c + (runA n [] st 0 xs).2.2)
  | [], outs, st, c => by simp [runA]
  | x :: xs, outs, st, c => by
    rw [runA, runA_acc xs (outs ++ _), runA, runA_acc xs ([] ++ _)]
    simp only [List.append_assoc, List.nil_append, Prod.mk.injEq, true_and]
    split <;> omega
theorem runA_app (xs ys outs st : List Int) (c : Int) : runA n outs st c (xs ++ ys) = runA n (runA n outs st c xs).1 (runA n outs st c xs).2.1 (runA n outs st c xs).2.2 ys := by
  induction xs generalizing outs st c with
  | nil => rfl
  | cons x xs ih => rw [List.cons_append, runA, runA, ih]
theorem runA_len (xs outs st : List Int) (c : Int) : (runA n outs st c xs).1.length = outs.length + xs.length := by
  induction xs generalizing outs st c with
  | nil => rfl
  | cons x xs ih => rw [runA, ih]; simp; omega
theorem runA_cnt (xs outs st : List Int) (c : Int) : c ≤ (runA n outs st c xs).2.2 ∧ (runA n outs st c xs).2.2 ≤ c + xs.length := by
  induction xs generalizing outs st c with
  | nil => simp [runA]
  | cons x xs ih =>
    rw [runA]
    have := ih (outs ++ [(compS n (x :: st) false n.nodes).1.getD n.out.toNat 0]) (follS n (compS n (x :: st) false n.nodes).1) (if (compS n (x :: st) false n.nodes).2 then c + 1 else c)
    simp only [List.length_cons]
    split at this <;> rename_i h <;> simp only [h, if_true, Bool.false_eq_true, if_false] <;> omega
theorem runA_ok (hn : netB n = true) (xs : List Int) (hx : wordsB n.d xs = true) (outs st : List Int) (c : Int) (h1 : (st.length : Int) = n.s) (h2 : wordsB n.d st = true) : ((runA n outs st c xs).2.1.length : Int) = n.s ∧ wordsB n.d (runA n outs st c xs).2.1 = true := by
  obtain ⟨g1, g2, g3, g4, g5, g6⟩ := (netB_iff n).1 hn
  induction xs generalizing outs st c with
  | nil => exact ⟨h1, h2⟩
  | cons x xs ih =>
    have hx' := hx
    simp only [wordsB, List.all_cons, Bool.and_eq_true] at hx'
    rw [runA]
    have hcl : ((compS n (x :: st) false n.nodes).1.length : Int) = 1 + n.s + n.nodes.length := by rw [comp_len]; simp; omega
    have hcw := comp_words n g1 n.nodes (x :: st) false (by
      simp only [wordsB, List.all_cons, Bool.and_eq_true]
      exact ⟨hx'.1, h2⟩)
    exact ih hx'.2 _ _ _ (by simp [follS]; omega) (foll_words n hcw g5 hcl)
end
theorem wordsS_ok {w : Wd} (h : WV w) (l : List Int) (k : Nat) : wordsB w (wordsS w l k) = true := by
  unfold wordsB wordsS
  rw [List.all_eq_true]
  intro v hv
  obtain ⟨i, _, rfl⟩ := List.mem_map.1 hv
  simpa using toW_ok h _
theorem netR_ok (r : Rw) : netB (netR r) = true := by
  obtain ⟨d1, d2, d3⟩ := data_ok r.data
  obtain ⟨c1, c2, c3⟩ := coef_ok r.coef
  have hs := with_range (v := r.states) (m := 4) (by omega)
  rw [netB_iff]
  refine ⟨d1, c1, ⟨hs.1, by show withS r.states 4 ≤ 64; omega, by simp [netR, nodesR]; omega, by simp [netR]; omega⟩, ?_, ?_, ?_⟩
  · have key : ∀ (m j : Nat), m + j = min r.nodes.length 4 → nodesB (coefS r.coef) (withS r.states 4) j (((List.range' j m).map (nodeR r)).map fun ts => (⟨false, ts⟩ : Nd)) = true := by
      intro m
      induction m with
      | zero => intro j _; rfl
      | succ m ih =>
        intro j hj
        rw [List.range'_succ, List.map_cons, List.map_cons, nodesB, ih (j + 1) (by omega), Bool.and_true]
        simp only [Bool.and_eq_true, decide_eq_true_eq]
        unfold nodeR
        have hjl : j < r.nodes.length := by omega
        rw [List.getElem?_eq_getElem hjl]
        simp only
        refine ⟨by simp [termsR]; omega, ?_⟩
        rw [List.all_eq_true]
        intro t ht
        obtain ⟨i, _, rfl⟩ := List.mem_map.1 ht
        rw [termB]
        apply decide_eq_true
        simp only [termR]
        have h1 := with_range (v := r.nodes[j].1.2.getD i 0) (m := 1 + withS r.states 4 + j) (by omega)
        refine ⟨by omega, by omega, ?_⟩
        split
        · have h2 := with_range (v := atS r.nodes[j].2.2 (i : Int)) (m := 3) (by omega)
          obtain ⟨e1, e2, e3, e4⟩ := low_high c1
          have c1' := c1
          unfold WV at c1'
          have h3 := pw_pos (coefS r.coef).f
          have h4 := pw_le (n := (coefS r.coef).f) (m := (coefS r.coef).b - 1) (by omega)
          rcases (by omega : withS (atS r.nodes[j].2.2 (i : Int)) 3 = 0 ∨ withS (atS r.nodes[j].2.2 (i : Int)) 3 = 1 ∨ withS (atS r.nodes[j].2.2 (i : Int)) 3 = 2) with h | h | h
          all_goals rw [h]
          · refine Or.inr ?_
            unfold FT
            exact ⟨c1, by omega, by omega⟩
          · refine Or.inr ?_
            unfold FT
            exact ⟨c1, by omega, by omega⟩
          · exact Or.inl (by omega)
        · exact Or.inr (toW_ok c1 _)
    have := key (min r.nodes.length 4) 0 (by omega)
    rw [← List.range_eq_range'] at this
    exact this
  · unfold nextB
    rw [List.all_eq_true]
    intro v hv
    obtain ⟨i, _, rfl⟩ := List.mem_map.1 hv
    have h1 := with_range (v := atS r.next (i : Int)) (m := 1 + withS r.states 4 + (min r.nodes.length 4 : Nat)) (by omega)
    have : (netR r).nodes.length = min r.nodes.length 4 := by simp [netR, nodesR]
    rw [decide_eq_true_eq, this]
    show _ ∧ _ ≤ withS r.states 4 + _
    omega
  · have h1 := with_range (v := r.out) (m := 1 + withS r.states 4 + (min r.nodes.length 4 : Nat)) (by omega)
    have : (netR r).nodes.length = min r.nodes.length 4 := by simp [netR, nodesR]
    rw [this]
    show 0 ≤ withS r.out _ ∧ withS r.out _ ≤ withS r.states 4 + _
    omega
theorem ev_law22_NetworkRuns (I : FixedLib L) (J : NetLib L) (W : WorldLib L) (R : RunGLib L) (r : Rw) (h1 : InI r.data) (h2 : InI r.coef) (h3 : InI r.states) (h4 : InI r.out) (h5 : allI r.next) (h6 : ∀ w ∈ r.nodes, allI w.1.2 ∧ allI w.2.2) (hl : r.nodes.length < 9223372036854775808)
    (st ins : List Int) (q1 q2 : Bool) (cut : Int) (hcut : InI cut) : Ev L 45 [.agg (encR r), .sl q1 (st.map encInt), .sl q2 (ins.map encInt), .int .i64 cut] (.bool true) := by
  refine Ev.x R.law22_NetworkRuns rfl rfl ?_
  have hok := netR_ok r
  have hrw := ev_world_Raw_Net I W R r h1 h2 h3 h4 h5 h6 hl
  generalize netR r = n at *
  obtain ⟨g1, g2, g3, g4, g5, g6⟩ := (netB_iff n).1 hok
  have hs' : ((n.s.toNat : Nat) : Int) = n.s := by omega
  by_cases h60 : ins.length ≤ 60
  · have ew1 := fun q => ev_world_Words I W n.d g1 st q n.s.toNat (by omega)
    rw [hs'] at ew1
    have ew2 := fun q => ev_world_Words I W n.d g1 ins q ins.length (by omega)
    have hSl : ((wordsS n.d st n.s.toNat).length : Int) = n.s := by simp [wordsS]; omega
    have hXl : (wordsS n.d ins ins.length).length = ins.length := by simp [wordsS]
    have hSw := wordsS_ok g1 st n.s.toNat
    have hXw := wordsS_ok g1 ins ins.length
    generalize wordsS n.d st n.s.toNat = S at *
    generalize wordsS n.d ins ins.length = X at *
    have hk := with_range (v := cut) (m := (X.length : Int) + 1) (by omega)
    obtain ⟨k, hk1⟩ : ∃ k : Nat, withS cut ((X.length : Int) + 1) = k := ⟨(withS cut ((X.length : Int) + 1)).toNat, by omega⟩
    have hwk := ev_world_Within W cut ((X.length : Int) + 1) hcut (by omega)
    rw [hk1] at hwk hk
    have hXk : wordsB n.d (X.take k) = true ∧ wordsB n.d (X.drop k) = true := by
      have : wordsB n.d (X.take k ++ X.drop k) = true := by rw [List.take_append_drop]; exact hXw
      simp only [wordsB, List.all_append, Bool.and_eq_true] at this
      exact this
    have hz : ∀ (s x : List Int), (s.length : Int) = n.s → wordsB n.d s = true → wordsB n.d x = true → x.length ≤ 60 → rrS n s x = ((runA n [] s 0 x).1, (runA n [] s 0 x).2.1, (runA n [] s 0 x).2.2, 0) := fun s x a b c d => rrS_ok n hok (by omega) ((wrong_zero n).2 ⟨a, b, c⟩)
    obtain ⟨m1, m2⟩ := runA_ok n hok (X.take k) hXk.1 [] S 0 hSl hSw
    obtain ⟨m3, m4⟩ := runA_ok n hok (X.drop k) hXk.2 [] (runA n [] S 0 (X.take k)).2.1 0 m1 m2
    have r1 := fun q q' => ev_network_Run n I J R S X q q' (by omega) (by omega)
    have r2 := fun q q' => ev_ref22_Run n I J R S X q q' (by omega) (by omega)
    have r3 := fun q q' => ev_network_Run n I J R S (X.take k) q q' (by omega) (by simp; omega)
    have r4 := fun q q' => ev_network_Run n I J R (runA n [] S 0 (X.take k)).2.1 (X.drop k) q q' (by omega) (by simp; omega)
    rw [hz S X hSl hSw hXw (by omega)] at r1 r2
    rw [hz S _ hSl hSw hXk.1 (by simp; omega)] at r3
    rw [hz _ _ m1 m2 hXk.2 (by simp; omega)] at r4
    have hA : runA n [] S 0 X = ((runA n [] S 0 (X.take k)).1 ++ (runA n [] (runA n [] S 0 (X.take k)).2.1 0 (X.drop k)).1, (runA n [] (runA n [] S 0 (X.take k)).2.1 0 (X.drop k)).2.1, (runA n [] S 0 (X.take k)).2.2 + (runA n [] (runA n [] S 0 (X.take k)).2.1 0 (X.drop k)).2.2) := by
      conv => lhs; rw [← List.take_append_drop k X, runA_app, runA_acc]
    have b1 := runA_len n (X.take k) [] S 0
    have b2 := runA_cnt n (X.take k) [] S 0
    have b3 := runA_len n (X.drop k) [] (runA n [] S 0 (X.take k)).2.1 0
    have b4 := runA_cnt n (X.drop k) [] (runA n [] S 0 (X.take k)).2.1 0
    rw [hA] at r1 r2
    generalize runA n [] S 0 (X.take k) = B at *
    obtain ⟨B1, B2, B3⟩ := B
    simp only at *
    generalize runA n [] B2 0 (X.drop k) = C at *
    obtain ⟨C1, C2, C3⟩ := C
    simp only [List.length_nil, Nat.zero_add, List.length_take, List.length_drop] at *
    (repeat' (first | (refine CmpP.go (fun hc => ?_) (fun hc => ?_) <;> first | (exfalso; omega) | (conv => whnf)) | (refine OpP.add (by omega) ?_; conv => whnf) | (refine LenP.go ?_; conv => whnf) | (refine AKM.x ?_; conv => whnf) | (refine CallP.go (hrw) ?_; conv => whnf) | (refine CallP.go (ew1 _) ?_; conv => whnf) | (refine CallP.go (ew2 _) ?_; conv => whnf) | (refine CallP.go (r1 _ _) ?_; conv => whnf) | (refine CallP.go (r2 _ _) ?_; conv => whnf) | (refine CallP.go (hwk) ?_; conv => whnf)))
    have hBC : (B1 ++ C1).length < 9223372036854775808 := by simp; omega
    have hC2 : C2.length < 9223372036854775808 := by omega
    refine SlS.to (fun _ => rfl) (by omega) ?_
    (conv => whnf)
    (repeat' (refine CallP.go (r3 _ _) ?_; conv => whnf))
    refine SlS.off (fun _ => rfl) (by omega) ?_
    (conv => whnf)
    (repeat' (first | (refine CmpP.go (fun hc => ?_) (fun hc => ?_) <;> first | (exfalso; omega) | (conv => whnf)) | (refine CallP.go (r4 _ _) ?_; conv => whnf) | (refine CallP.go (ev_law22_known I J) ?_; conv => whnf) | (refine CallP.b (ev_ref21_SameInts I (B1 ++ C1) (B1 ++ C1) _ _ hBC hBC) (fun hf => ?_) (fun hf => ?_) <;> (conv => whnf)) | (refine CallP.b (ev_ref21_SameInts I C2 C2 _ _ hC2 hC2) (fun hf => ?_) (fun hf => ?_) <;> (conv => whnf))))
    all_goals first | exact FinP.b rfl | (exfalso; rename_i hf; exact hf rfl) | skip
    refine AppR.many (enc := encInt) (l := []) rfl (fun _ => rfl) (by simp; omega) (by simp; omega) ?_
    (conv => whnf)
    refine AppR.many (enc := encInt) (l := [] ++ B1) rfl (fun _ => rfl) (by simp; omega) (by simp; omega) ?_
    (conv => whnf)
    (repeat' (first | (refine CmpP.go (fun hc => ?_) (fun hc => ?_) <;> first | (exfalso; omega) | (conv => whnf)) | (refine OpP.add (by omega) ?_; conv => whnf) | (refine SnR.all (fun _ => rfl) rfl (by first | rfl | simp) ?_; conv => whnf) | (refine CallP.b (ev_ref21_SameInts I (B1 ++ C1) (B1 ++ C1) _ _ hBC hBC) (fun hf => ?_) (fun hf => ?_) <;> (conv => whnf)) | (refine CallP.b (ev_ref21_SameInts I C2 C2 _ _ hC2 hC2) (fun hf => ?_) (fun hf => ?_) <;> (conv => whnf))))
    all_goals first | exact FinP.b rfl | (exfalso; rename_i hf; exact hf rfl)
  · (repeat' (first | (refine CmpP.go (fun hc => ?_) (fun hc => ?_) <;> first | (exfalso; omega) | (conv => whnf)) | (refine LenP.go ?_; conv => whnf) | (refine AKM.x ?_; conv => whnf) | (refine CallP.go (ev_law22_known I J) ?_; conv => whnf)))
    exact FinP.b rfl
end Go.Eng

/-
  Direct forms: what a network of FormOne computes (plain law).
-/
namespace Go.Eng
def dot : List Int → List Int → Int
  | u :: us, v :: vs => u * v + dot us vs
  | _, _ => 0
def win (n : Nat) (l : List Int) : List Int := (l ++ List.replicate n 0).take n
theorem win_len (n : Nat) (l : List Int) : (win n l).length = n := by simp [win]
theorem dot_nil_r (p : List Int) : dot p [] = 0 := by cases p <;> rfl
theorem dot_zeros : ∀ (p : List Int) (n : Nat), dot p (List.replicate n 0) = 0
  | [], n => by cases n <;> rfl
  | u :: us, 0 => rfl
  | u :: us, n + 1 => by rw [List.replicate_succ, dot, dot_zeros us n]; omega
theorem win_cons (n : Nat) (v : Int) (l : List Int) : win (n + 1) (v :: l) = v :: win n l := by
  simp only [win, List.cons_append, List.take_succ_cons, List.cons.injEq, true_and]
  rw [List.replicate_succ', ← List.append_assoc, List.take_append_of_le_length (by simp)]
theorem win_take (n : Nat) (v : Int) (l : List Int) : win n (v :: l) = (v :: win n l).take n := by
  cases n with
  | zero => rfl
  | succ n =>
    rw [win_cons, List.take_succ_cons]
    congr 1
    simp only [win, List.take_take]
    rw [Nat.min_eq_left (by omega), List.replicate_succ', ← List.append_assoc]
    exact (List.take_append_of_le_length (l₁ := l ++ List.replicate n 0) (by simp)).symm
theorem dot_win : ∀ (p l : List Int) (n : Nat), p.length ≤ n → dot p (win n l) = dot p l
  | [], l, n, _ => by simp [dot]
  | u :: us, [], n, h => by
    rw [dot_nil_r, win, List.nil_append, List.take_of_length_le (by simp), dot_zeros]
  | u :: us, v :: l, 0, h => by simp at h
  | u :: us, v :: l, n + 1, h => by
    rw [win_cons, dot, dot, dot_win us l n (by simpa using h)]
/-- the sum over a row of terms, without wrapping -/
def sumP (vals : List Int) : List (Int × Int) → Int
  | [] => 0
  | t :: ts => t.2 * vals.getD t.1.toNat 0 + sumP vals ts
theorem sumP_append (vals : List Int) : ∀ (a b : List (Int × Int)), sumP vals (a ++ b) = sumP vals a + sumP vals b
  | [], b => by simp [sumP]
  | t :: a, b => by simp only [List.cons_append, sumP, sumP_append vals a b]; omega
theorem sumS_plain (vals : List Int) (hv : ∀ v ∈ vals, -8388608 ≤ v ∧ v ≤ 8388608) : ∀ (ts : List (Int × Int)) (acc : Int) (k : Nat), (∀ t ∈ ts, -16777216 ≤ t.2 ∧ t.2 ≤ 16777216) → k + ts.length ≤ 1000 → -140737488355328 * k ≤ acc ∧ acc ≤ 140737488355328 * k → sumS vals acc ts = acc + sumP vals ts
  | [], acc, k, _, _, _ => by simp [sumS, sumP]
  | t :: ts, acc, k, ht, hk, ha => by
    have h1 := ht t (by simp)
    have h2 : -8388608 ≤ vals.getD t.1.toNat 0 ∧ vals.getD t.1.toNat 0 ≤ 8388608 := by
      rw [List.getD_eq_getElem?_getD]
      cases h : vals[t.1.toNat]? with
      | none => simp
      | some v => exact hv v (List.mem_of_getElem? h)
    have h3 : -140737488355328 ≤ t.2 * vals.getD t.1.toNat 0 ∧ t.2 * vals.getD t.1.toNat 0 ≤ 140737488355328 := by
      generalize vals.getD t.1.toNat 0 = v at *
      obtain ⟨a1, a2⟩ := h1
      obtain ⟨b1, b2⟩ := h2
      have := Int.natAbs_mul t.2 v
      have e1 : t.2.natAbs ≤ 16777216 := by omega
      have e2 : v.natAbs ≤ 8388608 := by omega
      have e3 := Nat.mul_le_mul e1 e2
      omega
    have hl : k + 1 + ts.length ≤ 1000 := by simp at hk; omega
    simp only [sumS, sumP]
    rw [IntWalk.i64_in (t.2 * vals.getD t.1.toNat 0) (by omega), IntWalk.i64_in _ (by omega)]
    rw [sumS_plain vals hv ts _ (k + 1) (fun t h => ht t (List.mem_cons_of_mem _ h)) hl (by omega)]
    omega
theorem rowD_cons (v : Int) (l : List Int) (sg fr : Int) : rowD (v :: l) sg fr = (fr, sg * v) :: rowD l sg (fr + 1) := by
  simp only [rowD, List.length_cons, List.range_succ_eq_map, List.map_cons, List.map_map]
  congr 1
  · simp
  · apply List.map_congr_left
    intro i _
    simp only [Function.comp, List.getD_cons_succ, Prod.mk.injEq, and_true]
    omega
theorem sum_row (vals : List Int) (sg : Int) : ∀ (l : List Int) (fr : Nat), fr + l.length ≤ vals.length → sumP vals (rowD l sg fr) = sg * dot l (vals.drop fr)
  | [], fr, _ => by simp [rowD, sumP, dot]
  | v :: l, fr, h => by
    rw [rowD_cons, sumP]
    have h1 : fr < vals.length := by simp at h; omega
    have ih := sum_row vals sg l (fr + 1) (by simp at h; omega)
    rw [Int.natCast_succ] at ih
    rw [ih, List.drop_eq_getElem_cons h1, dot, Int.toNat_natCast, List.getD_eq_getElem?_getD, List.getElem?_eq_getElem h1, Option.getD_some, Int.mul_add, Int.mul_assoc]
theorem FT_le {w : Wd} {v : Int} (h : FT w v) : -8388608 ≤ v ∧ v ≤ 8388608 := by
  obtain ⟨hw, e1, e2⟩ := h
  obtain ⟨h1, h2, h3, h4⟩ := low_high hw
  omega
theorem mem_rowD {l : List Int} {sg fr : Int} {t : Int × Int} (h : t ∈ rowD l sg fr) : ∃ i : Nat, ∃ v ∈ l, i < l.length ∧ t = (fr + i, sg * v) := by
  simp only [rowD, List.mem_map, List.mem_range] at h
  obtain ⟨i, hi, rfl⟩ := h
  exact ⟨i, l[i], List.getElem_mem hi, hi, by simp [List.getD_eq_getElem?_getD, List.getElem?_eq_getElem hi]⟩
theorem mem_delayS {n : Nat} {a b k : Int} (h : k ∈ delayS n a b) : k = b ∨ ∃ i : Nat, 1 ≤ i ∧ i < n ∧ k = a + i - 1 := by
  simp only [delayS, List.mem_map, List.mem_range] at h
  obtain ⟨i, hi, rfl⟩ := h
  by_cases h0 : i = 0
  · exact Or.inl (by rw [if_pos h0])
  · exact Or.inr ⟨i, by omega, hi, by rw [if_neg h0]⟩
variable {b a : List Int} {d c : Wd}
theorem form_net (hd : WV d) (hc : WV c) (l1 : 1 ≤ b.length ∧ b.length ≤ 49) (l2 : a.length ≤ 8) (hb : ∀ v ∈ b, FT c v) (ha : ∀ v ∈ a, FT c v ∧ FT c (-v)) : netB (formOneS b a d c) = true := by
  rw [netB_iff]
  refine ⟨hd, hc, ⟨by simp only [formOneS]; omega, by simp only [formOneS]; omega, by simp [formOneS], by simp [formOneS, delayS]⟩, ?_, ?_, by simp only [formOneS]; omega, by simp only [formOneS, List.length_cons, List.length_nil]; omega⟩
  · simp only [formOneS, nodesB, Bool.and_true, Bool.and_eq_true, decide_eq_true_eq, List.all_eq_true]
    refine ⟨by simp [rowD_len]; omega, fun t ht => ?_⟩
    simp only [termB, decide_eq_true_eq]
    rcases List.mem_append.1 ht with h | h
    · obtain ⟨i, v, hv, hi, rfl⟩ := mem_rowD h
      exact ⟨by simp only; omega, by simp only; omega, Or.inr (by simpa using hb v hv)⟩
    · obtain ⟨i, v, hv, hi, rfl⟩ := mem_rowD h
      exact ⟨by simp only; omega, by simp only; omega, Or.inr (by simpa using (ha v hv).2)⟩
  · simp only [formOneS, nextB, List.all_eq_true, decide_eq_true_eq, List.length_cons, List.length_nil]
    intro k hk
    rcases List.mem_append.1 hk with h | h
    all_goals (rcases mem_delayS h with rfl | ⟨i, h1, h2, rfl⟩ <;> refine decide_eq_true ?_ <;> omega)
theorem dot_append : ∀ (p u w : List Int), p.length ≤ u.length → dot p (u ++ w) = dot p u
  | [], u, w, _ => by simp [dot]
  | e :: p, [], w, h => by simp at h
  | e :: p, v :: u, w, h => by rw [List.cons_append, dot, dot, dot_append p u w (by simpa using h)]
/-- what the recursion of the coefficients gives: the inputs and the outputs so far, the last one first -/
def outF (b a : List Int) (d c : Wd) (rx ry : List Int) : Int := redS d (shiftS (dot b rx - dot a ry) c.f d.r)
theorem delay_map (vals : List Int) (n f : Nat) (src : Int) (h : f + n ≤ vals.length + 1) : ((delayS n f src).map fun k : Int => vals.getD k.toNat 0) = (vals.getD src.toNat 0 :: vals.drop f).take n := by
  apply List.ext_getElem?
  intro i
  by_cases hi : i < n
  · rw [List.getElem?_map, delayS_at hi, Option.map_some, List.getElem?_take, if_pos hi]
    cases i with
    | zero => simp
    | succ i =>
      rw [if_neg (by omega), List.getElem?_cons_succ, List.getElem?_drop]
      have e : ((f : Int) + ((i + 1 : Nat) : Int) - 1).toNat = f + i := by omega
      rw [e, List.getD_eq_getElem?_getD, List.getElem?_eq_getElem (by omega)]
      rfl
  · rw [List.getElem?_eq_none (by simp [delayS]; omega), List.getElem?_eq_none (by simp; omega)]
theorem form_comp (hd : WV d) (hc : WV c) (l1 : 1 ≤ b.length ∧ b.length ≤ 49) (l2 : a.length ≤ 8) (hb : ∀ v ∈ b, FT c v) (ha : ∀ v ∈ a, FT c v ∧ FT c (-v)) (x : Int) (rx ry : List Int)
    (hw : ∀ v ∈ x :: (win (b.length - 1) rx ++ win a.length ry), -8388608 ≤ v ∧ v ≤ 8388608) :
    sumS (x :: (win (b.length - 1) rx ++ win a.length ry)) 0 (rowD b 1 0 ++ rowD a (-1) b.length) = dot b (x :: rx) - dot a ry := by
  have e : x :: win (b.length - 1) rx = win b.length (x :: rx) := by
    rw [← win_cons, show b.length - 1 + 1 = b.length by omega]
  rw [sumS_plain _ hw _ 0 0 ?_ (by simp [rowD_len]; omega) (by omega)]
  · rw [sumP_append, ← List.cons_append, e]
    have h1 := sum_row (win b.length (x :: rx) ++ win a.length ry) 1 b 0 (by simp [win_len])
    have h2 := sum_row (win b.length (x :: rx) ++ win a.length ry) (-1) a b.length (by simp [win_len])
    rw [show ((0 : Nat) : Int) = 0 from rfl] at h1
    rw [h1, h2, List.drop_zero, dot_append _ _ _ (by simp [win_len]), dot_win _ _ _ (Nat.le_refl _), List.drop_left' (win_len _ _), dot_win _ _ _ (Nat.le_refl _)]
    omega
  · intro t ht
    rcases List.mem_append.1 ht with h | h
    · obtain ⟨i, v, hv, hi, rfl⟩ := mem_rowD h
      have := FT_le (hb v hv)
      simp only; omega
    · obtain ⟨i, v, hv, hi, rfl⟩ := mem_rowD h
      have := FT_le (ha v hv).1
      simp only; omega
theorem FT_zero (hd : WV d) : FT d 0 := by
  obtain ⟨h1, h2, h3, h4⟩ := low_high hd
  exact ⟨hd, by omega, by omega⟩
theorem win_words (hd : WV d) {l : List Int} (n : Nat) (h : ∀ v ∈ l, FT d v) : ∀ v ∈ win n l, FT d v := by
  intro v hv
  rcases List.mem_append.1 (List.mem_of_mem_take hv) with h1 | h1
  · exact h v h1
  · rw [(List.mem_replicate.1 h1).2]; exact FT_zero hd
def stF (b a rx ry : List Int) : List Int := win (b.length - 1) rx ++ win a.length ry
/-- one step of the network -/
theorem form_step (hd : WV d) (hc : WV c) (l1 : 1 ≤ b.length ∧ b.length ≤ 49) (l2 : a.length ≤ 8) (hb : ∀ v ∈ b, FT c v) (ha : ∀ v ∈ a, FT c v ∧ FT c (-v)) (x : Int) (rx ry : List Int) (hx : FT d x) (hrx : ∀ v ∈ rx, FT d v) (hry : ∀ v ∈ ry, FT d v) :
    (compS (formOneS b a d c) (x :: stF b a rx ry) false (formOneS b a d c).nodes).1.getD (formOneS b a d c).out.toNat 0 = outF b a d c (x :: rx) ry ∧
    follS (formOneS b a d c) (compS (formOneS b a d c) (x :: stF b a rx ry) false (formOneS b a d c).nodes).1 = stF b a (x :: rx) (outF b a d c (x :: rx) ry :: ry) ∧
    (compS (formOneS b a d c) (x :: stF b a rx ry) false (formOneS b a d c).nodes).2 = !decide (FT d (shiftS (dot b (x :: rx) - dot a ry) c.f d.r)) := by
  have hw : ∀ v ∈ x :: (win (b.length - 1) rx ++ win a.length ry), -8388608 ≤ v ∧ v ≤ 8388608 := by
    intro v hv
    rcases List.mem_cons.1 hv with rfl | hv
    · exact FT_le hx
    · rcases List.mem_append.1 hv with h | h
      · exact FT_le (win_words hd _ hrx v h)
      · exact FT_le (win_words hd _ hry v h)
  have hs := form_comp hd hc l1 l2 hb ha x rx ry hw
  have hn : nodeS (formOneS b a d c) (x :: stF b a rx ry) ⟨false, rowD b 1 0 ++ rowD a (-1) b.length⟩ = shiftS (dot b (x :: rx) - dot a ry) c.f d.r := by
    show shiftS (sumS _ 0 _) c.f d.r = _
    rw [stF, hs]
  have hcmp : compS (formOneS b a d c) (x :: stF b a rx ry) false (formOneS b a d c).nodes = (x :: stF b a rx ry ++ [outF b a d c (x :: rx) ry], !decide (FT d (shiftS (dot b (x :: rx) - dot a ry) c.f d.r))) := by
    show compS _ _ _ [_] = _
    rw [compS, compS, hn, Bool.false_or]
    rfl
  have hlen : (x :: stF b a rx ry).length = b.length + a.length := by simp [stF, win_len]; omega
  have hout : (x :: stF b a rx ry ++ [outF b a d c (x :: rx) ry]).getD (b.length + a.length) 0 = outF b a d c (x :: rx) ry := by
    rw [List.getD_eq_getElem?_getD, List.getElem?_append_right (by omega), hlen, Nat.sub_self]; rfl
  rw [hcmp]
  refine ⟨?_, ?_, rfl⟩
  · show List.getD _ (((b.length + a.length : Nat) : Int)).toNat 0 = _
    rw [Int.toNat_natCast]; exact hout
  · have hl2 : (x :: stF b a rx ry ++ [outF b a d c (x :: rx) ry]).length = b.length + a.length + 1 := by rw [List.length_append, hlen]; rfl
    show List.map (fun k : Int => List.getD _ k.toNat 0) (delayS (b.length - 1) (1 : Nat) 0 ++ delayS a.length b.length ((b.length + a.length : Nat) : Int)) = _
    rw [List.map_append, delay_map _ _ _ _ (by rw [hl2]; omega), delay_map _ _ _ _ (by rw [hl2]; omega), Int.toNat_natCast, hout]
    have e : x :: win (b.length - 1) rx = win b.length (x :: rx) := by
      rw [← win_cons, show b.length - 1 + 1 = b.length by omega]
    have hd2 : (x :: stF b a rx ry ++ [outF b a d c (x :: rx) ry]).drop b.length = win a.length ry ++ [outF b a d c (x :: rx) ry] := by
      rw [stF, ← List.cons_append, e, List.append_assoc, List.drop_left' (win_len _ _)]
    rw [hd2, show stF b a (x :: rx) (outF b a d c (x :: rx) ry :: ry) = win (b.length - 1) (x :: rx) ++ win a.length (outF b a d c (x :: rx) ry :: ry) from rfl, win_take, win_take]
    congr 1
    · simp only [List.drop_one, List.cons_append, List.tail_cons, Int.toNat_zero, List.getD_cons_zero]
      rw [stF, List.append_assoc, ← List.cons_append, List.take_append_of_le_length (by simp [win_len])]
    · rw [← List.cons_append, List.take_append_of_le_length (by simp [win_len])]
/-- the outputs, one after the other -/
def recO (b a : List Int) (d c : Wd) : List Int → List Int → List Int → List Int
  | _, _, [] => []
  | rx, ry, x :: xs => outF b a d c (x :: rx) ry :: recO b a d c (x :: rx) (outF b a d c (x :: rx) ry :: ry) xs
theorem form_run (hd : WV d) (hc : WV c) (l1 : 1 ≤ b.length ∧ b.length ≤ 49) (l2 : a.length ≤ 8) (hb : ∀ v ∈ b, FT c v) (ha : ∀ v ∈ a, FT c v ∧ FT c (-v)) : ∀ (xs : List Int) (rx ry outs : List Int) (n : Int), (∀ v ∈ xs, FT d v) → (∀ v ∈ rx, FT d v) → (∀ v ∈ ry, FT d v) →
    (runA (formOneS b a d c) outs (stF b a rx ry) n xs).1 = outs ++ recO b a d c rx ry xs
  | [], rx, ry, outs, n, _, _, _ => by simp [runA, recO]
  | x :: xs, rx, ry, outs, n, h1, h2, h3 => by
    have hx := h1 x (by simp)
    obtain ⟨e1, e2, _⟩ := form_step hd hc l1 l2 hb ha x rx ry hx h2 h3
    rw [runA, e1, e2, form_run hd hc l1 l2 hb ha xs (x :: rx) _ _ _ (fun v h => h1 v (List.mem_cons_of_mem _ h)) (by simpa using ⟨hx, h2⟩) ?_, recO, List.append_assoc]
    · rfl
    · intro v hv
      rcases List.mem_cons.1 hv with rfl | hv
      · exact red_ok hd _
      · exact h3 v hv
end Go.Eng

/-
  Arguments of any type of integers, bools, slices and structs, opened: what they hold, as the abstract machine reads it.
-/
namespace Go.Eng
open Go.ChangeShapes Go.WideShapes Go.ChangeAt Go.RowKit

inductive Ty where
  | int (k : IntKind)
  | bool
  | sl (e : Ty)
  | nil
  | cons (a r : Ty)
def Ty.cells : Ty → Nat
  | .int _ => 1 | .bool => 1 | .sl _ => 1
  | .nil => 0
  | .cons a r => a.cells + r.cells
/-- cells of a type -/
def HasL : Ty → List AV → Prop
  | .int k, cs => ∃ n, cs = [.int k n] ∧ (Lit.int k n).wf = true
  | .bool, cs => ∃ b, cs = [.bool b]
  | .sl e, cs => ∃ es, cs = [.sl true es] ∧ es.length ≤ maxLen ∧ ∀ x ∈ es, HasL e x
  | .nil, cs => cs = []
  | .cons a r, cs => ∃ x y, cs = x ++ y ∧ HasL a x ∧ HasL r y
theorem HasL.len : ∀ {ty : Ty} {cs : List AV}, HasL ty cs → cs.length = ty.cells
  | .int _, cs, h => by obtain ⟨n, rfl, _⟩ := h; rfl
  | .bool, cs, h => by obtain ⟨n, rfl⟩ := h; rfl
  | .sl _, cs, h => by obtain ⟨n, rfl, _⟩ := h; rfl
  | .nil, cs, h => by rw [show cs = [] from h]; rfl
  | .cons a r, cs, h => by obtain ⟨x, y, rfl, h1, h2⟩ := h; simp [Ty.cells, HasL.len h1, HasL.len h2]

/-- as the program has it -/
def okTy (P : Program) : Nat → TypeId → Ty → Bool
  | 0, _, _ => false
  | n + 1, t, ty => match P.underlying t, ty with
    | some (.int k), .int k' => decide (k = k')
    | some .bool, .bool => true
    | some (.slice e), .sl ty' => okTy P n e ty' && (P.cellsOf e == ty'.cells && decide (0 < ty'.cells))
    | some (.struct fs), ty => go (okTy P n) fs.toList 0 ty && P.cellsOf t == ty.cells
    | _, _ => false
where
  go (ok : TypeId → Ty → Bool) : List Field → Nat → Ty → Bool
    | [], _, .nil => true
    | f :: fs, off, .cons a r => (f.offset == off && (ok f.type a && P.cellsOf f.type == a.cells)) && go ok fs (off + a.cells) r
    | _, _, _ => false

section
variable {H : Type} {enc : TypeId × Value → H} {P : Program} {w : World} {base : Nat} {spare : Nat → Bool} {held : Bool} {R : Bool → Nat → Prop}
def RdL (w : World) (R : Bool → Nat → Prop) (as : List AV) (cs : List Value) : Prop := as.length = cs.length ∧ ∀ (j : Nat) (a : AV) (c : Value), as[j]? = some a → cs[j]? = some c → Rd w R a c
theorem RdL.one {a : AV} {c : Value} (h : Rd w R a c) : RdL w R [a] [c] := by
  refine ⟨rfl, fun j a' c' h1 h2 => ?_⟩
  cases j with
  | zero => simp at h1 h2; subst h1 h2; exact h
  | succ j => simp at h1
theorem RdL.append {as bs : List AV} {cs ds : List Value} (h1 : RdL w R as cs) (h2 : RdL w R bs ds) : RdL w R (as ++ bs) (cs ++ ds) := by
  refine ⟨by simp [h1.1, h2.1], fun j a c ha hc => ?_⟩
  by_cases hj : j < as.length
  · rw [List.getElem?_append_left hj] at ha
    rw [List.getElem?_append_left (by rw [← h1.1]; exact hj)] at hc
    exact h1.2 j a c ha hc
  · rw [List.getElem?_append_right (by omega)] at ha
    rw [List.getElem?_append_right (by rw [← h1.1]; omega), ← h1.1] at hc
    exact h2.2 _ a c ha hc
theorem add_off (a : Addr) (i : Nat) (h : a.spot = none) : a.add i = ⟨a.block, a.off + i, none⟩ := by
  obtain ⟨b, o, s⟩ := a
  simp only at h
  subst h
  exact add_none b o i
theorem open_go (hR : ∀ b, b < w.heap.size → R true b) (m : Nat) (ih : ∀ (ty : Ty) (t : TypeId) (cs : List Value) (fuel : Nat) (x : DataW H × List MemPlace), okTy P m t ty = true → DataW.trod enc P w base spare held fuel t cs = some x → ∃ as, HasL ty as ∧ RdL w R as cs)
    (n : Nat) (cs : List Value) : ∀ (fs : List Field) (off : Nat) (ty : Ty), okTy.go P (okTy P m) fs off ty = true → (∀ f ∈ fs, ∃ y, DataW.trod enc P w base spare held n f.type ((cs.drop f.offset).take (P.cellsOf f.type)) = some y) → off + ty.cells = cs.length → ∃ as, HasL ty as ∧ RdL w R as (cs.drop off)
  | [], off, ty, hok, _, hl => by
    cases ty <;> simp only [okTy.go, Bool.false_eq_true] at hok
    simp only [Ty.cells] at hl
    exact ⟨[], rfl, by rw [List.drop_of_length_le (by omega)]; exact ⟨rfl, fun j a c h => by simp at h⟩⟩
  | f :: fs, off, ty, hok, hf, hl => by
    cases ty <;> simp only [okTy.go, Bool.false_eq_true, Bool.and_eq_true, beq_iff_eq] at hok
    rename_i a r
    obtain ⟨⟨h1, h2, h3⟩, h4⟩ := hok
    simp only [Ty.cells] at hl
    obtain ⟨y, hy⟩ := hf f List.mem_cons_self
    rw [h1, h3] at hy
    obtain ⟨as1, g1, g2⟩ := ih a f.type _ n y h2 hy
    obtain ⟨as2, g3, g4⟩ := open_go hR m ih n cs fs (off + a.cells) r h4 (fun f' h' => hf f' (List.mem_cons_of_mem _ h')) (by omega)
    refine ⟨as1 ++ as2, ⟨as1, as2, rfl, g1, g3⟩, ?_⟩
    have := g2.append g4
    rwa [show (cs.drop off).take a.cells ++ cs.drop (off + a.cells) = cs.drop off by rw [← List.drop_drop, List.take_append_drop]] at this
theorem open_any (hR : ∀ b, b < w.heap.size → R true b) : ∀ (m : Nat) (ty : Ty) (t : TypeId) (cs : List Value) (fuel : Nat) (x : DataW H × List MemPlace), okTy P m t ty = true → DataW.trod enc P w base spare held fuel t cs = some x → ∃ as, HasL ty as ∧ RdL w R as cs
  | 0, _, _, _, _, _, h, _ => by simp [okTy] at h
  | m + 1, ty, t, cs, fuel, x, hok, h => by
    have ih := open_any hR m
    simp only [okTy] at hok
    split at hok
    · rename_i k k' hu
      obtain rfl : k = k' := by simpa using hok
      obtain ⟨n, rfl, _, hw⟩ := DataW.trod_int hu h
      exact ⟨[.int k n], ⟨n, rfl, hw⟩, RdL.one (.int k n)⟩
    · rename_i hu
      cases fuel with
      | zero => simp [DataW.trod] at h
      | succ fuel =>
        unfold DataW.trod at h
        rw [hu] at h
        split at h <;> simp_all
        exact ⟨_, ⟨_, rfl⟩, RdL.one (.bool _)⟩
    · rename_i e ty' hu
      simp only [Bool.and_eq_true, beq_iff_eq, decide_eq_true_eq] at hok
      obtain ⟨h1, h2, h3⟩ := hok
      rcases DataW.trod_slice hu h with ⟨rfl, _⟩ | ⟨a, len, cap, elems, rest, n, _, rfl, _, hb, hl, hm, hlen, hel, _, _⟩
      · exact ⟨[.sl true []], ⟨[], rfl, by simp, by simp⟩, RdL.one (.sl0 true none 0)⟩
      · have each : ∀ i, i < len → ∃ as cs', HasL ty' as ∧ RdL w R as cs' ∧ cs'.length = ty'.cells ∧ ∀ j, j < ty'.cells → w.cell? ((a.add (i * ty'.cells)).add j) = cs'[j]? := by
          intro i hi
          have := hel i hi
          rw [h2, List.getElem?_eq_getElem (by omega), Option.bind_eq_some_iff] at this
          obtain ⟨cs', hc, ht⟩ := this
          obtain ⟨as, g1, g2⟩ := ih ty' e cs' n _ h1 ht
          obtain ⟨_, q1, q2⟩ := World.cells?_some hc
          exact ⟨as, cs', g1, g2, q1, q2⟩
        by_cases h0 : len = 0
        · subst h0
          exact ⟨[.sl true []], ⟨[], rfl, by simp, by simp⟩, RdL.one (.sl0 true (some a) cap)⟩
        · have hspot : a.spot = none := by
            obtain ⟨as, cs', _, _, q1, q2⟩ := each 0 (by omega)
            have := q2 0 h3
            rw [List.getElem?_eq_getElem (by omega)] at this
            simpa [Addr.add] using World.cell?_spot this
          have hblk : a.block < w.heap.size := by
            obtain ⟨as, cs', _, _, q1, q2⟩ := each 0 (by omega)
            have := q2 0 h3
            rw [List.getElem?_eq_getElem (by omega)] at this
            simpa [Addr.add] using cell_lt this
          have pick : ∃ f : Nat → List AV × List Value, ∀ i, i < len → HasL ty' (f i).1 ∧ RdL w R (f i).1 (f i).2 ∧ (f i).2.length = ty'.cells ∧ ∀ j, j < ty'.cells → w.cell? ((a.add (i * ty'.cells)).add j) = (f i).2[j]? := by
            refine ⟨fun i => if hi : i < len then (Classical.choose (each i hi), Classical.choose (Classical.choose_spec (each i hi))) else ([], []), fun i hi => ?_⟩
            simp only [hi, dif_pos]
            exact Classical.choose_spec (Classical.choose_spec (each i hi))
          obtain ⟨f, hf⟩ := pick
          have hget : ∀ i e', ((List.range len).map fun i => (f i).1)[i]? = some e' → i < len ∧ e' = (f i).1 := by
            intro i e' he
            rw [List.getElem?_map] at he
            by_cases hi : i < len
            · rw [List.getElem?_range hi] at he
              simp at he
              exact ⟨hi, he.symm⟩
            · rw [List.getElem?_eq_none (by simpa using hi)] at he
              cases he
          refine ⟨[.sl true ((List.range len).map fun i => (f i).1)], ⟨_, rfl, by simp; omega, fun x hx => ?_⟩, RdL.one ?_⟩
          · obtain ⟨i, hi, rfl⟩ := List.mem_map.1 hx
            exact (hf i (List.mem_range.1 hi)).1
          · obtain ⟨ab, ao, as⟩ := a
            simp only at hspot
            subst hspot
            have hlen' : ((List.range len).map fun i => (f i).1).length = len := by simp
            have := Rd.sl (w := w) (R := R) true ((List.range len).map fun i => (f i).1) ab ao ty'.cells cap (fun i j => ((f i).2[j]?).getD default) (by intro e; have := congrArg List.length e; simp at this; omega) h3 (hR ab hblk) (by rw [hlen']; exact hl)
              (fun e' he => by
                obtain ⟨i, hi, rfl⟩ := List.mem_map.1 he
                exact (hf i (List.mem_range.1 hi)).1.len)
              (fun i e' he j c hc => by
                obtain ⟨hi, rfl⟩ := hget i e' he
                obtain ⟨g1, g2, g3, g4⟩ := hf i hi
                have hj : j < ty'.cells := by
                  have := (List.getElem?_eq_some_iff.1 hc).1
                  rwa [g1.len] at this
                have h5 := g4 j hj
                rw [add_off ⟨ab, ao, none⟩ (i * ty'.cells) rfl, add_off _ _ rfl] at h5
                simp only at h5
                rw [show ao + (i * ty'.cells + j) = ao + i * ty'.cells + j by omega, h5, List.getElem?_eq_getElem (by omega)]
                rfl)
              (fun i e' he j c hc => by
                obtain ⟨hi, rfl⟩ := hget i e' he
                obtain ⟨g1, g2, g3, g4⟩ := hf i hi
                have hj : j < ty'.cells := by
                  have := (List.getElem?_eq_some_iff.1 hc).1
                  rwa [g1.len] at this
                have h6 : (f i).2[j]? = some ((f i).2[j]'(by omega)) := List.getElem?_eq_getElem _
                rw [h6]
                exact g2.2 j c _ hc h6)
            rwa [hlen'] at this
    · rename_i fs hu
      simp only [Bool.and_eq_true, beq_iff_eq] at hok
      obtain ⟨h1, h2⟩ := hok
      obtain ⟨xs, n, _, _, hl, hlen, hf⟩ := DataW.trod_struct hu h
      have := open_go hR m ih n cs fs.toList 0 _ h1 (fun f hf' => by
        obtain ⟨i, hi, rfl⟩ := List.getElem_of_mem hf'
        have h5 := hf i fs.toList[i] (by simp)
        rw [h5, List.getElem?_eq_getElem (by simpa [hlen] using hi)]
        exact ⟨_, rfl⟩) (by rw [hl, h2]; omega)
      simpa using this
    · exact absurd hok (by simp)
/-- one cell: a number, a bool, a slice -/
theorem open_cell {S : Nat → Prop} {ty : Ty} {t : TypeId} {v : Value} {d : DataW H} {ps : List MemPlace} {m : Nat} (hok : okTy P m t ty = true) (hv : v.cells.toList = [v]) (h : DataW.Trod enc P w base spare held t v d ps) :
    ∃ a, HasL ty [a] ∧ CA w.heap.size S ⟨fun _ _ => none, Own.emp, w⟩ a v := by
  obtain ⟨fuel, hf⟩ := h
  rw [hv] at hf
  obtain ⟨as, h1, h2⟩ := open_any (R := safe w.heap.size S ⟨fun _ _ => none, Own.emp, w⟩) (fun b hb => Or.inr (Or.inr ⟨rfl, hb⟩)) m ty t [v] fuel _ hok hf
  obtain ⟨a, rfl⟩ : ∃ a, as = [a] := by
    have := h2.1
    match as, this with
    | [a], _ => exact ⟨a, rfl⟩
  exact ⟨a, h1, .one (.rd (h2.2 0 a v rfl rfl))⟩
/-- a struct -/
theorem open_st {S : Nat → Prop} {ty : Ty} {t : TypeId} {cs : Array Value} {d : DataW H} {ps : List MemPlace} {m : Nat} (hok : okTy P m t ty = true) (h : DataW.Trod enc P w base spare held t (.agg cs) d ps) :
    ∃ as, HasL ty as ∧ CA w.heap.size S ⟨fun _ _ => none, Own.emp, w⟩ (.agg as) (.agg cs) := by
  obtain ⟨fuel, hf⟩ := h
  obtain ⟨as, h1, h2⟩ := open_any (R := safe w.heap.size S ⟨fun _ _ => none, Own.emp, w⟩) (fun b hb => Or.inr (Or.inr ⟨rfl, hb⟩)) m ty t cs.toList fuel _ hok hf
  refine ⟨as, h1, ?_⟩
  have := CA.agg (B := w.heap.size) (S := S) (m := ⟨fun _ _ => none, Own.emp, w⟩) as cs.toList ⟨h2.1, fun j c v hc hv => .rd (h2.2 j c v hc hv)⟩
  simpa using this
end
/-- a list of what is encoded -/
theorem list_of {α : Type} {enc : α → List AV} : ∀ {es : List (List AV)}, (∀ x ∈ es, ∃ y, x = enc y) → ∃ l : List α, es = l.map enc
  | [], _ => ⟨[], rfl⟩
  | e :: r, h => by
    obtain ⟨y, rfl⟩ := h e List.mem_cons_self
    obtain ⟨l, rfl⟩ := list_of fun x hx => h x (List.mem_cons_of_mem _ hx)
    exact ⟨y :: l, rfl⟩
theorem args_nil {B : Nat} {S : Nat → Prop} {m : M} : ∀ (j : Nat) (c : AV) (v : Value), ([] : List AV)[j]? = some c → ([] : List Value)[j]? = some v → CA B S m c v := fun j c v h => by simp at h
theorem args_cons {B : Nat} {S : Nat → Prop} {m : M} {a : AV} {u : Value} {as : List AV} {us : List Value} (h : CA B S m a u) (hr : ∀ (j : Nat) (c : AV) (v : Value), as[j]? = some c → us[j]? = some v → CA B S m c v) :
    ∀ (j : Nat) (c : AV) (v : Value), (a :: as)[j]? = some c → (u :: us)[j]? = some v → CA B S m c v
  | 0, c, v, h1, h2 => by simp at h1 h2; subst h1 h2; exact h
  | j + 1, c, v, h1, h2 => hr j c v (by simpa using h1) (by simpa using h2)
/-! typed data -/
theorem has_int {k : IntKind} {cs : List AV} (h : HasL (.int k) cs) : ∃ n, cs = [.int k n] ∧ (Lit.int k n).wf = true := h
theorem has_bool {cs : List AV} (h : HasL .bool cs) : ∃ b, cs = [.bool b] := h
theorem has_sl {α : Type} {enc : α → List AV} {e : Ty} {cs : List AV} (he : ∀ x, HasL e x → ∃ y, x = enc y) (h : HasL (.sl e) cs) : ∃ l : List α, cs = [.sl true (l.map enc)] ∧ l.length < 9223372036854775808 := by
  obtain ⟨es, rfl, hl, hx⟩ := h
  obtain ⟨l, rfl⟩ := list_of (enc := enc) fun x hm => he x (hx x hm)
  refine ⟨l, rfl, ?_⟩
  have : maxLen = 9223372036854775807 := rfl
  simp at hl
  omega
/-- the law, called -/
theorem law_calls {P : Program} {num : Nat → Nat} {L : Lib} (hP : ProgOK P num L) {f : Nat} {vs : List AV} (h : Ev L f vs (.bool true)) {S : Nat → Prop} {w : World} {us : List Value} (hl : vs.length = us.length)
    (ha : ∀ (j : Nat) (c : AV) (v : Value), vs[j]? = some c → us[j]? = some v → CA w.heap.size S ⟨fun _ _ => none, Own.emp, w⟩ c v) :
    Calls P (num f) us.toArray w fun e w' => e = .returned (.bool true) ∧ Below w.heap.size w w' := by
  obtain ⟨n, hn⟩ := h
  refine ((calls_ok hP n).pure f vs _ hn S w us hl ha).mono ?_
  rintro e w' ⟨u, rfl, hb, hcv, _⟩
  refine ⟨?_, hb⟩
  cases hcv with
  | ca hca => cases hca with
    | one hcc => cases hcc with
      | rd hrd => cases hrd; rfl
end Go.Eng

/-
  Arguments of the laws, as typed data.
-/
namespace Go.Eng
abbrev tI : Ty := .int .i64
abbrev tW : Ty := .cons tI (.cons tI (.cons tI (.cons tI .nil)))
abbrev tT : Ty := .cons tI (.cons tI .nil)
abbrev tNd : Ty := .cons (.sl tT) .nil
abbrev tN : Ty := .cons tW (.cons tW (.cons tI (.cons (.sl tNd) (.cons (.sl tI) (.cons tI .nil)))))
theorem has_i {cs : List AV} (h : HasL tI cs) : ∃ n, cs = encInt n := by obtain ⟨n, rfl, _⟩ := h; exact ⟨n, rfl⟩
theorem has_ints {cs : List AV} (h : HasL (.sl tI) cs) : ∃ l : List Int, cs = [.sl true (l.map encInt)] ∧ l.length < 9223372036854775808 := has_sl (fun _ => has_i) h
theorem has_w {cs : List AV} (h : HasL tW cs) : ∃ w : Wd, cs = encW w := by
  obtain ⟨_, _, rfl, ⟨a, rfl, _⟩, _, _, rfl, ⟨b, rfl, _⟩, _, _, rfl, ⟨c, rfl, _⟩, _, _, rfl, ⟨d, rfl, _⟩, rfl⟩ := h
  exact ⟨⟨a, b, c, d⟩, rfl⟩
theorem has_t {cs : List AV} (h : HasL tT cs) : ∃ t : Int × Int, cs = encT t := by
  obtain ⟨_, _, rfl, ⟨a, rfl, _⟩, _, _, rfl, ⟨b, rfl, _⟩, rfl⟩ := h
  exact ⟨(a, b), rfl⟩
theorem has_nd {cs : List AV} (h : HasL tNd cs) : ∃ n : Nd, cs = encNd n := by
  obtain ⟨_, _, rfl, hs, rfl⟩ := h
  obtain ⟨l, rfl, _⟩ := has_sl (enc := encT) (fun _ => has_t) hs
  exact ⟨⟨true, l⟩, rfl⟩
theorem has_net {cs : List AV} (h : HasL tN cs) : ∃ n : Nt, cs = encN n ∧ n.nodes.length < 9223372036854775808 ∧ n.next.length < 9223372036854775808 := by
  obtain ⟨_, _, rfl, h1, _, _, rfl, h2, _, _, rfl, ⟨s, rfl, _⟩, _, _, rfl, h3, _, _, rfl, h4, _, _, rfl, ⟨o, rfl, _⟩, rfl⟩ := h
  obtain ⟨w1, rfl⟩ := has_w h1
  obtain ⟨w2, rfl⟩ := has_w h2
  obtain ⟨nodes, rfl, l1⟩ := has_sl (enc := encNd) (fun _ => has_nd) h3
  obtain ⟨next, rfl, l2⟩ := has_ints h4
  exact ⟨⟨w1, w2, s, true, nodes, true, next, o⟩, rfl, l1, l2⟩
end Go.Eng

/-
  Arguments of the laws, as typed data, with their ranges.
-/
namespace Go.Eng
theorem list_ofP {α : Type} {enc : α → List AV} {p : α → Prop} : ∀ {es : List (List AV)}, (∀ x ∈ es, ∃ y, x = enc y ∧ p y) → ∃ l : List α, es = l.map enc ∧ ∀ y ∈ l, p y
  | [], _ => ⟨[], rfl, by simp⟩
  | e :: es, h => by
    obtain ⟨y, rfl, hy⟩ := h e List.mem_cons_self
    obtain ⟨l, rfl, hl⟩ := list_ofP (enc := enc) (p := p) fun x hx => h x (List.mem_cons_of_mem _ hx)
    exact ⟨y :: l, rfl, by simpa using ⟨hy, hl⟩⟩
theorem has_slP {α : Type} {enc : α → List AV} {p : α → Prop} {e : Ty} {cs : List AV} (he : ∀ x, HasL e x → ∃ y, x = enc y ∧ p y) (h : HasL (.sl e) cs) : ∃ l : List α, cs = [.sl true (l.map enc)] ∧ l.length < 9223372036854775808 ∧ ∀ y ∈ l, p y := by
  obtain ⟨es, rfl, hl, hx⟩ := h
  obtain ⟨l, rfl, hp⟩ := list_ofP (enc := enc) (p := p) fun x hm => he x (hx x hm)
  refine ⟨l, rfl, ?_, hp⟩
  have : maxLen = 9223372036854775807 := rfl
  simp at hl
  omega
theorem wf_InI {n : Int} (h : (Lit.int .i64 n).wf = true) : InI n := by
  simp only [Lit.wf, Bool.and_eq_true, decide_eq_true_eq] at h
  have h1 : IntKind.i64.min = -9223372036854775808 := rfl
  have h2 : IntKind.i64.max = 9223372036854775807 := rfl
  rw [h1, h2] at h
  unfold InI
  constructor <;> omega
theorem has_iI {cs : List AV} (h : HasL tI cs) : ∃ n, cs = encInt n ∧ InI n := by obtain ⟨n, rfl, hw⟩ := h; exact ⟨n, rfl, wf_InI hw⟩
theorem has_intsI {cs : List AV} (h : HasL (.sl tI) cs) : ∃ l : List Int, cs = [.sl true (l.map encInt)] ∧ l.length < 9223372036854775808 ∧ allI l := has_slP (fun _ => has_iI) h
abbrev tWr : Ty := .cons (.sl tI) (.cons (.sl tI) .nil)
theorem has_wr {cs : List AV} (h : HasL tWr cs) : ∃ w, cs = encWr w ∧ (allI w.1.2 ∧ allI w.2.2) := by
  obtain ⟨_, _, rfl, h1, _, _, rfl, h2, rfl⟩ := h
  obtain ⟨l1, rfl, _, a1⟩ := has_intsI h1
  obtain ⟨l2, rfl, _, a2⟩ := has_intsI h2
  exact ⟨((true, l1), (true, l2)), rfl, a1, a2⟩
abbrev tR : Ty := .cons tI (.cons tI (.cons tI (.cons (.sl tWr) (.cons (.sl tI) (.cons tI (.cons .bool .nil))))))
theorem has_raw {cs : List AV} (h : HasL tR cs) : ∃ r : Rw, cs = encR r ∧ InI r.data ∧ InI r.coef ∧ InI r.states ∧ InI r.out ∧ allI r.next ∧ (∀ w ∈ r.nodes, allI w.1.2 ∧ allI w.2.2) ∧ r.nodes.length < 9223372036854775808 := by
  obtain ⟨_, _, rfl, h1, _, _, rfl, h2, _, _, rfl, h3, _, _, rfl, h4, _, _, rfl, h5, _, _, rfl, h6, _, _, rfl, ⟨b, rfl⟩, rfl⟩ := h
  obtain ⟨a, rfl, i1⟩ := has_iI h1
  obtain ⟨c, rfl, i2⟩ := has_iI h2
  obtain ⟨s, rfl, i3⟩ := has_iI h3
  obtain ⟨nodes, rfl, l4, i4⟩ := has_slP (enc := encWr) (fun _ => has_wr) h4
  obtain ⟨next, rfl, l5, i5⟩ := has_intsI h5
  obtain ⟨o, rfl, i6⟩ := has_iI h6
  exact ⟨⟨a, c, s, true, nodes, true, next, o, b⟩, rfl, i1, i2, i3, i6, i5, i4, l4⟩
end Go.Eng

/-
  Law 23: DirectRecurs.
-/
namespace Go.Eng
open F
attribute [local irreducible] AKM CmpP Req OpP UnP ConvP RdP LdR StR MkR LenP AppR AppN CpyR RowP SnR Bds SlS CallP CalP FinP pw LdM GetM SetM PutM MkM AppM SnM
set_option maxHeartbeats 1000000
variable {L : Lib}
theorem toB_range {b : Int} (hb : 0 ≤ b) (v : Int) : -b ≤ toB b v ∧ toB b v ≤ b := by
  have := with_range (v := IntKind.i64.wrap (v + b)) (m := 2 * b + 1) (by omega)
  unfold toB
  omega
theorem below_FT {c : Wd} (hc : WV c) (l : List Int) (n : Nat) : ∀ v ∈ belowS (pw (c.b - 1) - 1) l n, FT c v ∧ FT c (-v) := by
  intro v hv
  obtain ⟨h1, h2, h3, h4⟩ := low_high hc
  simp only [belowS, List.mem_map] at hv
  obtain ⟨i, _, rfl⟩ := hv
  have := toB_range (b := pw (c.b - 1) - 1) (by omega) (atS l i)
  exact ⟨⟨hc, by omega, by omega⟩, ⟨hc, by omega, by omega⟩⟩
theorem below_len (b : Int) (l : List Int) (n : Nat) : (belowS b l n).length = n := by simp [belowS]
theorem mul_bd {u v : Int} (h1 : -8388608 ≤ u ∧ u ≤ 8388608) (h2 : -8388608 ≤ v ∧ v ≤ 8388608) : -70368744177664 ≤ u * v ∧ u * v ≤ 70368744177664 := by
  have := Int.natAbs_mul u v
  have e3 := Nat.mul_le_mul (show u.natAbs ≤ 8388608 by omega) (show v.natAbs ≤ 8388608 by omega)
  omega
theorem dot_step {p r : List Int} {k : Nat} {u v : Int} (h1 : p[k]? = some u) (h2 : r[k]? = some v) : dot (p.drop k) (r.drop k) = u * v + dot (p.drop (k + 1)) (r.drop (k + 1)) := by
  rw [drop_cons h1, drop_cons h2, dot]
theorem dot_done {p r : List Int} {k : Nat} (h : p.length ≤ k ∨ r.length ≤ k) : dot (p.drop k) (r.drop k) = 0 := by
  rcases h with h | h
  · rw [List.drop_of_length_le h]; simp [dot]
  · rw [List.drop_of_length_le h, dot_nil_r]
theorem rev_at {X : List Int} {i k : Nat} {v : Int} (hk : k ≤ i) (hi : i < X.length) (h : X[i - k]? = some v) : (X.take (i + 1)).reverse[k]? = some v := by
  have hl : (X.take (i + 1)).length = i + 1 := by simp; omega
  rw [List.getElem?_reverse (by omega), hl, List.getElem?_take, if_pos (by omega), show i + 1 - 1 - k = i - k by omega, h]
theorem rev_at' {Y : List Int} {i k : Nat} {v : Int} (hl : Y.length = i) (hk : k < i) (h : Y[i - 1 - k]? = some v) : Y.reverse[k]? = some v := by
  rw [List.getElem?_reverse (by omega), hl, h]
theorem rev_take {X : List Int} {i : Nat} {x : Int} (h : X[i]? = some x) : (X.take (i + 1)).reverse = x :: (X.take i).reverse := by
  rw [List.take_add_one, h]; simp
theorem ev_law23_DirectRecurs (I : FixedLib L) (J : NetLib L) (W : WorldLib L) (R : RunGLib L) (D : DirectGLib L) (E : LawDLib L) (dk ck : Int) (h1 : InI dk) (h2 : InI ck) (b a ins : List Int) (q1 q2 q3 : Bool) (hb : b.length < 9223372036854775808) (ha : a.length < 9223372036854775808) :
    Ev L 55 [.int .i64 dk, .int .i64 ck, .sl q1 (b.map encInt), .sl q2 (a.map encInt), .sl q3 (ins.map encInt)] (.bool true) := by
  refine Ev.x E.law23_DirectRecurs rfl rfl ?_
  by_cases h40 : ins.length ≤ 40
  · obtain ⟨hdw, hd1, hd2⟩ := data_ok dk
    obtain ⟨hcw, hc1, hc2⟩ := coef_ok ck
    have hk1 := with_range (v := (b.length : Int)) (m := 4) (by omega)
    have hk2 := with_range (v := (a.length : Int)) (m := 4) (by omega)
    have eb := fun q => ev_world_Below W (pw ((coefS ck).b - 1) - 1) (by have := low_high hcw; omega) b q (1 + withS b.length 4).toNat (by omega)
    have ea := fun q => ev_world_Below W (pw ((coefS ck).b - 1) - 1) (by have := low_high hcw; omega) a q (withS a.length 4).toNat (by omega)
    have ew := fun q => ev_world_Words I W (dataS dk) hdw ins q ins.length (by omega)
    rw [Int.toNat_of_nonneg (by omega)] at eb ea
    have w1 := ev_world_Within W b.length 4 (by unfold InI; omega) (by omega)
    have w2 := ev_world_Within W a.length 4 (by unfold InI; omega) (by omega)
    have lP : (belowS (pw ((coefS ck).b - 1) - 1) b (1 + withS b.length 4).toNat).length = (1 + withS b.length 4).toNat := below_len _ _ _
    have lQ : (belowS (pw ((coefS ck).b - 1) - 1) a (withS a.length 4).toNat).length = (withS a.length 4).toNat := below_len _ _ _
    have hP := below_FT hcw b (1 + withS b.length 4).toNat
    have hQ := below_FT hcw a (withS a.length 4).toNat
    have hX : ∀ v ∈ wordsS (dataS dk) ins ins.length, FT (dataS dk) v := by
      have := wordsS_ok hdw ins ins.length
      simpa [wordsB] using this
    have lX : (wordsS (dataS dk) ins ins.length).length = ins.length := by simp [wordsS]
    generalize belowS (pw ((coefS ck).b - 1) - 1) b (1 + withS b.length 4).toNat = P at *
    generalize belowS (pw ((coefS ck).b - 1) - 1) a (withS a.length 4).toNat = Q at *
    generalize wordsS (dataS dk) ins ins.length = X at *
    have ef := fun q q' => ev_direct_FormOne I D P Q q q' (dataS dk) (coefS ck) hdw hcw (by omega) (by omega) (fun v h => (hP v h).1) hQ
    have hnet := form_net (b := P) (a := Q) hdw hcw (by omega) (by omega) (fun v h => (hP v h).1) hQ
    have hst : stF P Q [] [] = List.replicate (P.length - 1 + Q.length) 0 := by
      simp [stF, win, List.replicate_append_replicate]
    have hwr : wrongS (formOneS P Q (dataS dk) (coefS ck)) (List.replicate (P.length - 1 + Q.length) 0) X = 0 := by
      rw [wrong_zero]
      refine ⟨by simp [formOneS], ?_, ?_⟩
      · simp only [wordsB, List.all_eq_true, decide_eq_true_eq]
        intro v hv
        rw [(List.mem_replicate.1 hv).2]
        exact FT_zero hdw
      · simp only [wordsB, List.all_eq_true, decide_eq_true_eq]
        exact hX
    have er := fun q q' => ev_network_Run (formOneS P Q (dataS dk) (coefS ck)) I J R (List.replicate (P.length - 1 + Q.length) 0) X q q' (by simp; omega) (by omega)
    rw [rrS_ok _ hnet (by omega) hwr, ← hst, form_run hdw hcw (by omega) (by omega) (fun v h => (hP v h).1) hQ X [] [] [] 0 hX (by simp) (by simp), hst] at er
    generalize (runA (formOneS P Q (dataS dk) (coefS ck)) [] (List.replicate (P.length - 1 + Q.length) 0) 0 X).2 = Z at *
    (repeat' (first | (refine CmpP.go (fun hc => ?_) (fun hc => ?_) <;> first | (exfalso; omega) | (conv => whnf)) | (refine OpP.add (by omega) ?_; conv => whnf) | (refine OpP.sub (by omega) ?_; conv => whnf) | (refine OpP.shl1 (by omega) (fun _ _ => ?_); conv => whnf) | (refine ConvP.u64 (by omega) ?_; conv => whnf) | (refine LenP.go ?_; conv => whnf) | (refine AKM.x ?_; conv => whnf) | (refine CallP.go (ev_world_Data W dk h1) ?_; conv => whnf) | (refine CallP.go (ev_world_Coef W ck h2) ?_; conv => whnf) | (refine CallP.go (w1) ?_; conv => whnf) | (refine CallP.go (w2) ?_; conv => whnf) | (refine CallP.go (eb _) ?_; conv => whnf) | (refine CallP.go (ea _) ?_; conv => whnf) | (refine CallP.go (ew _) ?_; conv => whnf) | (refine CallP.go (ef _ _) ?_; conv => whnf)))
    refine MkR.go (enc := encInt) 0 (P.length - 1 + Q.length) rfl (by omega) (by omega) ?_
    (conv => whnf)
    (repeat' (first | (refine SnR.all (fun _ => rfl) rfl (by first | rfl | simp) ?_; conv => whnf) | (refine CallP.go (er _ _) ?_; conv => whnf)))
    refine AKM.loop2 (fun i _ => X.length - i) (fun (i : Nat) (y : List Int) => i ≤ X.length ∧ y.length = i ∧ (∀ v ∈ y, FT (dataS dk) v) ∧ recO P Q (dataS dk) (coefS ck) [] [] X = y ++ recO P Q (dataS dk) (coefS ck) (X.take i).reverse y.reverse (X.drop i)) (fun i y => [(22, .row 22 0 1 0 y.length), (23, .int .i64 i)]) (fun i y => [(22, 22, .rw 1 (y.map encInt))]) [] [] 0 [] (by (conv => whnf); exact ⟨rfl, rfl, rfl⟩) ⟨by omega, rfl, by simp, by simp⟩ ?_
    intro i y ⟨p1, p2, p3, p4⟩ ih
    by_cases hi : i < X.length
    · obtain ⟨x, hx⟩ : ∃ x, X[i]? = some x := ⟨_, List.getElem?_eq_getElem hi⟩
      (repeat' (first | (refine CmpP.go (fun hc => ?_) (fun hc => ?_) <;> first | (exfalso; omega) | (conv => whnf)) | (refine LenP.go ?_; conv => whnf) | (refine AKM.x ?_; conv => whnf)))
      refine AKM.loop2 (fun k _ => P.length - k) (fun (k : Nat) (s : Int) => k ≤ P.length ∧ k ≤ i + 1 ∧ s + dot (P.drop k) ((X.take (i + 1)).reverse.drop k) = dot P (X.take (i + 1)).reverse ∧ -70368744177664 * k ≤ s ∧ s ≤ 70368744177664 * k) (fun k s => [(24, .int .i64 s), (25, .int .i64 k)]) (fun _ _ => []) [] [] 0 0 (by (conv => whnf); exact ⟨rfl, rfl, rfl⟩) ⟨by omega, by omega, by simp, by omega, by omega⟩ ?_
      intro k s ⟨s1, s2, s3, s4, s5⟩ ih2
      by_cases hk : k < P.length ∧ k ≤ i
      · obtain ⟨u, hu⟩ : ∃ u, P[k]? = some u := ⟨_, List.getElem?_eq_getElem hk.1⟩
        obtain ⟨v, hv⟩ : ∃ v, X[i - k]? = some v := ⟨_, List.getElem?_eq_getElem (by omega)⟩
        have hm := mul_bd (FT_le (hP u (List.mem_of_getElem? hu)).1) (FT_le (hX v (List.mem_of_getElem? hv)))
        have hds := dot_step hu (rev_at hk.2 hi hv)
        rw [hds] at s3
        (repeat' (first | (refine CmpP.go (fun hc => ?_) (fun hc => ?_) <;> first | (exfalso; omega) | (conv => whnf)) | (refine OpP.add (by omega) ?_; conv => whnf) | (refine OpP.sub (by omega) ?_; conv => whnf) | (refine OpP.wadd ?_; conv => whnf) | (refine OpP.wmul ?_; conv => whnf) | (refine LenP.go ?_; conv => whnf) | (refine RdP.at (by assumption) (by omega) rfl ?_; conv => whnf) | (refine RdP.go (by omega) (fun _ => rfl) (fun e he => ?_); conv => whnf) | (refine AKM.x ?_; conv => whnf)))
        rw [show ((i : Int) - k).toNat = i - k by omega, hv] at he
        obtain rfl : v = e := by simpa using he
        have hw : IntKind.i64.wrap (s + IntKind.i64.wrap (u * v)) = s + u * v := by rw [IntWalk.i64_in (u * v) (by omega), IntWalk.i64_in _ (by omega)]
        rw [hw]
        exact AKM.back [] (by (conv => whnf); exact ⟨rfl, rfl, rfl⟩) (ih2 (k + 1) _ (by omega) ⟨by omega, by omega, by omega, by omega, by omega⟩)
      · rw [dot_done (by simp; omega), Int.add_zero] at s3
        (repeat' (first | (refine CmpP.go (fun hc => ?_) (fun hc => ?_) <;> first | (exfalso; omega) | (conv => whnf)) | (refine LenP.go ?_; conv => whnf) | (refine AKM.x ?_; conv => whnf)))
        all_goals (
          refine AKM.loop2 (fun k _ => Q.length - k) (fun (k : Nat) (s : Int) => k ≤ Q.length ∧ k ≤ i ∧ s - dot (Q.drop k) (y.reverse.drop k) = dot P (X.take (i + 1)).reverse - dot Q y.reverse ∧ -70368744177664 * (k + 10) ≤ s ∧ s ≤ 70368744177664 * (k + 10)) (fun k s => [(24, .int .i64 s), (26, .int .i64 k)]) (fun _ _ => []) [] [] 0 s (by (conv => whnf); exact ⟨rfl, rfl, rfl⟩) ⟨by omega, by omega, by simp [s3], by omega, by omega⟩ ?_
          clear s1 s2 s3 s4 s5 ih2 hk
          intro k s ⟨s1, s2, s3, s4, s5⟩ ih2
          by_cases hk : k < Q.length ∧ k < i
          · obtain ⟨u, hu⟩ : ∃ u, Q[k]? = some u := ⟨_, List.getElem?_eq_getElem hk.1⟩
            obtain ⟨vv, hvv⟩ : ∃ v, y[i - 1 - k]? = some v := ⟨_, List.getElem?_eq_getElem (by omega)⟩
            have hm := mul_bd (FT_le (hQ u (List.mem_of_getElem? hu)).1) (FT_le (p3 vv (List.mem_of_getElem? hvv)))
            have hds := dot_step hu (rev_at' p2 hk.2 hvv)
            rw [hds] at s3
            (repeat' (first | (refine CmpP.go (fun hc => ?_) (fun hc => ?_) <;> first | (exfalso; omega) | (conv => whnf)) | (refine Req.go (by omega) ?_; conv => whnf) | (refine OpP.add (by omega) ?_; conv => whnf) | (refine OpP.sub (by omega) ?_; conv => whnf) | (refine OpP.wsub ?_; conv => whnf) | (refine OpP.wmul ?_; conv => whnf) | (refine LenP.go ?_; conv => whnf) | (refine RdP.at (by assumption) (by omega) rfl ?_; conv => whnf) | (refine LdR.int (by omega) (fun _ => rfl) (fun v hv => ?_); conv => whnf) | (refine AKM.x ?_; conv => whnf)))
            rw [show ((i : Int) - 1 - k).toNat = i - 1 - k by omega, hvv] at hv
            obtain rfl : vv = v := by simpa using hv
            have hw : IntKind.i64.wrap (s - IntKind.i64.wrap (u * vv)) = s - u * vv := by rw [IntWalk.i64_in (u * vv) (by omega), IntWalk.i64_in _ (by omega)]
            rw [hw]
            exact AKM.back [] (by (conv => whnf); exact ⟨rfl, rfl, rfl⟩) (ih2 (k + 1) _ (by omega) ⟨by omega, by omega, by omega, by omega, by omega⟩)
          · rw [dot_done (by simp; omega), Int.sub_zero] at s3
            have hsI : InI s := ⟨by omega, by omega⟩
            have hsh := ev_ref21_Shift I s (coefS ck).f (dataS dk).r hsI
            have hrd := ev_ref21_Reduce (dataS dk) I (shiftS s (coefS ck).f (dataS dk).r)
            have hnew : redS (dataS dk) (shiftS s (coefS ck).f (dataS dk).r) = outF P Q (dataS dk) (coefS ck) (x :: (X.take i).reverse) y.reverse := by rw [outF, ← rev_take hx, s3]
            rw [hnew] at hrd
            (repeat' (first | (refine CmpP.go (fun hc => ?_) (fun hc => ?_) <;> first | (exfalso; omega) | (conv => whnf)) | (refine LenP.go ?_; conv => whnf) | (refine RowP.e1 ?_; conv => whnf) | (refine AKM.x ?_; conv => whnf) | (refine CallP.go (hsh) ?_; conv => whnf) | (refine CallP.go (hrd) ?_; conv => whnf)))
            all_goals (
              refine AppR.one (enc := encInt) _ rfl rfl rfl (by omega) (by omega) ?_
              (conv => whnf)
              (repeat' (refine OpP.add (by omega) ?_; conv => whnf))
              refine AKM.back [(22, 151)] (by (conv => whnf); exact ⟨rfl, rfl, rfl⟩) (ih (i + 1) _ (by omega) ⟨by omega, by simp [p2], ?_, ?_⟩)
              · intro v hv
                rcases List.mem_append.1 hv with h | h
                · exact p3 v h
                · rw [List.mem_singleton.1 h]; exact red_ok hdw _
              · rw [p4, drop_cons hx, recO, rev_take hx]; simp))
    · have hy : recO P Q (dataS dk) (coefS ck) [] [] X = y := by rw [p4, List.drop_of_length_le (by omega), recO, List.append_nil]
      have hy1 : ([] ++ recO P Q (dataS dk) (coefS ck) [] [] X).length < 9223372036854775808 := by rw [List.nil_append, hy]; omega
      have hy2 : y.length < 9223372036854775808 := by omega
      (repeat' (first | (refine CmpP.go (fun hc => ?_) (fun hc => ?_) <;> first | (exfalso; omega) | (conv => whnf)) | (refine LenP.go ?_; conv => whnf) | (refine SnR.all (fun _ => rfl) rfl (by first | rfl | simp) ?_; conv => whnf) | (refine AKM.x ?_; conv => whnf) | (refine CallP.go (ev_law23_known I J R D) ?_; conv => whnf) | (refine CallP.b (ev_ref21_SameInts I _ _ _ _ hy1 hy2) (fun hf => ?_) (fun hf => ?_) <;> (conv => whnf))))
      · exact FinP.b rfl
      · exact absurd (by rw [List.nil_append, hy]) hf
      · exact absurd rfl hc
  · (repeat' (first | (refine CmpP.go (fun hc => ?_) (fun hc => ?_) <;> first | (exfalso; omega) | (conv => whnf)) | (refine LenP.go ?_; conv => whnf) | (refine AKM.x ?_; conv => whnf) | (refine CallP.go (ev_law23_known I J R D) ?_; conv => whnf)))
    exact FinP.b rfl
end Go.Eng

/-
  Direct forms without a denominator, with coefficients that are multiples of the unit: as long as nothing overflows, all are exact (plain law).
-/
namespace Go.Eng
/-- the exact outputs -/
def exO (c : List Int) : List Int → List Int → List Int
  | _, [] => []
  | rx, x :: xs => dot c (x :: rx) :: exO c (x :: rx) xs
theorem exO_len (c : List Int) : ∀ (xs rx : List Int), (exO c rx xs).length = xs.length
  | [], _ => rfl
  | x :: xs, rx => by simp [exO, exO_len c xs]
def scl (u : Int) (l : List Int) : List Int := l.map fun v => u * v
theorem scl_len (u : Int) (l : List Int) : (scl u l).length = l.length := by simp [scl]
theorem dot_scl (u : Int) : ∀ (c l : List Int), dot (scl u c) l = u * dot c l
  | [], l => by simp [scl, dot]
  | _ :: _, [] => by simp [scl, dot]
  | e :: c, v :: l => by
    have := dot_scl u c l
    simp only [scl, List.map_cons, dot] at this ⊢
    rw [this, Int.mul_add, Int.mul_assoc]
theorem dot_scr (u : Int) : ∀ (c l : List Int), dot c (scl u l) = u * dot c l
  | [], l => by simp [scl, dot]
  | _ :: _, [] => by simp [scl, dot]
  | e :: c, v :: l => by
    have := dot_scr u c l
    simp only [scl, List.map_cons, dot] at this ⊢
    rw [this, Int.mul_add, Int.mul_left_comm]
theorem exO_scl (u : Int) (c : List Int) : ∀ (xs rx : List Int), exO c (scl u rx) (scl u xs) = scl u (exO c rx xs)
  | [], rx => rfl
  | x :: xs, rx => by
    have := exO_scl u c xs (x :: rx)
    have h := dot_scr u c (x :: rx)
    simp only [scl, List.map_cons, exO] at this h ⊢
    rw [this, h]
theorem shift_exact {f r : Int} (hf : 0 ≤ f ∧ f ≤ 62) (hr : 1 ≤ r ∧ r ≤ 3) (m : Int) : shiftS (pw f * m) f r = m := by
  have hp := pw_pos f
  have e1 : pw f * m % pw f = 0 := Int.mul_emod_right _ _
  have e2 : pw f * m / pw f = m := Int.mul_ediv_cancel_left _ (by omega)
  unfold shiftS
  rw [if_pos ⟨hf.1, hf.2, hr.1, hr.2⟩]
  by_cases h0 : f = 0
  · rw [if_pos h0, h0, pw_zero, Int.one_mul]
  · rw [if_neg h0, if_neg (by rw [e1]; have := pw_pos (f - 1); omega), e2]
theorem red_id {w : Wd} {v : Int} (h : FT w v) : redS w v = v := by
  obtain ⟨hw, h1, h2⟩ := h
  obtain ⟨e1, e2, e3, e4⟩ := low_high hw
  have hw' := hw
  unfold WV at hw'
  unfold redS
  rw [if_pos hw]
  by_cases ho : w.o = 2
  · rw [if_pos ho]
    have hp := pw_succ (n := w.b) (by omega)
    unfold wrapS
    rw [if_pos (by omega)]
    by_cases hn : 0 ≤ v
    · rw [Int.emod_eq_of_lt hn (by omega), if_neg (by omega)]
    · have : v % pw w.b = v + pw w.b := by
        rw [← Int.add_emod_right]; exact Int.emod_eq_of_lt (by omega) (by omega)
      rw [this, if_pos (by omega)]; omega
  · rw [if_neg ho]
    unfold satS
    omega
theorem comp_flag (n : Nt) : ∀ (l : List Nd) (vals : List Int), (compS n vals true l).2 = true
  | [], _ => rfl
  | nd :: l, vals => by rw [compS, Bool.true_or]; exact comp_flag n l _
/-- a node without an overflow -/
theorem comp_fine {n : Nt} {vals : List Int} {nd : Nd} {l : List Nd} (h : (compS n vals false (nd :: l)).2 = false) : FT n.d (nodeS n vals nd) ∧ compS n vals false (nd :: l) = compS n (vals ++ [nodeS n vals nd]) false l := by
  rw [compS, Bool.false_or] at h ⊢
  by_cases hf : FT n.d (nodeS n vals nd)
  · rw [red_id hf, decide_eq_true hf] at *
    exact ⟨hf, rfl⟩
  · rw [decide_eq_false hf, Bool.not_false, comp_flag] at h
    cases h
theorem run_exact {n : Nt} {c : List Int} (P : List Int → List Int → Prop) (hs : ∀ rx st x, P rx st → FT n.d x → (compS n (x :: st) false n.nodes).2 = false → (compS n (x :: st) false n.nodes).1.getD n.out.toNat 0 = dot c (x :: rx) ∧ P (x :: rx) (follS n (compS n (x :: st) false n.nodes).1)) :
    ∀ (xs rx st outs : List Int) (k : Int), (∀ v ∈ xs, FT n.d v) → P rx st → (runA n outs st k xs).2.2 = k → (runA n outs st k xs).1 = outs ++ exO c rx xs
  | [], rx, st, outs, k, _, _, _ => by simp [runA, exO]
  | x :: xs, rx, st, outs, k, h1, h2, h3 => by
    have hx := h1 x (by simp)
    rw [runA] at h3 ⊢
    have hc := runA_cnt n xs (outs ++ [(compS n (x :: st) false n.nodes).1.getD n.out.toNat 0]) (follS n (compS n (x :: st) false n.nodes).1) (if (compS n (x :: st) false n.nodes).2 then k + 1 else k)
    cases hf : (compS n (x :: st) false n.nodes).2
    · rw [hf] at hc h3
      simp only [Bool.false_eq_true, if_false] at h3 hc ⊢
      obtain ⟨e1, e2⟩ := hs rx st x h2 hx hf
      rw [run_exact P hs xs (x :: rx) _ _ k (fun v h => h1 v (List.mem_cons_of_mem _ h)) e2 h3, e1, exO]
      simp
    · rw [hf] at hc h3
      simp only [if_true] at hc h3
      omega
/-! the first form -/
variable {d c : Wd} {p : List Int}
theorem scl_nil_dot (l : List Int) : dot ([] : List Int) l = 0 := by simp [dot]
theorem one_exact (hd : WV d) (hc : WV c) (l1 : 1 ≤ p.length ∧ p.length ≤ 49) (hb : ∀ v ∈ scl (pw c.f) p, FT c v) (xs : List Int) (hx : ∀ v ∈ xs, FT d v) (h : (runA (formOneS (scl (pw c.f) p) [] d c) [] (List.replicate (p.length - 1) 0) 0 xs).2.2 = 0) :
    (runA (formOneS (scl (pw c.f) p) [] d c) [] (List.replicate (p.length - 1) 0) 0 xs).1 = exO p [] xs := by
  have hl := scl_len (pw c.f) p
  have hf := hc
  unfold WV at hf
  have hfd := hd
  unfold WV at hfd
  refine run_exact (n := formOneS (scl (pw c.f) p) [] d c) (c := p) (fun rx st => (∀ v ∈ rx, FT d v) ∧ st = stF (scl (pw c.f) p) [] rx []) ?_ xs [] _ [] 0 hx ⟨by simp, by simp [stF, win, hl]⟩ h
  rintro rx st x ⟨hrx, rfl⟩ hx hfl
  have e0 : stF (scl (pw c.f) p) [] rx [] = stF (scl (pw c.f) p) [] rx [] := rfl
  obtain ⟨e1, e2, e3⟩ := form_step (b := scl (pw c.f) p) (a := []) hd hc (by omega) (by simp) hb (by simp) x rx [] hx hrx (by simp)
  rw [e3] at hfl
  have hft : FT d (shiftS (dot (scl (pw c.f) p) (x :: rx) - dot [] []) c.f d.r) := by simpa using hfl
  have hv : shiftS (dot (scl (pw c.f) p) (x :: rx) - dot [] []) c.f d.r = dot p (x :: rx) := by
    rw [scl_nil_dot, Int.sub_zero, dot_scl, shift_exact (by omega) (by omega)]
  refine ⟨?_, by simpa using ⟨hx, hrx⟩, ?_⟩
  · rw [e1, outF, red_id hft, hv]
  · rw [e2]; simp [stF, win]
end Go.Eng

/-
  Law 23: DirectScales.
-/
namespace Go.Eng
open F
attribute [local irreducible] AKM CmpP Req OpP UnP ConvP RdP LdR StR MkR LenP AppR AppN CpyR RowP SnR Bds SlS CallP CalP FinP pw LdM GetM SetM PutM MkM AppM SnM
set_option maxHeartbeats 1000000
variable {L : Lib}
/-- coefficients made of numbers: 0 or minus one unit -/
def negS (b : List Int) (n : Nat) : List Int := (List.range n).map fun i : Nat => -withS (atS b i) 2
theorem negS_len (b : List Int) (n : Nat) : (negS b n).length = n := by simp [negS]
theorem negS_mem {b : List Int} {n : Nat} {v : Int} (h : v ∈ negS b n) : v = 0 ∨ v = -1 := by
  simp only [negS, List.mem_map] at h
  obtain ⟨i, _, rfl⟩ := h
  have := with_range (v := atS b i) (m := 2) (by omega)
  omega
theorem coef_f (k : Int) : (coefS k).f ≤ (coefS k).b - 2 := by
  have hr := with_range (v := k) (m := 1099511627776) (by omega)
  have h1 : 0 ≤ withS k 1099511627776 % (9 - 6 + 1) := Int.emod_nonneg _ (by omega)
  simp only [coefS, wordS]
  generalize withS k 1099511627776 / (9 - 6 + 1) = d
  omega
theorem neg_FT (ck : Int) (b : List Int) (n : Nat) : ∀ v ∈ scl (pw (coefS ck).f) (negS b n), FT (coefS ck) v := by
  intro v hv
  obtain ⟨hw, h6, h9⟩ := coef_ok ck
  obtain ⟨e1, e2, e3, e4⟩ := low_high hw
  have hf := coef_f ck
  have hp := pw_le (n := (coefS ck).f) (m := (coefS ck).b - 1) (by omega)
  have hp1 := pw_pos (coefS ck).f
  simp only [scl, List.mem_map] at hv
  obtain ⟨u, hu, rfl⟩ := hv
  rcases negS_mem hu with rfl | rfl
  · exact ⟨hw, by omega, by omega⟩
  · exact ⟨hw, by omega, by omega⟩
theorem small_FT {dk : Int} {v : Int} (h : -31 ≤ v ∧ v ≤ 31) : FT (dataS dk) v := by
  obtain ⟨hw, h6, h9⟩ := data_ok dk
  obtain ⟨e1, e2, e3, e4⟩ := low_high hw
  have hp := pw_le (n := 5) (m := (dataS dk).b - 1) (by omega)
  have e : pw 5 = 32 := by unfold pw; rfl
  exact ⟨hw, by omega, by omega⟩
theorem below_rng {m : Int} (hm : 0 ≤ m) {l : List Int} {n : Nat} {v : Int} (h : v ∈ belowS m l n) : -m ≤ v ∧ v ≤ m := by
  simp only [belowS, List.mem_map] at h
  obtain ⟨i, _, rfl⟩ := h
  exact toB_range hm _
theorem one_wrong {P : List Int} {d c : Wd} (hd : WV d) (hP : 1 ≤ P.length) {X : List Int} (hX : ∀ v ∈ X, FT d v) : wrongS (formOneS P [] d c) (List.replicate (P.length - 1) 0) X = 0 := by
  rw [wrong_zero]
  refine ⟨by simp [formOneS], ?_, ?_⟩
  · simp only [wordsB, List.all_eq_true, decide_eq_true_eq]
    intro v hv
    rw [(List.mem_replicate.1 hv).2]
    exact FT_zero hd
  · simp only [wordsB, List.all_eq_true, decide_eq_true_eq]
    exact hX
theorem recO_words {P Q : List Int} {d c : Wd} (hd : WV d) : ∀ (xs rx ry : List Int), ∀ v ∈ recO P Q d c rx ry xs, FT d v
  | [], _, _ => by simp [recO]
  | x :: xs, rx, ry => by
    intro v hv
    rw [recO] at hv
    rcases List.mem_cons.1 hv with rfl | h
    · exact red_ok hd _
    · exact recO_words hd xs _ _ v h
theorem ev_law23_DirectScales (I : FixedLib L) (J : NetLib L) (W : WorldLib L) (R : RunGLib L) (D : DirectGLib L) (E : LawDLib L) (dk ck : Int) (h1 : InI dk) (h2 : InI ck) (b ins : List Int) (q1 q3 : Bool) (hb : b.length < 9223372036854775808) (hbI : allI b) :
    Ev L 56 [.int .i64 dk, .int .i64 ck, .sl q1 (b.map encInt), .sl q3 (ins.map encInt)] (.bool true) := by
  refine Ev.x E.law23_DirectScales rfl rfl ?_
  by_cases h30 : ins.length ≤ 30
  · obtain ⟨hdw, hd1, hd2⟩ := data_ok dk
    obtain ⟨hcw, hc1, hc2⟩ := coef_ok ck
    have hcw' := hcw
    unfold WV at hcw'
    have hpu : pw (coefS ck).f ≤ 8388608 := by
      have := pw_le (n := (coefS ck).f) (m := 23) (by omega)
      have e : pw 23 = 8388608 := by unfold pw; rfl
      omega
    have hpp := pw_pos (coefS ck).f
    have hk1 := with_range (v := (b.length : Int)) (m := 4) (by omega)
    have eu := ev_world_Unit W (coefS ck) hcw
    have ex := fun q => ev_world_Below W 2 (by omega) ins q ins.length (by omega)
    have w1 := ev_world_Within W b.length 4 (by unfold InI; omega) (by omega)
    have hX : ∀ v ∈ belowS 2 ins ins.length, -2 ≤ v ∧ v ≤ 2 := fun v h => below_rng (by omega) h
    have lX : (belowS 2 ins ins.length).length = ins.length := by simp [belowS]
    generalize belowS 2 ins ins.length = X at *
    (repeat' (first | (refine CmpP.go (fun hc => ?_) (fun hc => ?_) <;> first | (exfalso; omega) | (conv => whnf)) | (refine LenP.go ?_; conv => whnf) | (refine AKM.x ?_; conv => whnf) | (refine CallP.go (ev_world_Data W dk h1) ?_; conv => whnf) | (refine CallP.go (ev_world_Coef W ck h2) ?_; conv => whnf)))
    refine AKM.loop2 (fun i _ => (1 + withS b.length 4).toNat - i) (fun (i : Nat) (o : List Int) => i ≤ (1 + withS b.length 4).toNat ∧ o.length = i ∧ o = scl (pw (coefS ck).f) (negS b i)) (fun i o => [(11, .row 11 0 1 0 o.length), (12, .int .i64 i)]) (fun i o => [(11, 11, .rw 1 (o.map encInt))]) [] [] 0 [] (by (conv => whnf); exact ⟨rfl, rfl, rfl⟩) ⟨by omega, rfl, rfl⟩ ?_
    intro i o ⟨p1, p2, p3⟩ ih
    have hat : InI (atS b i) := by
      unfold atS
      by_cases h : 0 ≤ (i : Int) ∧ (i : Int) < b.length
      · rw [if_pos h, List.getD_eq_getElem?_getD, Int.toNat_natCast, List.getElem?_eq_getElem (by omega)]
        exact hbI _ (List.getElem_mem _)
      · rw [if_neg h]; unfold InI; omega
    have wr := with_range (v := atS b i) (m := 2) (by omega)
    (repeat' (first | (refine CmpP.go (fun hc => ?_) (fun hc => ?_) <;> first | (exfalso; omega) | (conv => whnf)) | (refine OpP.add (by omega) ?_; conv => whnf) | (refine OpP.wmul ?_; conv => whnf) | (refine UnP.neg (by omega) ?_; conv => whnf) | (refine LenP.go ?_; conv => whnf) | (refine RowP.e1 ?_; conv => whnf) | (refine AKM.x ?_; conv => whnf) | (refine CallP.go (w1) ?_; conv => whnf) | (refine CallP.go (eu) ?_; conv => whnf) | (refine CallP.go (ev_world_At W b _ _) ?_; conv => whnf) | (refine CallP.go (ev_world_Within W _ _ hat (by omega)) ?_; conv => whnf)))
    · have hv : IntKind.i64.wrap (-pw (coefS ck).f * withS (atS b i) 2) = pw (coefS ck).f * -withS (atS b i) 2 := by
        rw [Int.neg_mul_comm]
        rcases (show withS (atS b i) 2 = 0 ∨ withS (atS b i) 2 = 1 by omega) with e | e <;> rw [e] <;> exact IntWalk.i64_in _ (by omega)
      refine AppR.one (enc := encInt) _ rfl rfl rfl (by omega) (by omega) ?_
      (conv => whnf)
      (repeat' (refine OpP.add (by omega) ?_; conv => whnf))
      refine AKM.back [(11, 53)] (by (conv => whnf); exact ⟨rfl, rfl, rfl⟩) (ih (i + 1) _ (by omega) ⟨by omega, by simp [p2], ?_⟩)
      rw [negS, range_snoc, scl, List.map_append, hv, p3]; rfl
    · have hi : i = (1 + withS b.length 4).toNat := by omega
      have lP : (scl (pw (coefS ck).f) (negS b i)).length = i := by rw [scl_len, negS_len]
      have hP := neg_FT ck b i
      have lN : (negS b i).length = i := negS_len b i
      clear ih
      generalize negS b i = N at *
      clear hi
      subst p3
      (repeat' (refine CallP.go (ex _) ?_; conv => whnf))
      refine AKM.loop2 (fun i _ => X.length - i) (fun (k : Nat) (o : List Int) => k ≤ X.length ∧ o.length = k ∧ o = scl 2 (X.take k)) (fun i o => [(14, .row 14 0 1 0 o.length), (15, .int .i64 i)]) (fun i o => [(14, 14, .rw 1 (o.map encInt))]) [] [] 0 [] (by (conv => whnf); exact ⟨rfl, rfl, rfl⟩) ⟨by omega, rfl, rfl⟩ ?_
      intro k o ⟨s1, s2, s3⟩ ih
      by_cases hk : k < X.length
      · obtain ⟨x, hx⟩ : ∃ x, X[k]? = some x := ⟨_, List.getElem?_eq_getElem hk⟩
        have hxr := hX x (List.mem_of_getElem? hx)
        (repeat' (first | (refine CmpP.go (fun hc => ?_) (fun hc => ?_) <;> first | (exfalso; omega) | (conv => whnf)) | (refine OpP.mul (by omega) ?_; conv => whnf) | (refine LenP.go ?_; conv => whnf) | (refine RdP.at (by assumption) (by omega) rfl ?_; conv => whnf) | (refine RowP.e1 ?_; conv => whnf) | (refine AKM.x ?_; conv => whnf)))
        refine AppR.one (enc := encInt) _ rfl rfl rfl (by omega) (by omega) ?_
        (conv => whnf)
        (repeat' (refine OpP.add (by omega) ?_; conv => whnf))
        refine AKM.back [(14, 71)] (by (conv => whnf); exact ⟨rfl, rfl, rfl⟩) (ih (k + 1) _ (by omega) ⟨by omega, by simp [s2], ?_⟩)
        rw [List.take_add_one, hx, s3]; simp [scl]
      · rw [List.take_of_length_le (by omega)] at s3
        subst s3
        clear ih
        have lY := scl_len 2 X
        have hX1 : ∀ v ∈ X, FT (dataS dk) v := fun v h => small_FT (by have := hX v h; omega)
        have hX2 : ∀ v ∈ scl 2 X, FT (dataS dk) v := by
          intro v h
          simp only [scl, List.mem_map] at h
          obtain ⟨u, hu, rfl⟩ := h
          exact small_FT (by have := hX u hu; omega)
        have ef := fun q => ev_direct_FIR I D (scl (pw (coefS ck).f) N) q (dataS dk) (coefS ck) hdw hcw (by omega) hP
        have hnet := form_net (b := scl (pw (coefS ck).f) N) (a := []) hdw hcw (by omega) (by simp) hP (by simp)
        have e1 := fun q q' => ev_network_Run (formOneS (scl (pw (coefS ck).f) N) [] (dataS dk) (coefS ck)) I J R (List.replicate (N.length - 1) 0) X q q' (by simp; omega) (by omega)
        have e2 := fun q q' => ev_network_Run (formOneS (scl (pw (coefS ck).f) N) [] (dataS dk) (coefS ck)) I J R (List.replicate (N.length - 1) 0) (scl 2 X) q q' (by simp; omega) (by omega)
        have hw1 := one_wrong (P := scl (pw (coefS ck).f) N) (c := coefS ck) hdw (by omega) hX1
        have hw2 := one_wrong (P := scl (pw (coefS ck).f) N) (c := coefS ck) hdw (by omega) hX2
        rw [lP, ← lN] at hw1 hw2
        rw [rrS_ok _ hnet (by omega) hw1] at e1
        rw [rrS_ok _ hnet (by omega) hw2] at e2
        have x1 := one_exact (p := N) hdw hcw (by omega) hP X hX1
        have x2 := one_exact (p := N) hdw hcw (by omega) hP (scl 2 X) hX2
        have c1 := runA_cnt (formOneS (scl (pw (coefS ck).f) N) [] (dataS dk) (coefS ck)) X [] (List.replicate (N.length - 1) 0) 0
        have c2 := runA_cnt (formOneS (scl (pw (coefS ck).f) N) [] (dataS dk) (coefS ck)) (scl 2 X) [] (List.replicate (N.length - 1) 0) 0
        have l1 := runA_len (formOneS (scl (pw (coefS ck).f) N) [] (dataS dk) (coefS ck)) X [] (List.replicate (N.length - 1) 0) 0
        have l2 := runA_len (formOneS (scl (pw (coefS ck).f) N) [] (dataS dk) (coefS ck)) (scl 2 X) [] (List.replicate (N.length - 1) 0) 0
        have x3 := exO_scl 2 N X []
        rw [show scl 2 [] = [] from rfl] at x3
        rw [x3] at x2
        have hr1 : ∀ v ∈ (runA (formOneS (scl (pw (coefS ck).f) N) [] (dataS dk) (coefS ck)) [] (List.replicate (N.length - 1) 0) 0 X).1, FT (dataS dk) v := by
          rw [lN, ← lP, show List.replicate ((scl (pw (coefS ck).f) N).length - 1) 0 = stF (scl (pw (coefS ck).f) N) [] [] [] by simp [stF, win], form_run hdw hcw (by omega) (by simp) hP (by simp) X [] [] [] 0 hX1 (by simp) (by simp)]
          intro v hv
          rw [List.nil_append] at hv
          exact recO_words hdw X [] [] v hv
        generalize runA (formOneS (scl (pw (coefS ck).f) N) [] (dataS dk) (coefS ck)) [] (List.replicate (N.length - 1) 0) 0 X = U at *
        generalize runA (formOneS (scl (pw (coefS ck).f) N) [] (dataS dk) (coefS ck)) [] (List.replicate (N.length - 1) 0) 0 (scl 2 X) = V at *
        obtain ⟨U1, U2, U3⟩ := U
        obtain ⟨V1, V2, V3⟩ := V
        simp only at *
        (repeat' (first | (refine CmpP.go (fun hc => ?_) (fun hc => ?_) <;> first | (exfalso; omega) | (conv => whnf)) | (refine OpP.sub (by omega) ?_; conv => whnf) | (refine LenP.go ?_; conv => whnf) | (refine SnR.all (fun _ => rfl) rfl (by first | rfl | simp) ?_; conv => whnf) | (refine AKM.x ?_; conv => whnf) | (refine CallP.go (ef _) ?_; conv => whnf)))
        refine MkR.go (enc := encInt) 0 (N.length - 1) rfl (by omega) (by omega) ?_
        (conv => whnf)
        (repeat' (first | (refine OpP.sub (by omega) ?_; conv => whnf) | (refine SnR.all (fun _ => rfl) rfl (by first | rfl | simp) ?_; conv => whnf) | (refine CallP.go (e1 _ _) ?_; conv => whnf)))
        refine MkR.go (enc := encInt) 0 (N.length - 1) rfl (by omega) (by omega) ?_
        (conv => whnf)
        (repeat' (first | (refine CmpP.go (fun hc => ?_) (fun hc => ?_) <;> first | (exfalso; omega) | (conv => whnf)) | (refine LenP.go ?_; conv => whnf) | (refine SnR.all (fun _ => rfl) rfl (by first | rfl | simp) ?_; conv => whnf) | (refine CallP.go (e2 _ _) ?_; conv => whnf)))
        clear ef e1 e2 hw1 hw2 ex eu w1
        rw [List.length_nil] at l1 l2
        refine AKM.loop1 (fun i => U1.length - i) (fun (i : Nat) => i ≤ U1.length) (fun i => [(26, .int .i64 i)]) (fun _ => []) [] [] 0 (by (conv => whnf); exact ⟨rfl, rfl, rfl⟩) (by omega) ?_
        intro j t1 ih
        by_cases hj : j < U1.length
        · obtain ⟨u, hu⟩ : ∃ u, U1[j]? = some u := ⟨_, List.getElem?_eq_getElem hj⟩
          have hur := FT_le (hr1 u (List.mem_of_getElem? hu))
          have hv2 : U3 + V3 = 0 → V1[j]? = some (2 * u) := by
            intro h
            rw [x2 (by omega), scl, List.getElem?_map, ← x1 (by omega), hu]; rfl
          (repeat' (first | (refine CmpP.go (fun hc => ?_) (fun hc => ?_) <;> first | (exfalso; omega) | (conv => whnf)) | (refine OpP.add (by omega) ?_; conv => whnf) | (refine OpP.mul (by omega) ?_; conv => whnf) | (refine LenP.go ?_; conv => whnf) | (refine RdP.at (by assumption) (by omega) rfl ?_; conv => whnf) | (refine RdP.nat (by omega) (fun _ => rfl) (fun e he => ?_); conv => whnf) | (refine AKM.x ?_; conv => whnf)))
          · rename_i hz _
            rw [hv2 (by omega)] at he
            exact absurd (by simpa using he) hc
          · exact AKM.back [] (by (conv => whnf); exact ⟨rfl, rfl, rfl⟩) (ih (j + 1) (by omega) (by omega))
          · exact AKM.back [] (by (conv => whnf); exact ⟨rfl, rfl, rfl⟩) (ih (j + 1) (by omega) (by omega))
        · (repeat' (first | (refine CmpP.go (fun hc => ?_) (fun hc => ?_) <;> first | (exfalso; omega) | (conv => whnf)) | (refine LenP.go ?_; conv => whnf) | (refine AKM.x ?_; conv => whnf) | (refine CallP.go (ev_law23_known I J R D) ?_; conv => whnf)))
          exact FinP.b rfl
  · (repeat' (first | (refine CmpP.go (fun hc => ?_) (fun hc => ?_) <;> first | (exfalso; omega) | (conv => whnf)) | (refine LenP.go ?_; conv => whnf) | (refine AKM.x ?_; conv => whnf) | (refine CallP.go (ev_law23_known I J R D) ?_; conv => whnf)))
    exact FinP.b rfl
end Go.Eng

/-
  Direct forms: FormTwo, Transposed.
-/
namespace Go.Eng
open F
attribute [local irreducible] AKM CmpP Req OpP UnP ConvP RdP LdR StR MkR LenP AppR AppN CpyR RowP SnR Bds SlS CallP CalP FinP pw LdM GetM SetM PutM MkM AppM SnM
set_option maxHeartbeats 1000000
variable {L : Lib}
def maxN (b a : List Int) : Nat := max (b.length - 1) a.length
def formTwoS (b a : List Int) (d c : Wd) : Nt :=
  ⟨d, c, (maxN b a : Int), false, [⟨false, rowD [pw c.f] 1 0 ++ rowD a (-1) 1⟩, ⟨false, rowD (b.take 1) 1 (maxN b a + 1) ++ rowD (b.drop 1) 1 1⟩], false, delayS (maxN b a) 1 (maxN b a + 1), maxN b a + 1 + 1⟩
theorem ev_direct_FormTwo (I : FixedLib L) (D : DirectGLib L) (b a : List Int) (q1 q2 : Bool) (d c : Wd) (hd : WV d) (hc : WV c) (l1 : 1 ≤ b.length ∧ b.length ≤ 49) (l2 : a.length ≤ 8) (hb : ∀ v ∈ b, FT c v) (ha : ∀ v ∈ a, FT c v ∧ FT c (-v)) :
    Ev L 51 [.sl q1 (b.map encInt), .sl q2 (a.map encInt), .agg (encW d), .agg (encW c)] (.tup [.agg (encN (formTwoS b a d c)), .int .i64 0]) := by
  have hw := fun q q' => ev_direct_wrong I D b a q q' d c hd hc l1 l2 hb ha
  have hc' := hc
  unfold WV at hc'
  have hpl := pw_le (n := c.f) (m := 23) (by omega)
  have hp23 : pw 23 = 8388608 := by unfold pw; rfl
  have hpp := pw_pos c.f
  have r1 := fun q => ev_direct_row D [pw c.f] q 1 0 (by simp) (Or.inl rfl) (by omega) (by simp; omega)
  have r2 := fun q => ev_direct_row D a q (-1) 1 (by omega) (Or.inr rfl) (by omega) (fun v hv => FT_rng hc (ha v hv).1)
  have r3 := fun q => ev_direct_row D (b.take 1) q 1 (maxN b a + 1) (by simp; omega) (Or.inl rfl) (by unfold maxN; omega) (fun v hv => FT_rng hc (hb v (List.mem_of_mem_take hv)))
  have r4 := fun q => ev_direct_row D (b.drop 1) q 1 1 (by simp; omega) (Or.inl rfl) (by omega) (fun v hv => FT_rng hc (hb v (List.mem_of_mem_drop hv)))
  have j1 := fun q q' q'' => ev_direct_join D [⟨q, rowD [pw c.f] 1 0⟩, ⟨q', rowD a (-1) 1⟩] q'' (by simp [joinD, rowD_len]; omega) (by simp)
  have j2 := fun q q' q'' => ev_direct_join D [⟨q, rowD (b.take 1) 1 (maxN b a + 1)⟩, ⟨q', rowD (b.drop 1) 1 1⟩] q'' (by simp [joinD, rowD_len]; omega) (by simp)
  generalize hF : delayS (maxN b a) 1 ((maxN b a : Int) + 1) = F
  have hFl : F.length = maxN b a := by rw [← hF]; simp [delayS]
  have hF1 : ∀ i : Nat, i < maxN b a → F[i]? = some (if i = 0 then ((maxN b a : Int) + 1) else 1 + i - 1) := fun i hi => by
    rw [← hF]; exact delayS_at hi
  have hmx : (maxN b a : Int) ≤ 1000 := by unfold maxN; omega
  refine Ev.x D.direct_FormTwo rfl rfl ?_
  (repeat' (first | (refine CmpP.go (fun hc => ?_) (fun hc => ?_) <;> first | (exfalso; omega) | (conv => whnf)) | (refine OpP.add (by omega) ?_; conv => whnf) | (refine OpP.sub (by omega) ?_; conv => whnf) | (refine LenP.go ?_; conv => whnf) | (refine AKM.x ?_; conv => whnf) | (refine CallP.go (hw _ _) ?_; conv => whnf)))
  all_goals first | rw [show (a.length : Int) = (maxN b a : Int) by unfold maxN; omega] | rw [show (b.length : Int) - 1 = (maxN b a : Int) by unfold maxN; omega]
  all_goals (
    generalize hmm : maxN b a = mx at *
    refine MkR.go (enc := encInt) 0 mx rfl rfl (by omega) ?_
    (conv => whnf)
    (repeat' (first | (refine OpP.add (by omega) ?_; conv => whnf) | (refine OpP.shl1 (by omega) (fun _ _ => ?_); conv => whnf) | (refine SnR.e1 rfl ?_; conv => whnf) | (refine SnR.e2 rfl rfl ?_; conv => whnf) | (refine CallP.go (r1 _) ?_; conv => whnf) | (refine CallP.go (r2 _) ?_; conv => whnf) | (refine CallP.go (j1 _ _ _) ?_; conv => whnf)))
    refine SlS.to (k := 1) (fun _ => rfl) (by omega) ?_
    (conv => whnf)
    (repeat' (refine CallP.go (r3 _) ?_; conv => whnf))
    refine SlS.off (k := 1) (fun _ => rfl) (by omega) ?_
    (conv => whnf)
    (repeat' (first | (refine SnR.e2 rfl rfl ?_; conv => whnf) | (refine CallP.go (r4 _) ?_; conv => whnf) | (refine CallP.go (j2 _ _ _) ?_; conv => whnf)))
    refine CalP.walk 1000 D.direct_delay rfl rfl ?_
    (repeat' (refine AKM.x ?_; conv => whnf))
    refine AKM.loop2 (fun i _ => mx - i) (fun (i : Nat) (o : List Int) => i ≤ mx ∧ o.length = F.length ∧ o.take i = F.take i) (fun i o => [(9, .int .i64 i)]) (fun i o => [(36, 36, .rw 1 (o.map encInt))]) [] [] 0 (List.replicate mx 0) (by (conv => whnf); exact ⟨rfl, rfl, rfl⟩) ⟨by omega, by simp [hFl], by simp⟩ ?_
    intro i o ⟨p1, p2, p3⟩ ih
    (repeat' (first | (refine CmpP.go (fun hc => ?_) (fun hc => ?_) <;> first | (exfalso; omega) | (conv => whnf)) | (refine Req.go (by omega) ?_; conv => whnf) | (refine OpP.add (by omega) ?_; conv => whnf) | (refine OpP.sub (by omega) ?_; conv => whnf) | (refine AKM.x ?_; conv => whnf)))
    · obtain ⟨f1, f2⟩ := fill_step p2 p3 (hF1 i (by omega))
      refine StR.at i (if i = 0 then ((mx : Int) + 1) else 1 + i - 1) (by omega) (by rw [if_pos (by omega)]) (fun _ => rfl) (by omega) ?_
      (conv => whnf)
      (repeat' (refine OpP.add (by omega) ?_; conv => whnf))
      exact AKM.back [] (by (conv => whnf); exact ⟨rfl, rfl, rfl⟩) (ih (i + 1) _ (by omega) ⟨by omega, f1, f2⟩)
    · obtain ⟨f1, f2⟩ := fill_step p2 p3 (hF1 i (by omega))
      refine StR.at i (if i = 0 then ((mx : Int) + 1) else 1 + i - 1) (by omega) (by rw [if_neg (by omega)]) (fun _ => rfl) (by omega) ?_
      (conv => whnf)
      (repeat' (refine OpP.add (by omega) ?_; conv => whnf))
      exact AKM.back [] (by (conv => whnf); exact ⟨rfl, rfl, rfl⟩) (ih (i + 1) _ (by omega) ⟨by omega, f1, f2⟩)
    have ho := fill_done p2 p3 (by omega)
    subst ho
    refine ⟨rfl, _, rfl, ?_⟩
    (conv => whnf)
    (repeat' (refine SnR.e2 rfl rfl ?_; conv => whnf))
    refine SnR.all (enc := encInt) (fun _ => rfl) rfl hFl.symm ?_
    (conv => whnf)
    refine FinP.go ?_ ?_
    · simp only [formTwoS, hF, hmm, List.map_cons, List.map_nil, joinD, List.flatMap_cons, List.flatMap_nil, List.append_nil]
      rfl
    · exact netE_clean (formTwoS b a d c) rfl rfl (by simp [formTwoS]))
end Go.Eng

/-
  Direct forms: Transposed.
-/
namespace Go.Eng
open F
attribute [local irreducible] AKM CmpP Req OpP UnP ConvP RdP LdR StR MkR LenP AppR AppN CpyR RowP SnR Bds SlS CallP CalP FinP pw LdM GetM SetM PutM MkM AppM SnM
set_option maxHeartbeats 1000000
variable {L : Lib}
theorem len_app2 {A B C : List (Int × Int)} (h : A.length ≤ 100) (h2 : B.length + C.length ≤ 1000) : (A ++ B).length + C.length ≤ 1000000 := by rw [List.length_append]; omega
theorem ev_join2 (D : DirectGLib L) (A B : List (Int × Int)) (q q1 q2 : Bool) (h : A.length + B.length ≤ 1000000) : Ev L 48 [.sl q [[.sl q1 (A.map encT)], [.sl q2 (B.map encT)]]] (.sl false ((A ++ B).map encT)) := by
  have := ev_direct_join D [⟨q1, A⟩, ⟨q2, B⟩] q (by simpa [joinD] using h) (by simp)
  simpa [joinD] using this
theorem ev_join1 (D : DirectGLib L) (B : List (Int × Int)) (q q1 q2 : Bool) (h : B.length ≤ 1000000) : Ev L 48 [.sl q [[.sl q1 []], [.sl q2 (B.map encT)]]] (.sl false (B.map encT)) := by
  have := ev_direct_join D [⟨q1, []⟩, ⟨q2, B⟩] q (by simpa [joinD] using h) (by simp)
  rw [show joinD [⟨q1, []⟩, ⟨q2, B⟩] = B by simp [joinD]] at this
  exact this
def trS (b a : List Int) (c : Wd) (mx k : Nat) : List (Int × Int) :=
  (if k < b.length then rowD ((b.take (k + 1)).drop k) 1 0 else []) ++ (if 1 ≤ k ∧ k ≤ a.length then rowD ((a.take k).drop (k - 1)) (-1) (mx + 1) else []) ++ (if k < mx then rowD [pw c.f] 1 (k + 1) else [])
def trN (b a : List Int) (c : Wd) (mx k : Nat) : List Nd := (List.range k).map fun i => ⟨false, trS b a c mx i⟩
def transS (b a : List Int) (d c : Wd) : Nt :=
  ⟨d, c, (maxN b a : Int), false, trN b a c (maxN b a) (maxN b a + 1), false, (List.range (maxN b a)).map fun i : Nat => (maxN b a : Int) + 1 + (i + 1 : Nat), maxN b a + 1⟩
theorem trN_snoc (b a : List Int) (c : Wd) (mx k : Nat) : trN b a c mx (k + 1) = trN b a c mx k ++ [⟨false, trS b a c mx k⟩] := range_snoc _ _
set_option maxHeartbeats 40000000 in
theorem ev_direct_Transposed (I : FixedLib L) (D : DirectGLib L) (b a : List Int) (q1 q2 : Bool) (d c : Wd) (hd : WV d) (hc : WV c) (l1 : 1 ≤ b.length ∧ b.length ≤ 49) (l2 : a.length ≤ 8) (hb : ∀ v ∈ b, FT c v) (ha : ∀ v ∈ a, FT c v ∧ FT c (-v)) :
    Ev L 52 [.sl q1 (b.map encInt), .sl q2 (a.map encInt), .agg (encW d), .agg (encW c)] (.tup [.agg (encN (transS b a d c)), .int .i64 0]) := by
  have hw := fun q q' => ev_direct_wrong I D b a q q' d c hd hc l1 l2 hb ha
  have hc' := hc
  unfold WV at hc'
  have hpl := pw_le (n := c.f) (m := 23) (by omega)
  have hp23 : pw 23 = 8388608 := by unfold pw; rfl
  have hpp := pw_pos c.f
  have hx1 : b.length ≤ maxN b a + 1 := by unfold maxN; omega
  have hx2 : a.length ≤ maxN b a := by unfold maxN; omega
  have hx3 : ∀ k, k ≤ maxN b a → k < b.length ∨ (1 ≤ k ∧ k ≤ a.length) := by unfold maxN; omega
  have ru := fun (q : Bool) (k : Nat) (hk : k ≤ 1000) => ev_direct_row D [pw c.f] q 1 (k + 1) (by simp) (Or.inl rfl) (by omega) (by simp; omega)
  have rb := fun (q : Bool) (i j : Nat) => ev_direct_row D ((b.take j).drop i) q 1 0 (by simp; omega) (Or.inl rfl) (by omega) (fun v hv => FT_rng hc (hb v (List.mem_of_mem_take (List.mem_of_mem_drop hv))))
  have hmx : (maxN b a : Int) ≤ 1000 := by unfold maxN; omega
  have ra := fun (q : Bool) (i j : Nat) => ev_direct_row D ((a.take j).drop i) q (-1) (maxN b a + 1) (by simp; omega) (Or.inr rfl) (by omega) (fun v hv => FT_rng hc (ha v (List.mem_of_mem_take (List.mem_of_mem_drop hv))).1)
  have hS : transS b a d c = ⟨d, c, (maxN b a : Int), false, trN b a c (maxN b a) (maxN b a + 1), false, (List.range (maxN b a)).map fun i : Nat => (maxN b a : Int) + 1 + (i + 1 : Nat), maxN b a + 1⟩ := rfl
  have hcl := netE_clean (transS b a d c) rfl rfl (by simp [transS, trN])
  refine Ev.x D.direct_Transposed rfl rfl ?_
  (repeat' (first | (refine CmpP.go (fun hc => ?_) (fun hc => ?_) <;> first | (exfalso; omega) | (conv => whnf)) | (refine OpP.add (by omega) ?_; conv => whnf) | (refine OpP.sub (by omega) ?_; conv => whnf) | (refine LenP.go ?_; conv => whnf) | (refine AKM.x ?_; conv => whnf) | (refine CallP.go (hw _ _) ?_; conv => whnf)))
  all_goals first | rw [show (a.length : Int) = (maxN b a : Int) by unfold maxN; omega] | rw [show (b.length : Int) - 1 = (maxN b a : Int) by unfold maxN; omega]
  all_goals (
    generalize maxN b a = mx at *
    generalize hF : ((List.range mx).map fun i : Nat => (mx : Int) + 1 + (i + 1 : Nat)) = F at *
    have hFl : F.length = mx := by rw [← hF]; simp
    have hF1 : ∀ i : Nat, i < mx → F[i]? = some ((mx : Int) + 1 + (i + 1 : Nat)) := fun i hi => by
      rw [← hF, List.getElem?_map, List.getElem?_range hi]; rfl
    refine MkR.go (enc := encInt) 0 mx rfl rfl (by omega) ?_
    (conv => whnf)
    (repeat' (first | (refine OpP.add (by omega) ?_; conv => whnf) | (refine OpP.shl1 (by omega) (fun _ _ => ?_); conv => whnf)))
    refine AKM.loop4 (fun k _ _ _ => mx + 1 - k) (fun (k : Nat) (ns : List Nd) (o : List Int) (fl : Bool) => k ≤ mx + 1 ∧ ns = trN b a c mx k ∧ fl = decide (k = 0) ∧ o.length = F.length ∧ o.take (k - 1) = F.take (k - 1)) (fun k ns o fl => [(47, .int .i64 k)]) (fun k ns o fl => bif fl then [(38, 38, .rw 1 (o.map encInt))] else [(13, 13, .bx [.int .i64 d.b, .int .i64 d.f, .int .i64 d.r, .int .i64 d.o, .int .i64 c.b, .int .i64 c.f, .int .i64 c.r, .int .i64 c.o, .int .i64 mx, .row 1000 0 1 0 ns.length, .row 38 0 1 0 mx, .int .i64 (mx + 1)]), (1000, 106, .rw 1 (ns.map encNd)), (38, 38, .rw 1 (o.map encInt))]) [] [] 0 [] (List.replicate mx 0) true (by (conv => whnf); exact ⟨rfl, rfl, rfl⟩) ⟨by omega, rfl, rfl, by simp [hFl], by simp⟩ ?_
    intro k ns o fl ⟨p1, p2, p3, p4, p5⟩ ih
    by_cases hk : k ≤ mx
    · have hkk := hx3 k hk
      have hts : trS b a c mx k = (if k < b.length then rowD ((b.take (k + 1)).drop k) 1 0 else []) ++ (if 1 ≤ k ∧ k ≤ a.length then rowD ((a.take k).drop (k - 1)) (-1) (mx + 1) else []) ++ (if k < mx then rowD [pw c.f] 1 (k + 1) else []) := rfl
      have rb1 := fun q => rb q (k : Int).toNat ((k : Int) + 1).toNat
      have ra1 := fun q => ra q ((k : Int) - 1).toNat (k : Int).toNat
      have ru1 := fun q => ru q k (by omega)
      have e1 : ((k : Int) + 1).toNat = k + 1 := by omega
      have e2 : (k : Int).toNat = k := by omega
      have e3 : ((k : Int) - 1).toNat = k - 1 := by omega
      have hln : (trN b a c mx k).length = k := by simp [trN]
      have hl1 := rowD_len (List.drop (k : Int).toNat (List.take ((k : Int) + 1).toNat b)) 1 0
      have hl2 := rowD_len (List.drop ((k : Int) - 1).toNat (List.take (k : Int).toNat a)) (-1) (mx + 1)
      have hl3 := rowD_len [pw c.f] 1 (k + 1)
      simp only [List.length_drop, List.length_take, List.length_cons, List.length_nil] at hl1 hl2 hl3
      have hnl : ns.length = k := by rw [p2]; exact hln
      have hE : ∀ X, X = trS b a c mx k → [AV.sl false (X.map encT)] = encNd ⟨false, trS b a c mx k⟩ := fun X h => by rw [h]
      cases fl
      · have hk1 : 1 ≤ k := by
          rcases k with _ | k
          · simp at p3
          · omega
        (repeat' (first | (refine CmpP.go (fun hc => ?_) (fun hc => ?_) <;> first | (exfalso; omega) | (conv => whnf)) | (refine Req.go (by omega) ?_; conv => whnf) | (refine OpP.add (by omega) ?_; conv => whnf) | (refine OpP.sub (by omega) ?_; conv => whnf) | (refine LenP.go ?_; conv => whnf) | (refine SlS.go (fun _ => rfl) (Bds.ss (by omega) ?_); conv => whnf) | (refine SnR.e1 rfl ?_; conv => whnf) | (refine SnR.e2 rfl rfl ?_; conv => whnf) | (refine SnR.n2 rfl ?_; conv => whnf) | (refine AKM.x ?_; conv => whnf) | (refine CallP.go (rb1 _) ?_; conv => whnf) | (refine CallP.go (ra1 _) ?_; conv => whnf) | (refine CallP.go (ru1 _) ?_; conv => whnf) | (refine CallP.go (ev_join1 D _ _ _ _ (by omega)) ?_; conv => whnf) | (refine CallP.go (ev_join2 D _ _ _ _ _ (by first | omega | exact len_app2 (by omega) (by omega))) ?_; conv => whnf)))
        all_goals (
          obtain ⟨f1, f2⟩ := fill_step (i := k - 1) p4 p5 (hF1 (k - 1) (by omega))
          refine StR.at (k - 1) ((mx : Int) + 1 + ((k - 1 + 1 : Nat) : Int)) (by omega) (by rw [show k - 1 + 1 = k by omega]) (fun _ => rfl) (by omega) ?_
          (conv => whnf)
          (repeat' (refine RowP.e1 ?_; conv => whnf))
          refine AppR.one (enc := encNd) ⟨false, trS b a c mx k⟩ (hE _ ?_) rfl rfl (by omega) (by omega) ?_
          · rw [hts]
            split <;> split <;> split <;> first | (exfalso; omega) | simp only [List.append_nil, List.nil_append, List.append_assoc, e1, e2, e3]
          · (conv => whnf)
            (repeat' (refine OpP.add (by omega) ?_; conv => whnf))
            exact AKM.back [(1000, 106)] (by (conv => whnf); exact ⟨rfl, rfl, rfl⟩) (ih (k + 1) _ _ false (by omega) ⟨by omega, by rw [trN_snoc, p2], by simp, f1, by rw [show k + 1 - 1 = k - 1 + 1 by omega]; exact f2⟩))
      · have hk0 : k = 0 := by simpa using p3
        (repeat' (first | (refine CmpP.go (fun hc => ?_) (fun hc => ?_) <;> first | (exfalso; omega) | (conv => whnf)) | (refine OpP.add (by omega) ?_; conv => whnf) | (refine LenP.go ?_; conv => whnf) | (refine SlS.go (fun _ => rfl) (Bds.ss (by omega) ?_); conv => whnf) | (refine RowP.e1 ?_; conv => whnf) | (refine SnR.e1 rfl ?_; conv => whnf) | (refine SnR.e2 rfl rfl ?_; conv => whnf) | (refine SnR.n2 rfl ?_; conv => whnf) | (refine AKM.x ?_; conv => whnf) | (refine CallP.go (rb1 _) ?_; conv => whnf) | (refine CallP.go (ru1 _) ?_; conv => whnf) | (refine CallP.go (ev_join1 D _ _ _ _ (by omega)) ?_; conv => whnf) | (refine CallP.go (ev_join2 D _ _ _ _ _ (by first | omega | exact len_app2 (by omega) (by omega))) ?_; conv => whnf)))
        all_goals (
          refine AppN.one (enc := encNd) ⟨false, trS b a c mx k⟩ (hE _ ?_) rfl (by omega) ?_
          · rw [hts]
            split <;> split <;> split <;> first | (exfalso; omega) | simp only [List.append_nil, List.nil_append, List.append_assoc, e1, e2, e3]
          · (conv => whnf)
            (repeat' (refine OpP.add (by omega) ?_; conv => whnf))
            exact AKM.back [(1000, 106)] (by (conv => whnf); exact ⟨rfl, rfl, rfl⟩) (ih (k + 1) [⟨false, trS b a c mx k⟩] o false (by omega) ⟨by omega, by rw [trN_snoc, hk0]; rfl, by simp, p4, by rw [hk0]; rfl⟩))
    · obtain rfl : k = mx + 1 := by omega
      cases fl
      · (repeat' (first | (refine CmpP.go (fun hc => ?_) (fun hc => ?_) <;> first | (exfalso; omega) | (conv => whnf)) | (refine SnR.all (fun _ => rfl) rfl (by first | rfl | simp) ?_; conv => whnf) | (refine AKM.x ?_; conv => whnf)))
        have ho := fill_done p4 p5 (by omega)
        subst ho
        refine SnR.all (enc := encInt) (fun _ => rfl) rfl hFl.symm ?_
        (conv => whnf)
        skip
        refine FinP.go ?_ hcl
        rw [hS, p2]
      · simp at p3)
end Go.Eng
