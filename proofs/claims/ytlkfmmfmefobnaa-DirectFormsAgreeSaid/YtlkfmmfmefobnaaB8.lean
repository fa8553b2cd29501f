/-
  The second form and the transposed form without a denominator, with coefficients that are multiples of the unit: exact as long as nothing overflows (plain law).
-/
import Derived.Test.YtlkfmmfmefobnaaB7
set_option linter.unusedSimpArgs false
set_option linter.unusedVariables false
set_option linter.unnecessarySimpa false
namespace Go.Eng
variable {d c : Wd} {p : List Int}
theorem maxN_nil (b : List Int) : maxN b [] = b.length - 1 := by simp [maxN]
theorem sum_fine {n : Nt} {vals : List Int} {nd : Nd} {m : Int} (hv : ∀ v ∈ vals, FT n.d v) (ht : ∀ t ∈ nd.ts, -16777216 ≤ t.2 ∧ t.2 ≤ 16777216) (hl : nd.ts.length ≤ 1000) (hf : 0 ≤ n.c.f ∧ n.c.f ≤ 62) (hr : 1 ≤ n.d.r ∧ n.d.r ≤ 3) (h : sumP vals nd.ts = pw n.c.f * m) : nodeS n vals nd = m := by
  unfold nodeS
  rw [sumS_plain vals (fun v h => FT_le (hv v h)) nd.ts 0 0 ht (by omega) (by omega), Int.zero_add, h]
  exact shift_exact hf hr m
theorem unit_rng (hc : WV c) : -16777216 ≤ pw c.f ∧ pw c.f ≤ 16777216 := by
  have hc' := hc
  unfold WV at hc'
  have := pw_le (n := c.f) (m := 23) (by omega)
  have e : pw 23 = 8388608 := by unfold pw; rfl
  have := pw_pos c.f
  omega
theorem row_rng {l : List Int} {fr : Int} (h : ∀ v ∈ l, -16777216 ≤ v ∧ v ≤ 16777216) : ∀ t ∈ rowD l 1 fr, -16777216 ≤ t.2 ∧ t.2 ≤ 16777216 := by
  intro t ht
  obtain ⟨i, v, hv, hi, rfl⟩ := mem_rowD ht
  have := h v hv
  simp only; omega
theorem app_rng {A B : List (Int × Int)} (h : ∀ t ∈ A, -16777216 ≤ t.2 ∧ t.2 ≤ 16777216) (h2 : ∀ t ∈ B, -16777216 ≤ t.2 ∧ t.2 ≤ 16777216) : ∀ t ∈ A ++ B, -16777216 ≤ t.2 ∧ t.2 ≤ 16777216 := by
  intro t ht
  rcases List.mem_append.1 ht with h' | h'
  · exact h t h'
  · exact h2 t h'
theorem FT_rng2 {v : Int} (h : FT c v) : -16777216 ≤ v ∧ v ≤ 16777216 := by have := FT_le h; omega
theorem two_exact (hd : WV d) (hc : WV c) (l1 : 1 ≤ p.length ∧ p.length ≤ 49) (hb : ∀ v ∈ scl (pw c.f) p, FT c v) (xs : List Int) (hx : ∀ v ∈ xs, FT d v) (h : (runA (formTwoS (scl (pw c.f) p) [] d c) [] (List.replicate (p.length - 1) 0) 0 xs).2.2 = 0) :
    (runA (formTwoS (scl (pw c.f) p) [] d c) [] (List.replicate (p.length - 1) 0) 0 xs).1 = exO p [] xs := by
  obtain ⟨e, p', rfl⟩ : ∃ e p', p = e :: p' := by
    cases p with
    | nil => simp at l1
    | cons e p' => exact ⟨e, p', rfl⟩
  have hf := hc
  unfold WV at hf
  have hfd := hd
  unfold WV at hfd
  have hN : formTwoS (scl (pw c.f) (e :: p')) [] d c = ⟨d, c, (p'.length : Int), false, [⟨false, rowD [pw c.f] 1 0⟩, ⟨false, rowD [pw c.f * e] 1 (p'.length + 1) ++ rowD (scl (pw c.f) p') 1 1⟩], false, delayS p'.length 1 (p'.length + 1), p'.length + 1 + 1⟩ := by
    simp [formTwoS, scl, maxN_nil, rowD]
  have hb0 : FT c (pw c.f * e) := hb _ (by simp [scl])
  have hb1 : ∀ v ∈ scl (pw c.f) p', FT c v := fun v hv => hb v (by simp only [scl, List.map_cons] at hv ⊢; exact List.mem_cons_of_mem _ hv)
  rw [hN] at h ⊢
  have hl1 : p'.length + 1 ≤ 49 := by simpa using l1.2
  generalize hn : (⟨d, c, (p'.length : Int), false, [⟨false, rowD [pw c.f] 1 0⟩, ⟨false, rowD [pw c.f * e] 1 (p'.length + 1) ++ rowD (scl (pw c.f) p') 1 1⟩], false, delayS p'.length 1 (p'.length + 1), p'.length + 1 + 1⟩ : Nt) = n at *
  have nd : n.d = d := by rw [← hn]
  have nc : n.c = c := by rw [← hn]
  have nn : n.nodes = [⟨false, rowD [pw c.f] 1 0⟩, ⟨false, rowD [pw c.f * e] 1 (p'.length + 1) ++ rowD (scl (pw c.f) p') 1 1⟩] := by rw [← hn]
  have no : n.out = p'.length + 1 + 1 := by rw [← hn]
  have nx : n.next = delayS p'.length 1 (p'.length + 1) := by rw [← hn]
  refine run_exact (n := n) (c := e :: p') (fun rx st => (∀ v ∈ rx, FT d v) ∧ st = win p'.length rx) ?_ xs [] _ [] 0 (by rw [nd]; exact hx) ⟨by simp, by simp [win]⟩ h
  rintro rx st x ⟨hrx, rfl⟩ hx hfl
  rw [nd] at hx
  have hwl := win_len p'.length rx
  have hww := win_words hd p'.length hrx
  generalize hW : win p'.length rx = W at *
  have hw1 : ∀ v ∈ x :: W, FT n.d v := by
    rw [nd]; intro v hv
    rcases List.mem_cons.1 hv with rfl | hv
    · exact hx
    · exact hww v hv
  have n1 : nodeS n (x :: W) ⟨false, rowD [pw c.f] 1 0⟩ = x := by
    refine sum_fine hw1 (row_rng (by simpa using unit_rng hc)) (by simp [rowD_len]) (by rw [nc]; omega) (by rw [nd]; omega) ?_
    have := sum_row (x :: W) 1 [pw c.f] 0 (by simp)
    rw [nc]
    simpa [dot] using this
  rw [nn] at hfl ⊢
  obtain ⟨g1, g2⟩ := comp_fine hfl
  rw [n1] at g1 g2
  have hw2 : ∀ v ∈ x :: W ++ [x], FT n.d v := by
    intro v hv
    rcases List.mem_append.1 hv with h | h
    · exact hw1 v h
    · simp at h; rw [h]; exact g1
  have n2 : nodeS n (x :: W ++ [x]) ⟨false, rowD [pw c.f * e] 1 (p'.length + 1) ++ rowD (scl (pw c.f) p') 1 1⟩ = dot (e :: p') (x :: rx) := by
    refine sum_fine hw2 (app_rng (row_rng (by simpa using FT_rng2 hb0)) (row_rng fun v hv => FT_rng2 (hb1 v hv))) (by simp [rowD_len, scl_len]; omega) (by rw [nc]; omega) (by rw [nd]; omega) ?_
    have s1 := sum_row (x :: W ++ [x]) 1 [pw c.f * e] (p'.length + 1) (by simp; omega)
    have s2 := sum_row (x :: W ++ [x]) 1 (scl (pw c.f) p') 1 (by simp [scl_len]; omega)
    rw [show ((1 : Nat) : Int) = 1 from rfl] at s2
    rw [show ((p'.length + 1 : Nat) : Int) = p'.length + 1 by omega] at s1
    rw [sumP_append, s1, s2, nc]
    have d1 : (x :: W ++ [x]).drop (p'.length + 1) = [x] := by simp [← hwl]
    have d2 : (x :: W ++ [x]).drop 1 = W ++ [x] := by simp
    rw [d1, d2, dot_append _ _ _ (by rw [scl_len]; omega), dot_scl, ← hW, dot_win _ _ _ (Nat.le_refl _)]
    simp only [dot]
    grind
  rw [g2] at hfl ⊢
  obtain ⟨g3, g4⟩ := comp_fine hfl
  rw [n2] at g3 g4
  rw [g4, compS]
  have hll : (x :: W ++ [x]).length = p'.length + 1 + 1 := by simp; omega
  refine ⟨?_, by simpa using ⟨hx, hrx⟩, ?_⟩
  · rw [no, show ((p'.length : Int) + 1 + 1).toNat = p'.length + 1 + 1 by omega, List.getD_eq_getElem?_getD, List.getElem?_append_right (by omega), hll, Nat.sub_self]; rfl
  · unfold follS
    have hdm := delay_map (x :: W ++ [x] ++ [dot (e :: p') (x :: rx)]) p'.length 1 ((p'.length : Int) + 1) (by simp; omega)
    rw [nx]
    refine hdm.trans ?_
    rw [show ((p'.length : Int) + 1).toNat = p'.length + 1 by omega, List.getD_eq_getElem?_getD, List.getElem?_append_left (by omega), show x :: W ++ [x] = (x :: W) ++ [x] from rfl, List.getElem?_append_right (by simp; omega), win_take, hW]
    rw [show p'.length + 1 - (x :: W).length = 0 by simp [hwl]]
    simp only [List.getElem?_cons_zero, Option.getD_some, List.cons_append, List.drop_one, List.tail_cons, List.append_assoc]
    rw [← List.cons_append, List.take_append_of_le_length (by simp; omega)]
/-! the transposed form -/
def trNd (p : List Int) (c : Wd) (s k : Nat) : Nd := ⟨false, rowD [pw c.f * p.getD k 0] 1 0 ++ (if k < s then rowD [pw c.f] 1 (k + 1) else [])⟩
theorem trS_nil {k : Nat} (hk : k < p.length) : trS (scl (pw c.f) p) [] c (p.length - 1) k = (trNd p c (p.length - 1) k).ts := by
  have e : ((scl (pw c.f) p).take (k + 1)).drop k = [pw c.f * p.getD k 0] := by
    have hk' : k < (scl (pw c.f) p).length := by rw [scl_len]; exact hk
    rw [List.take_add_one, List.getElem?_eq_getElem hk', List.drop_append_of_le_length (by rw [List.length_take]; omega), List.drop_of_length_le (by rw [List.length_take]; omega)]
    simp [scl, List.getD_eq_getElem?_getD, List.getElem?_eq_getElem hk]
  unfold trS trNd
  rw [if_pos (by rw [scl_len]; exact hk), if_neg (by simp only [List.length_nil]; omega), e, List.append_nil]
theorem range_split (n : Nat) : List.range n = List.range' 0 n := List.range_eq_range'
theorem trans_comp {n : Nt} {s : Nat} (hs : s + 1 = p.length) (hc : WV c) (hd : WV d) (nd : n.d = d) (nc : n.c = c) (hb : ∀ v ∈ scl (pw c.f) p, FT c v) (x : Int) (rx st : List Int) (hx : FT d x) (hst : ∀ v ∈ st, FT d v) (hsl : st.length = s) (hse : ∀ k < s, st[k]? = some (dot (p.drop (k + 1)) rx)) :
    ∀ (m k : Nat) (V : List Int), k + m = s + 1 → V.length = k → (∀ v ∈ V, FT d v) → (compS n (x :: st ++ V) false ((List.range' k m).map (trNd p c s))).2 = false →
      (compS n (x :: st ++ V) false ((List.range' k m).map (trNd p c s))).1 = x :: st ++ V ++ (List.range' k m).map (fun j => dot (p.drop j) (x :: rx)) ∧ ∀ j, k ≤ j → j < s + 1 → FT d (dot (p.drop j) (x :: rx))
  | 0, k, V, h1, h2, h3, h4 => by simp [compS]; omega
  | m + 1, k, V, h1, h2, h3, h4 => by
    have hf := hc
    unfold WV at hf
    have hfd := hd
    unfold WV at hfd
    rw [List.range'_succ, List.map_cons] at h4 ⊢
    obtain ⟨g1, g2⟩ := comp_fine h4
    have hk : k < p.length := by omega
    have hpk : p.drop k = p.getD k 0 :: p.drop (k + 1) := by
      rw [List.drop_eq_getElem_cons hk, List.getD_eq_getElem?_getD, List.getElem?_eq_getElem hk]; rfl
    have hbk : FT c (pw c.f * p.getD k 0) := hb _ (by
      rw [List.getD_eq_getElem?_getD, List.getElem?_eq_getElem hk]
      simp only [scl, Option.getD_some]
      exact List.mem_map_of_mem (List.getElem_mem hk))
    have hw : ∀ v ∈ x :: st ++ V, FT n.d v := by
      rw [nd]; intro v hv
      rcases List.mem_append.1 hv with h | h
      · rcases List.mem_cons.1 h with rfl | h
        · exact hx
        · exact hst v h
      · exact h3 v h
    have hn : nodeS n (x :: st ++ V) (trNd p c s k) = dot (p.drop k) (x :: rx) := by
      refine sum_fine hw (app_rng (row_rng (by simpa using FT_rng2 hbk)) ?_) ?_ (by rw [nc]; omega) (by rw [nd]; omega) ?_
      · split
        · exact row_rng (by simpa using unit_rng hc)
        · simp
      · simp only [trNd, List.length_append, rowD_len]
        split <;> simp [rowD_len]
      · have s1 := sum_row (x :: st ++ V) 1 [pw c.f * p.getD k 0] 0 (by simp)
        rw [show ((0 : Nat) : Int) = 0 from rfl] at s1
        simp only [trNd]
        rw [sumP_append, s1, nc, hpk]
        by_cases hks : k < s
        · have s2 := sum_row (x :: st ++ V) 1 [pw c.f] (k + 1) (by simp; omega)
          rw [show ((k + 1 : Nat) : Int) = k + 1 by omega] at s2
          rw [if_pos hks, s2]
          have e : (x :: st ++ V).drop (k + 1) = dot (p.drop (k + 1)) rx :: (x :: st ++ V).drop (k + 1 + 1) := by
            have h0 : (x :: st ++ V)[k + 1]? = some (dot (p.drop (k + 1)) rx) := by
              rw [List.cons_append, List.getElem?_cons_succ, List.getElem?_append_left (by omega)]; exact hse k hks
            obtain ⟨hlt, h0⟩ := List.getElem?_eq_some_iff.1 h0
            rw [List.drop_eq_getElem_cons hlt, h0]
          rw [e]
          simp only [dot, List.drop_zero, List.cons_append]
          grind
        · rw [if_neg hks, List.drop_of_length_le (l := p) (i := k + 1) (by omega)]
          simp only [dot, List.drop_zero, List.cons_append, sumP]
          grind
    rw [hn] at g1 g2
    rw [nd] at g1
    rw [g2] at h4 ⊢
    rw [List.append_assoc] at h4 ⊢
    obtain ⟨i1, i2⟩ := trans_comp hs hc hd nd nc hb x rx st hx hst hsl hse m (k + 1) (V ++ [dot (p.drop k) (x :: rx)]) (by omega) (by simp [h2]) (by
      intro v hv
      rcases List.mem_append.1 hv with h | h
      · exact h3 v h
      · simp at h; rw [h]; exact g1) h4
    refine ⟨by rw [i1]; simp, fun j a1 a2 => ?_⟩
    by_cases hj : j = k
    · rw [hj]; exact g1
    · exact i2 j (by omega) a2
theorem trans_exact (hd : WV d) (hc : WV c) (l1 : 1 ≤ p.length ∧ p.length ≤ 49) (hb : ∀ v ∈ scl (pw c.f) p, FT c v) (xs : List Int) (hx : ∀ v ∈ xs, FT d v) (h : (runA (transS (scl (pw c.f) p) [] d c) [] (List.replicate (p.length - 1) 0) 0 xs).2.2 = 0) :
    (runA (transS (scl (pw c.f) p) [] d c) [] (List.replicate (p.length - 1) 0) 0 xs).1 = exO p [] xs := by
  obtain ⟨s, hs⟩ : ∃ s, s + 1 = p.length := ⟨p.length - 1, by omega⟩
  have hsp : p.length - 1 = s := by omega
  have hN : transS (scl (pw c.f) p) [] d c = ⟨d, c, (s : Int), false, (List.range' 0 (s + 1)).map (trNd p c s), false, (List.range s).map fun i : Nat => (s : Int) + 1 + (i + 1 : Nat), s + 1⟩ := by
    have e : maxN (scl (pw c.f) p) [] = s := by rw [maxN_nil, scl_len]; exact hsp
    unfold transS trN
    rw [e, ← range_split]
    congr 1
    apply List.map_congr_left
    intro k hk
    rw [List.mem_range] at hk
    have := trS_nil (p := p) (c := c) (k := k) (by omega)
    rw [hsp] at this
    rw [this]
    rfl
  rw [hN, hsp] at h ⊢
  generalize hn : (⟨d, c, (s : Int), false, (List.range' 0 (s + 1)).map (trNd p c s), false, (List.range s).map fun i : Nat => (s : Int) + 1 + (i + 1 : Nat), s + 1⟩ : Nt) = n at *
  have nd : n.d = d := by rw [← hn]
  have nc : n.c = c := by rw [← hn]
  have nn : n.nodes = (List.range' 0 (s + 1)).map (trNd p c s) := by rw [← hn]
  have no : n.out = s + 1 := by rw [← hn]
  have nx : n.next = (List.range s).map fun i : Nat => (s : Int) + 1 + (i + 1 : Nat) := by rw [← hn]
  refine run_exact (n := n) (c := p) (fun rx st => (∀ v ∈ st, FT d v) ∧ st.length = s ∧ ∀ k < s, st[k]? = some (dot (p.drop (k + 1)) rx)) ?_ xs [] _ [] 0 (by rw [nd]; exact hx) ⟨?_, by simp, ?_⟩ h
  · rintro rx st x ⟨hst, hsl, hse⟩ hx hfl
    rw [nd] at hx
    rw [nn] at hfl ⊢
    have hcmp := trans_comp (n := n) hs hc hd nd nc hb x rx st hx hst hsl hse (s + 1) 0 [] (by omega) rfl (by simp)
    rw [List.append_nil] at hcmp
    obtain ⟨c1, c2⟩ := hcmp hfl
    rw [c1]
    have key : ∀ j < s + 1, (x :: st ++ (List.range' 0 (s + 1)).map (fun j => dot (p.drop j) (x :: rx))).getD (s + 1 + j) 0 = dot (p.drop j) (x :: rx) := by
      intro j hj
      rw [List.getD_eq_getElem?_getD, List.getElem?_append_right (by simp; omega), show s + 1 + j - (x :: st).length = j by simp [hsl], ← range_split, List.getElem?_map, List.getElem?_range hj]; rfl
    refine ⟨?_, ?_, by simp [follS, nx], ?_⟩
    · rw [no, show ((s : Int) + 1).toNat = s + 1 + 0 by omega, key 0 (by omega), List.drop_zero]
    · intro v hv
      simp only [follS, nx, List.map_map, List.mem_map, List.mem_range, Function.comp] at hv
      obtain ⟨i, hi, rfl⟩ := hv
      rw [show ((s : Int) + 1 + ((i + 1 : Nat) : Int)).toNat = s + 1 + (i + 1) by omega, key (i + 1) (by omega)]
      exact c2 (i + 1) (by omega) (by omega)
    · intro k hk
      simp only [follS, nx, List.map_map]
      rw [List.getElem?_map, List.getElem?_range hk, Option.map_some]
      simp only [Function.comp]
      rw [show ((s : Int) + 1 + ((k + 1 : Nat) : Int)).toNat = s + 1 + (k + 1) by omega, key (k + 1) (by omega)]
  · intro v hv
    rw [(List.mem_replicate.1 hv).2]; exact FT_zero hd
  · intro k hk
    rw [dot_nil_r]; simp [hk]
end Go.Eng
/-
  Law 23: DirectFormsAgree.
-/
namespace Go.Eng
open F
attribute [local irreducible] AKM CmpP Req OpP UnP ConvP RdP LdR StR MkR LenP AppR AppN CpyR RowP SnR Bds SlS CallP CalP FinP pw LdM GetM SetM PutM MkM AppM SnM
set_option maxHeartbeats 1000000
variable {L : Lib} {d c : Wd} {p : List Int}
theorem termB_unit {s : Int} {k : Nat} {fr : Int} (h : 0 ≤ fr ∧ fr ≤ s + k) : ∀ t ∈ rowD [pw c.f] 1 fr, termB c s k t = true := by
  intro t ht
  obtain ⟨i, v, hv, hi, rfl⟩ := mem_rowD ht
  simp only [List.mem_singleton] at hv
  simp only [List.length_cons, List.length_nil] at hi
  subst hv
  exact decide_eq_true ⟨by simp only; omega, by simp only; omega, Or.inl (by simp)⟩
theorem termB_row {s : Int} {k : Nat} {fr : Int} {l : List Int} (hl : ∀ v ∈ l, FT c v) (h : 0 ≤ fr ∧ fr + l.length ≤ s + k + 1) : ∀ t ∈ rowD l 1 fr, termB c s k t = true := by
  intro t ht
  obtain ⟨i, v, hv, hi, rfl⟩ := mem_rowD ht
  exact decide_eq_true ⟨by simp only; omega, by simp only; omega, Or.inr (by simpa using hl v hv)⟩
theorem two_net (hd : WV d) (hc : WV c) (l1 : 1 ≤ p.length ∧ p.length ≤ 49) (hb : ∀ v ∈ p, FT c v) : netB (formTwoS p [] d c) = true := by
  have hm : maxN p [] = p.length - 1 := maxN_nil p
  rw [netB_iff]
  refine ⟨hd, hc, ⟨by simp only [formTwoS, hm]; omega, by simp only [formTwoS, hm]; omega, by simp [formTwoS], by simp [formTwoS, delayS]⟩, ?_, ?_, by simp only [formTwoS, hm]; omega, by simp only [formTwoS, List.length_cons, List.length_nil]; omega⟩
  · simp only [formTwoS, nodesB, Bool.and_true, Bool.and_eq_true, decide_eq_true_eq, List.all_eq_true, hm]
    refine ⟨⟨by simp [rowD_len], fun t ht => ?_⟩, by simp [rowD_len]; omega, fun t ht => ?_⟩
    · rcases List.mem_append.1 ht with h | h
      · exact termB_unit (by omega) t h
      · exact absurd h (by simp [rowD])
    · rcases List.mem_append.1 ht with h | h
      · exact termB_row (fun v hv => hb v (List.mem_of_mem_take hv)) (by simp only [List.length_take]; omega) t h
      · exact termB_row (fun v hv => hb v (List.mem_of_mem_drop hv)) (by simp only [List.length_drop]; omega) t h
  · simp only [formTwoS, nextB, List.all_eq_true, decide_eq_true_eq, List.length_cons, List.length_nil, hm]
    intro k hk
    rcases mem_delayS hk with rfl | ⟨i, h1, h2, rfl⟩ <;> omega
theorem nodes_all {s : Int} {f : Nat → Nd} : ∀ (m k : Nat), (∀ i, k ≤ i → i < k + m → (f i).ts.length ≤ 64 ∧ ∀ t ∈ (f i).ts, termB c s i t = true) → nodesB c s k ((List.range' k m).map f) = true
  | 0, _, _ => rfl
  | m + 1, k, h => by
    rw [List.range'_succ, List.map_cons, nodesB, nodes_all m (k + 1) fun i h1 h2 => h i (by omega) (by omega)]
    have := h k (by omega) (by omega)
    simp only [Bool.and_true, Bool.and_eq_true, decide_eq_true_eq, List.all_eq_true]
    exact this
theorem trans_net (hd : WV d) (hc : WV c) (l1 : 1 ≤ p.length ∧ p.length ≤ 49) (hb : ∀ v ∈ p, FT c v) : netB (transS p [] d c) = true := by
  have hm : maxN p [] = p.length - 1 := maxN_nil p
  rw [netB_iff]
  refine ⟨hd, hc, ⟨by simp only [transS, hm]; omega, by simp only [transS, hm]; omega, by simp [transS, trN, hm]; omega, by simp [transS]⟩, ?_, ?_, by simp only [transS, hm]; omega, by simp [transS, trN]; omega⟩
  · simp only [transS, trN, hm]
    rw [range_split]
    refine nodes_all _ _ fun i _ hi => ?_
    have hi' : i < p.length := by omega
    have e2 : ¬ (1 ≤ i ∧ i ≤ ([] : List Int).length) := by simp only [List.length_nil]; omega
    simp only [trS, if_pos hi', if_neg e2, List.append_nil]
    refine ⟨?_, fun t ht => ?_⟩
    · simp only [List.length_append, rowD_len, List.length_drop, List.length_take]
      split <;> simp [rowD_len] <;> omega
    · rcases List.mem_append.1 ht with h | h
      · exact termB_row (fun v hv => hb v (List.mem_of_mem_take (List.mem_of_mem_drop hv))) (by simp only [List.length_drop, List.length_take]; omega) t h
      · split at h
        · exact termB_unit (by omega) t h
        · cases h
  · simp only [transS, trN, nextB, List.all_eq_true, decide_eq_true_eq, List.mem_map, List.mem_range, hm, List.length_map, List.length_range]
    rintro k ⟨i, hi, rfl⟩
    omega
theorem words_ok {X : List Int} (hX : ∀ v ∈ X, FT d v) : wordsB d X = true := by
  simp only [wordsB, List.all_eq_true, decide_eq_true_eq]; exact hX
theorem zeros_ok (hd : WV d) (n : Nat) : wordsB d (List.replicate n 0) = true := words_ok fun v hv => by
  rw [(List.mem_replicate.1 hv).2]; exact FT_zero hd
theorem ev_law23_DirectFormsAgree (I : FixedLib L) (J : NetLib L) (W : WorldLib L) (R : RunGLib L) (D : DirectGLib L) (E : LawDLib L) (dk ck : Int) (h1 : InI dk) (h2 : InI ck) (b ins : List Int) (q1 q3 : Bool) (hb : b.length < 9223372036854775808) (hbI : allI b) :
    Ev L 57 [.int .i64 dk, .int .i64 ck, .sl q1 (b.map encInt), .sl q3 (ins.map encInt)] (.bool true) := by
  refine Ev.x E.law23_DirectFormsAgree rfl rfl ?_
  by_cases h30 : ins.length ≤ 30
  · obtain ⟨hdw, hd1, hd2⟩ := data_ok dk
    obtain ⟨hcw, hc1, hc2⟩ := coef_ok ck
    have hcw' := hcw
    unfold WV at hcw'
    have hpu : pw (coefS ck).f ≤ 8388608 := by
      have := pw_le (n := (coefS ck).f) (m := 23) (by omega)
      have e : pw 23 = 8388608 := by unfold pw; rfl
      omega
    have hpp := pw_pos (coefS ck).f
    have hk1 := with_range (v := (b.length : Int)) (m := 4) (by omega)
    have eu := ev_world_Unit W (coefS ck) hcw
    have ex := fun q => ev_world_Below W 3 (by omega) ins q ins.length (by omega)
    have w1 := ev_world_Within W b.length 4 (by unfold InI; omega) (by omega)
    have hX : ∀ v ∈ belowS 3 ins ins.length, -3 ≤ v ∧ v ≤ 3 := fun v h => below_rng (by omega) h
    have lX : (belowS 3 ins ins.length).length = ins.length := by simp [belowS]
    generalize belowS 3 ins ins.length = X at *
    (repeat' (first | (refine CmpP.go (fun hc => ?_) (fun hc => ?_) <;> first | (exfalso; omega) | (conv => whnf)) | (refine LenP.go ?_; conv => whnf) | (refine AKM.x ?_; conv => whnf) | (refine CallP.go (ev_world_Data W dk h1) ?_; conv => whnf) | (refine CallP.go (ev_world_Coef W ck h2) ?_; conv => whnf) | (refine CallP.go (eu) ?_; conv => whnf)))
    refine AKM.loop2 (fun i _ => (1 + withS b.length 4).toNat - i) (fun (i : Nat) (o : List Int) => i ≤ (1 + withS b.length 4).toNat ∧ o.length = i ∧ o = scl (pw (coefS ck).f) (negS b i)) (fun i o => [(12, .row 12 0 1 0 o.length), (13, .int .i64 i)]) (fun i o => [(12, 12, .rw 1 (o.map encInt))]) [] [] 0 [] (by (conv => whnf); exact ⟨rfl, rfl, rfl⟩) ⟨by omega, rfl, rfl⟩ ?_
    intro i o ⟨p1, p2, p3⟩ ih
    have hat : InI (atS b i) := by
      unfold atS
      by_cases h : 0 ≤ (i : Int) ∧ (i : Int) < b.length
      · rw [if_pos h, List.getD_eq_getElem?_getD, Int.toNat_natCast, List.getElem?_eq_getElem (by omega)]
        exact hbI _ (List.getElem_mem _)
      · rw [if_neg h]; unfold InI; omega
    have wr := with_range (v := atS b i) (m := 2) (by omega)
    (repeat' (first | (refine CmpP.go (fun hc => ?_) (fun hc => ?_) <;> first | (exfalso; omega) | (conv => whnf)) | (refine OpP.add (by omega) ?_; conv => whnf) | (refine OpP.wmul ?_; conv => whnf) | (refine UnP.neg (by omega) ?_; conv => whnf) | (refine LenP.go ?_; conv => whnf) | (refine RowP.e1 ?_; conv => whnf) | (refine AKM.x ?_; conv => whnf) | (refine CallP.go (w1) ?_; conv => whnf) | (refine CallP.go (ev_world_At W b _ _) ?_; conv => whnf) | (refine CallP.go (ev_world_Within W _ _ hat (by omega)) ?_; conv => whnf)))
    · have hv : IntKind.i64.wrap (-pw (coefS ck).f * withS (atS b i) 2) = pw (coefS ck).f * -withS (atS b i) 2 := by
        rw [Int.neg_mul_comm]
        rcases (show withS (atS b i) 2 = 0 ∨ withS (atS b i) 2 = 1 by omega) with e | e <;> rw [e] <;> exact IntWalk.i64_in _ (by omega)
      refine AppR.one (enc := encInt) _ rfl rfl rfl (by omega) (by omega) ?_
      (conv => whnf)
      (repeat' (refine OpP.add (by omega) ?_; conv => whnf))
      refine AKM.back [(12, 61)] (by (conv => whnf); exact ⟨rfl, rfl, rfl⟩) (ih (i + 1) _ (by omega) ⟨by omega, by simp [p2], ?_⟩)
      rw [negS, range_snoc, scl, List.map_append, hv, p3]; rfl
    · have hi : i = (1 + withS b.length 4).toNat := by omega
      have lP : (scl (pw (coefS ck).f) (negS b i)).length = i := by rw [scl_len, negS_len]
      have hP := neg_FT ck b i
      have lN : (negS b i).length = i := negS_len b i
      clear ih
      generalize negS b i = N at *
      clear hi
      subst p3
      have hX1 : ∀ v ∈ X, FT (dataS dk) v := fun v h => small_FT (by have := hX v h; omega)
      have f1 := fun q => ev_direct_FormOne I D (scl (pw (coefS ck).f) N) [] q false (dataS dk) (coefS ck) hdw hcw (by omega) (by simp) hP (by simp)
      have f2 := fun q => ev_direct_FormTwo I D (scl (pw (coefS ck).f) N) [] q false (dataS dk) (coefS ck) hdw hcw (by omega) (by simp) hP (by simp)
      have f3 := fun q => ev_direct_Transposed I D (scl (pw (coefS ck).f) N) [] q false (dataS dk) (coefS ck) hdw hcw (by omega) (by simp) hP (by simp)
      have n1 := form_net (b := scl (pw (coefS ck).f) N) (a := []) hdw hcw (by omega) (by simp) hP (by simp)
      have n2 := two_net (p := scl (pw (coefS ck).f) N) hdw hcw (by omega) hP
      have n3 := trans_net (p := scl (pw (coefS ck).f) N) hdw hcw (by omega) hP
      have s1 : wrongS (formOneS (scl (pw (coefS ck).f) N) [] (dataS dk) (coefS ck)) (List.replicate (N.length - 1) 0) X = 0 := (wrong_zero _).2 ⟨by simp [formOneS]; omega, zeros_ok hdw _, words_ok hX1⟩
      have s2 : wrongS (formTwoS (scl (pw (coefS ck).f) N) [] (dataS dk) (coefS ck)) (List.replicate (N.length - 1) 0) X = 0 := (wrong_zero _).2 ⟨by simp [formTwoS, maxN_nil]; omega, zeros_ok hdw _, words_ok hX1⟩
      have s3 : wrongS (transS (scl (pw (coefS ck).f) N) [] (dataS dk) (coefS ck)) (List.replicate (N.length - 1) 0) X = 0 := (wrong_zero _).2 ⟨by simp [transS, maxN_nil]; omega, zeros_ok hdw _, words_ok hX1⟩
      have e1 := fun q q' => ev_network_Run (formOneS (scl (pw (coefS ck).f) N) [] (dataS dk) (coefS ck)) I J R (List.replicate (N.length - 1) 0) X q q' (by simp; omega) (by omega)
      have e2 := fun q q' => ev_network_Run (formTwoS (scl (pw (coefS ck).f) N) [] (dataS dk) (coefS ck)) I J R (List.replicate (N.length - 1) 0) X q q' (by simp; omega) (by omega)
      have e3 := fun q q' => ev_network_Run (transS (scl (pw (coefS ck).f) N) [] (dataS dk) (coefS ck)) I J R (List.replicate (N.length - 1) 0) X q q' (by simp; omega) (by omega)
      rw [rrS_ok _ n1 (by omega) s1] at e1
      rw [rrS_ok _ n2 (by omega) s2] at e2
      rw [rrS_ok _ n3 (by omega) s3] at e3
      have x1 := one_exact (p := N) hdw hcw (by omega) hP X hX1
      have x2 := two_exact (p := N) hdw hcw (by omega) hP X hX1
      have x3 := trans_exact (p := N) hdw hcw (by omega) hP X hX1
      have c1 := runA_cnt (formOneS (scl (pw (coefS ck).f) N) [] (dataS dk) (coefS ck)) X [] (List.replicate (N.length - 1) 0) 0
      have c2 := runA_cnt (formTwoS (scl (pw (coefS ck).f) N) [] (dataS dk) (coefS ck)) X [] (List.replicate (N.length - 1) 0) 0
      have c3 := runA_cnt (transS (scl (pw (coefS ck).f) N) [] (dataS dk) (coefS ck)) X [] (List.replicate (N.length - 1) 0) 0
      have l1 := runA_len (formOneS (scl (pw (coefS ck).f) N) [] (dataS dk) (coefS ck)) X [] (List.replicate (N.length - 1) 0) 0
      have l2 := runA_len (formTwoS (scl (pw (coefS ck).f) N) [] (dataS dk) (coefS ck)) X [] (List.replicate (N.length - 1) 0) 0
      have l3 := runA_len (transS (scl (pw (coefS ck).f) N) [] (dataS dk) (coefS ck)) X [] (List.replicate (N.length - 1) 0) 0
      generalize runA (formOneS (scl (pw (coefS ck).f) N) [] (dataS dk) (coefS ck)) [] (List.replicate (N.length - 1) 0) 0 X = U at *
      generalize runA (formTwoS (scl (pw (coefS ck).f) N) [] (dataS dk) (coefS ck)) [] (List.replicate (N.length - 1) 0) 0 X = V at *
      generalize runA (transS (scl (pw (coefS ck).f) N) [] (dataS dk) (coefS ck)) [] (List.replicate (N.length - 1) 0) 0 X = T at *
      obtain ⟨U1, U2, U3⟩ := U
      obtain ⟨V1, V2, V3⟩ := V
      obtain ⟨T1, T2, T3⟩ := T
      simp only at x1 x2 x3 c1 c2 c3 l1 l2 l3 e1 e2 e3
      rw [List.length_nil] at l1 l2 l3
      have g1 := fun q q' => ev_ref21_SameInts I U1 V1 q q' (by omega) (by omega)
      have g2 := fun q q' => ev_ref21_SameInts I U1 T1 q q' (by omega) (by omega)
      (repeat' (first | (refine OpP.sub (by omega) ?_; conv => whnf) | (refine CallP.go (ex _) ?_; conv => whnf)))
      refine MkR.go (enc := encInt) 0 (N.length - 1) rfl (by omega) (by omega) ?_
      (conv => whnf)
      generalize formOneS (scl (pw (coefS ck).f) N) [] (dataS dk) (coefS ck) = A1 at *
      generalize formTwoS (scl (pw (coefS ck).f) N) [] (dataS dk) (coefS ck) = A2 at *
      generalize transS (scl (pw (coefS ck).f) N) [] (dataS dk) (coefS ck) = A3 at *
      (repeat' (first | (refine CmpP.go (fun hc => ?_) (fun hc => ?_) <;> first | (exfalso; omega) | (conv => whnf)) | (refine OpP.add (by omega) ?_; conv => whnf) | (refine LenP.go ?_; conv => whnf) | (refine SnR.all (fun _ => rfl) rfl (by first | rfl | simp) ?_; conv => whnf) | (refine CallP.go (f1 _) ?_; conv => whnf) | (refine CallP.go (f2 _) ?_; conv => whnf) | (refine CallP.go (f3 _) ?_; conv => whnf) | (refine CallP.go (e1 _ _) ?_; conv => whnf) | (refine CallP.go (e2 _ _) ?_; conv => whnf) | (refine CallP.go (e3 _ _) ?_; conv => whnf) | (refine CallP.go (ev_law23_known I J R D) ?_; conv => whnf) | (refine CallP.b (g1 _ _) (fun hf => ?_) (fun hf => ?_) <;> (conv => whnf)) | (refine CallP.b (g2 _ _) (fun hf => ?_) (fun hf => ?_) <;> (conv => whnf))))
      all_goals first
        | exact FinP.b rfl
        | (exfalso; omega)
        | (exfalso
           have y1 := x1 (by omega)
           have y2 := x2 (by omega)
           have y3 := x3 (by omega)
           rw [← y2] at y1
           rw [← y2] at y3
           first | exact hf y1 | exact hf (y1.trans y3.symm))
  · (repeat' (first | (refine CmpP.go (fun hc => ?_) (fun hc => ?_) <;> first | (exfalso; omega) | (conv => whnf)) | (refine LenP.go ?_; conv => whnf) | (refine AKM.x ?_; conv => whnf) | (refine CallP.go (ev_law23_known I J R D) ?_; conv => whnf)))
    exact FinP.b rfl
end Go.Eng
