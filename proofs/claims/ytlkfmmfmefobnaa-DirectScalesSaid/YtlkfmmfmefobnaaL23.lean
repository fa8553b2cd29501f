/-
  Direct forms: what a network of FormOne computes (plain law).
-/
import Derived.Test.YtlkfmmfmefobnaaX23
set_option linter.unusedSimpArgs false
set_option linter.unusedVariables false
set_option linter.unnecessarySimpa false
namespace Go.Eng
def dot : List Int → List Int → Int
  | u :: us, v :: vs => u * v + dot us vs
  | _, _ => 0
def win (n : Nat) (l : List Int) : List Int := (l ++ List.replicate n 0).take n
theorem win_len (n : Nat) (l : List Int) : (win n l).length = n := by simp [win]
theorem dot_nil_r (p : List Int) : dot p [] = 0 := by cases p <;> rfl
theorem dot_zeros : ∀ (p : List Int) (n : Nat), dot p (List.replicate n 0) = 0
  | [], n => by cases n <;> rfl
  | u :: us, 0 => rfl
  | u :: us, n + 1 => by rw [List.replicate_succ, dot, dot_zeros us n]; omega
theorem win_cons (n : Nat) (v : Int) (l : List Int) : win (n + 1) (v :: l) = v :: win n l := by
  simp only [win, List.cons_append, List.take_succ_cons, List.cons.injEq, true_and]
  rw [List.replicate_succ', ← List.append_assoc, List.take_append_of_le_length (by simp)]
theorem win_take (n : Nat) (v : Int) (l : List Int) : win n (v :: l) = (v :: win n l).take n := by
  cases n with
  | zero => rfl
  | succ n =>
    rw [win_cons, List.take_succ_cons]
    congr 1
    simp only [win, List.take_take]
    rw [Nat.min_eq_left (by omega), List.replicate_succ', ← List.append_assoc]
    exact (List.take_append_of_le_length (l₁ := l ++ List.replicate n 0) (by simp)).symm
theorem dot_win : ∀ (p l : List Int) (n : Nat), p.length ≤ n → dot p (win n l) = dot p l
  | [], l, n, _ => by simp [dot]
  | u :: us, [], n, h => by
    rw [dot_nil_r, win, List.nil_append, List.take_of_length_le (by simp), dot_zeros]
  | u :: us, v :: l, 0, h => by simp at h
  | u :: us, v :: l, n + 1, h => by
    rw [win_cons, dot, dot, dot_win us l n (by simpa using h)]
/-- the sum over a row of terms, without wrapping -/
def sumP (vals : List Int) : List (Int × Int) → Int
  | [] => 0
  | t :: ts => t.2 * vals.getD t.1.toNat 0 + sumP vals ts
theorem sumP_append (vals : List Int) : ∀ (a b : List (Int × Int)), sumP vals (a ++ b) = sumP vals a + sumP vals b
  | [], b => by simp [sumP]
  | t :: a, b => by simp only [List.cons_append, sumP, sumP_append vals a b]; omega
theorem sumS_plain (vals : List Int) (hv : ∀ v ∈ vals, -8388608 ≤ v ∧ v ≤ 8388608) : ∀ (ts : List (Int × Int)) (acc : Int) (k : Nat), (∀ t ∈ ts, -16777216 ≤ t.2 ∧ t.2 ≤ 16777216) → k + ts.length ≤ 1000 → -140737488355328 * k ≤ acc ∧ acc ≤ 140737488355328 * k → sumS vals acc ts = acc + sumP vals ts
  | [], acc, k, _, _, _ => by simp [sumS, sumP]
  | t :: ts, acc, k, ht, hk, ha => by
    have h1 := ht t (by simp)
    have h2 : -8388608 ≤ vals.getD t.1.toNat 0 ∧ vals.getD t.1.toNat 0 ≤ 8388608 := by
      rw [List.getD_eq_getElem?_getD]
      cases h : vals[t.1.toNat]? with
      | none => simp
      | some v => exact hv v (List.mem_of_getElem? h)
    have h3 : -140737488355328 ≤ t.2 * vals.getD t.1.toNat 0 ∧ t.2 * vals.getD t.1.toNat 0 ≤ 140737488355328 := by
      generalize vals.getD t.1.toNat 0 = v at *
      obtain ⟨a1, a2⟩ := h1
      obtain ⟨b1, b2⟩ := h2
      have := Int.natAbs_mul t.2 v
      have e1 : t.2.natAbs ≤ 16777216 := by omega
      have e2 : v.natAbs ≤ 8388608 := by omega
      have e3 := Nat.mul_le_mul e1 e2
      omega
    have hl : k + 1 + ts.length ≤ 1000 := by simp at hk; omega
    simp only [sumS, sumP]
    rw [IntWalk.i64_in (t.2 * vals.getD t.1.toNat 0) (by omega), IntWalk.i64_in _ (by omega)]
    rw [sumS_plain vals hv ts _ (k + 1) (fun t h => ht t (List.mem_cons_of_mem _ h)) hl (by omega)]
    omega
theorem rowD_cons (v : Int) (l : List Int) (sg fr : Int) : rowD (v :: l) sg fr = (fr, sg * v) :: rowD l sg (fr + 1) := by
  simp only [rowD, List.length_cons, List.range_succ_eq_map, List.map_cons, List.map_map]
  congr 1
  · simp
  · apply List.map_congr_left
    intro i _
    simp only [Function.comp, List.getD_cons_succ, Prod.mk.injEq, and_true]
    omega
theorem sum_row (vals : List Int) (sg : Int) : ∀ (l : List Int) (fr : Nat), fr + l.length ≤ vals.length → sumP vals (rowD l sg fr) = sg * dot l (vals.drop fr)
  | [], fr, _ => by simp [rowD, sumP, dot]
  | v :: l, fr, h => by
    rw [rowD_cons, sumP]
    have h1 : fr < vals.length := by simp at h; omega
    have ih := sum_row vals sg l (fr + 1) (by simp at h; omega)
    rw [Int.natCast_succ] at ih
    rw [ih, List.drop_eq_getElem_cons h1, dot, Int.toNat_natCast, List.getD_eq_getElem?_getD, List.getElem?_eq_getElem h1, Option.getD_some, Int.mul_add, Int.mul_assoc]
theorem FT_le {w : Wd} {v : Int} (h : FT w v) : -8388608 ≤ v ∧ v ≤ 8388608 := by
  obtain ⟨hw, e1, e2⟩ := h
  obtain ⟨h1, h2, h3, h4⟩ := low_high hw
  omega
theorem mem_rowD {l : List Int} {sg fr : Int} {t : Int × Int} (h : t ∈ rowD l sg fr) : ∃ i : Nat, ∃ v ∈ l, i < l.length ∧ t = (fr + i, sg * v) := by
  simp only [rowD, List.mem_map, List.mem_range] at h
  obtain ⟨i, hi, rfl⟩ := h
  exact ⟨i, l[i], List.getElem_mem hi, hi, by simp [List.getD_eq_getElem?_getD, List.getElem?_eq_getElem hi]⟩
theorem mem_delayS {n : Nat} {a b k : Int} (h : k ∈ delayS n a b) : k = b ∨ ∃ i : Nat, 1 ≤ i ∧ i < n ∧ k = a + i - 1 := by
  simp only [delayS, List.mem_map, List.mem_range] at h
  obtain ⟨i, hi, rfl⟩ := h
  by_cases h0 : i = 0
  · exact Or.inl (by rw [if_pos h0])
  · exact Or.inr ⟨i, by omega, hi, by rw [if_neg h0]⟩
variable {b a : List Int} {d c : Wd}
theorem form_net (hd : WV d) (hc : WV c) (l1 : 1 ≤ b.length ∧ b.length ≤ 49) (l2 : a.length ≤ 8) (hb : ∀ v ∈ b, FT c v) (ha : ∀ v ∈ a, FT c v ∧ FT c (-v)) : netB (formOneS b a d c) = true := by
  rw [netB_iff]
  refine ⟨hd, hc, ⟨by simp only [formOneS]; omega, by simp only [formOneS]; omega, by simp [formOneS], by simp [formOneS, delayS]⟩, ?_, ?_, by simp only [formOneS]; omega, by simp only [formOneS, List.length_cons, List.length_nil]; omega⟩
  · simp only [formOneS, nodesB, Bool.and_true, Bool.and_eq_true, decide_eq_true_eq, List.all_eq_true]
    refine ⟨by simp [rowD_len]; omega, fun t ht => ?_⟩
    simp only [termB, decide_eq_true_eq]
    rcases List.mem_append.1 ht with h | h
    · obtain ⟨i, v, hv, hi, rfl⟩ := mem_rowD h
      exact ⟨by simp only; omega, by simp only; omega, Or.inr (by simpa using hb v hv)⟩
    · obtain ⟨i, v, hv, hi, rfl⟩ := mem_rowD h
      exact ⟨by simp only; omega, by simp only; omega, Or.inr (by simpa using (ha v hv).2)⟩
  · simp only [formOneS, nextB, List.all_eq_true, decide_eq_true_eq, List.length_cons, List.length_nil]
    intro k hk
    rcases List.mem_append.1 hk with h | h
    all_goals (rcases mem_delayS h with rfl | ⟨i, h1, h2, rfl⟩ <;> refine decide_eq_true ?_ <;> omega)
theorem dot_append : ∀ (p u w : List Int), p.length ≤ u.length → dot p (u ++ w) = dot p u
  | [], u, w, _ => by simp [dot]
  | e :: p, [], w, h => by simp at h
  | e :: p, v :: u, w, h => by rw [List.cons_append, dot, dot, dot_append p u w (by simpa using h)]
/-- what the recursion of the coefficients gives: the inputs and the outputs so far, the last one first -/
def outF (b a : List Int) (d c : Wd) (rx ry : List Int) : Int := redS d (shiftS (dot b rx - dot a ry) c.f d.r)
theorem delay_map (vals : List Int) (n f : Nat) (src : Int) (h : f + n ≤ vals.length + 1) : ((delayS n f src).map fun k : Int => vals.getD k.toNat 0) = (vals.getD src.toNat 0 :: vals.drop f).take n := by
  apply List.ext_getElem?
  intro i
  by_cases hi : i < n
  · rw [List.getElem?_map, delayS_at hi, Option.map_some, List.getElem?_take, if_pos hi]
    cases i with
    | zero => simp
    | succ i =>
      rw [if_neg (by omega), List.getElem?_cons_succ, List.getElem?_drop]
      have e : ((f : Int) + ((i + 1 : Nat) : Int) - 1).toNat = f + i := by omega
      rw [e, List.getD_eq_getElem?_getD, List.getElem?_eq_getElem (by omega)]
      rfl
  · rw [List.getElem?_eq_none (by simp [delayS]; omega), List.getElem?_eq_none (by simp; omega)]
theorem form_comp (hd : WV d) (hc : WV c) (l1 : 1 ≤ b.length ∧ b.length ≤ 49) (l2 : a.length ≤ 8) (hb : ∀ v ∈ b, FT c v) (ha : ∀ v ∈ a, FT c v ∧ FT c (-v)) (x : Int) (rx ry : List Int)
    (hw : ∀ v ∈ x :: (win (b.length - 1) rx ++ win a.length ry), -8388608 ≤ v ∧ v ≤ 8388608) :
    sumS (x :: (win (b.length - 1) rx ++ win a.length ry)) 0 (rowD b 1 0 ++ rowD a (-1) b.length) = dot b (x :: rx) - dot a ry := by
  have e : x :: win (b.length - 1) rx = win b.length (x :: rx) := by
    rw [← win_cons, show b.length - 1 + 1 = b.length by omega]
  rw [sumS_plain _ hw _ 0 0 ?_ (by simp [rowD_len]; omega) (by omega)]
  · rw [sumP_append, ← List.cons_append, e]
    have h1 := sum_row (win b.length (x :: rx) ++ win a.length ry) 1 b 0 (by simp [win_len])
    have h2 := sum_row (win b.length (x :: rx) ++ win a.length ry) (-1) a b.length (by simp [win_len])
    rw [show ((0 : Nat) : Int) = 0 from rfl] at h1
    rw [h1, h2, List.drop_zero, dot_append _ _ _ (by simp [win_len]), dot_win _ _ _ (Nat.le_refl _), List.drop_left' (win_len _ _), dot_win _ _ _ (Nat.le_refl _)]
    omega
  · intro t ht
    rcases List.mem_append.1 ht with h | h
    · obtain ⟨i, v, hv, hi, rfl⟩ := mem_rowD h
      have := FT_le (hb v hv)
      simp only; omega
    · obtain ⟨i, v, hv, hi, rfl⟩ := mem_rowD h
      have := FT_le (ha v hv).1
      simp only; omega
theorem FT_zero (hd : WV d) : FT d 0 := by
  obtain ⟨h1, h2, h3, h4⟩ := low_high hd
  exact ⟨hd, by omega, by omega⟩
theorem win_words (hd : WV d) {l : List Int} (n : Nat) (h : ∀ v ∈ l, FT d v) : ∀ v ∈ win n l, FT d v := by
  intro v hv
  rcases List.mem_append.1 (List.mem_of_mem_take hv) with h1 | h1
  · exact h v h1
  · rw [(List.mem_replicate.1 h1).2]; exact FT_zero hd
def stF (b a rx ry : List Int) : List Int := win (b.length - 1) rx ++ win a.length ry
/-- one step of the network -/
theorem form_step (hd : WV d) (hc : WV c) (l1 : 1 ≤ b.length ∧ b.length ≤ 49) (l2 : a.length ≤ 8) (hb : ∀ v ∈ b, FT c v) (ha : ∀ v ∈ a, FT c v ∧ FT c (-v)) (x : Int) (rx ry : List Int) (hx : FT d x) (hrx : ∀ v ∈ rx, FT d v) (hry : ∀ v ∈ ry, FT d v) :
    (compS (formOneS b a d c) (x :: stF b a rx ry) false (formOneS b a d c).nodes).1.getD (formOneS b a d c).out.toNat 0 = outF b a d c (x :: rx) ry ∧
    follS (formOneS b a d c) (compS (formOneS b a d c) (x :: stF b a rx ry) false (formOneS b a d c).nodes).1 = stF b a (x :: rx) (outF b a d c (x :: rx) ry :: ry) ∧
    (compS (formOneS b a d c) (x :: stF b a rx ry) false (formOneS b a d c).nodes).2 = !decide (FT d (shiftS (dot b (x :: rx) - dot a ry) c.f d.r)) := by
  have hw : ∀ v ∈ x :: (win (b.length - 1) rx ++ win a.length ry), -8388608 ≤ v ∧ v ≤ 8388608 := by
    intro v hv
    rcases List.mem_cons.1 hv with rfl | hv
    · exact FT_le hx
    · rcases List.mem_append.1 hv with h | h
      · exact FT_le (win_words hd _ hrx v h)
      · exact FT_le (win_words hd _ hry v h)
  have hs := form_comp hd hc l1 l2 hb ha x rx ry hw
  have hn : nodeS (formOneS b a d c) (x :: stF b a rx ry) ⟨false, rowD b 1 0 ++ rowD a (-1) b.length⟩ = shiftS (dot b (x :: rx) - dot a ry) c.f d.r := by
    show shiftS (sumS _ 0 _) c.f d.r = _
    rw [stF, hs]
  have hcmp : compS (formOneS b a d c) (x :: stF b a rx ry) false (formOneS b a d c).nodes = (x :: stF b a rx ry ++ [outF b a d c (x :: rx) ry], !decide (FT d (shiftS (dot b (x :: rx) - dot a ry) c.f d.r))) := by
    show compS _ _ _ [_] = _
    rw [compS, compS, hn, Bool.false_or]
    rfl
  have hlen : (x :: stF b a rx ry).length = b.length + a.length := by simp [stF, win_len]; omega
  have hout : (x :: stF b a rx ry ++ [outF b a d c (x :: rx) ry]).getD (b.length + a.length) 0 = outF b a d c (x :: rx) ry := by
    rw [List.getD_eq_getElem?_getD, List.getElem?_append_right (by omega), hlen, Nat.sub_self]; rfl
  rw [hcmp]
  refine ⟨?_, ?_, rfl⟩
  · show List.getD _ (((b.length + a.length : Nat) : Int)).toNat 0 = _
    rw [Int.toNat_natCast]; exact hout
  · have hl2 : (x :: stF b a rx ry ++ [outF b a d c (x :: rx) ry]).length = b.length + a.length + 1 := by rw [List.length_append, hlen]; rfl
    show List.map (fun k : Int => List.getD _ k.toNat 0) (delayS (b.length - 1) (1 : Nat) 0 ++ delayS a.length b.length ((b.length + a.length : Nat) : Int)) = _
    rw [List.map_append, delay_map _ _ _ _ (by rw [hl2]; omega), delay_map _ _ _ _ (by rw [hl2]; omega), Int.toNat_natCast, hout]
    have e : x :: win (b.length - 1) rx = win b.length (x :: rx) := by
      rw [← win_cons, show b.length - 1 + 1 = b.length by omega]
    have hd2 : (x :: stF b a rx ry ++ [outF b a d c (x :: rx) ry]).drop b.length = win a.length ry ++ [outF b a d c (x :: rx) ry] := by
      rw [stF, ← List.cons_append, e, List.append_assoc, List.drop_left' (win_len _ _)]
    rw [hd2, show stF b a (x :: rx) (outF b a d c (x :: rx) ry :: ry) = win (b.length - 1) (x :: rx) ++ win a.length (outF b a d c (x :: rx) ry :: ry) from rfl, win_take, win_take]
    congr 1
    · simp only [List.drop_one, List.cons_append, List.tail_cons, Int.toNat_zero, List.getD_cons_zero]
      rw [stF, List.append_assoc, ← List.cons_append, List.take_append_of_le_length (by simp [win_len])]
    · rw [← List.cons_append, List.take_append_of_le_length (by simp [win_len])]
/-- the outputs, one after the other -/
def recO (b a : List Int) (d c : Wd) : List Int → List Int → List Int → List Int
  | _, _, [] => []
  | rx, ry, x :: xs => outF b a d c (x :: rx) ry :: recO b a d c (x :: rx) (outF b a d c (x :: rx) ry :: ry) xs
theorem form_run (hd : WV d) (hc : WV c) (l1 : 1 ≤ b.length ∧ b.length ≤ 49) (l2 : a.length ≤ 8) (hb : ∀ v ∈ b, FT c v) (ha : ∀ v ∈ a, FT c v ∧ FT c (-v)) : ∀ (xs : List Int) (rx ry outs : List Int) (n : Int), (∀ v ∈ xs, FT d v) → (∀ v ∈ rx, FT d v) → (∀ v ∈ ry, FT d v) →
    (runA (formOneS b a d c) outs (stF b a rx ry) n xs).1 = outs ++ recO b a d c rx ry xs
  | [], rx, ry, outs, n, _, _, _ => by simp [runA, recO]
  | x :: xs, rx, ry, outs, n, h1, h2, h3 => by
    have hx := h1 x (by simp)
    obtain ⟨e1, e2, _⟩ := form_step hd hc l1 l2 hb ha x rx ry hx h2 h3
    rw [runA, e1, e2, form_run hd hc l1 l2 hb ha xs (x :: rx) _ _ _ (fun v h => h1 v (List.mem_cons_of_mem _ h)) (by simpa using ⟨hx, h2⟩) ?_, recO, List.append_assoc]
    · rfl
    · intro v hv
      rcases List.mem_cons.1 hv with rfl | hv
      · exact red_ok hd _
      · exact h3 v hv
end Go.Eng
