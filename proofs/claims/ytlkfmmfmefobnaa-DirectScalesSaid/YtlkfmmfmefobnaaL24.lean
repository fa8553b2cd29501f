/-
  Direct forms without a denominator, with coefficients that are multiples of the unit: as long as nothing overflows, all are exact (plain law).
-/
import Derived.Test.YtlkfmmfmefobnaaL23
import Derived.Test.YtlkfmmfmefobnaaXL2
set_option linter.unusedSimpArgs false
set_option linter.unusedVariables false
set_option linter.unnecessarySimpa false
namespace Go.Eng
/-- the exact outputs -/
def exO (c : List Int) : List Int → List Int → List Int
  | _, [] => []
  | rx, x :: xs => dot c (x :: rx) :: exO c (x :: rx) xs
theorem exO_len (c : List Int) : ∀ (xs rx : List Int), (exO c rx xs).length = xs.length
  | [], _ => rfl
  | x :: xs, rx => by simp [exO, exO_len c xs]
def scl (u : Int) (l : List Int) : List Int := l.map fun v => u * v
theorem scl_len (u : Int) (l : List Int) : (scl u l).length = l.length := by simp [scl]
theorem dot_scl (u : Int) : ∀ (c l : List Int), dot (scl u c) l = u * dot c l
  | [], l => by simp [scl, dot]
  | _ :: _, [] => by simp [scl, dot]
  | e :: c, v :: l => by
    have := dot_scl u c l
    simp only [scl, List.map_cons, dot] at this ⊢
    rw [this, Int.mul_add, Int.mul_assoc]
theorem dot_scr (u : Int) : ∀ (c l : List Int), dot c (scl u l) = u * dot c l
  | [], l => by simp [scl, dot]
  | _ :: _, [] => by simp [scl, dot]
  | e :: c, v :: l => by
    have := dot_scr u c l
    simp only [scl, List.map_cons, dot] at this ⊢
    rw [this, Int.mul_add, Int.mul_left_comm]
theorem exO_scl (u : Int) (c : List Int) : ∀ (xs rx : List Int), exO c (scl u rx) (scl u xs) = scl u (exO c rx xs)
  | [], rx => rfl
  | x :: xs, rx => by
    have := exO_scl u c xs (x :: rx)
    have h := dot_scr u c (x :: rx)
    simp only [scl, List.map_cons, exO] at this h ⊢
    rw [this, h]
theorem shift_exact {f r : Int} (hf : 0 ≤ f ∧ f ≤ 62) (hr : 1 ≤ r ∧ r ≤ 3) (m : Int) : shiftS (pw f * m) f r = m := by
  have hp := pw_pos f
  have e1 : pw f * m % pw f = 0 := Int.mul_emod_right _ _
  have e2 : pw f * m / pw f = m := Int.mul_ediv_cancel_left _ (by omega)
  unfold shiftS
  rw [if_pos ⟨hf.1, hf.2, hr.1, hr.2⟩]
  by_cases h0 : f = 0
  · rw [if_pos h0, h0, pw_zero, Int.one_mul]
  · rw [if_neg h0, if_neg (by rw [e1]; have := pw_pos (f - 1); omega), e2]
theorem red_id {w : Wd} {v : Int} (h : FT w v) : redS w v = v := by
  obtain ⟨hw, h1, h2⟩ := h
  obtain ⟨e1, e2, e3, e4⟩ := low_high hw
  have hw' := hw
  unfold WV at hw'
  unfold redS
  rw [if_pos hw]
  by_cases ho : w.o = 2
  · rw [if_pos ho]
    have hp := pw_succ (n := w.b) (by omega)
    unfold wrapS
    rw [if_pos (by omega)]
    by_cases hn : 0 ≤ v
    · rw [Int.emod_eq_of_lt hn (by omega), if_neg (by omega)]
    · have : v % pw w.b = v + pw w.b := by
        rw [← Int.add_emod_right]; exact Int.emod_eq_of_lt (by omega) (by omega)
      rw [this, if_pos (by omega)]; omega
  · rw [if_neg ho]
    unfold satS
    omega
theorem comp_flag (n : Nt) : ∀ (l : List Nd) (vals : List Int), (compS n vals true l).2 = true
  | [], _ => rfl
  | nd :: l, vals => by rw [compS, Bool.true_or]; exact comp_flag n l _
/-- a node without an overflow -/
theorem comp_fine {n : Nt} {vals : List Int} {nd : Nd} {l : List Nd} (h : (compS n vals false (nd :: l)).2 = false) : FT n.d (nodeS n vals nd) ∧ compS n vals false (nd :: l) = compS n (vals ++ [nodeS n vals nd]) false l := by
  rw [compS, Bool.false_or] at h ⊢
  by_cases hf : FT n.d (nodeS n vals nd)
  · rw [red_id hf, decide_eq_true hf] at *
    exact ⟨hf, rfl⟩
  · rw [decide_eq_false hf, Bool.not_false, comp_flag] at h
    cases h
theorem run_exact {n : Nt} {c : List Int} (P : List Int → List Int → Prop) (hs : ∀ rx st x, P rx st → FT n.d x → (compS n (x :: st) false n.nodes).2 = false → (compS n (x :: st) false n.nodes).1.getD n.out.toNat 0 = dot c (x :: rx) ∧ P (x :: rx) (follS n (compS n (x :: st) false n.nodes).1)) :
    ∀ (xs rx st outs : List Int) (k : Int), (∀ v ∈ xs, FT n.d v) → P rx st → (runA n outs st k xs).2.2 = k → (runA n outs st k xs).1 = outs ++ exO c rx xs
  | [], rx, st, outs, k, _, _, _ => by simp [runA, exO]
  | x :: xs, rx, st, outs, k, h1, h2, h3 => by
    have hx := h1 x (by simp)
    rw [runA] at h3 ⊢
    have hc := runA_cnt n xs (outs ++ [(compS n (x :: st) false n.nodes).1.getD n.out.toNat 0]) (follS n (compS n (x :: st) false n.nodes).1) (if (compS n (x :: st) false n.nodes).2 then k + 1 else k)
    cases hf : (compS n (x :: st) false n.nodes).2
    · rw [hf] at hc h3
      simp only [Bool.false_eq_true, if_false] at h3 hc ⊢
      obtain ⟨e1, e2⟩ := hs rx st x h2 hx hf
      rw [run_exact P hs xs (x :: rx) _ _ k (fun v h => h1 v (List.mem_cons_of_mem _ h)) e2 h3, e1, exO]
      simp
    · rw [hf] at hc h3
      simp only [if_true] at hc h3
      omega
/-! the first form -/
variable {d c : Wd} {p : List Int}
theorem scl_nil_dot (l : List Int) : dot ([] : List Int) l = 0 := by simp [dot]
theorem one_exact (hd : WV d) (hc : WV c) (l1 : 1 ≤ p.length ∧ p.length ≤ 49) (hb : ∀ v ∈ scl (pw c.f) p, FT c v) (xs : List Int) (hx : ∀ v ∈ xs, FT d v) (h : (runA (formOneS (scl (pw c.f) p) [] d c) [] (List.replicate (p.length - 1) 0) 0 xs).2.2 = 0) :
    (runA (formOneS (scl (pw c.f) p) [] d c) [] (List.replicate (p.length - 1) 0) 0 xs).1 = exO p [] xs := by
  have hl := scl_len (pw c.f) p
  have hf := hc
  unfold WV at hf
  have hfd := hd
  unfold WV at hfd
  refine run_exact (n := formOneS (scl (pw c.f) p) [] d c) (c := p) (fun rx st => (∀ v ∈ rx, FT d v) ∧ st = stF (scl (pw c.f) p) [] rx []) ?_ xs [] _ [] 0 hx ⟨by simp, by simp [stF, win, hl]⟩ h
  rintro rx st x ⟨hrx, rfl⟩ hx hfl
  have e0 : stF (scl (pw c.f) p) [] rx [] = stF (scl (pw c.f) p) [] rx [] := rfl
  obtain ⟨e1, e2, e3⟩ := form_step (b := scl (pw c.f) p) (a := []) hd hc (by omega) (by simp) hb (by simp) x rx [] hx hrx (by simp)
  rw [e3] at hfl
  have hft : FT d (shiftS (dot (scl (pw c.f) p) (x :: rx) - dot [] []) c.f d.r) := by simpa using hfl
  have hv : shiftS (dot (scl (pw c.f) p) (x :: rx) - dot [] []) c.f d.r = dot p (x :: rx) := by
    rw [scl_nil_dot, Int.sub_zero, dot_scl, shift_exact (by omega) (by omega)]
  refine ⟨?_, by simpa using ⟨hx, hrx⟩, ?_⟩
  · rw [e1, outF, red_id hft, hv]
  · rw [e2]; simp [stF, win]
end Go.Eng
