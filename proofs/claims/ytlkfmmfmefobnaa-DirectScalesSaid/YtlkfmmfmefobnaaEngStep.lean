/-
  One operation in its region, and a region in the order of its text.
-/
import Derived.Test.YtlkfmmfmefobnaaEngEff
import Derived.Orders
set_option linter.unusedSimpArgs false
set_option linter.unusedVariables false
set_option linter.unnecessarySimpa false
namespace Go.Eng
open Go.RowKit

def evT (T : Nat → AV) : Opd → AV
  | .t n => T n
  | .c v => v
def setF (T : Nat → AV) (d : Option Nat) (v : AV) : Nat → AV := fun j => if d = some j then v else T j
def guardT (T : Nat → AV) : Option (Nat × Bool) → Option Bool
  | none => some true
  | some (g, want) => match T g with
    | .bool b => some (b == want)
    | .tup [] => some false
    | _ => none

theorem ev_eq (st : St) : st.ev = evT (tget st.tm) := by funext x; cases x <;> rfl
theorem guard_eq (st : St) (g : Option (Nat × Bool)) : guardA st g = guardT (tget st.tm) g := rfl
theorem dst_eq (st : St) (d : Option Nat) (v : AV) : tget (st.dst d v).tm = setF (tget st.tm) d v := by
  cases d with
  | none => funext j; simp [St.dst, setF]
  | some d =>
    funext j
    simp only [St.dst, setF, tget_tput]
    by_cases h : j = d
    · simp [h]
    · simp [h, Ne.symm h]
theorem app_tm (st : St) (d : Option Nat) (E : Eff) : tget (st.app d E).tm = setF (tget st.tm) d (E.valOf st.own) := by
  cases E <;> simp only [St.app, Eff.valOf] <;> exact dst_eq st d _
theorem dst_own (st : St) (d : Option Nat) (v : AV) : (st.dst d v).own = st.own := by cases d <;> rfl
theorem app_own (st : St) (d : Option Nat) (E : Eff) : (st.app d E).own = E.ownOf st.own := by
  cases E with
  | val v => simp only [St.app, Eff.ownOf]; exact dst_own st d v
  | _ => rfl

section
variable {B : Nat} {S : Nat → Prop} {w0 : World} {m0 : M} {N : Nat}
variable {P : Program} {num : Nat → Nat} {C : Cl} {Q : Exit → Act → World → Prop}

structure FrOK (B : Nat) (S : Nat → Prop) (w0 : World) (m0 : M) (N : Nat) (T : Nat → AV) (m : M) (a : Act) : Prop where
  mem : MemOK B S w0 m
  ext : Ext B S m0 m
  tm : ∀ i, CV B S m (T i) (a.tmps.getD i undef)
  size : a.tmps.size = N
  defers : a.defers = []

theorem FrOK.put {T : Nat → AV} {m m' : M} {a : Act} (h : FrOK B S w0 m0 N T m a) (d : Option Nat) (hd : ∀ k, d = some k → k < N) {v : AV} {u : Value} (hm : MemOK B S w0 m') (he : Ext B S m m') (hc : CV B S m' v u) : FrOK B S w0 m0 N (setF T d v) m' (a.put d u) := by
  refine ⟨hm, h.ext.trans he, fun i => ?_, ?_, ?_⟩
  · cases d with
    | none => simpa [setF, Act.put] using he.cv (h.tm i)
    | some k =>
      have hk : k < a.tmps.size := by rw [h.size]; exact hd k rfl
      by_cases hik : i = k
      · subst hik
        simp only [setF, if_true, Act.put]
        simpa [Array.getD, hk] using hc
      · have hne : ¬ (some k = some i) := fun e => hik (by simpa using e.symm)
        simp only [setF, if_neg hne, Act.put]
        have : (a.tmps.setIfInBounds k u).getD i undef = a.tmps.getD i undef := by
          simp [Array.getElem?_setIfInBounds_ne (Ne.symm hik)]
        rw [this]
        exact he.cv (h.tm i)
  · cases d <;> simp [Act.put, h.size]
  · cases d <;> simpa [Act.put] using h.defers

theorem FrOK.says {T : Nat → AV} {m : M} {a : Act} (h : FrOK B S w0 m0 N T m a) : Says B S m (evT T) a.eval := says_of (fun _ => rfl) (fun _ => rfl) h.tm

theorem wanted_of {T : Nat → AV} {m : M} {a : Act} (h : FrOK B S w0 m0 N T m a) {ops : Array Oper} {o : Oper} {g' : Option (Nat × Bool)} (hg : okGuard ops o.guard g' = true) {g : Bool} (hgt : guardT T g' = some g) : Region.wanted o (yielded ops a.tmps) = g := by
  unfold Region.wanted
  cases hog : o.guard with
  | none =>
    cases g' with
    | none => simp [guardT] at hgt; simp [hgt]
    | some _ => simp [okGuard, hog] at hg
  | some jw =>
    obtain ⟨j, want⟩ := jw
    cases g' with
    | none => simp [okGuard, hog] at hg
    | some tw =>
      obtain ⟨t, want'⟩ := tw
      simp only [okGuard, hog, Bool.and_eq_true, beq_iff_eq] at hg
      obtain ⟨rfl, hg⟩ := hg
      split at hg
      · rename_i oj hoj
        have hdst : oj.dst = some t := by simpa using hg
        have hcv := h.tm t
        simp only [guardT] at hgt
        unfold yielded
        simp only [hoj, Option.bind_some, hdst]
        split at hgt
        · rename_i b hb
          rw [hb] at hcv
          have hv := cv_bool hcv
          have hget : a.tmps[t]? = some (.bool b) := by
            cases ht : a.tmps[t]? with
            | none => simp [ht, undef] at hv
            | some x => simp [ht] at hv; rw [hv]
          simp only [hget]
          simp at hgt
          rw [← hgt]
          cases b <;> cases want <;> rfl
        · rename_i hb
          rw [hb] at hcv
          obtain ⟨vs, hv, hl, _⟩ := cv_tup hcv
          have : vs = [] := List.eq_nil_of_length_eq_zero (by simpa using hl.symm)
          subst this
          simp at hgt
          subst hgt
          cases ht : a.tmps[t]? with
          | none => rfl
          | some x =>
            simp [ht] at hv
            subst hv
            rfl
        · cases hgt
      · cases hg

theorem wpOp_do (hC : CallsOK P num C) {ops : Array Oper} {i : Nat} {o : Oper} {ai : AI} (hi : ops[i]? = some o) (hok : okI P num N ops o ai = true) {T : Nat → AV} {m : M} {a : Act} (hf : FrOK B S w0 m0 N T m a) {g : Bool} (hg : guardT T ai.guard = some g) {E : Eff}
    (hE : g = true → eff C ai.ban (evT T) m.own ai.op = some E) {K : Act → World → Prop} (hK : ∀ m' a', m'.own = (if g then E.ownOf m.own else m.own) → FrOK B S w0 m0 N (setF T ai.dst (if g then E.valOf m.own else .tup [])) m' a' → K a' m'.w) : wpOp P ops Q i K a m.w := by
  simp only [okI, Bool.and_eq_true, beq_iff_eq] at hok
  obtain ⟨⟨⟨h1, h2⟩, h3⟩, h4⟩ := hok
  have hd : ∀ k, o.dst = some k → k < N := fun k hk => by
    rw [h1] at hk
    rw [hk] at h2
    simpa using h2
  unfold wpOp
  simp only [hi, wanted_of hf h3 hg]
  cases g with
  | true =>
    simp only [if_true]
    refine .inl (eff_sound hC hf.mem hf.says h4 (hE rfl) K Q fun u m' hown hm' hext hcv => ?_)
    refine hK m' _ (by simpa using hown) ?_
    rw [← h1]
    exact hf.put o.dst hd hm' hext hcv
  | false =>
    simp only [Bool.false_eq_true, if_false]
    refine hK m _ (by simp) ?_
    rw [← h1]
    exact hf.put o.dst hd hf.mem (Ext.refl m) mkUndef

/-- what one step of the abstract machine has done -/
theorem stepI_inv {o : AI} {st st' : St} (h : stepI C o st = some st') : ∃ g E, guardT (tget st.tm) o.guard = some g ∧ (g = true → eff C o.ban (evT (tget st.tm)) st.own o.op = some E) ∧ tget st'.tm = setF (tget st.tm) o.dst (if g then E.valOf st.own else .tup []) ∧ st'.own = (if g then E.ownOf st.own else st.own) := by
  unfold stepI at h
  rw [guard_eq] at h
  cases hg : guardT (tget st.tm) o.guard with
  | none => simp [hg] at h
  | some g =>
    cases g with
    | true =>
      simp only [hg, Option.map_eq_some_iff] at h
      obtain ⟨E, hE, rfl⟩ := h
      rw [ev_eq] at hE
      exact ⟨true, E, rfl, fun _ => hE, app_tm st o.dst E, app_own st o.dst E⟩
    | false =>
      simp only [hg, Option.some.injEq] at h
      subst h
      exact ⟨false, .val .any, rfl, fun h => (by cases h), dst_eq st o.dst _, dst_own st o.dst _⟩

theorem okL_get {ops : Array Oper} : ∀ {os : List Oper} {l : List AI}, okL P num N ops os l = true → os.length = l.length ∧ ∀ (i : Nat) (o : Oper) (x : AI), os[i]? = some o → l[i]? = some x → okI P num N ops o x = true
  | [], [], _ => ⟨rfl, fun i o x h => by simp at h⟩
  | o :: r, x :: l, h => by
    simp only [okL, Bool.and_eq_true] at h
    obtain ⟨h1, h2⟩ := okL_get h.2
    refine ⟨by simp [h1], fun i o' x' ho hx => ?_⟩
    cases i with
    | zero => simp at ho hx; subst ho hx; exact h.1
    | succ i => exact h2 i o' x' (by simpa using ho) (by simpa using hx)
  | [], _ :: _, h => by simp [okL] at h
  | _ :: _, [], h => by simp [okL] at h

/-- a region in the order of its text -/
theorem wp_text (hC : CallsOK P num C) {ops : Array Oper} {l : List AI} (hok : okL P num N ops ops.toList l = true) : ∀ (n k : Nat) (st st' : St) (m : M) (a : Act), n + k = ops.size → stepL C (l.drop k) st = some st' → m.own = st.own → FrOK B S w0 m0 N (tget st.tm) m a →
    (∀ m' a', m'.own = st'.own → FrOK B S w0 m0 N (tget st'.tm) m' a' → Q .normal a' m'.w) → wpOps P ops Q (List.range' k n) a m.w
  | 0, k, st, st', m, a, hk, hs, hown, hf, hQ => by
    have hl := (okL_get hok).1
    simp at hl
    rw [List.drop_eq_nil_of_le (by omega)] at hs
    simp only [stepL, Option.some.injEq] at hs
    subst hs
    simpa [wpOps] using hQ m a hown hf
  | n + 1, k, st, st', m, a, hk, hs, hown, hf, hQ => by
    obtain ⟨hl, hg⟩ := okL_get hok
    simp at hl
    have hkl : k < l.length := by omega
    have hko : k < ops.size := by omega
    rw [List.drop_eq_getElem_cons hkl] at hs
    simp only [stepL] at hs
    cases hst : stepI C l[k] st with
    | none => simp [hst] at hs
    | some st1 =>
      simp only [hst] at hs
      obtain ⟨g, E, h1, h2, h3, h4⟩ := stepI_inv hst
      rw [List.range'_succ, wpOps_cons]
      have hoi : ops[k]? = some ops[k] := Array.getElem?_eq_getElem hko
      refine wpOp_do hC hoi (hg k ops[k] l[k] (by simp [hko]) (List.getElem?_eq_getElem hkl)) hf h1 (fun hg' => by rw [hown]; exact h2 hg') fun m' a' hown' hf' => ?_
      refine wp_text hC hok n (k + 1) st1 st' m' a' (by omega) hs ?_ ?_ hQ
      · rw [hown', hown, h4]
      · rw [hown] at hf'
        rw [h3]
        exact hf'
end
end Go.Eng
