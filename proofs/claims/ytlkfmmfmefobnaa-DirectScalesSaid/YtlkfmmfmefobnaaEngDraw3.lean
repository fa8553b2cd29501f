/-
  A region that draws its order: the law.
-/
import Derived.Test.YtlkfmmfmefobnaaEngDraw2
set_option linter.unusedSimpArgs false
set_option linter.unusedVariables false
set_option linter.unnecessarySimpa false
namespace Go.Eng
open Go.RowKit

section
variable {ops : Array Oper} {md : Region.Mode}

theorem binds_any {e : Edge} (h : Region.binds .any e = true) (md : Region.Mode) : Region.binds md e = true := by
  unfold Region.binds at *
  split at h <;> simp_all

/-- in a whole line of the other order each stands behind what it waits for -/
theorem line_topo (ops : Array Oper) (md : Region.Mode) : ∀ (fuel t : Nat) (listed : Array Bool), listed.size = ops.size → ∀ (k i : Nat), (Region.linearise.go md ops fuel t listed [])[k]? = some i →
    ∃ o, ops[i]? = some o ∧ ∀ e ∈ o.after, Region.binds md e = true → listed.getD e.on false = true ∨ e.on ∈ (Region.linearise.go md ops fuel t listed []).take k
  | 0, t, listed, hs, k, i, h => by simp [Region.linearise.go] at h
  | fuel + 1, t, listed, hs, k, i, h => by
    have hgo : Region.linearise.go md ops (fuel + 1) t listed [] = match (Region.ready md ops listed)[t % (Region.ready md ops listed).length]? with
      | some i => i :: Region.linearise.go md ops fuel (t / (Region.ready md ops listed).length) (listed.setIfInBounds i true) []
      | none => [] := by
      simp only [Region.linearise.go]
      change (match (Region.ready md ops listed)[t % (Region.ready md ops listed).length]? with
        | some i => Region.linearise.go md ops fuel (t / (Region.ready md ops listed).length) (listed.setIfInBounds i true) [i]
        | none => [].reverse) = _
      cases (Region.ready md ops listed)[t % (Region.ready md ops listed).length]? with
      | none => rfl
      | some i => simp only []; rw [linearise_go_acc]; rfl
    rw [hgo] at h ⊢
    cases hr : (Region.ready md ops listed)[t % (Region.ready md ops listed).length]? with
    | none => rw [hr] at h; simp at h
    | some q =>
      rw [hr] at h
      simp only at h ⊢
      obtain ⟨_, oq, hoq, hq⟩ := mem_ready.1 (List.mem_of_getElem? hr)
      cases k with
      | zero =>
        simp at h
        subst h
        exact ⟨oq, hoq, fun e he hb => .inl (hq e he hb)⟩
      | succ k =>
        simp at h
        obtain ⟨o, ho, hh⟩ := line_topo ops md fuel _ _ (by simpa using hs) k i h
        refine ⟨o, ho, fun e he hb => ?_⟩
        rcases hh e he hb with h1 | h1
        · by_cases heq : e.on = q
          · right; simp [heq]
          · left
            rw [getD_set_ne false (Ne.symm heq)] at h1
            exact h1
        · right; simp [h1]

theorem first_not {p : Nat → Bool} : ∀ (l : List Nat), (∃ i ∈ l, p i = false) → ∃ k i, l[k]? = some i ∧ p i = false ∧ ∀ j ∈ l.take k, p j = true
  | [], ⟨i, hi, _⟩ => by simp at hi
  | x :: r, ⟨i, hi, hp⟩ => by
    cases hx : p x with
    | false => exact ⟨0, x, rfl, hx, by simp⟩
    | true =>
      have : ∃ i ∈ r, p i = false := by
        rcases List.mem_cons.1 hi with h | h
        · subst h; rw [hx] at hp; cases hp
        · exact ⟨i, h, hp⟩
      obtain ⟨k, j, h1, h2, h3⟩ := first_not r this
      refine ⟨k + 1, j, by simpa using h1, h2, fun q hq => ?_⟩
      simp only [List.take_succ_cons, List.mem_cons] at hq
      rcases hq with h | h
      · subst h; exact hx
      · exact h3 q h

/-- while something is to be done, something can be done -/
theorem progress {l : List AI} (hd : drawOk ops l = true) (hmd : md = .gc → Region.departs ops = true) {listed : Array Bool} (hs : listed.size = ops.size) (hr : Region.ready md ops listed = []) : ∀ j, j < ops.size → listed.getD j false = true := by
  intro j hj
  cases hjl : listed.getD j false with
  | true => rfl
  | false =>
    exfalso
    simp only [drawOk, Bool.and_eq_true] at hd
    obtain ⟨⟨_, hback⟩, hline⟩ := hd
    have notready : ∀ i, i < ops.size → listed.getD i false = false → ¬ ∀ o, ops[i]? = some o → ∀ e ∈ o.after, Region.binds md e = true → listed.getD e.on false = true := fun i hi hl hall => by
      have : i ∈ Region.ready md ops listed := mem_ready.2 ⟨by
        have : i < listed.size := by omega
        simp [Array.getD, this] at hl ⊢
        exact hl, ops[i], Array.getElem?_eq_getElem hi, fun e he hb => hall ops[i] (Array.getElem?_eq_getElem hi) e he hb⟩
      rw [hr] at this
      simp at this
    by_cases hgc : md = .gc
    · subst hgc
      rw [hmd rfl] at hline
      simp only [Bool.not_true, Bool.false_or, List.all_eq_true, List.mem_range, List.contains_iff_mem] at hline
      obtain ⟨k, i, h1, h2, h3⟩ := first_not (p := fun q => listed.getD q false) (Region.linearise .gc ops 0) ⟨j, hline j hj, hjl⟩
      obtain ⟨o, ho, hh⟩ := line_topo ops .gc ops.size 0 (Array.replicate ops.size false) (by simp) k i h1
      have hi : i < ops.size := (Array.getElem?_eq_some_iff.1 ho).1
      refine notready i hi h2 fun o' ho' e he hb => ?_
      rw [ho] at ho'
      obtain rfl : o = o' := by simpa using ho'
      rcases hh e he hb with h4 | h4
      · simp [Array.getD] at h4
      · exact h3 e.on h4
    · obtain ⟨k, i, h1, h2, h3⟩ := first_not (p := fun q => listed.getD q false) (List.range ops.size) ⟨j, by simpa using hj, hjl⟩
      have hik : i = k := by
        have hkl : k < ops.size := by have := (List.getElem?_eq_some_iff.1 h1).1; simpa using this
        rw [List.getElem?_range hkl] at h1
        simpa using h1.symm
      subst hik
      have hi : i < ops.size := by have := (List.getElem?_eq_some_iff.1 h1).1; simpa using this
      refine notready i hi h2 fun o ho e he hb => ?_
      rw [List.all_eq_true] at hback
      have hmem : (o, i) ∈ ops.toList.zipIdx := List.mem_zipIdx_iff_getElem?.2 (by simpa using ho)
      have h4 := hback (o, i) hmem
      simp only [Array.all_eq_true_iff_forall_mem, Bool.or_eq_true, decide_eq_true_eq] at h4
      rcases h4 e he with h5 | h5
      · exact h3 e.on (by rw [List.take_range]; simp; omega)
      · exfalso
        unfold Region.binds at hb
        split at h5
        · rename_i row hrow
          rw [hrow] at hb
          simp at hb
          exact hgc hb
        · cases h5

variable {B : Nat} {S : Nat → Prop} {w0 : World} {m0 : M} {N : Nat}
variable {P : Program} {num : Nat → Nat} {C : Cl} {Q : Exit → Act → World → Prop}

def todoN (listed : Array Bool) (n : Nat) : Nat := (List.range n).countP (fun j => !listed.getD j false)

theorem countP_lt {α : Type} {p q : α → Bool} : ∀ {l : List α} {x : α}, (∀ y ∈ l, q y = true → p y = true) → x ∈ l → p x = true → q x = false → l.countP q < l.countP p
  | [], x, _, hx, _, _ => by simp at hx
  | y :: r, x, h, hx, hp, hq => by
    have hle : r.countP q ≤ r.countP p := List.countP_mono_left fun z hz hqz => h z (by simp [hz]) hqz
    rw [List.countP_cons, List.countP_cons]
    rcases List.mem_cons.1 hx with rfl | hx
    · simp only [hp, hq, if_true, Bool.false_eq_true, if_false]
      omega
    · have := countP_lt (l := r) (fun z hz => h z (by simp [hz])) hx hp hq
      by_cases hqy : q y = true
      · simp only [hqy, h y (by simp) hqy, if_true]; omega
      · simp only [hqy, Bool.false_eq_true, if_false]
        split <;> omega

theorem wp_any (hC : CallsOK P num C) {l : List AI} (hok : okL P num N ops ops.toList l = true) {σ : Nat → St} {rs : List Rcd} (h : Drawn C ops l σ rs) (hmd : md = .gc → Region.departs ops = true)
    (hQ : ∀ m' a', m'.own = (σ l.length).own → FrOK B S w0 m0 N (tget (σ l.length).tm) m' a' → Q .normal a' m'.w) :
    ∀ (fuel : Nat) (listed : Array Bool) (a : Act) (m : M), listed.size = ops.size → todoN listed ops.size ≤ fuel → Down ops (fun j => listed.getD j false) → m.own = (foldX (fun j => listed.getD j false) rs 0 (d0 σ)).2 → FrOK B S w0 m0 N (foldX (fun j => listed.getD j false) rs 0 (d0 σ)).1 m a → wpAny P md ops Q fuel listed a m.w := by
  have hlen : ops.size = l.length := by have := (okL_get hok).1; simpa using this
  have final : ∀ (listed : Array Bool) (a : Act) (m : M), (∀ j, j < ops.size → listed.getD j false = true) → m.own = (foldX (fun j => listed.getD j false) rs 0 (d0 σ)).2 → FrOK B S w0 m0 N (foldX (fun j => listed.getD j false) rs 0 (d0 σ)).1 m a → Q .normal a m.w := fun listed a m hall hown hf => by
    have : foldX (fun j => listed.getD j false) rs 0 (d0 σ) = (tget (σ l.length).tm, (σ l.length).own) := by
      rw [← drawn_text h l.length (Nat.le_refl _)]
      refine foldX_congr rs 0 _ fun i hi => ?_
      simp only [Nat.zero_add]
      rw [hall i (by rw [hlen, ← h.len]; exact hi)]
      simp; rw [← h.len]; exact hi
    rw [this] at hown hf
    exact hQ m a hown hf
  have all0 : ∀ listed : Array Bool, todoN listed ops.size ≤ 0 → ∀ j, j < ops.size → listed.getD j false = true := fun listed h0 j hj => by
    have h1 : todoN listed ops.size = 0 := by omega
    unfold todoN at h1
    rw [List.countP_eq_zero] at h1
    simpa using h1 j (by simpa using hj)
  intro fuel
  induction fuel with
  | zero =>
    intro listed a m hsz hn hdn hown hf
    refine ⟨?_, final listed a m (all0 listed hn) hown hf⟩
    cases hr : Region.ready md ops listed with
    | nil => rfl
    | cons i r =>
      obtain ⟨h1, o, ho, _⟩ := mem_ready.1 (show i ∈ Region.ready md ops listed by rw [hr]; simp)
      have hi : i < ops.size := (Array.getElem?_eq_some_iff.1 ho).1
      have h2 := all0 listed hn i hi
      have hil : i < listed.size := by omega
      simp [Array.getD, hil] at h1 h2
      rw [h1] at h2; cases h2
  | succ fuel ih =>
    intro listed a m hsz hn hdn hown hf
    refine ⟨fun hr => final listed a m (progress h.ok hmd hsz hr) hown hf, fun i hi => ?_⟩
    obtain ⟨h1, o, ho, hedges⟩ := mem_ready.1 hi
    have hio : i < ops.size := (Array.getElem?_eq_some_iff.1 ho).1
    have hil : i < listed.size := by omega
    have hi0 : listed.getD i false = false := by
      simp [Array.getD, hil] at h1 ⊢
      exact h1
    have hll : i < l.length := by omega
    have hrl : i < rs.length := by rw [h.len]; exact hll
    have hx : l[i]? = some l[i] := List.getElem?_eq_getElem hll
    have hr : rs[i]? = some rs[i] := List.getElem?_eq_getElem hrl
    have hready : ∀ o', ops[i]? = some o' → ∀ e ∈ o'.after, Region.binds .any e = true → listed.getD e.on false = true := fun o' ho' e he hb => by
      rw [ho] at ho'
      obtain rfl : o = o' := by simpa using ho'
      exact hedges e he (binds_any hb md)
    obtain ⟨g1, g2, g3, g4⟩ := drawn_step h hx hr hdn hi0 hready
    have hoki := (okL_get hok).2 i o l[i] (by simpa using ho) hx
    have hX' : ∀ j, (listed.setIfInBounds i true).getD j false = (decide (j = i) || listed.getD j false) := fun j => by
      by_cases hji : j = i
      · subst hji; simp [Array.getD, hil]
      · rw [getD_set_ne false (Ne.symm hji)]; simp [hji]
    refine wpOp_do hC ho hoki hf g1 (fun hg => by rw [hown]; exact g2 hg) fun m' a' hown' hf' => ?_
    have hnew := g4 _ hX'
    refine ih (listed.setIfInBounds i true) a' m' (by simpa using hsz) ?_ ?_ ?_ ?_
    · have hlt : todoN (listed.setIfInBounds i true) ops.size < todoN listed ops.size := by
        refine countP_lt (x := i) (fun j _ hj => ?_) (by simpa using hio) (by simp [hi0]) (by rw [hX']; simp)
        rw [hX'] at hj
        simp at hj ⊢
        exact hj.2
      omega
    · intro j oj hj hoj e he hb
      change (listed.setIfInBounds i true).getD j false = true at hj
      show (listed.setIfInBounds i true).getD e.on false = true
      rw [hX'] at hj ⊢
      simp only [Bool.or_eq_true, decide_eq_true_eq] at hj ⊢
      rcases hj with rfl | hj
      · exact .inr (hready oj hoj e he hb)
      · exact .inr (hdn j oj hj hoj e he hb)
    · rw [hnew, hown', hown]
      rfl
    · rw [hnew]
      rw [hown, g3] at hf'
      have hd : (l[i]).dst = (rs[i]).d := (h.fits i _ _ hx hr).d.symm
      rw [hd] at hf'
      exact hf'

/-- A region that draws its order. -/
theorem wp_draw (hC : CallsOK P num C) {id : Nat} {l : List AI} (hok : okL P num N ops ops.toList l = true) (hd : drawOk ops l = true) {st st' : St} (hst : stepL C l st = some st') {m : M} {a : Act} (hown : m.own = st.own) (hf : FrOK B S w0 m0 N (tget st.tm) m a)
    (hQ : ∀ m' a', m'.own = st'.own → FrOK B S w0 m0 N (tget st'.tm) m' a' → Q .normal a' m'.w) : (Code.region id ops true).wp P Q a m.w := by
  obtain ⟨σ, rs, h0, h1, hl, h2⟩ := trace hst
  have hD : Drawn C ops l σ rs := ⟨hd, hl, h2⟩
  obtain ⟨hm1, he1⟩ := grow hf.mem ((Below.refl m.w.heap.size m.w).drew)
  have hf1 : FrOK B S w0 m0 N (tget st.tm) ⟨m.ν, m.own, m.w.drew⟩ a := ⟨hm1, hf.ext.trans he1, fun i => he1.cv (hf.tm i), hf.size, hf.defers⟩
  have h00 : foldX (fun j => (Array.replicate ops.size false).getD j false) rs 0 (d0 σ) = d0 σ := foldX_none rs 0 _ fun i _ => by simp [Array.getD]
  have key : ∀ md : Region.Mode, (md = .gc → Region.departs ops = true) → ∀ t, wpOps P ops Q (Region.linearise md ops t) a m.w.drew := fun md hmd t => by
    refine wpAny_sound ops.size t (Array.replicate ops.size false) a m.w.drew ?_
    refine wp_any hC hok hD hmd (by rw [h1]; exact hQ) ops.size _ a ⟨m.ν, m.own, m.w.drew⟩ (by simp) ?_ ?_ ?_ ?_
    · unfold todoN
      exact Nat.le_trans List.countP_le_length (by simp)
    · intro j o hj
      simp [Array.getD] at hj
    · rw [h00]; simp [d0, h0, hown]
    · rw [h00]; simpa [d0, h0] using hf1
  refine wp_region_draw fun t => ?_
  change wpOps P ops Q _ a m.w.drew
  unfold Region.schedule
  split
  · exact key .any (fun h => by cases h) t
  · rename_i hdep
    have hdp : Region.departs ops = true := by simp at hdep; exact hdep.2
    split
    · exact key .text (fun _ => hdp) _
    · exact key .gc (fun _ => hdp) _
end
end Go.Eng
