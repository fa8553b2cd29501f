/-
  A region that draws its order, second part.
-/
import Derived.Test.YtlkfmmfmefobnaaEngDraw
set_option linter.unusedSimpArgs false
set_option linter.unusedVariables false
set_option linter.unnecessarySimpa false
namespace Go.Eng
open Go.RowKit

section
variable {C : Cl} {ban : List Nat} {ρ : Opd → AV}

theorem eff_own {op : AOp} (o o' : Own) (ht : turnsMem op = false) (hr : readsMem op = true → o.hide ban = o'.hide ban) : eff C ban ρ o op = eff C ban ρ o' op := by
  cases op with
  | ld agg n x => have := hr rfl; simp only [eff, this]
  | call f xs => have := hr rfl; simp only [eff, this]
  | st => simp [turnsMem] at ht
  | app => simp [turnsMem] at ht
  | cpy => simp [turnsMem] at ht
  | calli => simp [turnsMem] at ht
  | _ => rfl

theorem eff_site {op : AOp} {o : Own} {E : Eff} (h : eff C ban ρ o op = some E) {s : Nat} (hs : siteOf op = some s) : ∃ b v, E = .new s b v ∨ E = .vir s b v := by
  cases op with
  | vrow s' z =>
    simp only [siteOf, Option.some.injEq] at hs; subst hs
    simp only [eff, Option.some.injEq] at h
    exact ⟨_, _, .inr h.symm⟩
  | box s' x =>
    simp only [siteOf, Option.some.injEq] at hs; subst hs
    simp only [eff] at h
    split at h
    · simp only [Option.some.injEq] at h; exact ⟨_, _, .inl h.symm⟩
    · cases h
  | alloc s' z =>
    simp only [siteOf, Option.some.injEq] at hs; subst hs
    simp only [eff, Option.some.injEq] at h
    exact ⟨_, _, .inl h.symm⟩
  | bslice s' esz ps =>
    simp only [siteOf, Option.some.injEq] at hs; subst hs
    simp only [eff] at h
    split at h
    · split at h
      · simp only [Option.some.injEq] at h; exact ⟨_, _, .inl h.symm⟩
      · cases h
    · cases h
  | mk s' esz bytes z l c =>
    simp only [siteOf, Option.some.injEq] at hs; subst hs
    simp only [eff] at h
    split at h
    · split at h
      · simp only [Option.some.injEq] at h; exact ⟨_, _, .inl h.symm⟩
      · cases h
    · cases h
  | _ => simp [siteOf] at hs

theorem map_val {α : Type} {x : Option α} {f : α → AV} {E : Eff} (h : x.map (fun y => Eff.val (f y)) = some E) : ∃ v, E = .val v := by
  cases x with
  | none => cases h
  | some y => simp only [Option.map_some, Option.some.injEq] at h; exact ⟨_, h.symm⟩

theorem eff_val {op : AOp} {o : Own} {E : Eff} (h : eff C ban ρ o op = some E) (ht : turnsMem op = false) (hs : siteOf op = none) : ∃ v, E = .val v := by
  cases op <;> first | (simp [turnsMem] at ht; done) | (simp [siteOf] at hs; done) | skip
  all_goals simp only [eff] at h
  all_goals
    first
      | (simp only [Option.some.injEq] at h; exact ⟨_, h.symm⟩)
      | exact map_val (f := id) h
      | skip
  all_goals (repeat' split at h)
  all_goals
    first
      | (cases h; done)
      | (simp only [Option.some.injEq] at h; exact ⟨_, h.symm⟩)
      | exact map_val (f := id) h
      | exact map_val (f := AV.agg) h

/-- an operation that neither turns memory nor makes some leaves the own memory alone -/
theorem rcd_id {x : AI} {r : Rcd} {s s' : St} (h : Fits C x r s s') (ht : turnsMem x.op = false) (hs : siteOf x.op = none) (o : Own) : r.own o = o := by
  unfold Rcd.own
  cases hg : r.g with
  | false => rfl
  | true =>
    obtain ⟨v, hv⟩ := eff_val (h.E hg) ht hs
    simp [hv, Eff.ownOf]

theorem rcd_site {x : AI} {r : Rcd} {s s' : St} (h : Fits C x r s s') {q : Nat} (hs : siteOf x.op = some q) : (∀ o, r.own o = o) ∨ ∃ b, ∀ o : Own, r.own o = o.put q ((o q).new b) := by
  unfold Rcd.own
  cases hg : r.g with
  | false => exact .inl fun _ => rfl
  | true =>
    obtain ⟨b, v, hv | hv⟩ := eff_site (h.E hg) hs
    · exact .inr ⟨b, fun o => by simp [hv, Eff.ownOf]⟩
    · exact .inr ⟨b, fun o => by simp [hv, Eff.ownOf]⟩

theorem rcd_far {x : AI} {r : Rcd} {s s' : St} (h : Fits C x r s s') {q : Nat} (hs : siteOf x.op = some q) {p : Nat} (hp : p ≠ q) (o : Own) : r.own o p = o p := by
  rcases rcd_site h hs with h1 | ⟨b, h1⟩
  · rw [h1]
  · rw [h1]; simp [Own.put, hp]

theorem ordB_comm (b : Array Nat) (i j : Nat) : ordB b i j = ordB b j i := by unfold ordB; rw [Nat.max_comm, Nat.min_comm]

/-- what the check has seen of two operations -/
theorem draw_pair {ops : Array Oper} {l : List AI} (h : drawOk ops l = true) {i j : Nat} {x y : AI} (hx : l[i]? = some x) (hy : l[j]? = some y) (hne : i ≠ j) :
    (ordB (Region.before ops) i j = true ∨ ((∀ t, y.dst = some t → t ∉ looksA x) ∧ (turnsMem x.op = false ∨ meetsMem y.op = false) ∧ (readsMem x.op = true → ∀ s, siteOf y.op = some s → s ∈ x.ban))) ∧
    ∀ s s', siteOf x.op = some s → siteOf y.op = some s' → s ≠ s' := by
  simp only [drawOk, Bool.and_eq_true] at h
  have h1 := h.1.1
  rw [List.all_eq_true] at h1
  have hxm : (x, i) ∈ l.zipIdx := List.mem_zipIdx_iff_getElem?.2 hx
  have hym : (y, j) ∈ l.zipIdx := List.mem_zipIdx_iff_getElem?.2 hy
  have h2 := h1 (x, i) hxm
  simp only at h2
  rw [List.all_eq_true] at h2
  have h3 := h2 (y, j) hym
  simp only [Bool.and_eq_true, Bool.or_eq_true, beq_iff_eq, hne, false_or] at h3
  obtain ⟨h4, h5⟩ := h3
  refine ⟨?_, fun s s' hs hs' => ?_⟩
  · unfold pairOk at h4
    simp only [Bool.or_eq_true, beq_iff_eq, hne, false_or] at h4
    refine h4.imp id fun h6 => ?_
    simp only [Bool.and_eq_true, Bool.or_eq_true, Bool.not_eq_true'] at h6
    obtain ⟨⟨h7, h8⟩, h9⟩ := h6
    refine ⟨fun t ht => ?_, h8, fun hr s hs => ?_⟩
    · rw [ht] at h7
      simpa using h7
    · rw [hr, hs] at h9
      simpa using h9
  · rw [hs, hs'] at h5
    simpa using h5

structure Drawn (C : Cl) (ops : Array Oper) (l : List AI) (σ : Nat → St) (rs : List Rcd) : Prop where
  ok : drawOk ops l = true
  len : rs.length = l.length
  fits : ∀ (k : Nat) (x : AI) (r : Rcd), l[k]? = some x → rs[k]? = some r → Fits C x r (σ k) (σ (k + 1))

variable {ops : Array Oper} {l : List AI} {σ : Nat → St} {rs : List Rcd}

theorem foldX_none {X : Nat → Bool} : ∀ (l : List Rcd) (k : Nat) (x : D), (∀ i, i < l.length → X (k + i) = false) → foldX X l k x = x
  | [], _, _, _ => rfl
  | r :: q, k, x, h => by
    simp only [foldX]
    rw [show X k = false by simpa using h 0 (by simp)]
    exact foldX_none q (k + 1) _ fun i hi => by
      have := h (i + 1) (by simpa using hi)
      rw [show k + 1 + i = k + (i + 1) by omega]; exact this

def d0 (σ : Nat → St) : D := (tget (σ 0).tm, (σ 0).own)

theorem drawn_text (h : Drawn C ops l σ rs) : ∀ k, k ≤ l.length → foldX (fun j => decide (j < k)) rs 0 (d0 σ) = (tget (σ k).tm, (σ k).own)
  | 0, _ => foldX_none rs 0 _ fun i _ => by simp
  | k + 1, hk => by
    have hkl : k < l.length := by omega
    have hkr : k < rs.length := by rw [h.len]; exact hkl
    have hr : rs[k]? = some rs[k] := List.getElem?_eq_getElem hkr
    have hf := h.fits k l[k] rs[k] (List.getElem?_eq_getElem hkl) hr
    rw [foldX_insert (X := fun j => decide (j < k)) (X' := fun j => decide (j < k + 1)) hr (by simp) (fun j => by
      by_cases h1 : j = k
      · simp [h1]
      · simp [h1]; omega) _ (fun j r' _ hlt hX => by simp at hX; omega), drawn_text h k (by omega)]
    exact hf.act.symm

section
variable {X : Nat → Bool} {i : Nat} {x : AI} {r : Rcd}

/-- whatever is ordered against i has been carried out if it stands ahead of it, and not yet if it stands behind -/
theorem ord_iff (hX : Down ops X) (hXi : X i = false) (hready : ∀ o, ops[i]? = some o → ∀ e ∈ o.after, Region.binds .any e = true → X e.on = true) {j : Nat} (hne : i ≠ j) (ho : ordB (Region.before ops) i j = true) : X j = decide (j < i) := by
  rcases Nat.lt_or_gt_of_ne hne with hlt | hgt
  · have : X j = false := by
      cases hj : X j with
      | false => rfl
      | true => have := ord_gt hX hj hlt ho; rw [hXi] at this; cases this
    rw [this]; simp; omega
  · rw [ord_lt hX hready hgt ho]; simp; omega

theorem drawn_step (h : Drawn C ops l σ rs) (hx : l[i]? = some x) (hr : rs[i]? = some r) (hX : Down ops X) (hXi : X i = false) (hready : ∀ o, ops[i]? = some o → ∀ e ∈ o.after, Region.binds .any e = true → X e.on = true) :
    guardT (foldX X rs 0 (d0 σ)).1 x.guard = some r.g ∧ (r.g = true → eff C x.ban (evT (foldX X rs 0 (d0 σ)).1) (foldX X rs 0 (d0 σ)).2 x.op = some r.E) ∧
    (if r.g then r.E.valOf (foldX X rs 0 (d0 σ)).2 else .tup []) = r.v ∧
    ∀ X' : Nat → Bool, (∀ j, X' j = (decide (j = i) || X j)) → foldX X' rs 0 (d0 σ) = r.act (foldX X rs 0 (d0 σ)) := by
  have hil : i < l.length := (List.getElem?_eq_some_iff.1 hx).1
  have hf := h.fits i x r hx hr
  have htext := drawn_text h i (by omega)
  generalize hT : foldX X rs 0 (d0 σ) = TX
  have hat : ∀ (j : Nat) (r' : Rcd), rs[j]? = some r' → ∃ y, l[j]? = some y ∧ Fits C y r' (σ j) (σ (j + 1)) := fun j r' hj => by
    have hjl : j < l.length := by rw [← h.len]; exact (List.getElem?_eq_some_iff.1 hj).1
    exact ⟨l[j], List.getElem?_eq_getElem hjl, h.fits j _ _ (List.getElem?_eq_getElem hjl) hj⟩
  -- slots
  have hslot : ∀ t ∈ looksA x, TX.1 t = tget (σ i).tm t := fun t ht => by
    have := foldX_slot (X := X) (Y := fun j => decide (j < i)) (t := t) rs 0 (d0 σ) (d0 σ) rfl (fun j r' hj hd => by
      simp only [Nat.zero_add]
      by_cases hne : i = j
      · subst hne; simp [hXi]
      · obtain ⟨y, hy, hfy⟩ := hat j r' hj
        rcases (draw_pair h.ok hx hy hne).1 with ho | ⟨h1, _⟩
        · exact ord_iff hX hXi hready hne ho
        · exact absurd ht (h1 t (by rw [← hfy.d]; exact hd)))
    rw [hT, htext] at this
    exact this
  have huses : ∀ t ∈ usesA x.op, TX.1 t = tget (σ i).tm t := fun t ht => hslot t (by simp [looksA, ht])
  -- sites
  have hsite : ∀ s, (∀ (j : Nat) (y : AI) (r' : Rcd), i ≠ j → l[j]? = some y → rs[j]? = some r' → ordB (Region.before ops) i j = true ∨ ∀ o, r'.own o s = o s) → TX.2 s = (σ i).own s := fun s hs => by
    have := foldX_site (X := X) (Y := fun j => decide (j < i)) (s := s) rs 0 (d0 σ) (d0 σ) rfl (fun j r' hj => by
      simp only [Nat.zero_add]
      by_cases hne : i = j
      · subst hne; left; simp [hXi]
      · obtain ⟨y, hy, hfy⟩ := hat j r' hj
        rcases hs j y r' hne hy hj with ho | ho
        · exact .inl (ord_iff hX hXi hready hne ho)
        · exact .inr ho)
    rw [hT, htext] at this
    exact this
  have hidle : ∀ (j : Nat) (y : AI) (r' : Rcd), l[j]? = some y → rs[j]? = some r' → meetsMem y.op = false → ∀ o, r'.own o = o := fun j y r' hy hj hm o => by
    simp only [meetsMem, Bool.or_eq_false_iff] at hm
    exact rcd_id (h.fits j y r' hy hj) hm.1.1 (by simpa using hm.2) o
  have hrev : ∀ (j : Nat) (y : AI), i ≠ j → l[j]? = some y → turnsMem y.op = true → meetsMem x.op = true → ordB (Region.before ops) i j = true := fun j y hne hy ht hmx => by
    rcases (draw_pair h.ok hy hx (Ne.symm hne)).1 with ho | ⟨_, h2, _⟩
    · rw [ordB_comm]; exact ho
    · rw [ht, hmx] at h2; simp at h2
  have hg : guardT TX.1 x.guard = some r.g := by
    rw [← hf.g]
    cases hgd : x.guard with
    | none => rfl
    | some gw =>
      obtain ⟨g, w⟩ := gw
      simp only [guardT]
      rw [hslot g (by simp [looksA, hgd])]
  have hturn : turnsMem x.op = true → TX.2 = (σ i).own := fun ht => by
    funext s
    refine hsite s fun j y r' hne hy hj => ?_
    cases hm : meetsMem y.op with
    | false => exact .inr fun o => by rw [hidle j y r' hy hj hm o]
    | true =>
      rcases (draw_pair h.ok hx hy hne).1 with ho | ⟨_, h2, _⟩
      · exact .inl ho
      · rw [ht, hm] at h2; simp at h2
  have hread : readsMem x.op = true → TX.2.hide x.ban = (σ i).own.hide x.ban := fun hrd => by
    refine hide_congr fun s hs => hsite s fun j y r' hne hy hj => ?_
    have hmx : meetsMem x.op = true := by simp [meetsMem, hrd]
    cases ht : turnsMem y.op with
    | true => exact .inl (hrev j y hne hy ht hmx)
    | false =>
      cases hsy : siteOf y.op with
      | none => exact .inr fun o => by rw [rcd_id (h.fits j y r' hy hj) ht hsy o]
      | some q =>
        rcases (draw_pair h.ok hx hy hne).1 with ho | ⟨_, _, h3⟩
        · exact .inl ho
        · exact .inr fun o => rcd_far (h.fits j y r' hy hj) hsy (p := s) (fun e => hs (by rw [e]; exact h3 hrd q hsy)) o
  have heff : r.g = true → eff C x.ban (evT TX.1) TX.2 x.op = some r.E := fun hg' => by
    rw [eff_congr huses, ← hf.E hg']
    cases ht : turnsMem x.op with
    | true => rw [hturn ht]
    | false => exact eff_own _ _ ht hread
  have hval : (if r.g then r.E.valOf TX.2 else .tup []) = r.v := by
    rw [hf.v]
    cases hgv : r.g with
    | false => rfl
    | true =>
      simp only [if_true]
      cases hsx : siteOf x.op with
      | none =>
        cases ht : turnsMem x.op with
        | true => rw [hturn ht]
        | false =>
          obtain ⟨v, hv⟩ := eff_val (hf.E hgv) ht hsx
          rw [hv]; rfl
      | some s =>
        have hmx : meetsMem x.op = true := by simp [meetsMem, hsx]
        have hss : TX.2 s = (σ i).own s := hsite s fun j y r' hne hy hj => by
          cases ht : turnsMem y.op with
          | true => exact .inl (hrev j y hne hy ht hmx)
          | false =>
            cases hsy : siteOf y.op with
            | none => exact .inr fun o => by rw [rcd_id (h.fits j y r' hy hj) ht hsy o]
            | some q => exact .inr fun o => rcd_far (h.fits j y r' hy hj) hsy ((draw_pair h.ok hx hy hne).2 s q hsx hsy) o
        obtain ⟨b, v, hv | hv⟩ := eff_site (hf.E hgv) hsx <;> rw [hv] <;> simp only [Eff.valOf, Own.cnt, hss]
  refine ⟨hg, heff, hval, fun X' hX' => ?_⟩
  rw [← hT]
  refine foldX_insert hr hXi hX' _ fun j r' hj hlt hXj z => ?_
  obtain ⟨y, hy, hfy⟩ := hat j r' hj
  have hne : i ≠ j := by omega
  have hno : ¬ ordB (Region.before ops) i j = true := fun ho => by
    have := ord_gt hX hXj hlt ho
    rw [hXi] at this; cases this
  obtain ⟨hp1, hp2⟩ := draw_pair h.ok hx hy hne
  obtain ⟨hq1, hq2⟩ := draw_pair h.ok hy hx (Ne.symm hne)
  have hp := hp1.resolve_left hno
  have hq := hq1.resolve_left (by rw [ordB_comm]; exact hno)
  unfold Rcd.act
  refine Prod.ext ?_ ?_
  · funext t
    simp only [setF]
    by_cases h1 : r'.d = some t <;> by_cases h2 : r.d = some t
    · exact absurd (by rw [hf.d] at h2; simp [looksA, h2]) (hp.1 t (by rw [← hfy.d]; exact h1))
    · simp [h1, h2]
    · simp [h1, h2]
    · simp [h1, h2]
  · show r'.own (r.own z.2) = r.own (r'.own z.2)
    cases hmx : meetsMem x.op with
    | false => rw [hidle i x r hx hr hmx, hidle i x r hx hr hmx]
    | true =>
      cases hmy : meetsMem y.op with
      | false => rw [hidle j y r' hy hj hmy, hidle j y r' hy hj hmy]
      | true =>
        have htx : turnsMem x.op = false := by
          rcases hp.2.1 with h1 | h1
          · exact h1
          · rw [hmy] at h1; cases h1
        have hty : turnsMem y.op = false := by
          rcases hq.2.1 with h1 | h1
          · exact h1
          · rw [hmx] at h1; cases h1
        cases hsx : siteOf x.op with
        | none => rw [rcd_id hf htx hsx, rcd_id hf htx hsx]
        | some s =>
          cases hsy : siteOf y.op with
          | none => rw [rcd_id hfy hty hsy, rcd_id hfy hty hsy]
          | some s' =>
            have hss := hp2 s s' hsx hsy
            rcases rcd_site hf hsx with h1 | ⟨b, h1⟩
            · rw [h1, h1]
            · rcases rcd_site hfy hsy with h2 | ⟨b', h2⟩
              · rw [h2, h2]
              · rw [h1, h2, h2, h1]
                funext q
                simp only [Own.put]
                by_cases hqs : q = s <;> by_cases hqs' : q = s'
                · exact absurd (hqs.symm.trans hqs') hss
                · simp [hqs, hss]
                · simp [hqs', Ne.symm hss]
                · simp [hqs, hqs']
end
end
end Go.Eng
