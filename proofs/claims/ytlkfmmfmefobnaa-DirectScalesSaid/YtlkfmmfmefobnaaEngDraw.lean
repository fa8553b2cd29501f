/-
  A region that draws its order: whatever the order, what the order of the text gives.
-/
import Derived.Test.YtlkfmmfmefobnaaEngStep
set_option linter.unusedSimpArgs false
set_option linter.unusedVariables false
set_option linter.unnecessarySimpa false
namespace Go.Eng
open Go.RowKit

/-! ### an operation hangs on the slots that it reads -/
section
variable {T T' : Nat → AV} {C : Cl} {ban : List Nat} {own : Own}
theorem opd_congr {x : Opd} (h : ∀ t ∈ opdT x, T t = T' t) : evT T x = evT T' x := by
  cases x with
  | t n => exact h n (by simp [opdT])
  | c v => rfl
theorem opds_congr {xs : List Opd} (h : ∀ t ∈ xs.flatMap opdT, T t = T' t) : xs.map (evT T) = xs.map (evT T') :=
  List.map_congr_left fun x hx => opd_congr fun t ht => h t (List.mem_flatMap.2 ⟨x, hx, ht⟩)
theorem opt_congr {x : Option Opd} (h : ∀ t ∈ optT x, T t = T' t) {y : Opd} (hy : x = some y) : evT T y = evT T' y := by
  subst hy
  exact opd_congr h

theorem eff_congr {op : AOp} (h : ∀ t ∈ usesA op, T t = T' t) : eff C ban (evT T) own op = eff C ban (evT T') own op := by
  cases op with
  | build z ps =>
    simp only [eff]
    congr 2
    refine List.map_congr_left fun p hp => ?_
    rw [opd_congr (x := p.2.2) fun t ht => h t (by simp only [usesA]; exact List.mem_flatMap.2 ⟨p, hp, ht⟩)]
  | bslice s esz ps =>
    have hm : ps.mapM (fun x => cellsOf (evT T x)) = ps.mapM (fun x => cellsOf (evT T' x)) := by
      have e : ∀ l : List Opd, (∀ x ∈ l, evT T x = evT T' x) → l.mapM (fun x => cellsOf (evT T x)) = l.mapM (fun x => cellsOf (evT T' x)) := by
        intro l
        induction l with
        | nil => intro _; rfl
        | cons x r ih => intro hl; simp only [List.mapM_cons]; rw [hl x (by simp), ih fun y hy => hl y (by simp [hy])]
      exact e ps fun x hx => opd_congr fun t ht => h t (by simp only [usesA]; exact List.mem_flatMap.2 ⟨x, hx, ht⟩)
    simp only [eff, hm]
  | mm mx xs => simp only [eff]; rw [opds_congr (xs := xs) h]
  | call f xs => simp only [eff]; rw [opds_congr (xs := xs) h]
  | calli f xs => simp only [eff]; rw [opds_congr (xs := xs) h]
  | slc esz x lo hi =>
    simp only [usesA, List.mem_append] at h
    have hx : evT T x = evT T' x := opd_congr fun t ht => h t (.inl (.inl ht))
    have hlo : ∀ y, lo = some y → evT T y = evT T' y := fun y hy => opt_congr (fun t ht => h t (.inl (.inr ht))) hy
    have hhi : ∀ y, hi = some y → evT T y = evT T' y := fun y hy => opt_congr (fun t ht => h t (.inr ht)) hy
    simp only [eff, hx]
    cases lo with
    | none => cases hi with
      | none => rfl
      | some y => simp only [hhi y rfl]
    | some z => cases hi with
      | none => simp only [hlo z rfl]
      | some y => simp only [hlo z rfl, hhi y rfl]
  | vrow => rfl
  | alloc => rfl
  | mov x => simp only [eff]; rw [opd_congr (x := x) h]
  | un f x => simp only [eff]; rw [opd_congr (x := x) h]
  | conv k x => simp only [eff]; rw [opd_congr (x := x) h]
  | box s x => simp only [eff]; rw [opd_congr (x := x) h]
  | fadr x off => simp only [eff]; rw [opd_congr (x := x) h]
  | fld x off n agg => simp only [eff]; rw [opd_congr (x := x) h]
  | ld agg n x => simp only [eff]; rw [opd_congr (x := x) h]
  | ext x i => simp only [eff]; rw [opd_congr (x := x) h]
  | len x => simp only [eff]; rw [opd_congr (x := x) h]
  | pick c x y =>
    simp only [usesA, List.mem_append] at h
    simp only [eff]
    rw [opd_congr (x := c) fun t ht => h t (.inl (.inl ht)), opd_congr (x := x) fun t ht => h t (.inl (.inr ht)), opd_congr (x := y) fun t ht => h t (.inr ht)]
  | bin f x y =>
    simp only [usesA, List.mem_append] at h
    simp only [eff]
    rw [opd_congr (x := x) fun t ht => h t (.inl ht), opd_congr (x := y) fun t ht => h t (.inr ht)]
  | beq ne x y =>
    simp only [usesA, List.mem_append] at h
    simp only [eff]
    rw [opd_congr (x := x) fun t ht => h t (.inl ht), opd_congr (x := y) fun t ht => h t (.inr ht)]
  | iadr arr esz x i =>
    simp only [usesA, List.mem_append] at h
    simp only [eff]
    rw [opd_congr (x := x) fun t ht => h t (.inl ht), opd_congr (x := i) fun t ht => h t (.inr ht)]
  | idx len esz agg x i =>
    simp only [usesA, List.mem_append] at h
    simp only [eff]
    rw [opd_congr (x := x) fun t ht => h t (.inl ht), opd_congr (x := i) fun t ht => h t (.inr ht)]
  | st n x v =>
    simp only [usesA, List.mem_append] at h
    simp only [eff]
    rw [opd_congr (x := x) fun t ht => h t (.inl ht), opd_congr (x := v) fun t ht => h t (.inr ht)]
  | mk s esz bytes z l c =>
    simp only [usesA, List.mem_append] at h
    simp only [eff]
    rw [opd_congr (x := l) fun t ht => h t (.inl ht), opd_congr (x := c) fun t ht => h t (.inr ht)]
  | app s esz bytes x y =>
    simp only [usesA, List.mem_append] at h
    simp only [eff]
    rw [opd_congr (x := x) fun t ht => h t (.inl ht), opd_congr (x := y) fun t ht => h t (.inr ht)]
  | cpy esz x y =>
    simp only [usesA, List.mem_append] at h
    simp only [eff]
    rw [opd_congr (x := x) fun t ht => h t (.inl ht), opd_congr (x := y) fun t ht => h t (.inr ht)]

theorem hide_eq (o : Own) (l : List Nat) (s : Nat) : o.hide l s = if s ∈ l then ⟨0, fun _ => none⟩ else o s := by
  induction l with
  | nil => simp [Own.hide]
  | cons x r ih =>
    simp only [Own.hide, List.mem_cons]
    by_cases h : s = x
    · simp [h]
    · rw [if_neg h, ih]
      simp [h]
theorem hide_congr {o o' : Own} {l : List Nat} (h : ∀ s, s ∉ l → o s = o' s) : o.hide l = o'.hide l := by
  funext s
  rw [hide_eq, hide_eq]
  split
  · rfl
  · rename_i hs; exact h s hs
end

/-! ### marks -/
section
variable {ops : Array Oper}

def inner (acc : Array Nat) (o : Oper) : Nat := o.after.foldl (fun s e => if Region.binds .any e then s ||| 2 ^ e.on ||| acc.getD e.on 0 else s) 0

theorem inner_bit (acc : Array Nat) (o : Oper) (j : Nat) (h : (inner acc o).testBit j = true) : ∃ e ∈ o.after, Region.binds .any e = true ∧ (e.on = j ∨ (acc.getD e.on 0).testBit j = true) := by
  unfold inner at h
  rw [← Array.foldl_toList] at h
  have key : ∀ (l : List Edge) (s : Nat), (l.foldl (fun s e => if Region.binds .any e then s ||| 2 ^ e.on ||| acc.getD e.on 0 else s) s).testBit j = true → s.testBit j = true ∨ ∃ e ∈ l, Region.binds .any e = true ∧ (e.on = j ∨ (acc.getD e.on 0).testBit j = true) := by
    intro l
    induction l with
    | nil => intro s hs; exact .inl hs
    | cons e r ih =>
      intro s hs
      simp only [List.foldl_cons] at hs
      rcases ih _ hs with h1 | ⟨e', he', h2⟩
      · by_cases hb : Region.binds .any e = true
        · simp only [hb, if_true, Nat.testBit_or, Bool.or_eq_true, Nat.testBit_two_pow, decide_eq_true_eq] at h1
          rcases h1 with (h1 | h1) | h1
          · exact .inl h1
          · exact .inr ⟨e, by simp, hb, .inl h1⟩
          · exact .inr ⟨e, by simp, hb, .inr h1⟩
        · simp only [hb, Bool.false_eq_true, if_false] at h1
          exact .inl h1
      · exact .inr ⟨e', by simp [he'], h2⟩
  rcases key _ _ h with h | ⟨e, he, h⟩
  · simp at h
  · exact ⟨e, by simpa using he, h⟩

theorem before_bit (i j : Nat) (h : ((Region.before ops).getD i 0).testBit j = true) : ∃ o, ops[i]? = some o ∧ ∃ e ∈ o.after, Region.binds .any e = true ∧ (e.on = j ∨ (e.on < i ∧ ((Region.before ops).getD e.on 0).testBit j = true)) := by
  have key : ∀ (rest : List Oper) (done : List Oper) (acc : Array Nat), acc.size = done.length →
      (∀ i j, (acc.getD i 0).testBit j = true → ∃ o, done[i]? = some o ∧ ∃ e ∈ o.after, Region.binds .any e = true ∧ (e.on = j ∨ (e.on < i ∧ (acc.getD e.on 0).testBit j = true))) →
      ∀ i j, ((rest.foldl (fun acc o => acc.push (inner acc o)) acc).getD i 0).testBit j = true → ∃ o, (done ++ rest)[i]? = some o ∧ ∃ e ∈ o.after, Region.binds .any e = true ∧ (e.on = j ∨ (e.on < i ∧ ((rest.foldl (fun acc o => acc.push (inner acc o)) acc).getD e.on 0).testBit j = true)) := by
    intro rest
    induction rest with
    | nil => intro done acc hs hinv i j hj; simpa using hinv i j hj
    | cons o r ih =>
      intro done acc hs hinv i j hj
      simp only [List.foldl_cons] at hj ⊢
      have := ih (done ++ [o]) (acc.push (inner acc o)) (by simp [hs]) (fun i j hij => ?_) i j hj
      · simpa using this
      · have hget : ∀ k, k < acc.size → (acc.push (inner acc o)).getD k 0 = acc.getD k 0 := fun k hk => by
          simp [Array.getD, hk, Nat.lt_succ_of_lt hk, Array.getElem_push_lt hk]
        by_cases hi : i < acc.size
        · rw [hget i hi] at hij
          obtain ⟨o', ho', e, he, hb, hor⟩ := hinv i j hij
          refine ⟨o', by rw [List.getElem?_append_left (by omega)]; exact ho', e, he, hb, hor.imp id fun ⟨h1, h2⟩ => ⟨h1, by rw [hget e.on (by omega)]; exact h2⟩⟩
        · have hie : i = acc.size := by
            rcases Nat.lt_or_ge i (acc.push (inner acc o)).size with h1 | h1
            · simp at h1; omega
            · have : (acc.push (inner acc o)).getD i 0 = 0 := by simp [Array.getD]; intro h2; simp at h1; omega
              rw [this] at hij
              simp at hij
          subst hie
          have hnew : (acc.push (inner acc o)).getD acc.size 0 = inner acc o := by simp [Array.getD]
          rw [hnew] at hij
          obtain ⟨e, he, hb, hor⟩ := inner_bit acc o j hij
          refine ⟨o, by rw [hs]; simp, e, he, hb, hor.imp id fun h2 => ?_⟩
          have hlt : e.on < acc.size := by
            rcases Nat.lt_or_ge e.on acc.size with h3 | h3
            · exact h3
            · have : acc.getD e.on 0 = 0 := by simp [Array.getD]; omega
              rw [this] at h2
              simp at h2
          exact ⟨hlt, by rw [hget e.on hlt]; exact h2⟩
  have hb : Region.before ops = ops.toList.foldl (fun acc o => acc.push (inner acc o)) #[] := by
    unfold Region.before
    rw [← Array.foldl_toList]
    rfl
  rw [hb] at h ⊢
  have := key ops.toList [] #[] rfl (fun i j hij => by simp at hij) i j h
  simpa using this

/-- a set of operations that holds what its members wait for -/
def Down (ops : Array Oper) (X : Nat → Bool) : Prop := ∀ j o, X j = true → ops[j]? = some o → ∀ e ∈ o.after, Region.binds .any e = true → X e.on = true

theorem anc {X : Nat → Bool} (hX : Down ops X) : ∀ (i : Nat), (∀ o, ops[i]? = some o → ∀ e ∈ o.after, Region.binds .any e = true → X e.on = true) → ∀ j, ((Region.before ops).getD i 0).testBit j = true → X j = true := by
  intro i
  induction i using Nat.strongRecOn with
  | ind i ih =>
    intro hi j hj
    obtain ⟨o, ho, e, he, hb, hor⟩ := before_bit i j hj
    have hx := hi o ho e he hb
    rcases hor with h | ⟨hlt, h⟩
    · rw [← h]; exact hx
    · exact ih e.on hlt (fun o' ho' e' he' hb' => hX e.on o' hx ho' e' he' hb') j h

theorem ord_lt {X : Nat → Bool} (hX : Down ops X) {i j : Nat} (hi : ∀ o, ops[i]? = some o → ∀ e ∈ o.after, Region.binds .any e = true → X e.on = true) (hlt : j < i) (h : ordB (Region.before ops) i j = true) : X j = true := by
  unfold ordB at h
  rw [Nat.max_eq_left (by omega), Nat.min_eq_right (by omega)] at h
  exact anc hX i hi j h
theorem ord_gt {X : Nat → Bool} (hX : Down ops X) {i j : Nat} (hj : X j = true) (hlt : i < j) (h : ordB (Region.before ops) i j = true) : X i = true := by
  unfold ordB at h
  rw [Nat.max_eq_right (by omega), Nat.min_eq_left (by omega)] at h
  exact anc hX j (fun o ho e he hb => hX j o hj ho e he hb) i h
end

/-! ### the text's order, recorded -/
section
variable {C : Cl}

abbrev D := (Nat → AV) × Own

/-- what was recorded of an operation: was it wanted, and what did it do -/
structure Rcd where
  d : Option Nat
  g : Bool
  E : Eff
  v : AV

def Rcd.own (r : Rcd) (o : Own) : Own := if r.g then r.E.ownOf o else o
def Rcd.act (r : Rcd) (x : D) : D := (setF x.1 r.d r.v, r.own x.2)

/-- the record fits the step -/
structure Fits (C : Cl) (x : AI) (r : Rcd) (s s' : St) : Prop where
  d : r.d = x.dst
  g : guardT (tget s.tm) x.guard = some r.g
  E : r.g = true → eff C x.ban (evT (tget s.tm)) s.own x.op = some r.E
  v : r.v = (if r.g then r.E.valOf s.own else .tup [])
  act : (tget s'.tm, s'.own) = r.act (tget s.tm, s.own)

theorem trace : ∀ {l : List AI} {st st' : St}, stepL C l st = some st' → ∃ (σ : Nat → St) (rs : List Rcd), σ 0 = st ∧ σ l.length = st' ∧ rs.length = l.length ∧ ∀ (k : Nat) (x : AI) (r : Rcd), l[k]? = some x → rs[k]? = some r → Fits C x r (σ k) (σ (k + 1))
  | [], st, st', h => by
    simp only [stepL, Option.some.injEq] at h
    subst h
    exact ⟨fun _ => st, [], rfl, rfl, rfl, fun k x r hx => by simp at hx⟩
  | o :: q, st, st', h => by
    simp only [stepL] at h
    cases hs : stepI C o st with
    | none => simp [hs] at h
    | some st1 =>
      simp only [hs] at h
      obtain ⟨σ, rs, h0, h1, hl, h2⟩ := trace h
      obtain ⟨g, E, e1, e2, e3, e4⟩ := stepI_inv hs
      refine ⟨fun k => match k with | 0 => st | k + 1 => σ k, ⟨o.dst, g, E, if g then E.valOf st.own else .tup []⟩ :: rs, rfl, h1, by simp [hl], fun k x r hx hr => ?_⟩
      cases k with
      | zero =>
        simp at hx hr
        subst hx hr
        refine ⟨rfl, e1, e2, rfl, ?_⟩
        show (tget (σ 0).tm, (σ 0).own) = _
        rw [h0, e3, e4]
        rfl
      | succ k => exact h2 k x r (by simpa using hx) (by simpa using hr)

/-- the operations of a set carried out in the text's order -/
def foldX (X : Nat → Bool) : List Rcd → Nat → D → D
  | [], _, x => x
  | r :: rs, k, x => foldX X rs (k + 1) (if X k then r.act x else x)

theorem foldX_append (X : Nat → Bool) : ∀ (l l' : List Rcd) (k : Nat) (x : D), foldX X (l ++ l') k x = foldX X l' (k + l.length) (foldX X l k x)
  | [], l', k, x => by simp [foldX]
  | r :: rs, l', k, x => by
    simp only [List.cons_append, foldX, List.length_cons]
    rw [foldX_append X rs l' (k + 1)]
    congr 1; omega

theorem foldX_slot {X Y : Nat → Bool} {t : Nat} : ∀ (l : List Rcd) (k : Nat) (x y : D), x.1 t = y.1 t → (∀ i r, l[i]? = some r → r.d = some t → X (k + i) = Y (k + i)) → (foldX X l k x).1 t = (foldX Y l k y).1 t
  | [], k, x, y, h, _ => h
  | r :: rs, k, x, y, h, hXY => by
    simp only [foldX]
    refine foldX_slot rs (k + 1) _ _ ?_ fun i r' hr hd => by
      have := hXY (i + 1) r' (by simpa using hr) hd
      rw [show k + 1 + i = k + (i + 1) by omega]; exact this
    by_cases hd : r.d = some t
    · have hx : X k = Y k := by simpa using hXY 0 r rfl hd
      rw [hx]
      cases Y k
      · simpa using h
      · simp [Rcd.act, setF, hd]
    · have e1 : ∀ z : D, (r.act z).1 t = z.1 t := fun z => by simp [Rcd.act, setF, hd]
      cases X k <;> cases Y k <;> simp [e1, h]

theorem ownOf_local (E : Eff) (s : Nat) (o o' : Own) (h : o s = o' s) : E.ownOf o s = E.ownOf o' s := by
  cases E with
  | val v => exact h
  | new s' b v =>
    simp only [Eff.ownOf, Own.put]
    by_cases hs : s = s'
    · subst hs; simp [h]
    · simp [hs, h]
  | vir s' b v =>
    simp only [Eff.ownOf, Own.put]
    by_cases hs : s = s'
    · subst hs; simp [h]
    · simp [hs, h]
  | tur v o2 => rfl

theorem foldX_site {X Y : Nat → Bool} {s : Nat} : ∀ (l : List Rcd) (k : Nat) (x y : D), x.2 s = y.2 s → (∀ i r, l[i]? = some r → X (k + i) = Y (k + i) ∨ ∀ o, r.own o s = o s) → (foldX X l k x).2 s = (foldX Y l k y).2 s
  | [], k, x, y, h, _ => h
  | r :: rs, k, x, y, h, hXY => by
    simp only [foldX]
    refine foldX_site rs (k + 1) _ _ ?_ fun i r' hr => by
      have := hXY (i + 1) r' (by simpa using hr)
      rw [show k + 1 + i = k + (i + 1) by omega]; exact this
    rcases hXY 0 r rfl with hx | hx
    · simp only [Nat.add_zero] at hx
      rw [hx]
      cases Y k
      · simpa using h
      · simp only [if_true, Rcd.act, Rcd.own]
        cases r.g
        · simpa using h
        · simpa using ownOf_local r.E s _ _ h
    · have e1 : ∀ z : D, (r.act z).2 s = z.2 s := fun z => hx z.2
      cases X k <;> cases Y k <;> simp [e1, h]

theorem foldX_comm {X : Nat → Bool} (q : Rcd) : ∀ (l : List Rcd) (k : Nat) (x : D), (∀ i r, l[i]? = some r → X (k + i) = true → ∀ z, r.act (q.act z) = q.act (r.act z)) → foldX X l k (q.act x) = q.act (foldX X l k x)
  | [], k, x, _ => rfl
  | r :: rs, k, x, h => by
    simp only [foldX]
    have hrest : ∀ i r', rs[i]? = some r' → X (k + 1 + i) = true → ∀ z, r'.act (q.act z) = q.act (r'.act z) := fun i r' hr hX => h (i + 1) r' (by simpa using hr) (by rw [show k + (i + 1) = k + 1 + i by omega]; exact hX)
    cases hk : X k
    · simp only [Bool.false_eq_true, if_false]
      exact foldX_comm q rs (k + 1) x hrest
    · simp only [if_true]
      rw [h 0 r rfl (by simpa using hk)]
      exact foldX_comm q rs (k + 1) _ hrest

theorem foldX_congr {X Y : Nat → Bool} : ∀ (l : List Rcd) (k : Nat) (x : D), (∀ i, i < l.length → X (k + i) = Y (k + i)) → foldX X l k x = foldX Y l k x
  | [], _, _, _ => rfl
  | r :: rs, k, x, h => by
    simp only [foldX]
    rw [show X k = Y k by simpa using h 0 (by simp)]
    exact foldX_congr rs (k + 1) _ fun i hi => by
      have := h (i + 1) (by simpa using hi)
      rw [show k + 1 + i = k + (i + 1) by omega]; exact this

/-- one more, whatever its place -/
theorem foldX_insert {X X' : Nat → Bool} {l : List Rcd} {i : Nat} {q : Rcd} (hq : l[i]? = some q) (hXi : X i = false) (hX' : ∀ j, X' j = (decide (j = i) || X j)) (x : D) (hcomm : ∀ j r, l[j]? = some r → i < j → X j = true → ∀ z, r.act (q.act z) = q.act (r.act z)) :
    foldX X' l 0 x = q.act (foldX X l 0 x) := by
  have hil : i < l.length := (List.getElem?_eq_some_iff.1 hq).1
  have hli : l = l.take i ++ (q :: l.drop (i + 1)) := by
    have : l.drop i = q :: l.drop (i + 1) := by
      rw [List.drop_eq_getElem_cons hil]
      congr 1
      have := (List.getElem?_eq_some_iff.1 hq).2
      exact this
    rw [← this, List.take_append_drop]
  have htl : (l.take i).length = i := by simp; omega
  rw [hli, foldX_append, foldX_append, htl, Nat.zero_add]
  simp only [foldX, hXi, Bool.false_eq_true, if_false]
  rw [show X' i = true by rw [hX']; simp]
  simp only [if_true]
  rw [foldX_congr (X := X') (Y := X) (l.take i) 0 x (fun j hj => by rw [hX']; simp; omega)]
  rw [foldX_congr (X := X') (Y := X) (l.drop (i + 1)) (i + 1) _ (fun j hj => by rw [hX']; simp; omega)]
  refine foldX_comm q _ _ _ fun j r hr hXj => ?_
  rw [List.getElem?_drop] at hr
  exact hcomm (i + 1 + j) r hr (by omega) hXj
end
end Go.Eng
