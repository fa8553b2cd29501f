/-
  The table of temporaries may be written otherwise: only what is found in it counts.
-/
import Derived.Test.YtlkfmmfmefobnaaEngArith
set_option linter.unusedSimpArgs false
set_option linter.unusedVariables false
set_option linter.unnecessarySimpa false
namespace Go.Eng

theorem tget_tdrop (ts : List Nat) (j : Nat) : ∀ tm : Tm, tget (tdrop tm ts) j = if ts.contains j then .any else tget tm j
  | [] => by simp [tdrop_nil, tget_nil]
  | (i, u) :: r => by
    rw [tdrop_cons]
    by_cases h : ts.contains i = true
    · rw [if_pos h, tget_tdrop ts j r, tget_cons]
      by_cases h2 : j = i
      · subst h2; rw [if_pos h, if_pos h]
      · rw [if_neg h2]
    · rw [if_neg h, tget_cons, tget_cons, tget_tdrop ts j r]
      by_cases h2 : j = i
      · subst h2; rw [if_pos rfl, if_pos rfl, if_neg h]
      · rw [if_neg h2, if_neg h2]

/-- the same for every look -/
def St.eqv (a b : St) : Prop := a.own = b.own ∧ ∀ j, tget a.tm j = tget b.tm j
theorem St.eqv.ev {a b : St} (h : a.eqv b) : a.ev = b.ev := by
  funext x; cases x with
  | t n => exact h.2 n
  | c v => rfl
theorem St.eqv.dst {a b : St} (h : a.eqv b) (d : Option Nat) (v : AV) : (a.dst d v).eqv (b.dst d v) := by
  cases d with
  | none => exact h
  | some d => exact ⟨h.1, fun j => by simp only [St.dst, tget_tput, h.2]⟩
theorem St.dst_own (a : St) (d : Option Nat) (v : AV) : (a.dst d v).own = a.own := by cases d <;> rfl
theorem St.eqv.app {a b : St} (h : a.eqv b) (d : Option Nat) (E : Eff) : (a.app d E).eqv (b.app d E) := by
  cases E with
  | val v => exact h.dst d v
  | new s c v => simp only [St.app, h.1]; exact ⟨rfl, (h.dst d _).2⟩
  | vir s c v => simp only [St.app, h.1]; exact ⟨rfl, (h.dst d _).2⟩
  | tur v o => exact ⟨rfl, (h.dst d v).2⟩
theorem St.eqv.guard {a b : St} (h : a.eqv b) (g : Option (Nat × Bool)) : guardA a g = guardA b g := by
  cases g with
  | none => rfl
  | some g => simp only [guardA, h.2]
theorem stepI_eqv {C : Cl} {o : AI} {a b a' : St} (h : a.eqv b) (hs : stepI C o a = some a') : ∃ b', stepI C o b = some b' ∧ a'.eqv b' := by
  unfold stepI at hs ⊢
  rw [← h.guard]
  split at hs
  · simp only [Option.map_eq_some_iff] at hs
    obtain ⟨E, hE, rfl⟩ := hs
    rw [← h.ev, ← h.1, hE]
    exact ⟨_, rfl, h.app _ E⟩
  · obtain rfl := Option.some.inj hs
    exact ⟨_, rfl, h.dst _ _⟩
  · cases hs
theorem stepL_eqv {C : Cl} : ∀ {l : List AI} {a b a' : St}, a.eqv b → stepL C l a = some a' → ∃ b', stepL C l b = some b' ∧ a'.eqv b'
  | [], a, b, a', h, hs => by obtain rfl := Option.some.inj hs; exact ⟨b, rfl, h⟩
  | o :: r, a, b, a', h, hs => by
    simp only [stepL] at hs ⊢
    cases hI : stepI C o a with
    | none => simp [hI] at hs
    | some a1 =>
      simp only [hI] at hs
      obtain ⟨b1, e1, h1⟩ := stepI_eqv h hI
      simp only [e1]
      exact stepL_eqv h1 hs
theorem run_eqv {C : Cl} : ∀ {n : Nat} {k : List It} {a b a' : St}, a.eqv b → run C n k a = some a' → ∃ b', run C n k b = some b' ∧ a'.eqv b' := by
  intro n
  induction n with
  | zero => intro k a b a' _ hr; simp [run] at hr
  | succ n ih =>
    intro k a b a' h hr
    cases k with
    | nil => simp only [run, Option.some.injEq] at hr; subst hr; exact ⟨b, rfl, h⟩
    | cons it k =>
      cases it with
      | blk id => simp only [run] at hr ⊢; exact ih h hr
      | drp ts ss =>
        simp only [run] at hr ⊢
        exact ih ⟨by simp only [h.1], fun j => by simp only [tget_tdrop, h.2]⟩ hr
      | lp c => simp only [run] at hr ⊢; exact ih h hr
      | code c =>
        cases c with
        | skip => simp only [run] at hr ⊢; exact ih h hr
        | ops l d =>
          simp only [run] at hr ⊢
          cases hs : stepL C l a with
          | none => simp [hs] at hr
          | some a1 =>
            simp only [hs] at hr
            obtain ⟨b1, e1, h1⟩ := stepL_eqv h hs
            simp only [e1]
            exact ih h1 hr
        | dr c ts ss => simp only [run] at hr ⊢; exact ih h hr
        | scope c => simp only [run] at hr ⊢; exact ih h hr
        | seq x y => simp only [run] at hr ⊢; exact ih h hr
        | cond x y z =>
          simp only [run] at hr ⊢
          rw [← h.ev]
          split at hr
          · exact ih h hr
          · exact ih h hr
          · cases hr
        | block id c => simp only [run] at hr ⊢; exact ih h hr
        | loop c => simp only [run] at hr ⊢; exact ih h hr
        | exit id =>
          simp only [run] at hr ⊢
          split at hr
          · exact ih h hr
          · cases hr
        | ret => simp only [run, Option.some.injEq] at hr; subst hr; exact ⟨b, rfl, h⟩

/-- a postcondition that does not see how the table is written -/
def clo (Q : St → Prop) (s : St) : Prop := ∃ s', s'.eqv s ∧ Q s'
theorem clo.intro {Q : St → Prop} {s : St} (h : Q s) : clo Q s := ⟨s, ⟨rfl, fun _ => rfl⟩, h⟩
theorem clo.of_eqv {Q : St → Prop} {a b : St} (h : a.eqv b) (hq : clo Q a) : clo Q b := by
  obtain ⟨s, hs, hQ⟩ := hq
  exact ⟨s, ⟨hs.1.trans h.1, fun j => (hs.2 j).trans (h.2 j)⟩, hQ⟩
theorem AK_eqv {L : Lib} {k : List It} {a b : St} {Q : St → Prop} (h : a.eqv b) (hk : AK L k a (clo Q)) : AK L k b (clo Q) := by
  obtain ⟨n, c, a', hr, hq⟩ := hk
  obtain ⟨b', hb, he⟩ := run_eqv h hr
  exact ⟨n, c, b', hb, clo.of_eqv he hq⟩
theorem AO_eqv {L : Lib} {l : List AI} {k : List It} {a b : St} {Q : St → Prop} (h : a.eqv b) (hk : AO L l k a (clo Q)) : AO L l k b (clo Q) := by
  obtain ⟨n, c, a1, a', hs, hr, hq⟩ := hk
  obtain ⟨b1, hb1, he1⟩ := stepL_eqv h hs
  obtain ⟨b', hb, he⟩ := run_eqv he1 hr
  exact ⟨n, c, b1, b', hb1, hb, clo.of_eqv he hq⟩
theorem N_put {L : Lib} {l : List AI} {k : List It} {tm : Tm} {own : Own} {Q : St → Prop} {d : Nat} {v : AV} (h : AO L l k ⟨(d, v) :: tm, own⟩ (clo Q)) : AO L l k ⟨tput tm d v, own⟩ (clo Q) :=
  AO_eqv (a := ⟨(d, v) :: tm, own⟩) ⟨rfl, fun j => by simp only [tget_tput, tget_cons]⟩ h

/-- in the order of the names, each once, some left out -/
def memN (j : Nat) : List Nat → Bool
  | [] => false
  | i :: r => bif Nat.beq j i then true else memN j r
def putB (i : Nat) (v : AV) : Tm → Tm
  | [] => [(i, v)]
  | (j, u) :: r => bif Nat.beq i j then (i, v) :: r else bif Nat.ble i j then (i, v) :: (j, u) :: r else (j, u) :: putB i v r
def canon (ts : List Nat) : Tm → Tm
  | [] => []
  | (i, v) :: r => bif memN i ts then canon ts r else putB i v (canon ts r)
theorem memN_eq (j : Nat) : ∀ ts : List Nat, memN j ts = ts.contains j
  | [] => rfl
  | i :: r => by
    simp only [memN, memN_eq j r, List.contains_cons]
    cases h : Nat.beq j i
    · have : (j == i) = false := by have := Nat.ne_of_beq_eq_false h; simpa using this
      simp [this]
    · have : (j == i) = true := by have := Nat.eq_of_beq_eq_true h; simpa using this
      simp [this]
theorem tget_putB (i : Nat) (v : AV) (j : Nat) : ∀ tm : Tm, tget (putB i v tm) j = if j = i then v else tget tm j
  | [] => by simp [putB, tget_cons, tget_nil]
  | (q, u) :: r => by
    simp only [putB]
    cases h : Nat.beq i q
    · simp only [cond_false]
      have hne : i ≠ q := Nat.ne_of_beq_eq_false h
      cases h2 : Nat.ble i q
      · simp only [cond_false, tget_cons, tget_putB i v j r]
        by_cases h3 : j = q
        · subst h3; rw [if_pos rfl, if_neg (fun e => hne e.symm), if_pos rfl]
        · rw [if_neg h3, if_neg h3]
      · simp [tget_cons]
    · have he : i = q := Nat.eq_of_beq_eq_true h
      subst he
      simp only [cond_true, tget_cons]
      split <;> simp_all
theorem tget_canon (ts : List Nat) (j : Nat) : ∀ tm : Tm, tget (canon ts tm) j = if ts.contains j then .any else tget tm j
  | [] => by simp [canon, tget_nil]
  | (i, v) :: r => by
    simp only [canon, memN_eq]
    cases h : ts.contains i
    · simp only [cond_false, tget_putB, tget_canon ts j r, tget_cons]
      by_cases h2 : j = i
      · subst h2; rw [if_pos rfl, if_pos rfl, h]; simp
      · rw [if_neg h2, if_neg h2]
    · simp only [cond_true, tget_canon ts j r, tget_cons]
      by_cases h2 : j = i
      · subst h2; rw [h]; simp
      · rw [if_neg h2]
theorem N_drp {L : Lib} {k : List It} {tm tm' : Tm} {own : Own} {Q : St → Prop} {ts : List Nat} (ht : canon ts tm = tm') (h : AK L k ⟨tm', own⟩ (clo Q)) : AK L (.drp ts [] :: k) ⟨tm, own⟩ (clo Q) := by
  refine K_drp (AK_eqv (a := ⟨tm', own⟩) ⟨rfl, fun j => ?_⟩ h)
  simp only [← ht, tget_canon, tget_tdrop]
theorem N_canon {L : Lib} {k : List It} {tm tm' : Tm} {own : Own} {Q : St → Prop} (ht : canon [] tm = tm') (h : AK L k ⟨tm', own⟩ (clo Q)) : AK L k ⟨tm, own⟩ (clo Q) := by
  refine AK_eqv (a := ⟨tm', own⟩) ⟨rfl, fun j => ?_⟩ h
  simp [← ht, tget_canon]
theorem Res.eqv {fn : AFn} {r : AV} {a b : St} (h : a.eqv b) (hr : Res fn r a) : Res fn r b := by
  have e : resOf a = resOf b := by
    funext x; cases x with
    | tmp t => simp only [resOf, h.2]
    | cell t agg n => simp only [resOf, h.2, h.1]
  unfold Res at hr ⊢
  rw [e, h.1] at hr
  exact hr
theorem Ev.go {L : Lib} {f : Nat} {fn : AFn} {vs : List AV} {r : AV} (hL : L f = some fn) (hp : vs.length = fn.pars) (h : AK L [.code fn.body] ⟨initTm 0 vs, Own.emp⟩ (clo (Res fn r))) : Ev L f vs r :=
  Ev.fwd hL hp (AK_mono h fun s hs => by
    obtain ⟨s', he, hq⟩ := hs
    exact Res.eqv he hq)

/-! lists of encoded elements -/
abbrev encInt (n : Int) : List AV := [.int .i64 n]
section
variable {L : Lib} {k : List It} {tm : Tm} {own : Own} {Q : St → Prop} {l : List AI} {ban : List Nat} {d : Nat} {x i : Opd} {kd : IntKind} {a : Int} {q : Bool} {α : Type} {es : List α} {enc : α → List AV} {z : Nat}
theorem O_iadrM (hi : St.ev ⟨tm, own⟩ i = .int kd a) (hx : St.ev ⟨tm, own⟩ x = .sl q (es.map enc)) (h0 : 0 ≤ a ∧ a < es.length) (hz : ∀ e, (enc e).length = z) (h : ∀ e, es[a.toNat]? = some e → AO L l k ⟨tput tm d (.dptr (enc e)), own⟩ Q) : AO L (⟨some d, .iadr none z x i, none, ban⟩ :: l) k ⟨tm, own⟩ Q := by
  have hl : a.toNat < es.length := by omega
  have he : es[a.toNat]? = some es[a.toNat] := List.getElem?_eq_getElem hl
  exact O_iadrs (enc es[a.toNat]) hi hx h0.1 (by simp [he]) (hz _) (h _ he)
theorem O_iadrE {e : α} (hi : St.ev ⟨tm, own⟩ i = .int kd a) (hx : St.ev ⟨tm, own⟩ x = .sl q (es.map enc)) (he : es[a.toNat]? = some e) (h0 : 0 ≤ a) (hz : ∀ e, (enc e).length = z) (h : AO L l k ⟨tput tm d (.dptr (enc e)), own⟩ Q) : AO L (⟨some d, .iadr none z x i, none, ban⟩ :: l) k ⟨tm, own⟩ Q :=
  O_iadrs (enc e) hi hx h0 (by simp [he]) (hz _) h
theorem O_lenM (hx : St.ev ⟨tm, own⟩ x = .sl q (es.map enc)) (h : AO L l k ⟨tput tm d (.int .i64 (es.length : Int)), own⟩ Q) : AO L (⟨some d, .len x, none, ban⟩ :: l) k ⟨tm, own⟩ Q := O_len (n := es.length) (by rw [hx]; simp [lenOf]) h
end
end Go.Eng
