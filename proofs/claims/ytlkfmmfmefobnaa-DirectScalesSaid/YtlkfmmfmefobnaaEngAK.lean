/-
  Rules to run the abstract machine by rewriting.
-/
import Derived.Test.YtlkfmmfmefobnaaEngCore
set_option linter.unusedSimpArgs false
set_option linter.unusedVariables false
set_option linter.unnecessarySimpa false
namespace Go.Eng

/-! ### more fuel, the same -/
section
variable {L : Lib}

def Cl.le (C C' : Cl) : Prop := (∀ f vs r, C.pure f vs = some r → C'.pure f vs = some r) ∧ ∀ f vs o r, C.inn f vs o = some r → C'.inn f vs o = some r

theorem eff_mono {C C' : Cl} (h : C.le C') {ban : List Nat} {ρ : Opd → AV} {own : Own} {op : AOp} {E : Eff} (he : eff C ban ρ own op = some E) : eff C' ban ρ own op = some E := by
  cases op with
  | call f xs =>
    simp only [eff] at he ⊢
    split at he
    · rename_i vs hvs
      simp only [Option.map_eq_some_iff] at he ⊢
      obtain ⟨r, hr, rfl⟩ := he
      exact ⟨r, h.1 f vs r hr, rfl⟩
    · cases he
  | calli f xs =>
    simp only [eff, Option.map_eq_some_iff] at he ⊢
    obtain ⟨r, hr, rfl⟩ := he
    exact ⟨r, h.2 f _ own r hr, rfl⟩
  | _ => exact he

theorem stepI_mono {C C' : Cl} (h : C.le C') {o : AI} {st st' : St} (he : stepI C o st = some st') : stepI C' o st = some st' := by
  unfold stepI at he ⊢
  split at he
  · simp only [Option.map_eq_some_iff] at he ⊢
    obtain ⟨E, h1, h2⟩ := he
    exact ⟨E, eff_mono h h1, h2⟩
  · exact he
  · exact he

theorem stepL_mono {C C' : Cl} (h : C.le C') : ∀ {l : List AI} {st st' : St}, stepL C l st = some st' → stepL C' l st = some st'
  | [], st, st', he => he
  | o :: r, st, st', he => by
    simp only [stepL] at he ⊢
    cases hs : stepI C o st with
    | none => simp [hs] at he
    | some st1 =>
      rw [stepI_mono h hs]
      simp only [hs] at he
      exact stepL_mono h he

theorem run_mono {C C' : Cl} (h : C.le C') : ∀ {n n' : Nat} {k : List It} {st st' : St}, n ≤ n' → run C n k st = some st' → run C' n' k st = some st' := by
  intro n
  induction n with
  | zero => intro n' k st st' _ hr; simp [run] at hr
  | succ n ih =>
    intro n' k st st' hn hr
    obtain ⟨q, rfl⟩ : ∃ q, n' = q + 1 := ⟨n' - 1, by omega⟩
    have hq : n ≤ q := by omega
    cases k with
    | nil => exact hr
    | cons it k =>
      cases it with
      | blk id => simp only [run] at hr ⊢; exact ih hq hr
      | drp ts ss => simp only [run] at hr ⊢; exact ih hq hr
      | lp c => simp only [run] at hr ⊢; exact ih hq hr
      | code c =>
        cases c with
        | skip => simp only [run] at hr ⊢; exact ih hq hr
        | ops l d =>
          simp only [run] at hr ⊢
          cases hs : stepL C l st with
          | none => simp [hs] at hr
          | some st1 =>
            rw [stepL_mono h hs]
            simp only [hs] at hr
            exact ih hq hr
        | dr c ts ss => simp only [run] at hr ⊢; exact ih hq hr
        | scope c => simp only [run] at hr ⊢; exact ih hq hr
        | seq a b => simp only [run] at hr ⊢; exact ih hq hr
        | cond x a b =>
          simp only [run] at hr ⊢
          split at hr
          · exact ih hq hr
          · exact ih hq hr
          · cases hr
        | block id c => simp only [run] at hr ⊢; exact ih hq hr
        | loop c => simp only [run] at hr ⊢; exact ih hq hr
        | exit id =>
          simp only [run] at hr ⊢
          split at hr
          · exact ih hq hr
          · cases hr
        | ret => exact hr

theorem ev_mono : ∀ (n : Nat), (clAt L n).le (clAt L (n + 1)) := by
  have inn : ∀ n, (∀ f vs o r, evI L n f vs o = some r → evI L (n + 1) f vs o = some r) → ∀ f vs r, evP L n f vs = some r → evP L (n + 1) f vs = some r := by
    intro n hI f vs r h
    unfold evP at h ⊢
    cases he : evI L n f vs Own.emp with
    | none => simp [he] at h
    | some x => rw [hI f vs _ _ he]; simpa [he] using h
  intro n
  induction n with
  | zero =>
    have : ∀ f vs o r, evI L 0 f vs o = some r → evI L 1 f vs o = some r := fun f vs o r h => by simp [evI] at h
    exact ⟨inn 0 this, this⟩
  | succ n ih =>
    have : ∀ f vs o r, evI L (n + 1) f vs o = some r → evI L (n + 2) f vs o = some r := fun f vs o r h => by
      rw [evI_succ] at h ⊢
      cases hL : L f with
      | none => simp [hL] at h
      | some fn =>
        simp only [hL] at h ⊢
        split at h
        · rename_i hp
          rw [if_pos hp]
          cases hr : run (clAt L n) n [.code fn.body] ⟨initTm 0 vs, o⟩ with
          | none => simp [hr] at h
          | some st =>
            rw [run_mono ih (Nat.le_succ n) hr]
            simpa [hr] using h
        · cases h
    exact ⟨inn (n + 1) this, this⟩

theorem cl_le {n n' : Nat} (h : n ≤ n') : (clAt L n).le (clAt L n') := by
  induction h with
  | refl => exact ⟨fun _ _ _ h => h, fun _ _ _ _ h => h⟩
  | step _ ih => exact ⟨fun f vs r h => (ev_mono _).1 f vs r (ih.1 f vs r h), fun f vs o r h => (ev_mono _).2 f vs o r (ih.2 f vs o r h)⟩

/-- a call that only reads, and what it comes to -/
def Ev (L : Lib) (f : Nat) (vs : List AV) (r : AV) : Prop := ∃ n, evP L n f vs = some r
/-- a call in the caller's own memory -/
def EvI (L : Lib) (f : Nat) (vs : List AV) (o : Own) (r : AV) (o' : Own) : Prop := ∃ n, evI L n f vs o = some (r, o')

theorem Ev.det {f : Nat} {vs : List AV} {r r' : AV} (h : Ev L f vs r) (h' : Ev L f vs r') : r = r' := by
  obtain ⟨n, hn⟩ := h
  obtain ⟨n', hn'⟩ := h'
  have h1 := (cl_le (L := L) (Nat.le_max_left n n')).1 f vs r hn
  have h2 := (cl_le (L := L) (Nat.le_max_right n n')).1 f vs r' hn'
  rw [h1] at h2
  exact Option.some.inj h2
theorem EvI.det {f : Nat} {vs : List AV} {o : Own} {r r' : AV} {o1 o2 : Own} (h : EvI L f vs o r o1) (h' : EvI L f vs o r' o2) : r = r' ∧ o1 = o2 := by
  obtain ⟨n, hn⟩ := h
  obtain ⟨n', hn'⟩ := h'
  have h1 := (cl_le (L := L) (Nat.le_max_left n n')).2 f vs o _ hn
  have h2 := (cl_le (L := L) (Nat.le_max_right n n')).2 f vs o _ hn'
  rw [h1] at h2
  simpa using h2
theorem Ev.iff {f : Nat} {vs : List AV} {r r' : AV} (h : Ev L f vs r) : Ev L f vs r' ↔ r' = r := ⟨fun h' => h'.det h, fun e => e ▸ h⟩

/-- a run to the end -/
def AK (L : Lib) (k : List It) (st : St) (Q : St → Prop) : Prop := ∃ n c st', run (clAt L c) n k st = some st' ∧ Q st'
/-- the same from within a region -/
def AO (L : Lib) (l : List AI) (k : List It) (st : St) (Q : St → Prop) : Prop := ∃ n c st1 st', stepL (clAt L c) l st = some st1 ∧ run (clAt L c) n k st1 = some st' ∧ Q st'

variable {k : List It} {st : St} {Q : St → Prop}

theorem AK_step {it : It} {k' : List It} {st1 : St} (h : ∀ (C : Cl) (n : Nat), run C (n + 1) (it :: k) st = run C n k' st1) : AK L (it :: k) st Q ↔ AK L k' st1 Q := by
  constructor
  · rintro ⟨n, c, st', hr, hq⟩
    cases n with
    | zero => simp [run] at hr
    | succ n => exact ⟨n, c, st', by rw [← h]; exact hr, hq⟩
  · rintro ⟨n, c, st', hr, hq⟩
    exact ⟨n + 1, c, st', by rw [h]; exact hr, hq⟩

theorem AK_nil : AK L [] st Q ↔ Q st := by
  constructor
  · rintro ⟨n, c, st', hr, hq⟩
    cases n with
    | zero => simp [run] at hr
    | succ n => simp only [run, Option.some.injEq] at hr; exact hr ▸ hq
  · exact fun h => ⟨1, 0, st, rfl, h⟩
theorem AK_blk {id : Nat} : AK L (.blk id :: k) st Q ↔ AK L k st Q := AK_step fun _ _ => rfl
theorem AK_drp {ts ss : List Nat} : AK L (.drp ts ss :: k) st Q ↔ AK L k ⟨tdrop st.tm ts, st.own.drop ss⟩ Q := AK_step fun _ _ => rfl
theorem AK_lp {c : ACode} : AK L (.lp c :: k) st Q ↔ AK L (.code c :: .lp c :: k) st Q := AK_step fun _ _ => rfl
theorem AK_skip : AK L (.code .skip :: k) st Q ↔ AK L k st Q := AK_step fun _ _ => rfl
theorem AK_dr {c : ACode} {ts ss : List Nat} : AK L (.code (.dr c ts ss) :: k) st Q ↔ AK L (.code c :: .drp ts ss :: k) st Q := AK_step fun _ _ => rfl
theorem AK_scope {c : ACode} : AK L (.code (.scope c) :: k) st Q ↔ AK L (.code c :: k) st Q := AK_step fun _ _ => rfl
theorem AK_seq {a b : ACode} : AK L (.code (.seq a b) :: k) st Q ↔ AK L (.code a :: .code b :: k) st Q := AK_step fun _ _ => rfl
theorem AK_block {id : Nat} {c : ACode} : AK L (.code (.block id c) :: k) st Q ↔ AK L (.code c :: .blk id :: k) st Q := AK_step fun _ _ => rfl
theorem AK_loop {c : ACode} : AK L (.code (.loop c) :: k) st Q ↔ AK L (.code c :: .lp c :: k) st Q := AK_step fun _ _ => rfl
theorem AK_exit {id : Nat} {k' : List It} (h : exitA id k = some k') : AK L (.code (.exit id) :: k) st Q ↔ AK L k' st Q := AK_step fun C n => by simp [run, h]
theorem AK_ret : AK L (.code .ret :: k) st Q ↔ Q st := by
  constructor
  · rintro ⟨n, c, st', hr, hq⟩
    cases n with
    | zero => simp [run] at hr
    | succ n => simp only [run, Option.some.injEq] at hr; exact hr ▸ hq
  · exact fun h => ⟨1, 0, st, rfl, h⟩
theorem AK_cond {x : Opd} {a b : ACode} {t : Bool} (h : st.ev x = .bool t) : AK L (.code (.cond x a b) :: k) st Q ↔ if t = true then AK L (.code a :: k) st Q else AK L (.code b :: k) st Q := by
  cases t
  · simpa using AK_step (k' := .code b :: k) (st1 := st) fun C n => by simp [run, h]
  · simpa using AK_step (k' := .code a :: k) (st1 := st) fun C n => by simp [run, h]

theorem AK_ops {l : List AI} {d : Bool} : AK L (.code (.ops l d) :: k) st Q ↔ AO L l k st Q := by
  constructor
  · rintro ⟨n, c, st', hr, hq⟩
    cases n with
    | zero => simp [run] at hr
    | succ n =>
      simp only [run] at hr
      split at hr
      · rename_i st1 hs
        exact ⟨n, c, st1, st', hs, hr, hq⟩
      · cases hr
  · rintro ⟨n, c, st1, st', hs, hr, hq⟩
    exact ⟨n + 1, c, st', by simp [run, hs, hr], hq⟩

theorem AO_nil : AO L [] k st Q ↔ AK L k st Q := by
  constructor
  · rintro ⟨n, c, st1, st', hs, hr, hq⟩
    simp only [stepL, Option.some.injEq] at hs
    exact ⟨n, c, st', hs ▸ hr, hq⟩
  · rintro ⟨n, c, st', hr, hq⟩
    exact ⟨n, c, st, st', rfl, hr, hq⟩

theorem AO_step {o : AI} {l : List AI} {st1 : St} (h : ∀ C, stepI C o st = some st1) : AO L (o :: l) k st Q ↔ AO L l k st1 Q := by
  constructor
  · rintro ⟨n, c, st2, st', hs, hr, hq⟩
    simp only [stepL, h] at hs
    exact ⟨n, c, st2, st', hs, hr, hq⟩
  · rintro ⟨n, c, st2, st', hs, hr, hq⟩
    exact ⟨n, c, st2, st', by simpa only [stepL, h] using hs, hr, hq⟩

/-- not wanted -/
theorem AO_not {d : Option Nat} {op : AOp} {g : Option (Nat × Bool)} {ban : List Nat} {l : List AI} (h : guardA st g = some false) : AO L (⟨d, op, g, ban⟩ :: l) k st Q ↔ AO L l k (st.dst d (.tup [])) Q :=
  AO_step fun C => by simp [stepI, h]
/-- wanted: any operation but a call -/
theorem AO_op {d : Option Nat} {op : AOp} {g : Option (Nat × Bool)} {ban : List Nat} {l : List AI} {E : Eff} (h : guardA st g = some true) (he : ∀ C, eff C ban st.ev st.own op = some E) : AO L (⟨d, op, g, ban⟩ :: l) k st Q ↔ AO L l k (st.app d E) Q :=
  AO_step fun C => by simp [stepI, h, he]
/-- a call that only reads -/
theorem AO_call {d : Option Nat} {f : Nat} {xs : List Opd} {g : Option (Nat × Bool)} {ban : List Nat} {l : List AI} {vs : List AV} {r : AV} (h : guardA st g = some true) (hv : (xs.map st.ev).mapM (snapA (st.own.hide ban) true) = some vs) (hr : Ev L f vs r) :
    AO L (⟨d, .call f xs, g, ban⟩ :: l) k st Q ↔ AO L l k (st.dst d r) Q := by
  have hst : ∀ c r', evP L c f vs = some r' → stepI (clAt L c) ⟨d, .call f xs, g, ban⟩ st = some (st.dst d r') := fun c r' hc => by
    have hc' : (clAt L c).pure f vs = some r' := hc
    simp [stepI, h, eff, hv, hc', St.app]
  constructor
  · rintro ⟨n, c, st2, st', hs, hrn, hq⟩
    simp only [stepL] at hs
    cases hI : stepI (clAt L c) ⟨d, .call f xs, g, ban⟩ st with
    | none => simp [hI] at hs
    | some st1 =>
      simp only [hI] at hs
      cases hp : evP L c f vs with
      | none =>
        have hc' : (clAt L c).pure f vs = none := hp
        simp [stepI, h, eff, hv, hc'] at hI
      | some r' =>
        obtain rfl : r' = r := Ev.det ⟨c, hp⟩ hr
        rw [hst c r' hp] at hI
        obtain rfl := Option.some.inj hI
        exact ⟨n, c, st2, st', hs, hrn, hq⟩
  · rintro ⟨n, c, st2, st', hs, hrn, hq⟩
    obtain ⟨c', hc'⟩ := hr
    have l1 := cl_le (L := L) (Nat.le_max_left c c')
    have l2 := cl_le (L := L) (Nat.le_max_right c c')
    refine ⟨n, max c c', st2, st', ?_, run_mono l1 (Nat.le_refl n) hrn, hq⟩
    simp only [stepL]
    rw [hst (max c c') r (l2.1 f vs r hc')]
    exact stepL_mono l1 hs
/-- a call in the own memory -/
theorem AO_calli {d : Option Nat} {f : Nat} {xs : List Opd} {g : Option (Nat × Bool)} {ban : List Nat} {l : List AI} {r : AV} {o' : Own} (h : guardA st g = some true) (hr : EvI L f (xs.map st.ev) st.own r o') :
    AO L (⟨d, .calli f xs, g, ban⟩ :: l) k st Q ↔ AO L l k { (st.dst d r) with own := o' } Q := by
  have hst : ∀ c r' o1, evI L c f (xs.map st.ev) st.own = some (r', o1) → stepI (clAt L c) ⟨d, .calli f xs, g, ban⟩ st = some { (st.dst d r') with own := o1 } := fun c r' o1 hc => by
    have hc' : (clAt L c).inn f (xs.map st.ev) st.own = some (r', o1) := hc
    simp [stepI, h, eff, hc', St.app]
  constructor
  · rintro ⟨n, c, st2, st', hs, hrn, hq⟩
    simp only [stepL] at hs
    cases hI : stepI (clAt L c) ⟨d, .calli f xs, g, ban⟩ st with
    | none => simp [hI] at hs
    | some st1 =>
      simp only [hI] at hs
      cases hp : evI L c f (xs.map st.ev) st.own with
      | none =>
        have hc' : (clAt L c).inn f (xs.map st.ev) st.own = none := hp
        simp [stepI, h, eff, hc'] at hI
      | some x =>
        obtain ⟨r', o1⟩ := x
        obtain ⟨rfl, rfl⟩ := EvI.det ⟨c, hp⟩ hr
        rw [hst c r' o1 hp] at hI
        obtain rfl := Option.some.inj hI
        exact ⟨n, c, st2, st', hs, hrn, hq⟩
  · rintro ⟨n, c, st2, st', hs, hrn, hq⟩
    obtain ⟨c', hc'⟩ := hr
    have l1 := cl_le (L := L) (Nat.le_max_left c c')
    have l2 := cl_le (L := L) (Nat.le_max_right c c')
    refine ⟨n, max c c', st2, st', ?_, run_mono l1 (Nat.le_refl n) hrn, hq⟩
    simp only [stepL]
    rw [hst (max c c') r o' (l2.2 f _ _ _ hc')]
    exact stepL_mono l1 hs

theorem AK_mono {Q' : St → Prop} (h : AK L k st Q) (hq : ∀ s, Q s → Q' s) : AK L k st Q' := by
  obtain ⟨n, c, st', hr, hh⟩ := h
  exact ⟨n, c, st', hr, hq _ hh⟩

/-- a function, from its body -/
theorem EvI.intro {f : Nat} {fn : AFn} {vs : List AV} {o : Own} {r : AV} {o' : Own} (hL : L f = some fn) (hp : vs.length = fn.pars) (h : AK L [.code fn.body] ⟨initTm 0 vs, o⟩ (fun st => (fn.res.mapM (resOf st)).map resVal = some r ∧ st.own = o')) : EvI L f vs o r o' := by
  obtain ⟨n, c, st', hr, h1, h2⟩ := h
  refine ⟨max n c + 1, ?_⟩
  rw [evI_succ]
  simp only [hL, hp, if_true]
  rw [run_mono (cl_le (L := L) (Nat.le_max_right n c)) (Nat.le_max_left n c) hr]
  cases hm : fn.res.mapM (resOf st') with
  | none => rw [hm] at h1; cases h1
  | some rs =>
    rw [hm] at h1
    simp only [Option.map_some, Option.some.injEq] at h1
    simp [hm, h1, h2]
theorem Ev.intro {f : Nat} {fn : AFn} {vs : List AV} {r : AV} (hL : L f = some fn) (hp : vs.length = fn.pars) (h : AK L [.code fn.body] ⟨initTm 0 vs, Own.emp⟩ (fun st => ((fn.res.mapM (resOf st)).map resVal).bind (snapR st.own false) = some r ∧ Clean r)) : Ev L f vs r := by
  obtain ⟨n, c, st', hr, h1, h2⟩ := h
  cases hm : (fn.res.mapM (resOf st')).map resVal with
  | none => rw [hm] at h1; cases h1
  | some r0 =>
    rw [hm] at h1
    simp only [Option.bind_some] at h1
    obtain ⟨q, hq⟩ := EvI.intro (o := Own.emp) (r := r0) (o' := st'.own) hL hp ⟨n, c, st', hr, hm, rfl⟩
    refine ⟨q, ?_⟩
    unfold evP
    simp [hq, h1, h2]
end
end Go.Eng
