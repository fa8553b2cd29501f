/-
  Rules to run the abstract machine by rewriting.
-/
import Derived.Test.YtajmlglkafhdhaaB4
import Derived.Test.YtajmlglkafhdhaaB1
import Derived.IntWalk
set_option linter.unusedSimpArgs false
set_option linter.unusedVariables false
set_option linter.unnecessarySimpa false
namespace Go.Eng

/-! ### more fuel, the same -/
section
variable {L : Lib}

def Cl.le (C C' : Cl) : Prop := (∀ f vs r, C.pure f vs = some r → C'.pure f vs = some r) ∧ (∀ f vs o r, C.inn f vs o = some r → C'.inn f vs o = some r) ∧ C.num = C'.num

theorem eff_mono {C C' : Cl} (h : C.le C') {ban : List Nat} {ρ : Opd → AV} {own : Own} {op : AOp} {E : Eff} (he : eff C ban ρ own op = some E) : eff C' ban ρ own op = some E := by
  cases op with
  | call f xs =>
    simp only [eff] at he ⊢
    split at he
    · rename_i vs hvs
      simp only [Option.map_eq_some_iff] at he ⊢
      obtain ⟨r, hr, rfl⟩ := he
      exact ⟨r, h.1 f vs r hr, rfl⟩
    · cases he
  | calli f xs =>
    simp only [eff, Option.map_eq_some_iff] at he ⊢
    obtain ⟨r, hr, rfl⟩ := he
    exact ⟨r, h.2.1 f _ own r hr, rfl⟩
  | mkf p f xs => simp only [eff] at he ⊢; rw [← h.2.2]; exact he
  | callq f xs =>
    simp only [eff] at he ⊢
    split at he
    · rename_i hq
      rw [if_pos hq]
      split at he
      · rename_i r hr
        rw [h.1 _ _ r hr]
        exact he
      · cases he
    · cases he
  | callv x xs =>
    simp only [eff] at he ⊢
    rw [← h.2.2]
    split at he
    · split at he
      · rename_i hg
        rw [if_pos hg]
        split at he
        · split at he
          · rename_i vs hvs
            simp only [Option.map_eq_some_iff] at he ⊢
            obtain ⟨r, hr, rfl⟩ := he
            exact ⟨r, h.1 _ vs r hr, rfl⟩
          · cases he
        · simp only [Option.map_eq_some_iff] at he ⊢
          obtain ⟨r, hr, rfl⟩ := he
          exact ⟨r, h.2.1 _ _ own r hr, rfl⟩
        · cases he
      · cases he
    · cases he
  | _ => exact he

theorem stepI_mono {C C' : Cl} (h : C.le C') {o : AI} {st st' : St} (he : stepI C o st = some st') : stepI C' o st = some st' := by
  unfold stepI at he ⊢
  split at he
  · simp only [Option.map_eq_some_iff] at he ⊢
    obtain ⟨E, h1, h2⟩ := he
    exact ⟨E, eff_mono h h1, h2⟩
  · exact he
  · exact he

theorem stepL_mono {C C' : Cl} (h : C.le C') : ∀ {l : List AI} {st st' : St}, stepL C l st = some st' → stepL C' l st = some st'
  | [], st, st', he => he
  | o :: r, st, st', he => by
    simp only [stepL] at he ⊢
    cases hs : stepI C o st with
    | none => simp [hs] at he
    | some st1 =>
      rw [stepI_mono h hs]
      simp only [hs] at he
      exact stepL_mono h he

theorem run_mono {C C' : Cl} (h : C.le C') : ∀ {n n' : Nat} {k : List It} {st st' : St}, n ≤ n' → run C n k st = some st' → run C' n' k st = some st' := by
  intro n
  induction n with
  | zero => intro n' k st st' _ hr; simp [run] at hr
  | succ n ih =>
    intro n' k st st' hn hr
    obtain ⟨q, rfl⟩ : ∃ q, n' = q + 1 := ⟨n' - 1, by omega⟩
    have hq : n ≤ q := by omega
    cases k with
    | nil => exact hr
    | cons it k =>
      cases it with
      | blk id => simp only [run] at hr ⊢; exact ih hq hr
      | drp ts ss => simp only [run] at hr ⊢; exact ih hq hr
      | lp c => simp only [run] at hr ⊢; exact ih hq hr
      | code c =>
        cases c with
        | skip => simp only [run] at hr ⊢; exact ih hq hr
        | ops l d =>
          simp only [run] at hr ⊢
          cases hs : stepL C l st with
          | none => simp [hs] at hr
          | some st1 =>
            rw [stepL_mono h hs]
            simp only [hs] at hr
            exact ih hq hr
        | dr c ts ss => simp only [run] at hr ⊢; exact ih hq hr
        | scope c => simp only [run] at hr ⊢; exact ih hq hr
        | seq a b => simp only [run] at hr ⊢; exact ih hq hr
        | cond x a b =>
          simp only [run] at hr ⊢
          split at hr
          · exact ih hq hr
          · exact ih hq hr
          · cases hr
        | block id c => simp only [run] at hr ⊢; exact ih hq hr
        | loop c => simp only [run] at hr ⊢; exact ih hq hr
        | exit id =>
          simp only [run] at hr ⊢
          split at hr
          · exact ih hq hr
          · cases hr
        | ret => exact hr

theorem pureP_mono {I I' : List AV → Option (AV × Own)} (hI : ∀ vs r, I vs = some r → I' vs = some r) {vs : List AV} {r : AV} (h : pureP I vs = some r) : pureP I' vs = some r := by
  unfold pureP at h ⊢
  cases he : I vs with
  | none => simp [he] at h
  | some x => rw [hI vs _ he]; simpa [he] using h
theorem pureS_mono {b : Bool} {I I' : List AV → Option (AV × Own)} (hI : ∀ vs r, I vs = some r → I' vs = some r) {vs : List AV} {r : AV} (h : pureS b I vs = some r) : pureS b I' vs = some r := by
  unfold pureS at h ⊢
  split at h
  · split at h
    · rename_i r1 r2 h1 h2
      rw [pureP_mono hI h1, pureP_mono hI h2]
      exact h
    · cases h
  · exact pureP_mono hI h
theorem ev_mono : ∀ (n : Nat), (clAt L n).le (clAt L (n + 1)) := by
  have inn : ∀ n, (∀ f vs o r, evI L n f vs o = some r → evI L (n + 1) f vs o = some r) → ∀ f vs r, evP L n f vs = some r → evP L (n + 1) f vs = some r := by
    intro n hI f vs r h
    exact pureS_mono (fun vs r h => hI f vs _ r h) h
  intro n
  induction n with
  | zero =>
    have : ∀ f vs o r, evI L 0 f vs o = some r → evI L 1 f vs o = some r := fun f vs o r h => by simp [evI] at h
    exact ⟨inn 0 this, this, rfl⟩
  | succ n ih =>
    have : ∀ f vs o r, evI L (n + 1) f vs o = some r → evI L (n + 2) f vs o = some r := fun f vs o r h => by
      rw [evI_succ] at h ⊢
      cases hL : L f with
      | none => simp [hL] at h
      | some fn =>
        simp only [hL] at h ⊢
        split at h
        · rename_i hp
          rw [if_pos hp]
          cases hr : run (clAt L n) n [.code fn.body] ⟨initTm 0 vs, o⟩ with
          | none => simp [hr] at h
          | some st =>
            rw [run_mono ih (Nat.le_succ n) hr]
            simpa [hr] using h
        · cases h
    exact ⟨inn (n + 1) this, this, rfl⟩

theorem cl_le {n n' : Nat} (h : n ≤ n') : (clAt L n).le (clAt L n') := by
  induction h with
  | refl => exact ⟨fun _ _ _ h => h, fun _ _ _ _ h => h, rfl⟩
  | step _ ih => exact ⟨fun f vs r h => (ev_mono _).1 f vs r (ih.1 f vs r h), fun f vs o r h => (ev_mono _).2.1 f vs o r (ih.2.1 f vs o r h), rfl⟩

/-- a call that only reads, and what it comes to -/
def Ev (L : Lib) (f : Nat) (vs : List AV) (r : AV) : Prop := ∃ n, evP L n f vs = some r
/-- the same with the arguments as they stand -/
def EvD (L : Lib) (f : Nat) (vs : List AV) (r : AV) : Prop := ∃ n, pureP (fun vs => evI L n f vs Own.emp) vs = some r
/-- a call in the caller's own memory -/
def EvI (L : Lib) (f : Nat) (vs : List AV) (o : Own) (r : AV) (o' : Own) : Prop := ∃ n, evI L n f vs o = some (r, o')

theorem Ev.det {f : Nat} {vs : List AV} {r r' : AV} (h : Ev L f vs r) (h' : Ev L f vs r') : r = r' := by
  obtain ⟨n, hn⟩ := h
  obtain ⟨n', hn'⟩ := h'
  have h1 := (cl_le (L := L) (Nat.le_max_left n n')).1 f vs r hn
  have h2 := (cl_le (L := L) (Nat.le_max_right n n')).1 f vs r' hn'
  rw [h1] at h2
  exact Option.some.inj h2
theorem EvI.det {f : Nat} {vs : List AV} {o : Own} {r r' : AV} {o1 o2 : Own} (h : EvI L f vs o r o1) (h' : EvI L f vs o r' o2) : r = r' ∧ o1 = o2 := by
  obtain ⟨n, hn⟩ := h
  obtain ⟨n', hn'⟩ := h'
  have h1 := (cl_le (L := L) (Nat.le_max_left n n')).2.1 f vs o _ hn
  have h2 := (cl_le (L := L) (Nat.le_max_right n n')).2.1 f vs o _ hn'
  rw [h1] at h2
  simpa using h2
theorem Ev.iff {f : Nat} {vs : List AV} {r r' : AV} (h : Ev L f vs r) : Ev L f vs r' ↔ r' = r := ⟨fun h' => h'.det h, fun e => e ▸ h⟩

/-- a run to the end -/
def AK (L : Lib) (k : List It) (st : St) (Q : St → Prop) : Prop := ∃ n c st', run (clAt L c) n k st = some st' ∧ Q st'
/-- the same from within a region -/
def AO (L : Lib) (l : List AI) (k : List It) (st : St) (Q : St → Prop) : Prop := ∃ n c st1 st', stepL (clAt L c) l st = some st1 ∧ run (clAt L c) n k st1 = some st' ∧ Q st'

variable {k : List It} {st : St} {Q : St → Prop}

theorem AK_step {it : It} {k' : List It} {st1 : St} (h : ∀ (C : Cl) (n : Nat), run C (n + 1) (it :: k) st = run C n k' st1) : AK L (it :: k) st Q ↔ AK L k' st1 Q := by
  constructor
  · rintro ⟨n, c, st', hr, hq⟩
    cases n with
    | zero => simp [run] at hr
    | succ n => exact ⟨n, c, st', by rw [← h]; exact hr, hq⟩
  · rintro ⟨n, c, st', hr, hq⟩
    exact ⟨n + 1, c, st', by rw [h]; exact hr, hq⟩

theorem AK_nil : AK L [] st Q ↔ Q st := by
  constructor
  · rintro ⟨n, c, st', hr, hq⟩
    cases n with
    | zero => simp [run] at hr
    | succ n => simp only [run, Option.some.injEq] at hr; exact hr ▸ hq
  · exact fun h => ⟨1, 0, st, rfl, h⟩
theorem AK_blk {id : Nat} : AK L (.blk id :: k) st Q ↔ AK L k st Q := AK_step fun _ _ => rfl
theorem AK_drp {ts ss : List Nat} : AK L (.drp ts ss :: k) st Q ↔ AK L k ⟨tdrop st.tm ts, st.own.drop ss⟩ Q := AK_step fun _ _ => rfl
theorem AK_lp {c : ACode} : AK L (.lp c :: k) st Q ↔ AK L (.code c :: .lp c :: k) st Q := AK_step fun _ _ => rfl
theorem AK_skip : AK L (.code .skip :: k) st Q ↔ AK L k st Q := AK_step fun _ _ => rfl
theorem AK_dr {c : ACode} {ts ss : List Nat} : AK L (.code (.dr c ts ss) :: k) st Q ↔ AK L (.code c :: .drp ts ss :: k) st Q := AK_step fun _ _ => rfl
theorem AK_scope {c : ACode} : AK L (.code (.scope c) :: k) st Q ↔ AK L (.code c :: k) st Q := AK_step fun _ _ => rfl
theorem AK_seq {a b : ACode} : AK L (.code (.seq a b) :: k) st Q ↔ AK L (.code a :: .code b :: k) st Q := AK_step fun _ _ => rfl
theorem AK_block {id : Nat} {c : ACode} : AK L (.code (.block id c) :: k) st Q ↔ AK L (.code c :: .blk id :: k) st Q := AK_step fun _ _ => rfl
theorem AK_loop {c : ACode} : AK L (.code (.loop c) :: k) st Q ↔ AK L (.code c :: .lp c :: k) st Q := AK_step fun _ _ => rfl
theorem AK_exit {id : Nat} {k' : List It} (h : exitA id k = some k') : AK L (.code (.exit id) :: k) st Q ↔ AK L k' st Q := AK_step fun C n => by simp [run, h]
theorem AK_ret : AK L (.code .ret :: k) st Q ↔ Q st := by
  constructor
  · rintro ⟨n, c, st', hr, hq⟩
    cases n with
    | zero => simp [run] at hr
    | succ n => simp only [run, Option.some.injEq] at hr; exact hr ▸ hq
  · exact fun h => ⟨1, 0, st, rfl, h⟩
theorem AK_cond {x : Opd} {a b : ACode} {t : Bool} (h : st.ev x = .bool t) : AK L (.code (.cond x a b) :: k) st Q ↔ if t = true then AK L (.code a :: k) st Q else AK L (.code b :: k) st Q := by
  cases t
  · simpa using AK_step (k' := .code b :: k) (st1 := st) fun C n => by simp [run, h]
  · simpa using AK_step (k' := .code a :: k) (st1 := st) fun C n => by simp [run, h]

theorem AK_ops {l : List AI} {d : Bool} : AK L (.code (.ops l d) :: k) st Q ↔ AO L l k st Q := by
  constructor
  · rintro ⟨n, c, st', hr, hq⟩
    cases n with
    | zero => simp [run] at hr
    | succ n =>
      simp only [run] at hr
      split at hr
      · rename_i st1 hs
        exact ⟨n, c, st1, st', hs, hr, hq⟩
      · cases hr
  · rintro ⟨n, c, st1, st', hs, hr, hq⟩
    exact ⟨n + 1, c, st', by simp [run, hs, hr], hq⟩

theorem AO_nil : AO L [] k st Q ↔ AK L k st Q := by
  constructor
  · rintro ⟨n, c, st1, st', hs, hr, hq⟩
    simp only [stepL, Option.some.injEq] at hs
    exact ⟨n, c, st', hs ▸ hr, hq⟩
  · rintro ⟨n, c, st', hr, hq⟩
    exact ⟨n, c, st, st', rfl, hr, hq⟩

theorem AO_step {o : AI} {l : List AI} {st1 : St} (h : ∀ C, stepI C o st = some st1) : AO L (o :: l) k st Q ↔ AO L l k st1 Q := by
  constructor
  · rintro ⟨n, c, st2, st', hs, hr, hq⟩
    simp only [stepL, h] at hs
    exact ⟨n, c, st2, st', hs, hr, hq⟩
  · rintro ⟨n, c, st2, st', hs, hr, hq⟩
    exact ⟨n, c, st2, st', by simpa only [stepL, h] using hs, hr, hq⟩

/-- not wanted -/
theorem AO_not {d : Option Nat} {op : AOp} {g : Option (Nat × Bool)} {ban : List Nat} {l : List AI} (h : guardA st g = some false) : AO L (⟨d, op, g, ban⟩ :: l) k st Q ↔ AO L l k (st.dst d (.tup [])) Q :=
  AO_step fun C => by simp [stepI, h]
/-- wanted: any operation but a call -/
theorem AO_op {d : Option Nat} {op : AOp} {g : Option (Nat × Bool)} {ban : List Nat} {l : List AI} {E : Eff} (h : guardA st g = some true) (he : ∀ C, eff C ban st.ev st.own op = some E) : AO L (⟨d, op, g, ban⟩ :: l) k st Q ↔ AO L l k (st.app d E) Q :=
  AO_step fun C => by simp [stepI, h, he]
theorem clAt_num (c : Nat) : (clAt L c).num = L.num := rfl
theorem AO_opL {d : Option Nat} {op : AOp} {g : Option (Nat × Bool)} {ban : List Nat} {l : List AI} {E : Eff} (h : guardA st g = some true) (he : ∀ c, eff (clAt L c) ban st.ev st.own op = some E) : AO L (⟨d, op, g, ban⟩ :: l) k st Q ↔ AO L l k (st.app d E) Q := by
  have h : ∀ c, stepI (clAt L c) ⟨d, op, g, ban⟩ st = some (st.app d E) := fun c => by simp [stepI, h, he]
  constructor
  · rintro ⟨n, c, st2, st', hs, hr, hq⟩
    simp only [stepL, h] at hs
    exact ⟨n, c, st2, st', hs, hr, hq⟩
  · rintro ⟨n, c, st2, st', hs, hr, hq⟩
    exact ⟨n, c, st2, st', by simpa only [stepL, h] using hs, hr, hq⟩
/-- a call that only reads -/
theorem AO_call {d : Option Nat} {f : Nat} {xs : List Opd} {g : Option (Nat × Bool)} {ban : List Nat} {l : List AI} {vs : List AV} {r : AV} (h : guardA st g = some true) (hv : (xs.map st.ev).mapM (snapA (st.own.hide ban) true) = some vs) (hr : Ev L f vs r) :
    AO L (⟨d, .call f xs, g, ban⟩ :: l) k st Q ↔ AO L l k (st.dst d r) Q := by
  have hst : ∀ c r', evP L c f vs = some r' → stepI (clAt L c) ⟨d, .call f xs, g, ban⟩ st = some (st.dst d r') := fun c r' hc => by
    have hc' : (clAt L c).pure f vs = some r' := hc
    simp [stepI, h, eff, hv, hc', St.app]
  constructor
  · rintro ⟨n, c, st2, st', hs, hrn, hq⟩
    simp only [stepL] at hs
    cases hI : stepI (clAt L c) ⟨d, .call f xs, g, ban⟩ st with
    | none => simp [hI] at hs
    | some st1 =>
      simp only [hI] at hs
      cases hp : evP L c f vs with
      | none =>
        have hc' : (clAt L c).pure f vs = none := hp
        simp [stepI, h, eff, hv, hc'] at hI
      | some r' =>
        obtain rfl : r' = r := Ev.det ⟨c, hp⟩ hr
        rw [hst c r' hp] at hI
        obtain rfl := Option.some.inj hI
        exact ⟨n, c, st2, st', hs, hrn, hq⟩
  · rintro ⟨n, c, st2, st', hs, hrn, hq⟩
    obtain ⟨c', hc'⟩ := hr
    have l1 := cl_le (L := L) (Nat.le_max_left c c')
    have l2 := cl_le (L := L) (Nat.le_max_right c c')
    refine ⟨n, max c c', st2, st', ?_, run_mono l1 (Nat.le_refl n) hrn, hq⟩
    simp only [stepL]
    rw [hst (max c c') r (l2.1 f vs r hc')]
    exact stepL_mono l1 hs
theorem AO_callp {d : Option Nat} {f : Nat} {x : Opd} {xs : List Opd} {g : Option (Nat × Bool)} {ban : List Nat} {l : List AI} {vs : List AV} {r : AV} (h : guardA st g = some true) (hx : st.ev x = .fn true f (L.num f) []) (hv : (xs.map st.ev).mapM (snapA st.own true) = some vs) (hr : Ev L f vs r) :
    AO L (⟨d, .callv x xs, g, ban⟩ :: l) k st Q ↔ AO L l k (st.dst d r) Q := by
  have hst : ∀ c r', evP L c f vs = some r' → stepI (clAt L c) ⟨d, .callv x xs, g, ban⟩ st = some (st.dst d r') := fun c r' hc => by
    have hc' : (clAt L c).pure f vs = some r' := hc
    simp [stepI, h, eff, hx, clAt_num, hv, hc', St.app]
  constructor
  · rintro ⟨n, c, st2, st', hs, hrn, hq⟩
    simp only [stepL] at hs
    cases hI : stepI (clAt L c) ⟨d, .callv x xs, g, ban⟩ st with
    | none => simp [hI] at hs
    | some st1 =>
      simp only [hI] at hs
      cases hp : evP L c f vs with
      | none =>
        have hc' : (clAt L c).pure f vs = none := hp
        simp [stepI, h, eff, hx, clAt_num, hv, hc'] at hI
      | some r' =>
        obtain rfl : r' = r := Ev.det ⟨c, hp⟩ hr
        rw [hst c r' hp] at hI
        obtain rfl := Option.some.inj hI
        exact ⟨n, c, st2, st', hs, hrn, hq⟩
  · rintro ⟨n, c, st2, st', hs, hrn, hq⟩
    obtain ⟨c', hc'⟩ := hr
    have l1 := cl_le (L := L) (Nat.le_max_left c c')
    have l2 := cl_le (L := L) (Nat.le_max_right c c')
    refine ⟨n, max c c', st2, st', ?_, run_mono l1 (Nat.le_refl n) hrn, hq⟩
    simp only [stepL]
    rw [hst (max c c') r (l2.1 f vs r hc')]
    exact stepL_mono l1 hs
theorem AO_callq {d : Option Nat} {f : Nat} {xs : List Opd} {g : Option (Nat × Bool)} {ban : List Nat} {l : List AI} {r : AV} (h : guardA st g = some true) (hq : (xs.map st.ev).all dq = true) (hr : Ev L f ((xs.map st.ev).map unl) r) (hfl : FlatR r) :
    AO L (⟨d, .callq f xs, g, ban⟩ :: l) k st Q ↔ AO L l k (st.dst d (lnd r)) Q := by
  have hst : ∀ c, evP L c f ((xs.map st.ev).map unl) = some r → stepI (clAt L c) ⟨d, .callq f xs, g, ban⟩ st = some (st.dst d (lnd r)) := fun c hc => by
    have hc' : (clAt L c).pure f ((xs.map st.ev).map unl) = some r := hc
    simp only [stepI, h, eff]
    rw [if_pos hq, hc']
    simp only [if_pos hfl, Option.map_some, St.app]
  constructor
  · rintro ⟨n, c, st2, st', hs, hrn, hq'⟩
    simp only [stepL] at hs
    cases hp : evP L c f ((xs.map st.ev).map unl) with
    | none =>
      have hc' : (clAt L c).pure f ((xs.map st.ev).map unl) = none := hp
      simp only [stepI, h, eff] at hs
      rw [if_pos hq, hc'] at hs
      simp at hs
    | some r' =>
      obtain rfl : r' = r := Ev.det ⟨c, hp⟩ hr
      rw [hst c hp] at hs
      exact ⟨n, c, st2, st', hs, hrn, hq'⟩
  · rintro ⟨n, c, st2, st', hs, hrn, hq'⟩
    obtain ⟨c', hc'⟩ := hr
    have l1 := cl_le (L := L) (Nat.le_max_left c c')
    have l2 := cl_le (L := L) (Nat.le_max_right c c')
    refine ⟨n, max c c', st2, st', ?_, run_mono l1 (Nat.le_refl n) hrn, hq'⟩
    simp only [stepL]
    rw [hst (max c c') (l2.1 f _ r hc')]
    exact stepL_mono l1 hs
/-- a call in the own memory -/
theorem AO_calli {d : Option Nat} {f : Nat} {xs : List Opd} {g : Option (Nat × Bool)} {ban : List Nat} {l : List AI} {r : AV} {o' : Own} (h : guardA st g = some true) (hr : EvI L f (xs.map st.ev) st.own r o') :
    AO L (⟨d, .calli f xs, g, ban⟩ :: l) k st Q ↔ AO L l k { (st.dst d r) with own := o' } Q := by
  have hst : ∀ c r' o1, evI L c f (xs.map st.ev) st.own = some (r', o1) → stepI (clAt L c) ⟨d, .calli f xs, g, ban⟩ st = some { (st.dst d r') with own := o1 } := fun c r' o1 hc => by
    have hc' : (clAt L c).inn f (xs.map st.ev) st.own = some (r', o1) := hc
    simp [stepI, h, eff, hc', St.app]
  constructor
  · rintro ⟨n, c, st2, st', hs, hrn, hq⟩
    simp only [stepL] at hs
    cases hI : stepI (clAt L c) ⟨d, .calli f xs, g, ban⟩ st with
    | none => simp [hI] at hs
    | some st1 =>
      simp only [hI] at hs
      cases hp : evI L c f (xs.map st.ev) st.own with
      | none =>
        have hc' : (clAt L c).inn f (xs.map st.ev) st.own = none := hp
        simp [stepI, h, eff, hc'] at hI
      | some x =>
        obtain ⟨r', o1⟩ := x
        obtain ⟨rfl, rfl⟩ := EvI.det ⟨c, hp⟩ hr
        rw [hst c r' o1 hp] at hI
        obtain rfl := Option.some.inj hI
        exact ⟨n, c, st2, st', hs, hrn, hq⟩
  · rintro ⟨n, c, st2, st', hs, hrn, hq⟩
    obtain ⟨c', hc'⟩ := hr
    have l1 := cl_le (L := L) (Nat.le_max_left c c')
    have l2 := cl_le (L := L) (Nat.le_max_right c c')
    refine ⟨n, max c c', st2, st', ?_, run_mono l1 (Nat.le_refl n) hrn, hq⟩
    simp only [stepL]
    rw [hst (max c c') r o' (l2.2.1 f _ _ _ hc')]
    exact stepL_mono l1 hs

/-- a call in the own memory -/
theorem AO_callv {d : Option Nat} {f : Nat} {cs : List AV} {x : Opd} {xs : List Opd} {g : Option (Nat × Bool)} {ban : List Nat} {l : List AI} {r : AV} {o' : Own} (h : guardA st g = some true) (hx : st.ev x = .fn false f (L.num f) cs) (hr : EvI L f (xs.map st.ev ++ cs) st.own r o') :
    AO L (⟨d, .callv x xs, g, ban⟩ :: l) k st Q ↔ AO L l k { (st.dst d r) with own := o' } Q := by
  have hst : ∀ c r' o1, evI L c f (xs.map st.ev ++ cs) st.own = some (r', o1) → stepI (clAt L c) ⟨d, .callv x xs, g, ban⟩ st = some { (st.dst d r') with own := o1 } := fun c r' o1 hc => by
    have hc' : (clAt L c).inn f (xs.map st.ev ++ cs) st.own = some (r', o1) := hc
    simp [stepI, h, eff, hx, clAt_num, hc', St.app]
  constructor
  · rintro ⟨n, c, st2, st', hs, hrn, hq⟩
    simp only [stepL] at hs
    cases hI : stepI (clAt L c) ⟨d, .callv x xs, g, ban⟩ st with
    | none => simp [hI] at hs
    | some st1 =>
      simp only [hI] at hs
      cases hp : evI L c f (xs.map st.ev ++ cs) st.own with
      | none =>
        have hc' : (clAt L c).inn f (xs.map st.ev ++ cs) st.own = none := hp
        simp [stepI, h, eff, hx, clAt_num, hc'] at hI
      | some x =>
        obtain ⟨r', o1⟩ := x
        obtain ⟨rfl, rfl⟩ := EvI.det ⟨c, hp⟩ hr
        rw [hst c r' o1 hp] at hI
        obtain rfl := Option.some.inj hI
        exact ⟨n, c, st2, st', hs, hrn, hq⟩
  · rintro ⟨n, c, st2, st', hs, hrn, hq⟩
    obtain ⟨c', hc'⟩ := hr
    have l1 := cl_le (L := L) (Nat.le_max_left c c')
    have l2 := cl_le (L := L) (Nat.le_max_right c c')
    refine ⟨n, max c c', st2, st', ?_, run_mono l1 (Nat.le_refl n) hrn, hq⟩
    simp only [stepL]
    rw [hst (max c c') r o' (l2.2.1 f _ _ _ hc')]
    exact stepL_mono l1 hs

theorem AK_mono {Q' : St → Prop} (h : AK L k st Q) (hq : ∀ s, Q s → Q' s) : AK L k st Q' := by
  obtain ⟨n, c, st', hr, hh⟩ := h
  exact ⟨n, c, st', hr, hq _ hh⟩

/-- a function, from its body -/
theorem EvI.intro {f : Nat} {fn : AFn} {vs : List AV} {o : Own} {r : AV} {o' : Own} (hL : L f = some fn) (hp : vs.length = fn.pars) (h : AK L [.code fn.body] ⟨initTm 0 vs, o⟩ (fun st => (fn.res.mapM (resOf st)).map resVal = some r ∧ st.own = o')) : EvI L f vs o r o' := by
  obtain ⟨n, c, st', hr, h1, h2⟩ := h
  refine ⟨max n c + 1, ?_⟩
  rw [evI_succ]
  simp only [hL, hp, if_true]
  rw [run_mono (cl_le (L := L) (Nat.le_max_right n c)) (Nat.le_max_left n c) hr]
  cases hm : fn.res.mapM (resOf st') with
  | none => rw [hm] at h1; cases h1
  | some rs =>
    rw [hm] at h1
    simp only [Option.map_some, Option.some.injEq] at h1
    simp [hm, h1, h2]
theorem EvD.intro {f : Nat} {fn : AFn} {vs : List AV} {r : AV} (hL : L f = some fn) (hp : vs.length = fn.pars) (h : AK L [.code fn.body] ⟨initTm 0 vs, Own.emp⟩ (fun st => ((fn.res.mapM (resOf st)).map resVal).bind (snapR st.own false) = some r ∧ Clean r)) : EvD L f vs r := by
  obtain ⟨n, c, st', hr, h1, h2⟩ := h
  cases hm : (fn.res.mapM (resOf st')).map resVal with
  | none => rw [hm] at h1; cases h1
  | some r0 =>
    rw [hm] at h1
    simp only [Option.bind_some] at h1
    obtain ⟨q, hq⟩ := EvI.intro (o := Own.emp) (r := r0) (o' := st'.own) hL hp ⟨n, c, st', hr, hm, rfl⟩
    refine ⟨q, ?_⟩
    unfold pureP
    simp [hq, h1, h2]
theorem EvD.ev {f : Nat} {fn : AFn} {vs : List AV} {r : AV} (hL : L f = some fn) (h : EvD L f vs r) (hs : fn.spl = false := by rfl) : Ev L f vs r := by
  obtain ⟨n, h⟩ := h
  have hs : L.spl f = false := by simp only [Lib.spl, hL, hs]
  exact ⟨n, by unfold evP pureS; rw [hs]; exact h⟩
theorem EvD.cons {f : Nat} {q : Bool} {e : List AV} {es : List (List AV)} {vs : List AV} {r : AV} (h : EvD L f (.sl q (e :: es) :: vs) r) : Ev L f (.sl q (e :: es) :: vs) r := by
  obtain ⟨n, h⟩ := h
  refine ⟨n, ?_⟩
  unfold evP pureS
  split
  · rename_i heq; simp at heq
  · exact h
theorem EvD.nil {f : Nat} {fn : AFn} {q : Bool} {vs : List AV} {r : AV} (hL : L f = some fn) (h1 : EvD L f (.con (.bool true) :: vs) r) (h2 : EvD L f (.con (.bool false) :: vs) r) (hs : fn.spl = true := by rfl) : Ev L f (.sl q [] :: vs) r := by
  obtain ⟨n, h1⟩ := h1
  obtain ⟨n', h2⟩ := h2
  have hs : L.spl f = true := by simp only [Lib.spl, hL, hs]
  have k1 := pureP_mono (fun vs r h => (cl_le (L := L) (Nat.le_max_left n n')).2.1 f vs Own.emp r h) h1
  have k2 := pureP_mono (fun vs r h => (cl_le (L := L) (Nat.le_max_right n n')).2.1 f vs Own.emp r h) h2
  refine ⟨max n n', ?_⟩
  unfold evP pureS
  rw [hs]
  simp only
  have k1' : pureP (fun vs => evI L (max n n') f vs Own.emp) (.con (.bool true) :: vs) = some r := k1
  have k2' : pureP (fun vs => evI L (max n n') f vs Own.emp) (.con (.bool false) :: vs) = some r := k2
  rw [k1', k2']
  simp
theorem Ev.intro {f : Nat} {fn : AFn} {vs : List AV} {r : AV} (hL : L f = some fn) (hp : vs.length = fn.pars) (h : AK L [.code fn.body] ⟨initTm 0 vs, Own.emp⟩ (fun st => ((fn.res.mapM (resOf st)).map resVal).bind (snapR st.own false) = some r ∧ Clean r)) (hs : fn.spl = false := by rfl) : Ev L f vs r :=
  (EvD.intro hL hp h).ev hL hs
end
end Go.Eng
/-
  Rules by which the abstract machine is run by rewriting: one for each kind of operation.
-/
namespace Go.Eng

section
variable {L : Lib} {k : List It} {tm : Tm} {own : Own} {Q : St → Prop} {l : List AI} {ban : List Nat} {d : Nat}

theorem ev_t (n : Nat) : St.ev ⟨tm, own⟩ (.t n) = tget tm n := rfl
theorem ev_c (v : AV) : St.ev ⟨tm, own⟩ (.c v) = v := rfl
theorem tget_cons (i : Nat) (v : AV) (r : Tm) (j : Nat) : tget ((i, v) :: r) j = if j = i then v else tget r j := rfl
theorem tget_nil (j : Nat) : tget [] j = .any := rfl
theorem tput_cons (i : Nat) (v : AV) (r : Tm) (j : Nat) (u : AV) : tput ((i, v) :: r) j u = if j = i then (i, u) :: r else if j < i then (j, u) :: (i, v) :: r else (i, v) :: tput r j u := rfl
theorem tput_nil (j : Nat) (u : AV) : tput [] j u = [(j, u)] := rfl
theorem tdrop_cons (i : Nat) (v : AV) (r : Tm) (l : List Nat) : tdrop ((i, v) :: r) l = if l.contains i then tdrop r l else (i, v) :: tdrop r l := rfl
theorem tdrop_nil (l : List Nat) : tdrop [] l = [] := rfl
theorem initTm_cons (i : Nat) (v : AV) (r : List AV) : initTm i (v :: r) = (i, v) :: initTm (i + 1) r := rfl
theorem initTm_nil (i : Nat) : initTm i [] = [] := rfl

theorem AO_iff {o : AI} {st : St} : AO L (o :: l) k st Q ↔ ∃ c n st1 st2 st', stepI (clAt L c) o st = some st1 ∧ stepL (clAt L c) l st1 = some st2 ∧ run (clAt L c) n k st2 = some st' ∧ Q st' := by
  constructor
  · rintro ⟨n, c, st1, st', hs, hr, hq⟩
    simp only [stepL] at hs
    cases hI : stepI (clAt L c) o st with
    | none => simp [hI] at hs
    | some st2 => simp only [hI] at hs; exact ⟨c, n, st2, st1, st', hI, hs, hr, hq⟩
  · rintro ⟨c, n, st1, st2, st', hI, hs, hr, hq⟩
    exact ⟨n, c, st2, st', by simp only [stepL, hI, hs], hr, hq⟩

def orF {α : Type} (X : Option α) (f : α → Prop) : Prop := match X with | some x => f x | none => False
theorem orF_some {α : Type} (x : α) (f : α → Prop) : orF (some x) f ↔ f x := Iff.rfl
theorem orF_none {α : Type} (f : α → Prop) : orF none f ↔ False := Iff.rfl

/-- an operation that hangs on no call -/
theorem AO_eff {op : AOp} {dst : Option Nat} {st : St} (X : Option Eff) (h : ∀ C, eff C ban st.ev st.own op = X) : AO L (⟨dst, op, none, ban⟩ :: l) k st Q ↔ orF X (fun E => AO L l k (st.app dst E) Q) := by
  cases X with
  | none =>
    rw [AO_iff]
    constructor
    · rintro ⟨c, n, st1, st2, st', hI, _⟩
      simp [stepI, guardA, h] at hI
    · exact False.elim
  | some E => exact AO_op rfl h

theorem AO_guard {op : AOp} {dst : Option Nat} {g : Nat} {want : Bool} : AO L (⟨dst, op, some (g, want), ban⟩ :: l) k ⟨tm, own⟩ Q ↔
    match tget tm g with
    | .bool b => if b = want then AO L (⟨dst, op, none, ban⟩ :: l) k ⟨tm, own⟩ Q else AO L l k (St.dst ⟨tm, own⟩ dst (.tup [])) Q
    | .tup [] => AO L l k (St.dst ⟨tm, own⟩ dst (.tup [])) Q
    | _ => False := by
  rw [AO_iff]
  cases hg : tget tm g with
  | bool b =>
    simp only
    by_cases hb : b = want
    · rw [if_pos hb, AO_iff]
      have e : ∀ C, stepI C ⟨dst, op, some (g, want), ban⟩ ⟨tm, own⟩ = stepI C ⟨dst, op, none, ban⟩ ⟨tm, own⟩ := fun C => by
        have h1 : guardA ⟨tm, own⟩ (some (g, want)) = some true := by simp [guardA, hg, hb]
        have h2 : guardA ⟨tm, own⟩ none = some true := rfl
        unfold stepI
        simp only [h1, h2]
      simp only [e]
    · rw [if_neg hb, ← AO_iff]
      exact AO_not (by simp [guardA, hg, hb])
  | tup vs =>
    cases vs with
    | nil => rw [← AO_iff]; exact AO_not (by simp [guardA, hg])
    | cons v r =>
      simp only [iff_false]
      rintro ⟨c, n, st1, st2, st', hI, _⟩
      simp [stepI, guardA, hg] at hI
  | _ =>
    simp only [iff_false]
    rintro ⟨c, n, st1, st2, st', hI, _⟩
    simp [stepI, guardA, hg] at hI

theorem dst_some (v : AV) : St.dst ⟨tm, own⟩ (some d) v = ⟨tput tm d v, own⟩ := rfl
theorem dst_none (v : AV) : St.dst ⟨tm, own⟩ none v = ⟨tm, own⟩ := rfl

theorem AO_mov {x : Opd} : AO L (⟨some d, .mov x, none, ban⟩ :: l) k ⟨tm, own⟩ Q ↔ AO L l k ⟨tput tm d (St.ev ⟨tm, own⟩ x), own⟩ Q := AO_op (E := .val (St.ev ⟨tm, own⟩ x)) rfl fun _ => rfl
theorem AO_vrow {s z : Nat} : AO L (⟨some d, .vrow s z, none, ban⟩ :: l) k ⟨tm, own⟩ Q ↔ AO L l k ⟨tput tm d (.row s (own.cnt s) z 0 0), own.put s ((own s).new ⟨z, []⟩)⟩ Q := AO_op (E := .vir s ⟨z, []⟩ (fun t => .row s t z 0 0)) rfl fun _ => rfl
theorem AO_pick {c a b : Opd} : AO L (⟨some d, .pick c a b, none, ban⟩ :: l) k ⟨tm, own⟩ Q ↔ match St.ev ⟨tm, own⟩ c with
    | .bool t => AO L l k ⟨tput tm d (if t = true then St.ev ⟨tm, own⟩ a else St.ev ⟨tm, own⟩ b), own⟩ Q
    | _ => False := by
  rw [AO_eff (eff ⟨fun _ _ => none, fun _ _ _ => none, fun n => n⟩ ban (St.ev ⟨tm, own⟩) own (.pick c a b)) fun _ => rfl]
  simp only [eff, orF]
  cases hc : St.ev ⟨tm, own⟩ c with
  | bool t => cases t <;> simp [St.app, St.dst]
  | _ => simp
theorem AO_bin {f : BinOp} {x y : Opd} : AO L (⟨some d, .bin f x y, none, ban⟩ :: l) k ⟨tm, own⟩ Q ↔ match St.ev ⟨tm, own⟩ x, St.ev ⟨tm, own⟩ y with
    | .int k1 a, .int k2 b => (match intBin f k1 a k2 b with | some v => AO L l k ⟨tput tm d v, own⟩ Q | none => False)
    | _, _ => False := by
  rw [AO_eff (eff ⟨fun _ _ => none, fun _ _ _ => none, fun n => n⟩ ban (St.ev ⟨tm, own⟩) own (.bin f x y)) fun _ => rfl]
  simp only [eff, orF]
  cases St.ev ⟨tm, own⟩ x with
  | int k1 a => cases St.ev ⟨tm, own⟩ y with
    | int k2 b => simp only; cases intBin f k1 a k2 b <;> simp [St.app, St.dst]
    | _ => simp
  | _ => simp
theorem AO_beq {ne : Bool} {x y : Opd} : AO L (⟨some d, .beq ne x y, none, ban⟩ :: l) k ⟨tm, own⟩ Q ↔ match St.ev ⟨tm, own⟩ x, St.ev ⟨tm, own⟩ y with
    | .bool a, .bool b => AO L l k ⟨tput tm d (.bool (if ne then !(a == b) else a == b)), own⟩ Q
    | _, _ => False := by
  rw [AO_eff (eff ⟨fun _ _ => none, fun _ _ _ => none, fun n => n⟩ ban (St.ev ⟨tm, own⟩) own (.beq ne x y)) fun _ => rfl]
  simp only [eff, orF]
  cases St.ev ⟨tm, own⟩ x with
  | bool a => cases St.ev ⟨tm, own⟩ y with
    | bool b => simp [St.app, St.dst]
    | _ => simp
  | _ => simp
theorem AO_un {f : UnOp} {x : Opd} : AO L (⟨some d, .un f x, none, ban⟩ :: l) k ⟨tm, own⟩ Q ↔ match unA f (St.ev ⟨tm, own⟩ x) with | some v => AO L l k ⟨tput tm d v, own⟩ Q | none => False := by
  rw [AO_eff (eff ⟨fun _ _ => none, fun _ _ _ => none, fun n => n⟩ ban (St.ev ⟨tm, own⟩) own (.un f x)) fun _ => rfl]
  simp only [eff, orF]
  cases unA f (St.ev ⟨tm, own⟩ x) <;> simp [St.app, St.dst]
theorem AO_conv {kd : IntKind} {x : Opd} : AO L (⟨some d, .conv kd x, none, ban⟩ :: l) k ⟨tm, own⟩ Q ↔ match St.ev ⟨tm, own⟩ x with
    | .int _ n => AO L l k ⟨tput tm d (.int kd (kd.wrap n)), own⟩ Q
    | _ => False := by
  rw [AO_eff (eff ⟨fun _ _ => none, fun _ _ _ => none, fun n => n⟩ ban (St.ev ⟨tm, own⟩) own (.conv kd x)) fun _ => rfl]
  simp only [eff, orF]
  cases St.ev ⟨tm, own⟩ x <;> simp [St.app, St.dst]
theorem AO_box {s : Nat} {x : Opd} : AO L (⟨some d, .box s x, none, ban⟩ :: l) k ⟨tm, own⟩ Q ↔ match cellsOf (St.ev ⟨tm, own⟩ x) with
    | some cs => AO L l k ⟨tput tm d (.ptr s (own.cnt s) 0 0), own.put s ((own s).new ⟨cs.length, [cs]⟩)⟩ Q
    | none => False := by
  rw [AO_eff (eff ⟨fun _ _ => none, fun _ _ _ => none, fun n => n⟩ ban (St.ev ⟨tm, own⟩) own (.box s x)) fun _ => rfl]
  simp only [eff, orF]
  cases cellsOf (St.ev ⟨tm, own⟩ x) <;> simp [St.app, St.dst]
theorem AO_alloc {s : Nat} {z : List AV} : AO L (⟨some d, .alloc s z, none, ban⟩ :: l) k ⟨tm, own⟩ Q ↔ AO L l k ⟨tput tm d (.ptr s (own.cnt s) 0 0), own.put s ((own s).new ⟨z.length, [z]⟩)⟩ Q := AO_op (E := .new s ⟨z.length, [z]⟩ (fun t => .ptr s t 0 0)) rfl fun _ => rfl
theorem AO_build {z : List AV} {ps : List (Nat × Nat × Opd)} : AO L (⟨some d, .build z ps, none, ban⟩ :: l) k ⟨tm, own⟩ Q ↔ match fill z (ps.map fun p => (p.1, p.2.1, St.ev ⟨tm, own⟩ p.2.2)) with
    | some cs => AO L l k ⟨tput tm d (.agg cs), own⟩ Q
    | none => False := by
  rw [AO_eff (eff ⟨fun _ _ => none, fun _ _ _ => none, fun n => n⟩ ban (St.ev ⟨tm, own⟩) own (.build z ps)) fun _ => rfl]
  simp only [eff, orF]
  cases fill z (ps.map fun p => (p.1, p.2.1, St.ev ⟨tm, own⟩ p.2.2)) <;> simp [St.app, St.dst]
/-- the cells of the parts of a slice literal -/
def cellsL (z : Nat) : List AV → Option (List (List AV))
  | [] => some []
  | v :: r => match cellsOf v with
    | some cs => if cs.length = z then (match cellsL z r with | some es => some (cs :: es) | none => none) else none
    | none => none
theorem cellsL_spec (z : Nat) : ∀ (vs : List AV) (es : List (List AV)), cellsL z vs = some es ↔ vs.mapM cellsOf = some es ∧ ∀ e ∈ es, e.length = z
  | [], es => by simp [cellsL]; intro h; subst h; simp
  | v :: r, es => by
    simp only [cellsL, List.mapM_cons, Option.bind_eq_bind, Option.pure_def]
    cases hv : cellsOf v with
    | none => simp
    | some cs =>
      simp only [Option.bind_some]
      by_cases hz : cs.length = z
      · rw [if_pos hz]
        cases hr : cellsL z r with
        | none =>
          constructor
          · intro h; cases h
          · rintro ⟨h1, h2⟩
            cases hm : r.mapM cellsOf with
            | none => simp [hm] at h1
            | some es' =>
              simp [hm] at h1
              subst h1
              have := (cellsL_spec z r es').2 ⟨hm, fun e he => h2 e (by simp [he])⟩
              rw [hr] at this
              cases this
        | some es' =>
          obtain ⟨h1, h2⟩ := (cellsL_spec z r es').1 hr
          simp only [h1, Option.bind_some, Option.some.injEq]
          constructor
          · intro h; subst h; exact ⟨rfl, by simpa [hz] using h2⟩
          · exact fun h => h.1
      · rw [if_neg hz]
        constructor
        · intro h; cases h
        · rintro ⟨h1, h2⟩
          cases hm : r.mapM cellsOf with
          | none => simp [hm] at h1
          | some es' =>
            simp [hm] at h1
            subst h1
            exact absurd (h2 cs (by simp)) hz
theorem mapM_map' {α β γ : Type} (f : α → β) (g : β → Option γ) : ∀ l : List α, (l.map f).mapM g = l.mapM (fun x => g (f x))
  | [] => rfl
  | x :: r => by simp only [List.map_cons, List.mapM_cons, mapM_map' f g r]
theorem AO_bslice {s z : Nat} {ps : List Opd} : AO L (⟨some d, .bslice s z ps, none, ban⟩ :: l) k ⟨tm, own⟩ Q ↔ match cellsL z (ps.map (St.ev ⟨tm, own⟩)) with
    | some es => AO L l k ⟨tput tm d (.row s (own.cnt s) z 0 es.length), own.put s ((own s).new ⟨z, es⟩)⟩ Q
    | none => False := by
  rw [AO_eff (eff ⟨fun _ _ => none, fun _ _ _ => none, fun n => n⟩ ban (St.ev ⟨tm, own⟩) own (.bslice s z ps)) fun _ => rfl]
  simp only [eff, orF, ← mapM_map']
  cases hc : cellsL z (ps.map (St.ev ⟨tm, own⟩)) with
  | some es =>
    obtain ⟨h1, h2⟩ := (cellsL_spec z _ es).1 hc
    simp only [h1]
    rw [if_pos h2]
    simp [St.app, St.dst]
  | none =>
    cases hm : (ps.map (St.ev ⟨tm, own⟩)).mapM cellsOf with
    | none => simp
    | some es =>
      by_cases hz : ∀ e ∈ es, e.length = z
      · have := (cellsL_spec z _ es).2 ⟨hm, hz⟩
        rw [hc] at this; cases this
      · simp [hz]
theorem AO_fadr {x : Opd} {off : Nat} : AO L (⟨some d, .fadr x off, none, ban⟩ :: l) k ⟨tm, own⟩ Q ↔ match St.ev ⟨tm, own⟩ x with
    | .ptr s t i j => AO L l k ⟨tput tm d (.ptr s t i (j + off)), own⟩ Q
    | .dptr cs => AO L l k ⟨tput tm d (.dptr (cs.drop off)), own⟩ Q
    | _ => False := by
  rw [AO_eff (eff ⟨fun _ _ => none, fun _ _ _ => none, fun n => n⟩ ban (St.ev ⟨tm, own⟩) own (.fadr x off)) fun _ => rfl]
  simp only [eff, orF]
  cases St.ev ⟨tm, own⟩ x <;> simp [St.app, St.dst]
/-- what a load of cells gives -/
def ldv (agg : Bool) : Option (List AV) → Option AV
  | some cs => ofCells agg cs
  | none => none
theorem AO_fld {x : Opd} {off n : Nat} {agg : Bool} : AO L (⟨some d, .fld x off n agg, none, ban⟩ :: l) k ⟨tm, own⟩ Q ↔ match St.ev ⟨tm, own⟩ x with
    | .agg cs => (match ldv agg (part cs off n) with | some v => AO L l k ⟨tput tm d v, own⟩ Q | none => False)
    | _ => False := by
  rw [AO_eff (eff ⟨fun _ _ => none, fun _ _ _ => none, fun n => n⟩ ban (St.ev ⟨tm, own⟩) own (.fld x off n agg)) fun _ => rfl]
  simp only [eff, orF]
  cases St.ev ⟨tm, own⟩ x with
  | agg cs =>
    simp only [ldv]
    cases part cs off n with
    | none => simp
    | some ds => simp only; cases ofCells agg ds <;> simp [St.app, St.dst]
  | _ => simp
theorem AO_iadr_arr {n z : Nat} {x i : Opd} : AO L (⟨some d, .iadr (some n) z x i, none, ban⟩ :: l) k ⟨tm, own⟩ Q ↔ match St.ev ⟨tm, own⟩ i, St.ev ⟨tm, own⟩ x with
    | .int _ a, .ptr s t i' j => 0 ≤ a ∧ a < n ∧ AO L l k ⟨tput tm d (.ptr s t i' (j + a.toNat * z)), own⟩ Q
    | .int _ a, .dptr cs => 0 ≤ a ∧ a < n ∧ AO L l k ⟨tput tm d (.dptr (cs.drop (a.toNat * z))), own⟩ Q
    | _, _ => False := by
  rw [AO_eff (eff ⟨fun _ _ => none, fun _ _ _ => none, fun n => n⟩ ban (St.ev ⟨tm, own⟩) own (.iadr (some n) z x i)) fun _ => rfl]
  simp only [eff, orF]
  cases St.ev ⟨tm, own⟩ i with
  | int kd a =>
    cases St.ev ⟨tm, own⟩ x with
    | ptr s t i' j =>
      simp only
      by_cases h : 0 ≤ a ∧ a < n
      · simp [h, St.app, St.dst]
      · rw [if_neg h]; simp only [false_iff]; exact fun h' => h ⟨h'.1, h'.2.1⟩
    | dptr cs =>
      simp only
      by_cases h : 0 ≤ a ∧ a < n
      · simp [h, St.app, St.dst]
      · rw [if_neg h]; simp only [false_iff]; exact fun h' => h ⟨h'.1, h'.2.1⟩
    | _ => simp
  | _ => simp
theorem AO_iadr {z : Nat} {x i : Opd} : AO L (⟨some d, .iadr none z x i, none, ban⟩ :: l) k ⟨tm, own⟩ Q ↔ match St.ev ⟨tm, own⟩ i, St.ev ⟨tm, own⟩ x with
    | .int _ a, .row s t z' off len => 0 ≤ a ∧ a < len ∧ z' = z ∧ AO L l k ⟨tput tm d (.ptr s t (off + a.toNat) 0), own⟩ Q
    | .int _ a, .sl _ es => 0 ≤ a ∧ (match es[a.toNat]? with | some cs => cs.length = z ∧ AO L l k ⟨tput tm d (.dptr cs), own⟩ Q | none => False)
    | _, _ => False := by
  rw [AO_eff (eff ⟨fun _ _ => none, fun _ _ _ => none, fun n => n⟩ ban (St.ev ⟨tm, own⟩) own (.iadr none z x i)) fun _ => rfl]
  simp only [eff, orF]
  cases St.ev ⟨tm, own⟩ i with
  | int kd a =>
    cases St.ev ⟨tm, own⟩ x with
    | row s t z' off len =>
      simp only
      by_cases h : 0 ≤ a ∧ a < len ∧ z' = z
      · simp [h, St.app, St.dst]
      · rw [if_neg h]; simp only [false_iff]; exact fun h' => h ⟨h'.1, h'.2.1, h'.2.2.1⟩
    | sl q es =>
      simp only
      by_cases h : 0 ≤ a
      · simp only [h, if_true, true_and]
        cases es[a.toNat]? with
        | none => simp
        | some cs =>
          simp only
          by_cases hz : cs.length = z
          · simp [hz, St.app, St.dst]
          · simp [hz]
      · simp [h]
    | _ => simp
  | _ => simp
theorem AO_idx {n z : Nat} {agg : Bool} {x i : Opd} : AO L (⟨some d, .idx n z agg x i, none, ban⟩ :: l) k ⟨tm, own⟩ Q ↔ match St.ev ⟨tm, own⟩ i, St.ev ⟨tm, own⟩ x with
    | .int _ a, .agg cs => 0 ≤ a ∧ a < n ∧ (match ldv agg (part cs (a.toNat * z) z) with | some v => AO L l k ⟨tput tm d v, own⟩ Q | none => False)
    | _, _ => False := by
  rw [AO_eff (eff ⟨fun _ _ => none, fun _ _ _ => none, fun n => n⟩ ban (St.ev ⟨tm, own⟩) own (.idx n z agg x i)) fun _ => rfl]
  simp only [eff, orF]
  cases St.ev ⟨tm, own⟩ i with
  | int kd a =>
    cases St.ev ⟨tm, own⟩ x with
    | agg cs =>
      simp only
      by_cases h : 0 ≤ a ∧ a < n
      · simp only [h, and_self, if_true, true_and, ldv]
        cases part cs (a.toNat * z) z with
        | none => simp
        | some ds => simp only; cases ofCells agg ds <;> simp [St.app, St.dst]
      · rw [if_neg h]; simp only [false_iff]; exact fun h' => h ⟨h'.1, h'.2.1⟩
    | _ => simp
  | _ => simp
theorem AO_ld {agg : Bool} {n : Nat} {x : Opd} : AO L (⟨some d, .ld agg n x, none, ban⟩ :: l) k ⟨tm, own⟩ Q ↔ match St.ev ⟨tm, own⟩ x with
    | .ptr s t i j => (match ldv agg ((own.hide ban).ldp s t i j n) with | some v => AO L l k ⟨tput tm d v, own⟩ Q | none => False)
    | .dptr cs => (match ldv agg (part cs 0 n) with | some v => AO L l k ⟨tput tm d v, own⟩ Q | none => False)
    | _ => False := by
  rw [AO_eff (eff ⟨fun _ _ => none, fun _ _ _ => none, fun n => n⟩ ban (St.ev ⟨tm, own⟩) own (.ld agg n x)) fun _ => rfl]
  simp only [eff, orF]
  cases St.ev ⟨tm, own⟩ x with
  | ptr s t i j =>
    simp only [ldv]
    cases (own.hide ban).ldp s t i j n with
    | none => simp
    | some ds => simp only; cases ofCells agg ds <;> simp [St.app, St.dst]
  | dptr cs =>
    simp only [ldv]
    cases part cs 0 n with
    | none => simp
    | some ds => simp only; cases ofCells agg ds <;> simp [St.app, St.dst]
  | _ => simp
theorem AO_st {n : Nat} {x v : Opd} : AO L (⟨none, .st n x v, none, ban⟩ :: l) k ⟨tm, own⟩ Q ↔ match St.ev ⟨tm, own⟩ x, cellsOf (St.ev ⟨tm, own⟩ v) with
    | .ptr s t i j, some vs => vs.length = n ∧ (match own.stp s t i j vs with | some o => AO L l k ⟨tm, o⟩ Q | none => False)
    | _, _ => False := by
  rw [AO_eff (eff ⟨fun _ _ => none, fun _ _ _ => none, fun n => n⟩ ban (St.ev ⟨tm, own⟩) own (.st n x v)) fun _ => rfl]
  simp only [eff, orF]
  cases St.ev ⟨tm, own⟩ x with
  | ptr s t i j =>
    cases cellsOf (St.ev ⟨tm, own⟩ v) with
    | none => simp
    | some vs =>
      simp only
      by_cases h : vs.length = n
      · simp only [h, if_true, true_and]
        cases own.stp s t i j vs <;> simp [St.app, St.dst]
      · simp [h]
  | _ => simp
theorem AO_mk {s z bytes : Nat} {zero : List AV} {a c : Opd} : AO L (⟨some d, .mk s z bytes zero a c, none, ban⟩ :: l) k ⟨tm, own⟩ Q ↔ match St.ev ⟨tm, own⟩ a, St.ev ⟨tm, own⟩ c with
    | .int _ p, .int _ q => (0 ≤ p ∧ p ≤ q ∧ q * bytes ≤ roomMax ∧ q ≤ 9223372036854775807 ∧ zero.length = z) ∧ AO L l k ⟨tput tm d (.row s (own.cnt s) z 0 p.toNat), own.put s ((own s).new ⟨z, List.replicate p.toNat zero⟩)⟩ Q
    | _, _ => False := by
  rw [AO_eff (eff ⟨fun _ _ => none, fun _ _ _ => none, fun n => n⟩ ban (St.ev ⟨tm, own⟩) own (.mk s z bytes zero a c)) fun _ => rfl]
  simp only [eff, orF]
  cases St.ev ⟨tm, own⟩ a with
  | int k1 p => cases St.ev ⟨tm, own⟩ c with
    | int k2 q =>
      simp only
      by_cases h : 0 ≤ p ∧ p ≤ q ∧ q * bytes ≤ roomMax ∧ q ≤ 9223372036854775807 ∧ zero.length = z
      · rw [if_pos h]; simp [h, St.app, St.dst]
      · rw [if_neg h]; simp [h]
    | _ => simp
  | _ => simp
theorem AO_ext {x : Opd} {i : Nat} : AO L (⟨some d, .ext x i, none, ban⟩ :: l) k ⟨tm, own⟩ Q ↔ match St.ev ⟨tm, own⟩ x with
    | .tup vs => (match vs[i]? with | some v => AO L l k ⟨tput tm d v, own⟩ Q | none => False)
    | _ => False := by
  rw [AO_eff (eff ⟨fun _ _ => none, fun _ _ _ => none, fun n => n⟩ ban (St.ev ⟨tm, own⟩) own (.ext x i)) fun _ => rfl]
  simp only [eff, orF]
  cases St.ev ⟨tm, own⟩ x with
  | tup vs => simp only; cases vs[i]? <;> simp [St.app, St.dst]
  | _ => simp
theorem AO_len {x : Opd} : AO L (⟨some d, .len x, none, ban⟩ :: l) k ⟨tm, own⟩ Q ↔ match lenOf (St.ev ⟨tm, own⟩ x) with
    | some n => AO L l k ⟨tput tm d (.int .i64 (n : Int)), own⟩ Q
    | none => False := by
  rw [AO_eff (eff ⟨fun _ _ => none, fun _ _ _ => none, fun n => n⟩ ban (St.ev ⟨tm, own⟩) own (.len x)) fun _ => rfl]
  simp only [eff, orF]
  cases lenOf (St.ev ⟨tm, own⟩ x) <;> simp [St.app, St.dst]
theorem AO_mm {mx : Bool} {x : Opd} {xs : List Opd} : AO L (⟨some d, .mm mx (x :: xs), none, ban⟩ :: l) k ⟨tm, own⟩ Q ↔ match mmL mx (St.ev ⟨tm, own⟩ x) (xs.map (St.ev ⟨tm, own⟩)) with
    | some v => AO L l k ⟨tput tm d v, own⟩ Q
    | none => False := by
  rw [AO_eff (eff ⟨fun _ _ => none, fun _ _ _ => none, fun n => n⟩ ban (St.ev ⟨tm, own⟩) own (.mm mx (x :: xs))) fun _ => rfl]
  simp only [eff, orF, List.map_cons]
  cases mmL mx (St.ev ⟨tm, own⟩ x) (xs.map (St.ev ⟨tm, own⟩)) <;> simp [St.app, St.dst]
theorem AO_slc {z : Nat} {x : Opd} {lo hi : Option Opd} : AO L (⟨some d, .slc z x lo hi, none, ban⟩ :: l) k ⟨tm, own⟩ Q ↔ orF (eff ⟨fun _ _ => none, fun _ _ _ => none, fun n => n⟩ ban (St.ev ⟨tm, own⟩) own (.slc z x lo hi)) (fun E => AO L l k (St.app ⟨tm, own⟩ (some d) E) Q) := AO_eff _ fun _ => rfl
theorem AO_app {s z bytes : Nat} {x y : Opd} : AO L (⟨some d, .app s z bytes x y, none, ban⟩ :: l) k ⟨tm, own⟩ Q ↔ orF (eff ⟨fun _ _ => none, fun _ _ _ => none, fun n => n⟩ ban (St.ev ⟨tm, own⟩) own (.app s z bytes x y)) (fun E => AO L l k (St.app ⟨tm, own⟩ (some d) E) Q) := AO_eff _ fun _ => rfl
theorem AO_cpy {z : Nat} {dst : Option Nat} {x y : Opd} : AO L (⟨dst, .cpy z x y, none, ban⟩ :: l) k ⟨tm, own⟩ Q ↔ orF (eff ⟨fun _ _ => none, fun _ _ _ => none, fun n => n⟩ ban (St.ev ⟨tm, own⟩) own (.cpy z x y)) (fun E => AO L l k (St.app ⟨tm, own⟩ dst E) Q) := AO_eff _ fun _ => rfl

theorem AO_call' {dst : Option Nat} {f : Nat} {xs : List Opd} {vs : List AV} {r : AV} (hv : (xs.map (St.ev ⟨tm, own⟩)).mapM (snapA (own.hide ban) true) = some vs) (hr : Ev L f vs r) : AO L (⟨dst, .call f xs, none, ban⟩ :: l) k ⟨tm, own⟩ Q ↔ AO L l k (St.dst ⟨tm, own⟩ dst r) Q := AO_call rfl hv hr
theorem AO_calli' {dst : Option Nat} {f : Nat} {xs : List Opd} {r : AV} {o' : Own} (hr : EvI L f (xs.map (St.ev ⟨tm, own⟩)) own r o') : AO L (⟨dst, .calli f xs, none, ban⟩ :: l) k ⟨tm, own⟩ Q ↔ AO L l k { (St.dst ⟨tm, own⟩ dst r) with own := o' } Q := AO_calli rfl hr

theorem AK_drp' {ts : List Nat} : AK L (.drp ts [] :: k) ⟨tm, own⟩ Q ↔ AK L k ⟨tdrop tm ts, own⟩ Q := AK_drp
theorem AK_cond' {x : Opd} {a b : ACode} : AK L (.code (.cond x a b) :: k) ⟨tm, own⟩ Q ↔ match St.ev ⟨tm, own⟩ x with
    | .bool t => if t = true then AK L (.code a :: k) ⟨tm, own⟩ Q else AK L (.code b :: k) ⟨tm, own⟩ Q
    | _ => False := by
  cases h : St.ev ⟨tm, own⟩ x with
  | bool t => exact AK_cond h
  | _ =>
    simp only [iff_false]
    rintro ⟨n, c, st', hr, _⟩
    cases n with
    | zero => simp [run] at hr
    | succ n => simp [run, h] at hr
theorem AK_exit' {id : Nat} : AK L (.code (.exit id) :: k) ⟨tm, own⟩ Q ↔ match exitA id k with | some k' => AK L k' ⟨tm, own⟩ Q | none => False := by
  cases h : exitA id k with
  | some k' => exact AK_exit h
  | none =>
    simp only [iff_false]
    rintro ⟨n, c, st', hr, _⟩
    cases n with
    | zero => simp [run] at hr
    | succ n => simp [run, h] at hr
end
end Go.Eng

/-
  The rules of the abstract machine, each as one step forward: its premisses are found by unfolding, comparisons are split at once.
-/
namespace Go.Eng

section
variable {L : Lib} {k : List It} {tm : Tm} {own : Own} {st : St} {Q : St → Prop} {l : List AI} {ban : List Nat} {d : Nat} {dst : Option Nat}

theorem K_seq {a b : ACode} (h : AK L (.code a :: .code b :: k) st Q) : AK L (.code (.seq a b) :: k) st Q := AK_seq.2 h
theorem K_dr {c : ACode} {ts ss : List Nat} (h : AK L (.code c :: .drp ts ss :: k) st Q) : AK L (.code (.dr c ts ss) :: k) st Q := AK_dr.2 h
theorem K_ops {b : Bool} (h : AO L l k st Q) : AK L (.code (.ops l b) :: k) st Q := AK_ops.2 h
theorem K_scope {c : ACode} (h : AK L (.code c :: k) st Q) : AK L (.code (.scope c) :: k) st Q := AK_scope.2 h
theorem K_block {id : Nat} {c : ACode} (h : AK L (.code c :: .blk id :: k) st Q) : AK L (.code (.block id c) :: k) st Q := AK_block.2 h
theorem K_blk {id : Nat} (h : AK L k st Q) : AK L (.blk id :: k) st Q := AK_blk.2 h
theorem K_skip (h : AK L k st Q) : AK L (.code .skip :: k) st Q := AK_skip.2 h
theorem K_drp {ts : List Nat} (h : AK L k ⟨tdrop tm ts, own⟩ Q) : AK L (.drp ts [] :: k) ⟨tm, own⟩ Q := AK_drp'.2 h
theorem K_drps {ts ss : List Nat} (h : AK L k ⟨tdrop tm ts, own.drop ss⟩ Q) : AK L (.drp ts ss :: k) ⟨tm, own⟩ Q := AK_drp.2 h
theorem K_condT {x : Opd} {a b : ACode} (hx : St.ev ⟨tm, own⟩ x = .bool true) (h : AK L (.code a :: k) ⟨tm, own⟩ Q) : AK L (.code (.cond x a b) :: k) ⟨tm, own⟩ Q := by rw [AK_cond', hx]; simpa using h
theorem K_condF {x : Opd} {a b : ACode} (hx : St.ev ⟨tm, own⟩ x = .bool false) (h : AK L (.code b :: k) ⟨tm, own⟩ Q) : AK L (.code (.cond x a b) :: k) ⟨tm, own⟩ Q := by rw [AK_cond', hx]; simpa using h
theorem K_exit {id : Nat} {k' : List It} (hk : exitA id k = some k') (h : AK L k' st Q) : AK L (.code (.exit id) :: k) st Q := (AK_exit hk).2 h
theorem K_ret (h : Q st) : AK L (.code .ret :: k) st Q := AK_ret.2 h
theorem K_nil (h : Q st) : AK L [] st Q := AK_nil.2 h
theorem K_lp {c : ACode} (h : AK L (.code c :: .lp c :: k) st Q) : AK L (.lp c :: k) st Q := AK_lp.2 h
theorem K_loop {c : ACode} (h : AK L (.lp c :: k) st Q) : AK L (.code (.loop c) :: k) st Q := AK_loop.2 (AK_lp.1 h)

theorem O_nil (h : AK L k st Q) : AO L [] k st Q := AO_nil.2 h
/-- guards: wanted, not wanted, not even looked at -/
theorem O_gT {op : AOp} {g : Nat} {want : Bool} (hg : tget tm g = .bool want) (h : AO L (⟨dst, op, none, ban⟩ :: l) k ⟨tm, own⟩ Q) : AO L (⟨dst, op, some (g, want), ban⟩ :: l) k ⟨tm, own⟩ Q := by
  rw [AO_guard, hg]; simpa using h
theorem O_gF {op : AOp} {g : Nat} {want : Bool} (hg : tget tm g = .bool (!want)) (h : AO L l k (St.dst ⟨tm, own⟩ dst (.tup [])) Q) : AO L (⟨dst, op, some (g, want), ban⟩ :: l) k ⟨tm, own⟩ Q := by
  rw [AO_guard, hg]; cases want <;> simpa using h
theorem O_gU {op : AOp} {g : Nat} {want : Bool} (hg : tget tm g = .tup []) (h : AO L l k (St.dst ⟨tm, own⟩ dst (.tup [])) Q) : AO L (⟨dst, op, some (g, want), ban⟩ :: l) k ⟨tm, own⟩ Q := by
  rw [AO_guard, hg]; exact h

theorem O_gF1 {op : AOp} {g : Nat} {want : Bool} (hg : tget tm g = .bool (!want)) (h : AO L l k ⟨tput tm d (.tup []), own⟩ Q) : AO L (⟨some d, op, some (g, want), ban⟩ :: l) k ⟨tm, own⟩ Q := O_gF hg h
theorem O_gU1 {op : AOp} {g : Nat} {want : Bool} (hg : tget tm g = .tup []) (h : AO L l k ⟨tput tm d (.tup []), own⟩ Q) : AO L (⟨some d, op, some (g, want), ban⟩ :: l) k ⟨tm, own⟩ Q := O_gU hg h
/-- the table written anew -/
theorem N_O {tm' : Tm} (ht : tm = tm') (h : AO L l k ⟨tm', own⟩ Q) : AO L l k ⟨tm, own⟩ Q := by subst ht; exact h
theorem N_K {tm' : Tm} (ht : tm = tm') (h : AK L k ⟨tm', own⟩ Q) : AK L k ⟨tm, own⟩ Q := by subst ht; exact h

theorem O_mov {x : Opd} (v : AV) (hx : St.ev ⟨tm, own⟩ x = v) (h : AO L l k ⟨tput tm d v, own⟩ Q) : AO L (⟨some d, .mov x, none, ban⟩ :: l) k ⟨tm, own⟩ Q := by rw [AO_mov, hx]; exact h
theorem O_vrow {s z : Nat} (h : AO L l k ⟨tput tm d (.row s (own.cnt s) z 0 0), own.put s ((own s).new ⟨z, []⟩)⟩ Q) : AO L (⟨some d, .vrow s z, none, ban⟩ :: l) k ⟨tm, own⟩ Q := AO_vrow.2 h
theorem O_pickT {c a b : Opd} (v : AV) (hc : St.ev ⟨tm, own⟩ c = .bool true) (hx : St.ev ⟨tm, own⟩ a = v) (h : AO L l k ⟨tput tm d v, own⟩ Q) : AO L (⟨some d, .pick c a b, none, ban⟩ :: l) k ⟨tm, own⟩ Q := by rw [AO_pick, hc, hx]; simpa using h
theorem O_pickF {c a b : Opd} (v : AV) (hc : St.ev ⟨tm, own⟩ c = .bool false) (hx : St.ev ⟨tm, own⟩ b = v) (h : AO L l k ⟨tput tm d v, own⟩ Q) : AO L (⟨some d, .pick c a b, none, ban⟩ :: l) k ⟨tm, own⟩ Q := by rw [AO_pick, hc, hx]; simpa using h

section
variable {x y : Opd} {kd : IntKind} {a b : Int}
theorem O_bin {f : BinOp} {k1 k2 : IntKind} (v : AV) (hx : St.ev ⟨tm, own⟩ x = .int k1 a) (hy : St.ev ⟨tm, own⟩ y = .int k2 b) (hv : intBin f k1 a k2 b = some v) (h : AO L l k ⟨tput tm d v, own⟩ Q) : AO L (⟨some d, .bin f x y, none, ban⟩ :: l) k ⟨tm, own⟩ Q := by
  rw [AO_bin, hx, hy]; simp only [hv]; exact h
theorem O_add (hx : St.ev ⟨tm, own⟩ x = .int .i64 a) (hy : St.ev ⟨tm, own⟩ y = .int .i64 b) (hr : -9223372036854775808 ≤ a + b ∧ a + b ≤ 9223372036854775807) (h : AO L l k ⟨tput tm d (.int .i64 (a + b)), own⟩ Q) : AO L (⟨some d, .bin .add x y, none, ban⟩ :: l) k ⟨tm, own⟩ Q :=
  O_bin _ hx hy (by simp only [intBin, if_true]; rw [IntWalk.i64_in _ hr]) h
theorem O_sub (hx : St.ev ⟨tm, own⟩ x = .int .i64 a) (hy : St.ev ⟨tm, own⟩ y = .int .i64 b) (hr : -9223372036854775808 ≤ a - b ∧ a - b ≤ 9223372036854775807) (h : AO L l k ⟨tput tm d (.int .i64 (a - b)), own⟩ Q) : AO L (⟨some d, .bin .sub x y, none, ban⟩ :: l) k ⟨tm, own⟩ Q :=
  O_bin _ hx hy (by simp only [intBin, if_true]; rw [IntWalk.i64_in _ hr]) h
theorem O_lss (hx : St.ev ⟨tm, own⟩ x = .int kd a) (hy : St.ev ⟨tm, own⟩ y = .int kd b) (h1 : a < b → AO L l k ⟨tput tm d (.bool true), own⟩ Q) (h2 : b ≤ a → AO L l k ⟨tput tm d (.bool false), own⟩ Q) : AO L (⟨some d, .bin .lss x y, none, ban⟩ :: l) k ⟨tm, own⟩ Q := by
  rw [AO_bin, hx, hy]; simp only [intBin, if_true]
  by_cases e : a < b
  · simpa [e] using h1 e
  · simpa [e] using h2 (by omega)
theorem O_leq (hx : St.ev ⟨tm, own⟩ x = .int kd a) (hy : St.ev ⟨tm, own⟩ y = .int kd b) (h1 : a ≤ b → AO L l k ⟨tput tm d (.bool true), own⟩ Q) (h2 : b < a → AO L l k ⟨tput tm d (.bool false), own⟩ Q) : AO L (⟨some d, .bin .leq x y, none, ban⟩ :: l) k ⟨tm, own⟩ Q := by
  rw [AO_bin, hx, hy]; simp only [intBin, if_true]
  by_cases e : a ≤ b
  · simpa [e] using h1 e
  · simpa [e] using h2 (by omega)
theorem O_gtr (hx : St.ev ⟨tm, own⟩ x = .int kd a) (hy : St.ev ⟨tm, own⟩ y = .int kd b) (h1 : b < a → AO L l k ⟨tput tm d (.bool true), own⟩ Q) (h2 : a ≤ b → AO L l k ⟨tput tm d (.bool false), own⟩ Q) : AO L (⟨some d, .bin .gtr x y, none, ban⟩ :: l) k ⟨tm, own⟩ Q := by
  rw [AO_bin, hx, hy]; simp only [intBin, if_true]
  by_cases e : a > b
  · simpa [e] using h1 e
  · simpa [e] using h2 (by omega)
theorem O_geq (hx : St.ev ⟨tm, own⟩ x = .int kd a) (hy : St.ev ⟨tm, own⟩ y = .int kd b) (h1 : b ≤ a → AO L l k ⟨tput tm d (.bool true), own⟩ Q) (h2 : a < b → AO L l k ⟨tput tm d (.bool false), own⟩ Q) : AO L (⟨some d, .bin .geq x y, none, ban⟩ :: l) k ⟨tm, own⟩ Q := by
  rw [AO_bin, hx, hy]; simp only [intBin, if_true]
  by_cases e : a ≥ b
  · simpa [e] using h1 e
  · simpa [e] using h2 (by omega)
theorem O_eql (hx : St.ev ⟨tm, own⟩ x = .int kd a) (hy : St.ev ⟨tm, own⟩ y = .int kd b) (h1 : a = b → AO L l k ⟨tput tm d (.bool true), own⟩ Q) (h2 : a ≠ b → AO L l k ⟨tput tm d (.bool false), own⟩ Q) : AO L (⟨some d, .bin .eql x y, none, ban⟩ :: l) k ⟨tm, own⟩ Q := by
  rw [AO_bin, hx, hy]; simp only [intBin, if_true]
  by_cases e : a = b
  · have : (a == b) = true := by simpa using e
    rw [this]; exact h1 e
  · have : (a == b) = false := by simpa using e
    rw [this]; exact h2 e
theorem O_neq (hx : St.ev ⟨tm, own⟩ x = .int kd a) (hy : St.ev ⟨tm, own⟩ y = .int kd b) (h1 : a ≠ b → AO L l k ⟨tput tm d (.bool true), own⟩ Q) (h2 : a = b → AO L l k ⟨tput tm d (.bool false), own⟩ Q) : AO L (⟨some d, .bin .neq x y, none, ban⟩ :: l) k ⟨tm, own⟩ Q := by
  rw [AO_bin, hx, hy]; simp only [intBin, if_true]
  by_cases e : a = b
  · have : (a != b) = false := by simpa using e
    rw [this]; exact h2 e
  · have : (a != b) = true := by simpa using e
    rw [this]; exact h1 e
end
theorem O_beq {ne : Bool} {x y : Opd} {a b : Bool} (v : Bool) (hx : St.ev ⟨tm, own⟩ x = .bool a) (hy : St.ev ⟨tm, own⟩ y = .bool b) (hv : (if ne then !(a == b) else a == b) = v) (h : AO L l k ⟨tput tm d (.bool v), own⟩ Q) : AO L (⟨some d, .beq ne x y, none, ban⟩ :: l) k ⟨tm, own⟩ Q := by
  rw [AO_beq, hx, hy]; simp only [hv]; exact h
theorem O_un {f : UnOp} {x : Opd} (v : AV) (hv : unA f (St.ev ⟨tm, own⟩ x) = some v) (h : AO L l k ⟨tput tm d v, own⟩ Q) : AO L (⟨some d, .un f x, none, ban⟩ :: l) k ⟨tm, own⟩ Q := by rw [AO_un, hv]; exact h
theorem O_conv {kd k1 : IntKind} {x : Opd} {n : Int} (hx : St.ev ⟨tm, own⟩ x = .int k1 n) (h : AO L l k ⟨tput tm d (.int kd (kd.wrap n)), own⟩ Q) : AO L (⟨some d, .conv kd x, none, ban⟩ :: l) k ⟨tm, own⟩ Q := by rw [AO_conv, hx]; exact h
theorem O_box {s : Nat} {x : Opd} (v : AV) {cs : List AV} (hx : St.ev ⟨tm, own⟩ x = v) (hc : cellsOf v = some cs) (h : AO L l k ⟨tput tm d (.ptr s (own.cnt s) 0 0), own.put s ((own s).new ⟨cs.length, [cs]⟩)⟩ Q) : AO L (⟨some d, .box s x, none, ban⟩ :: l) k ⟨tm, own⟩ Q := by rw [AO_box, hx, hc]; exact h
theorem O_alloc {s : Nat} {z : List AV} (h : AO L l k ⟨tput tm d (.ptr s (own.cnt s) 0 0), own.put s ((own s).new ⟨z.length, [z]⟩)⟩ Q) : AO L (⟨some d, .alloc s z, none, ban⟩ :: l) k ⟨tm, own⟩ Q := AO_alloc.2 h
theorem O_build {z : List AV} {ps : List (Nat × Nat × Opd)} (cs : List AV) (hf : fill z (ps.map fun p => (p.1, p.2.1, St.ev ⟨tm, own⟩ p.2.2)) = some cs) (h : AO L l k ⟨tput tm d (.agg cs), own⟩ Q) : AO L (⟨some d, .build z ps, none, ban⟩ :: l) k ⟨tm, own⟩ Q := by rw [AO_build, hf]; exact h
theorem O_bslice {s z : Nat} {ps : List Opd} (es : List (List AV)) (hf : cellsL z (ps.map (St.ev ⟨tm, own⟩)) = some es) (h : AO L l k ⟨tput tm d (.row s (own.cnt s) z 0 es.length), own.put s ((own s).new ⟨z, es⟩)⟩ Q) : AO L (⟨some d, .bslice s z ps, none, ban⟩ :: l) k ⟨tm, own⟩ Q := by rw [AO_bslice, hf]; exact h
theorem O_fadr {x : Opd} {off s t i j : Nat} (hx : St.ev ⟨tm, own⟩ x = .ptr s t i j) (h : AO L l k ⟨tput tm d (.ptr s t i (j + off)), own⟩ Q) : AO L (⟨some d, .fadr x off, none, ban⟩ :: l) k ⟨tm, own⟩ Q := by rw [AO_fadr, hx]; exact h
theorem O_fadrd {x : Opd} {off : Nat} {cs : List AV} (hx : St.ev ⟨tm, own⟩ x = .dptr cs) (h : AO L l k ⟨tput tm d (.dptr (cs.drop off)), own⟩ Q) : AO L (⟨some d, .fadr x off, none, ban⟩ :: l) k ⟨tm, own⟩ Q := by rw [AO_fadr, hx]; exact h
theorem O_fld {x : Opd} {off n : Nat} {agg : Bool} {cs : List AV} (v : AV) (hx : St.ev ⟨tm, own⟩ x = .agg cs) (hv : ldv agg (part cs off n) = some v) (h : AO L l k ⟨tput tm d v, own⟩ Q) : AO L (⟨some d, .fld x off n agg, none, ban⟩ :: l) k ⟨tm, own⟩ Q := by rw [AO_fld, hx]; simp only [hv]; exact h
theorem O_iadra {n z : Nat} {x i : Opd} {kd : IntKind} {a : Int} {s t i' j : Nat} (hi : St.ev ⟨tm, own⟩ i = .int kd a) (hx : St.ev ⟨tm, own⟩ x = .ptr s t i' j) (h0 : 0 ≤ a ∧ a < n) (h : AO L l k ⟨tput tm d (.ptr s t i' (j + a.toNat * z)), own⟩ Q) : AO L (⟨some d, .iadr (some n) z x i, none, ban⟩ :: l) k ⟨tm, own⟩ Q := by rw [AO_iadr_arr, hi, hx]; exact ⟨h0.1, h0.2, h⟩
theorem O_iadrr {z : Nat} {x i : Opd} {kd : IntKind} {a : Int} {s t off len : Nat} (hi : St.ev ⟨tm, own⟩ i = .int kd a) (hx : St.ev ⟨tm, own⟩ x = .row s t z off len) (h0 : 0 ≤ a ∧ a < len) (h : AO L l k ⟨tput tm d (.ptr s t (off + a.toNat) 0), own⟩ Q) : AO L (⟨some d, .iadr none z x i, none, ban⟩ :: l) k ⟨tm, own⟩ Q := by rw [AO_iadr, hi, hx]; exact ⟨h0.1, h0.2, rfl, h⟩
theorem O_iadrs {z : Nat} {x i : Opd} {kd : IntKind} {a : Int} {q : Bool} {es : List (List AV)} (cs : List AV) (hi : St.ev ⟨tm, own⟩ i = .int kd a) (hx : St.ev ⟨tm, own⟩ x = .sl q es) (h0 : 0 ≤ a) (he : es[a.toNat]? = some cs) (hz : cs.length = z) (h : AO L l k ⟨tput tm d (.dptr cs), own⟩ Q) : AO L (⟨some d, .iadr none z x i, none, ban⟩ :: l) k ⟨tm, own⟩ Q := by rw [AO_iadr, hi, hx]; simp only [he]; exact ⟨h0, hz, h⟩
theorem O_ld {agg : Bool} {n : Nat} {x : Opd} {s t i j : Nat} (v : AV) (hx : St.ev ⟨tm, own⟩ x = .ptr s t i j) (hv : ldv agg ((own.hide ban).ldp s t i j n) = some v) (h : AO L l k ⟨tput tm d v, own⟩ Q) : AO L (⟨some d, .ld agg n x, none, ban⟩ :: l) k ⟨tm, own⟩ Q := by rw [AO_ld, hx]; simp only [hv]; exact h
theorem O_ldd {agg : Bool} {n : Nat} {x : Opd} {cs : List AV} (v : AV) (hx : St.ev ⟨tm, own⟩ x = .dptr cs) (hv : ldv agg (part cs 0 n) = some v) (h : AO L l k ⟨tput tm d v, own⟩ Q) : AO L (⟨some d, .ld agg n x, none, ban⟩ :: l) k ⟨tm, own⟩ Q := by rw [AO_ld, hx]; simp only [hv]; exact h
theorem O_st {n : Nat} {x y : Opd} {s t i j : Nat} {vs : List AV} {o : Own} (hx : St.ev ⟨tm, own⟩ x = .ptr s t i j) (hy : cellsOf (St.ev ⟨tm, own⟩ y) = some vs) (hn : vs.length = n) (ho : own.stp s t i j vs = some o) (h : AO L l k ⟨tm, o⟩ Q) : AO L (⟨none, .st n x y, none, ban⟩ :: l) k ⟨tm, own⟩ Q := by rw [AO_st, hx, hy]; simp only [ho]; exact ⟨hn, h⟩
theorem O_mk {s z bytes : Nat} {zero : List AV} {x y : Opd} {k1 k2 : IntKind} {p q : Int} (hx : St.ev ⟨tm, own⟩ x = .int k1 p) (hy : St.ev ⟨tm, own⟩ y = .int k2 q) (hr : 0 ≤ p ∧ p ≤ q ∧ q * bytes ≤ roomMax ∧ q ≤ 9223372036854775807 ∧ zero.length = z) (h : AO L l k ⟨tput tm d (.row s (own.cnt s) z 0 p.toNat), own.put s ((own s).new ⟨z, List.replicate p.toNat zero⟩)⟩ Q) : AO L (⟨some d, .mk s z bytes zero x y, none, ban⟩ :: l) k ⟨tm, own⟩ Q := by rw [AO_mk, hx, hy]; exact ⟨hr, h⟩
theorem O_ext {x : Opd} {i : Nat} {vs : List AV} (v : AV) (hx : St.ev ⟨tm, own⟩ x = .tup vs) (hv : vs[i]? = some v) (h : AO L l k ⟨tput tm d v, own⟩ Q) : AO L (⟨some d, .ext x i, none, ban⟩ :: l) k ⟨tm, own⟩ Q := by rw [AO_ext, hx]; simp only [hv]; exact h
theorem O_len {x : Opd} {n : Nat} (hx : lenOf (St.ev ⟨tm, own⟩ x) = some n) (h : AO L l k ⟨tput tm d (.int .i64 (n : Int)), own⟩ Q) : AO L (⟨some d, .len x, none, ban⟩ :: l) k ⟨tm, own⟩ Q := by rw [AO_len, hx]; exact h
theorem O_mm {mx : Bool} {x : Opd} {xs : List Opd} (v : AV) (hv : mmL mx (St.ev ⟨tm, own⟩ x) (xs.map (St.ev ⟨tm, own⟩)) = some v) (h : AO L l k ⟨tput tm d v, own⟩ Q) : AO L (⟨some d, .mm mx (x :: xs), none, ban⟩ :: l) k ⟨tm, own⟩ Q := by rw [AO_mm, hv]; exact h
theorem O_call {f : Nat} {xs : List Opd} {vs : List AV} {r : AV} (hr : Ev L f vs r) (hv : (xs.map (St.ev ⟨tm, own⟩)).mapM (snapA (own.hide ban) true) = some vs) (h : AO L l k (St.dst ⟨tm, own⟩ dst r) Q) : AO L (⟨dst, .call f xs, none, ban⟩ :: l) k ⟨tm, own⟩ Q := (AO_call' hv hr).2 h
theorem O_callb {f : Nat} {xs : List Opd} {vs : List AV} {p : Prop} [Decidable p] (hr : Ev L f vs (.bool (decide p))) (hv : (xs.map (St.ev ⟨tm, own⟩)).mapM (snapA (own.hide ban) true) = some vs) (h1 : p → AO L l k (St.dst ⟨tm, own⟩ dst (.bool true)) Q) (h2 : ¬ p → AO L l k (St.dst ⟨tm, own⟩ dst (.bool false)) Q) : AO L (⟨dst, .call f xs, none, ban⟩ :: l) k ⟨tm, own⟩ Q := by
  rw [AO_call' hv hr]
  by_cases e : p
  · simpa [e] using h1 e
  · simpa [e] using h2 e
theorem O_call1 {f : Nat} {xs : List Opd} {vs : List AV} {r : AV} (hr : Ev L f vs r) (hv : (xs.map (St.ev ⟨tm, own⟩)).mapM (snapA (own.hide ban) true) = some vs) (h : AO L l k ⟨tput tm d r, own⟩ Q) : AO L (⟨some d, .call f xs, none, ban⟩ :: l) k ⟨tm, own⟩ Q := O_call hr hv h
theorem O_callb1 {f : Nat} {xs : List Opd} {vs : List AV} {p : Prop} [Decidable p] (hr : Ev L f vs (.bool (decide p))) (hv : (xs.map (St.ev ⟨tm, own⟩)).mapM (snapA (own.hide ban) true) = some vs) (h1 : p → AO L l k ⟨tput tm d (.bool true), own⟩ Q) (h2 : ¬ p → AO L l k ⟨tput tm d (.bool false), own⟩ Q) : AO L (⟨some d, .call f xs, none, ban⟩ :: l) k ⟨tm, own⟩ Q := O_callb hr hv h1 h2
theorem O_calli {f : Nat} {xs : List Opd} {r : AV} {o' : Own} (hr : EvI L f (xs.map (St.ev ⟨tm, own⟩)) own r o') (h : AO L l k { (St.dst ⟨tm, own⟩ dst r) with own := o' } Q) : AO L (⟨dst, .calli f xs, none, ban⟩ :: l) k ⟨tm, own⟩ Q := (AO_calli' hr).2 h

/-- what a body must come to -/
def Res (fn : AFn) (r : AV) (st : St) : Prop := ((fn.res.mapM (resOf st)).map resVal).bind (snapR st.own false) = some r ∧ Clean r
theorem Ev.fwd {f : Nat} {fn : AFn} {vs : List AV} {r : AV} (hL : L f = some fn) (hp : vs.length = fn.pars) (h : AK L [.code fn.body] ⟨initTm 0 vs, Own.emp⟩ (Res fn r)) (hs : fn.spl = false := by rfl) : Ev L f vs r := Ev.intro hL hp h hs
theorem EvD.fwd {f : Nat} {fn : AFn} {vs : List AV} {r : AV} (hL : L f = some fn) (hp : vs.length = fn.pars) (h : AK L [.code fn.body] ⟨initTm 0 vs, Own.emp⟩ (Res fn r)) : EvD L f vs r := EvD.intro hL hp h
theorem Res.bool {fn : AFn} {st : St} (x : Bool) {r : AV} (h : ((fn.res.mapM (resOf st)).map resVal).bind (snapR st.own false) = some (.bool x)) (e : .bool x = r) : Res fn r st := by
  subst e; exact ⟨h, by simp [Clean]⟩
theorem Res.int {fn : AFn} {st : St} (kd : IntKind) (x : Int) {r : AV} (h : ((fn.res.mapM (resOf st)).map resVal).bind (snapR st.own false) = some (.int kd x)) (e : .int kd x = r) : Res fn r st := by
  subst e; exact ⟨h, by simp [Clean]⟩
theorem eT {p : Prop} [Decidable p] (h : p) : AV.bool true = AV.bool (decide p) := by simp [h]
theorem eF {p : Prop} [Decidable p] (h : ¬ p) : AV.bool false = AV.bool (decide p) := by simp [h]
theorem eI {kd : IntKind} {a b : Int} (h : a = b) : AV.int kd a = AV.int kd b := by rw [h]
end
attribute [irreducible] Res
end Go.Eng

/-
  Steps of arithmetic: powers of 2, shifts, masks, divisions.
-/
namespace Go.Eng

/-- 2^n -/
def pw (n : Int) : Int := 2 ^ n.toNat
theorem pw_pos (n : Int) : 1 ≤ pw n := by
  have : 0 < pw n := Int.pow_pos (by decide)
  omega
theorem pw_le {n m : Int} (h : n ≤ m) : pw n ≤ pw m := by
  unfold pw
  have h' : n.toNat ≤ m.toNat := by omega
  have h2 := Nat.pow_le_pow_right (n := 2) (by decide) h'
  have h3 : ((2 ^ n.toNat : Nat) : Int) ≤ ((2 ^ m.toNat : Nat) : Int) := by exact_mod_cast h2
  simpa using h3
theorem pw_le62 {n : Int} (h : n ≤ 62) : pw n ≤ 4611686018427387904 := pw_le (m := 62) h
theorem pw_succ {n : Int} (h : 1 ≤ n) : pw n = 2 * pw (n - 1) := by
  unfold pw
  have e : n.toNat = (n - 1).toNat + 1 := by omega
  rw [e, Int.pow_succ, Int.mul_comm]
theorem pw_zero : pw 0 = 1 := rfl

theorem wrap_pos {a : Int} (h : 0 ≤ a) (h' : a ≤ 9223372036854775807) : IntKind.i64.wrap a = a := IntWalk.i64_in _ ⟨by omega, h'⟩

theorem shl_one {k2 : IntKind} {n : Int} (h : 0 ≤ n ∧ n ≤ 62) : intBin .shl .i64 1 k2 n = some (.int .i64 (pw n)) := by
  have h1 := pw_le62 h.2
  have h2 := pw_pos n
  have e : (1 : Int) * 2 ^ (min n.toNat IntKind.i64.bits) = pw n := by
    have : min n.toNat IntKind.i64.bits = n.toNat := by simp only [IntKind.bits]; omega
    rw [this, Int.one_mul]; rfl
  simp only [intBin]
  rw [if_neg (by omega), e, wrap_pos (by omega) (by omega)]
theorem shr_div {k2 : IntKind} {a n : Int} (h : 0 ≤ n ∧ n ≤ 63) : intBin .shr .i64 a k2 n = some (.int .i64 (a / pw n)) := by
  have h2 := pw_pos n
  have e : (2 : Int) ^ (min n.toNat IntKind.i64.bits) = pw n := by
    have : min n.toNat IntKind.i64.bits = n.toNat := by simp only [IntKind.bits]; omega
    rw [this]; rfl
  simp only [intBin]
  rw [if_neg (by omega), e, Int.fdiv_eq_ediv_of_nonneg _ (by omega)]
theorem and_mask {a p n : Int} (hp : p = pw n) (h : 0 ≤ n ∧ n ≤ 62) : intBin .and .i64 a .i64 (p - 1) = some (.int .i64 (a % p)) := by
  have h1 := pw_le62 h.2
  have h2 := pw_pos n
  simp only [intBin, if_true]
  have hn : n.toNat ≤ 64 := by omega
  have e0 : pw n = ((2 ^ n.toNat : Nat) : Int) := by simp [pw]
  have e1 : (BitVec.ofInt IntKind.i64.bits (p - 1)).toNat = 2 ^ n.toNat - 1 := by
    have hq : (2 : Nat) ^ n.toNat ≤ 4611686018427387904 := by
      have : ((2 ^ n.toNat : Nat) : Int) ≤ 4611686018427387904 := by rw [← e0]; exact h1
      omega
    rw [BitVec.toNat_ofInt]
    simp only [IntKind.bits]
    rw [hp, e0]
    have hz : 1 ≤ 2 ^ n.toNat := Nat.one_le_two_pow
    omega
  have e2 : (BitVec.ofInt IntKind.i64.bits a).toNat = (a % 18446744073709551616).toNat := by
    rw [BitVec.toNat_ofInt]; rfl
  have e3 : ((a % 18446744073709551616).toNat % 2 ^ n.toNat : Nat) = (a % pw n).toNat := by
    have hd : (pw n) ∣ 18446744073709551616 := by
      refine ⟨2 ^ (64 - n.toNat), ?_⟩
      unfold pw
      rw [← Int.pow_add, show n.toNat + (64 - n.toNat) = 64 by omega]; rfl
    have h3 : (a % 18446744073709551616) % pw n = a % pw n := Int.emod_emod_of_dvd a hd
    have h4 : (((a % 18446744073709551616).toNat % 2 ^ n.toNat : Nat) : Int) = (a % 18446744073709551616) % pw n := by
      rw [Int.natCast_emod, ← e0, Int.toNat_of_nonneg (by omega)]
    have h5 : 0 ≤ a % pw n := Int.emod_nonneg _ (by omega)
    omega
  have h5 : 0 ≤ a % pw n := Int.emod_nonneg _ (by omega)
  have h6 : a % pw n < pw n := Int.emod_lt_of_pos _ (by omega)
  rw [BitVec.toNat_and, e1, Nat.and_two_pow_sub_one_eq_mod, e2, e3, hp, Int.toNat_of_nonneg h5, wrap_pos h5 (by omega)]
theorem and_one {a : Int} : intBin .and .i64 a .i64 1 = some (.int .i64 (a % 2)) := and_mask (p := 2) (n := 1) rfl ⟨by decide, by decide⟩
theorem tmod_pos {a m : Int} (hm : 0 < m) : a.tmod m = if 0 ≤ a ∨ a % m = 0 then a % m else a % m - m := by
  have h := Int.tmod_eq_emod (a := a) (b := m)
  rw [h]
  have hd : m ∣ a ↔ a % m = 0 := Int.dvd_iff_emod_eq_zero
  by_cases h0 : 0 ≤ a ∨ a % m = 0
  · rw [if_pos h0, if_pos (by rcases h0 with h0 | h0; exact Or.inl h0; exact Or.inr (hd.2 h0))]; omega
  · rw [if_neg h0, if_neg (fun h => h0 (h.imp id hd.1))]
    have : (m.natAbs : Int) = m := by omega
    omega
theorem tdiv_pos {a m : Int} (hm : 0 < m) : a.tdiv m = if 0 ≤ a ∨ a % m = 0 then a / m else a / m + 1 := by
  have h := Int.tdiv_eq_ediv (a := a) (b := m)
  rw [h]
  have hd : m ∣ a ↔ a % m = 0 := Int.dvd_iff_emod_eq_zero
  by_cases h0 : 0 ≤ a ∨ a % m = 0
  · rw [if_pos h0, if_pos (by rcases h0 with h0 | h0; exact Or.inl h0; exact Or.inr (hd.2 h0))]; omega
  · rw [if_neg h0, if_neg (fun h => h0 (h.imp id hd.1)), Int.sign_eq_one_of_pos hm]
theorem ediv_range {a m : Int} (hm : 1 ≤ m) (h : -9223372036854775808 ≤ a ∧ a ≤ 9223372036854775807) : -9223372036854775808 ≤ a / m ∧ a / m ≤ 9223372036854775807 := by
  constructor
  · rw [Int.le_ediv_iff_mul_le (by omega)]
    have := Int.mul_le_mul_of_nonpos_left (a := -9223372036854775808) (b := m) (c := 1) (by omega) hm
    omega
  · have : a / m < 9223372036854775808 := by
      rw [Int.ediv_lt_iff_lt_mul (by omega)]
      have := Int.mul_le_mul_of_nonneg_left (c := 9223372036854775808) (a := 1) (b := m) hm (by omega)
      omega
    omega
theorem ediv_half {a m : Int} (hm : 2 ≤ m) (h : -9223372036854775808 ≤ a ∧ a ≤ 9223372036854775807) : -4611686018427387904 ≤ a / m ∧ a / m ≤ 4611686018427387904 := by
  constructor
  · rw [Int.le_ediv_iff_mul_le (by omega)]
    have := Int.mul_le_mul_of_nonpos_left (a := -4611686018427387904) (b := m) (c := 2) (by omega) hm
    omega
  · have : a / m < 4611686018427387904 + 1 := by
      rw [Int.ediv_lt_iff_lt_mul (by omega)]
      have := Int.mul_le_mul_of_nonneg_left (c := 4611686018427387905) (a := 2) (b := m) hm (by omega)
      omega
    omega
/-- the bit below the point -/
theorem half_bit {v h : Int} (hh : 1 ≤ h) : (v / h) % 2 = if h ≤ v % (2 * h) then 1 else 0 := by
  have e : v / h = v % (2 * h) / h + 2 * (v / (2 * h)) := by
    conv => lhs; rw [← Int.emod_add_mul_ediv v (2 * h)]
    rw [show 2 * h * (v / (2 * h)) = h * (2 * (v / (2 * h))) by rw [Int.mul_comm 2 h, Int.mul_assoc], Int.add_mul_ediv_left _ _ (by omega)]
  have h0 : 0 ≤ v % (2 * h) := Int.emod_nonneg _ (by omega)
  have h1 : v % (2 * h) < 2 * h := Int.emod_lt_of_pos _ (by omega)
  rw [e]
  by_cases hc : h ≤ v % (2 * h)
  · have : v % (2 * h) / h = 1 := by
      have a1 : 1 ≤ v % (2 * h) / h := by rw [Int.le_ediv_iff_mul_le (by omega)]; omega
      have a2 : v % (2 * h) / h < 2 := by rw [Int.ediv_lt_iff_lt_mul (by omega)]; omega
      omega
    rw [if_pos hc, this]; omega
  · have : v % (2 * h) / h = 0 := Int.ediv_eq_zero_of_lt h0 (by omega)
    rw [if_neg hc, this]; omega

section
variable {L : Lib} {k : List It} {tm : Tm} {own : Own} {Q : St → Prop} {l : List AI} {ban : List Nat} {d : Nat} {x y : Opd} {a b n p : Int} {k2 : IntKind}
theorem O_shl1 (hx : St.ev ⟨tm, own⟩ x = .int .i64 1) (hy : St.ev ⟨tm, own⟩ y = .int k2 n) (hr : 0 ≤ n ∧ n ≤ 62) (h : 1 ≤ pw n → pw n ≤ 4611686018427387904 → AO L l k ⟨tput tm d (.int .i64 (pw n)), own⟩ Q) : AO L (⟨some d, .bin .shl x y, none, ban⟩ :: l) k ⟨tm, own⟩ Q :=
  O_bin _ hx hy (shl_one hr) (h (pw_pos n) (pw_le62 hr.2))
theorem O_shr (hx : St.ev ⟨tm, own⟩ x = .int .i64 a) (hy : St.ev ⟨tm, own⟩ y = .int k2 n) (hr : 0 ≤ n ∧ n ≤ 63) (h : AO L l k ⟨tput tm d (.int .i64 (a / pw n)), own⟩ Q) : AO L (⟨some d, .bin .shr x y, none, ban⟩ :: l) k ⟨tm, own⟩ Q :=
  O_bin _ hx hy (shr_div hr) h
theorem O_andm (hx : St.ev ⟨tm, own⟩ x = .int .i64 a) (hy : St.ev ⟨tm, own⟩ y = .int .i64 (pw n - 1)) (hr : 0 ≤ n ∧ n ≤ 62) (h : 0 ≤ a % pw n → a % pw n < pw n → AO L l k ⟨tput tm d (.int .i64 (a % pw n)), own⟩ Q) : AO L (⟨some d, .bin .and x y, none, ban⟩ :: l) k ⟨tm, own⟩ Q :=
  O_bin _ hx hy (and_mask rfl hr) (h (Int.emod_nonneg _ (by have := pw_pos n; omega)) (Int.emod_lt_of_pos _ (by have := pw_pos n; omega)))
theorem O_and1 (hx : St.ev ⟨tm, own⟩ x = .int .i64 a) (hy : St.ev ⟨tm, own⟩ y = .int .i64 1) (h : AO L l k ⟨tput tm d (.int .i64 (a % 2)), own⟩ Q) : AO L (⟨some d, .bin .and x y, none, ban⟩ :: l) k ⟨tm, own⟩ Q :=
  O_bin _ hx hy and_one h
theorem O_rem (hx : St.ev ⟨tm, own⟩ x = .int .i64 a) (hy : St.ev ⟨tm, own⟩ y = .int .i64 b) (hb : 0 < b) (h1 : (0 ≤ a ∨ a % b = 0) → 0 ≤ a % b → a % b < b → AO L l k ⟨tput tm d (.int .i64 (a % b)), own⟩ Q) (h2 : a < 0 → a % b ≠ 0 → 0 ≤ a % b → a % b < b → AO L l k ⟨tput tm d (.int .i64 (a % b - b)), own⟩ Q) : AO L (⟨some d, .bin .rem x y, none, ban⟩ :: l) k ⟨tm, own⟩ Q := by
  have h5 : 0 ≤ a % b := Int.emod_nonneg _ (by omega)
  have h6 : a % b < b := Int.emod_lt_of_pos _ hb
  have e : intBin .rem .i64 a .i64 b = some (.int .i64 (a.tmod b)) := by simp only [intBin]; rw [if_pos ⟨trivial, by omega⟩]
  by_cases hc : 0 ≤ a ∨ a % b = 0
  · rw [tmod_pos hb, if_pos hc] at e
    exact O_bin _ hx hy e (h1 hc h5 h6)
  · rw [tmod_pos hb, if_neg hc] at e
    exact O_bin _ hx hy e (h2 (by omega) (by omega) h5 h6)
theorem O_quo (hx : St.ev ⟨tm, own⟩ x = .int .i64 a) (hy : St.ev ⟨tm, own⟩ y = .int .i64 b) (hb : 0 < b) (ha : -9223372036854775808 ≤ a ∧ a ≤ 9223372036854775807) (h1 : (0 ≤ a ∨ a % b = 0) → AO L l k ⟨tput tm d (.int .i64 (a / b)), own⟩ Q) (h2 : a < 0 → a % b ≠ 0 → AO L l k ⟨tput tm d (.int .i64 (a / b + 1)), own⟩ Q) : AO L (⟨some d, .bin .quo x y, none, ban⟩ :: l) k ⟨tm, own⟩ Q := by
  have hr := ediv_range (m := b) (by omega) ha
  have e : intBin .quo .i64 a .i64 b = some (.int .i64 (IntKind.i64.wrap (a.tdiv b))) := by simp only [intBin]; rw [if_pos ⟨trivial, by omega⟩]
  by_cases hc : 0 ≤ a ∨ a % b = 0
  · rw [tdiv_pos hb, if_pos hc, IntWalk.i64_in _ hr] at e
    exact O_bin _ hx hy e (h1 hc)
  · have hneg : a / b < 0 := Int.ediv_neg_of_neg_of_pos (by omega) hb
    rw [tdiv_pos hb, if_neg hc, IntWalk.i64_in _ (by omega)] at e
    exact O_bin _ hx hy e (h2 (by omega) (by omega))
theorem O_neg (hx : St.ev ⟨tm, own⟩ x = .int .i64 a) (hr : -9223372036854775807 ≤ a ∧ a ≤ 9223372036854775807) (h : AO L l k ⟨tput tm d (.int .i64 (-a)), own⟩ Q) : AO L (⟨some d, .un .neg x, none, ban⟩ :: l) k ⟨tm, own⟩ Q :=
  O_un _ (by rw [hx]; simp only [unA]; rw [IntWalk.i64_in _ (by omega), Int.zero_sub]) h
theorem O_convu (hx : St.ev ⟨tm, own⟩ x = .int .i64 a) (hr : 0 ≤ a ∧ a ≤ 9223372036854775807) (h : AO L l k ⟨tput tm d (.int .u64 a), own⟩ Q) : AO L (⟨some d, .conv .u64 x, none, ban⟩ :: l) k ⟨tm, own⟩ Q :=
  O_conv hx (by rw [IntWalk.u64_in _ (by omega)]; exact h)
end
end Go.Eng

/-
  The table of temporaries may be written otherwise: only what is found in it counts.
-/
namespace Go.Eng

theorem tget_tdrop (ts : List Nat) (j : Nat) : ∀ tm : Tm, tget (tdrop tm ts) j = if ts.contains j then .any else tget tm j
  | [] => by simp [tdrop_nil, tget_nil]
  | (i, u) :: r => by
    rw [tdrop_cons]
    by_cases h : ts.contains i = true
    · rw [if_pos h, tget_tdrop ts j r, tget_cons]
      by_cases h2 : j = i
      · subst h2; rw [if_pos h, if_pos h]
      · rw [if_neg h2]
    · rw [if_neg h, tget_cons, tget_cons, tget_tdrop ts j r]
      by_cases h2 : j = i
      · subst h2; rw [if_pos rfl, if_pos rfl, if_neg h]
      · rw [if_neg h2, if_neg h2]

/-- the same for every look -/
def St.eqv (a b : St) : Prop := a.own = b.own ∧ ∀ j, tget a.tm j = tget b.tm j
theorem St.eqv.ev {a b : St} (h : a.eqv b) : a.ev = b.ev := by
  funext x; cases x with
  | t n => exact h.2 n
  | c v => rfl
theorem St.eqv.dst {a b : St} (h : a.eqv b) (d : Option Nat) (v : AV) : (a.dst d v).eqv (b.dst d v) := by
  cases d with
  | none => exact h
  | some d => exact ⟨h.1, fun j => by simp only [St.dst, tget_tput, h.2]⟩
theorem St.dst_own (a : St) (d : Option Nat) (v : AV) : (a.dst d v).own = a.own := by cases d <;> rfl
theorem St.eqv.app {a b : St} (h : a.eqv b) (d : Option Nat) (E : Eff) : (a.app d E).eqv (b.app d E) := by
  cases E with
  | val v => exact h.dst d v
  | new s c v => simp only [St.app, h.1]; exact ⟨rfl, (h.dst d _).2⟩
  | vir s c v => simp only [St.app, h.1]; exact ⟨rfl, (h.dst d _).2⟩
  | tur v o => exact ⟨rfl, (h.dst d v).2⟩
  | upd s x => simp only [St.app, h.1]; exact ⟨rfl, (h.dst d _).2⟩
theorem St.eqv.guard {a b : St} (h : a.eqv b) (g : Option (Nat × Bool)) : guardA a g = guardA b g := by
  cases g with
  | none => rfl
  | some g => simp only [guardA, h.2]
theorem stepI_eqv {C : Cl} {o : AI} {a b a' : St} (h : a.eqv b) (hs : stepI C o a = some a') : ∃ b', stepI C o b = some b' ∧ a'.eqv b' := by
  unfold stepI at hs ⊢
  rw [← h.guard]
  split at hs
  · simp only [Option.map_eq_some_iff] at hs
    obtain ⟨E, hE, rfl⟩ := hs
    rw [← h.ev, ← h.1, hE]
    exact ⟨_, rfl, h.app _ E⟩
  · obtain rfl := Option.some.inj hs
    exact ⟨_, rfl, h.dst _ _⟩
  · cases hs
theorem stepL_eqv {C : Cl} : ∀ {l : List AI} {a b a' : St}, a.eqv b → stepL C l a = some a' → ∃ b', stepL C l b = some b' ∧ a'.eqv b'
  | [], a, b, a', h, hs => by obtain rfl := Option.some.inj hs; exact ⟨b, rfl, h⟩
  | o :: r, a, b, a', h, hs => by
    simp only [stepL] at hs ⊢
    cases hI : stepI C o a with
    | none => simp [hI] at hs
    | some a1 =>
      simp only [hI] at hs
      obtain ⟨b1, e1, h1⟩ := stepI_eqv h hI
      simp only [e1]
      exact stepL_eqv h1 hs
theorem run_eqv {C : Cl} : ∀ {n : Nat} {k : List It} {a b a' : St}, a.eqv b → run C n k a = some a' → ∃ b', run C n k b = some b' ∧ a'.eqv b' := by
  intro n
  induction n with
  | zero => intro k a b a' _ hr; simp [run] at hr
  | succ n ih =>
    intro k a b a' h hr
    cases k with
    | nil => simp only [run, Option.some.injEq] at hr; subst hr; exact ⟨b, rfl, h⟩
    | cons it k =>
      cases it with
      | blk id => simp only [run] at hr ⊢; exact ih h hr
      | drp ts ss =>
        simp only [run] at hr ⊢
        exact ih ⟨by simp only [h.1], fun j => by simp only [tget_tdrop, h.2]⟩ hr
      | lp c => simp only [run] at hr ⊢; exact ih h hr
      | code c =>
        cases c with
        | skip => simp only [run] at hr ⊢; exact ih h hr
        | ops l d =>
          simp only [run] at hr ⊢
          cases hs : stepL C l a with
          | none => simp [hs] at hr
          | some a1 =>
            simp only [hs] at hr
            obtain ⟨b1, e1, h1⟩ := stepL_eqv h hs
            simp only [e1]
            exact ih h1 hr
        | dr c ts ss => simp only [run] at hr ⊢; exact ih h hr
        | scope c => simp only [run] at hr ⊢; exact ih h hr
        | seq x y => simp only [run] at hr ⊢; exact ih h hr
        | cond x y z =>
          simp only [run] at hr ⊢
          rw [← h.ev]
          split at hr
          · exact ih h hr
          · exact ih h hr
          · cases hr
        | block id c => simp only [run] at hr ⊢; exact ih h hr
        | loop c => simp only [run] at hr ⊢; exact ih h hr
        | exit id =>
          simp only [run] at hr ⊢
          split at hr
          · exact ih h hr
          · cases hr
        | ret => simp only [run, Option.some.injEq] at hr; subst hr; exact ⟨b, rfl, h⟩

/-- a postcondition that does not see how the table is written -/
def clo (Q : St → Prop) (s : St) : Prop := ∃ s', s'.eqv s ∧ Q s'
theorem clo.intro {Q : St → Prop} {s : St} (h : Q s) : clo Q s := ⟨s, ⟨rfl, fun _ => rfl⟩, h⟩
theorem clo.of_eqv {Q : St → Prop} {a b : St} (h : a.eqv b) (hq : clo Q a) : clo Q b := by
  obtain ⟨s, hs, hQ⟩ := hq
  exact ⟨s, ⟨hs.1.trans h.1, fun j => (hs.2 j).trans (h.2 j)⟩, hQ⟩
theorem AK_eqv {L : Lib} {k : List It} {a b : St} {Q : St → Prop} (h : a.eqv b) (hk : AK L k a (clo Q)) : AK L k b (clo Q) := by
  obtain ⟨n, c, a', hr, hq⟩ := hk
  obtain ⟨b', hb, he⟩ := run_eqv h hr
  exact ⟨n, c, b', hb, clo.of_eqv he hq⟩
theorem AO_eqv {L : Lib} {l : List AI} {k : List It} {a b : St} {Q : St → Prop} (h : a.eqv b) (hk : AO L l k a (clo Q)) : AO L l k b (clo Q) := by
  obtain ⟨n, c, a1, a', hs, hr, hq⟩ := hk
  obtain ⟨b1, hb1, he1⟩ := stepL_eqv h hs
  obtain ⟨b', hb, he⟩ := run_eqv he1 hr
  exact ⟨n, c, b1, b', hb1, hb, clo.of_eqv he hq⟩
theorem N_put {L : Lib} {l : List AI} {k : List It} {tm : Tm} {own : Own} {Q : St → Prop} {d : Nat} {v : AV} (h : AO L l k ⟨(d, v) :: tm, own⟩ (clo Q)) : AO L l k ⟨tput tm d v, own⟩ (clo Q) :=
  AO_eqv (a := ⟨(d, v) :: tm, own⟩) ⟨rfl, fun j => by simp only [tget_tput, tget_cons]⟩ h

/-- in the order of the names, each once, some left out -/
def memN (j : Nat) : List Nat → Bool
  | [] => false
  | i :: r => bif Nat.beq j i then true else memN j r
def putB (i : Nat) (v : AV) : Tm → Tm
  | [] => [(i, v)]
  | (j, u) :: r => bif Nat.beq i j then (i, v) :: r else bif Nat.ble i j then (i, v) :: (j, u) :: r else (j, u) :: putB i v r
def canon (ts : List Nat) : Tm → Tm
  | [] => []
  | (i, v) :: r => bif memN i ts then canon ts r else putB i v (canon ts r)
theorem memN_eq (j : Nat) : ∀ ts : List Nat, memN j ts = ts.contains j
  | [] => rfl
  | i :: r => by
    simp only [memN, memN_eq j r, List.contains_cons]
    cases h : Nat.beq j i
    · have : (j == i) = false := by have := Nat.ne_of_beq_eq_false h; simpa using this
      simp [this]
    · have : (j == i) = true := by have := Nat.eq_of_beq_eq_true h; simpa using this
      simp [this]
theorem tget_putB (i : Nat) (v : AV) (j : Nat) : ∀ tm : Tm, tget (putB i v tm) j = if j = i then v else tget tm j
  | [] => by simp [putB, tget_cons, tget_nil]
  | (q, u) :: r => by
    simp only [putB]
    cases h : Nat.beq i q
    · simp only [cond_false]
      have hne : i ≠ q := Nat.ne_of_beq_eq_false h
      cases h2 : Nat.ble i q
      · simp only [cond_false, tget_cons, tget_putB i v j r]
        by_cases h3 : j = q
        · subst h3; rw [if_pos rfl, if_neg (fun e => hne e.symm), if_pos rfl]
        · rw [if_neg h3, if_neg h3]
      · simp [tget_cons]
    · have he : i = q := Nat.eq_of_beq_eq_true h
      subst he
      simp only [cond_true, tget_cons]
      split <;> simp_all
theorem tget_canon (ts : List Nat) (j : Nat) : ∀ tm : Tm, tget (canon ts tm) j = if ts.contains j then .any else tget tm j
  | [] => by simp [canon, tget_nil]
  | (i, v) :: r => by
    simp only [canon, memN_eq]
    cases h : ts.contains i
    · simp only [cond_false, tget_putB, tget_canon ts j r, tget_cons]
      by_cases h2 : j = i
      · subst h2; rw [if_pos rfl, if_pos rfl, h]; simp
      · rw [if_neg h2, if_neg h2]
    · simp only [cond_true, tget_canon ts j r, tget_cons]
      by_cases h2 : j = i
      · subst h2; rw [h]; simp
      · rw [if_neg h2]
theorem N_drp {L : Lib} {k : List It} {tm tm' : Tm} {own : Own} {Q : St → Prop} {ts : List Nat} (ht : canon ts tm = tm') (h : AK L k ⟨tm', own⟩ (clo Q)) : AK L (.drp ts [] :: k) ⟨tm, own⟩ (clo Q) := by
  refine K_drp (AK_eqv (a := ⟨tm', own⟩) ⟨rfl, fun j => ?_⟩ h)
  simp only [← ht, tget_canon, tget_tdrop]
theorem N_canon {L : Lib} {k : List It} {tm tm' : Tm} {own : Own} {Q : St → Prop} (ht : canon [] tm = tm') (h : AK L k ⟨tm', own⟩ (clo Q)) : AK L k ⟨tm, own⟩ (clo Q) := by
  refine AK_eqv (a := ⟨tm', own⟩) ⟨rfl, fun j => ?_⟩ h
  simp [← ht, tget_canon]
theorem Res.eqv {fn : AFn} {r : AV} {a b : St} (h : a.eqv b) (hr : Res fn r a) : Res fn r b := by
  have e : resOf a = resOf b := by
    funext x; cases x with
    | tmp t => simp only [resOf, h.2]
    | cell t agg n => simp only [resOf, h.2, h.1]
  unfold Res at hr ⊢
  rw [e, h.1] at hr
  exact hr
theorem Ev.go {L : Lib} {f : Nat} {fn : AFn} {vs : List AV} {r : AV} (hL : L f = some fn) (hp : vs.length = fn.pars) (h : AK L [.code fn.body] ⟨initTm 0 vs, Own.emp⟩ (clo (Res fn r))) (hs : fn.spl = false := by rfl) : Ev L f vs r :=
  Ev.fwd hL hp (AK_mono h fun s hs => by
    obtain ⟨s', he, hq⟩ := hs
    exact Res.eqv he hq) hs

/-! lists of encoded elements -/
abbrev encInt (n : Int) : List AV := [.int .i64 n]
section
variable {L : Lib} {k : List It} {tm : Tm} {own : Own} {Q : St → Prop} {l : List AI} {ban : List Nat} {d : Nat} {x i : Opd} {kd : IntKind} {a : Int} {q : Bool} {α : Type} {es : List α} {enc : α → List AV} {z : Nat}
theorem O_iadrM (hi : St.ev ⟨tm, own⟩ i = .int kd a) (hx : St.ev ⟨tm, own⟩ x = .sl q (es.map enc)) (h0 : 0 ≤ a ∧ a < es.length) (hz : ∀ e, (enc e).length = z) (h : ∀ e, es[a.toNat]? = some e → AO L l k ⟨tput tm d (.dptr (enc e)), own⟩ Q) : AO L (⟨some d, .iadr none z x i, none, ban⟩ :: l) k ⟨tm, own⟩ Q := by
  have hl : a.toNat < es.length := by omega
  have he : es[a.toNat]? = some es[a.toNat] := List.getElem?_eq_getElem hl
  exact O_iadrs (enc es[a.toNat]) hi hx h0.1 (by simp [he]) (hz _) (h _ he)
theorem O_iadrE {e : α} (hi : St.ev ⟨tm, own⟩ i = .int kd a) (hx : St.ev ⟨tm, own⟩ x = .sl q (es.map enc)) (he : es[a.toNat]? = some e) (h0 : 0 ≤ a) (hz : ∀ e, (enc e).length = z) (h : AO L l k ⟨tput tm d (.dptr (enc e)), own⟩ Q) : AO L (⟨some d, .iadr none z x i, none, ban⟩ :: l) k ⟨tm, own⟩ Q :=
  O_iadrs (enc e) hi hx h0 (by simp [he]) (hz _) h
theorem O_lenM (hx : St.ev ⟨tm, own⟩ x = .sl q (es.map enc)) (h : AO L l k ⟨tput tm d (.int .i64 (es.length : Int)), own⟩ Q) : AO L (⟨some d, .len x, none, ban⟩ :: l) k ⟨tm, own⟩ Q := O_len (n := es.length) (by rw [hx]; simp [lenOf]) h
end
end Go.Eng

/-
  A walk by computation: the code is run on a table of values and a list of what the call's own memory holds; it pauses where a number decides.
-/
namespace Go.Eng

/-- what lies under a name: a box; a row of data; a short row that is written out, with names in it; a row of rows, each of its own ('none': nil) -/
inductive Cel where
  | bx (cs : List AV)
  | rw (z : Nat) (es : List (List AV))
  | bs (z : Nat) (es : List (List AV))
  | mx (rows : List (Option (Nat × List (List AV))))
/-- name, site, content -/
abbrev Mem := List (Nat × Nat × Cel)

def mget : Mem → Nat → Option (Nat × Cel)
  | [], _ => none
  | (k, s, c) :: r, j => bif Nat.beq j k then some (s, c) else mget r j
/-- name and place: 0 is the thing itself, i + 1 the i-th row of a row of rows -/
def mref (M : Mem) (k t : Nat) : Option Cel := match mget M k with
  | none => none
  | some (_, c) => match t with
    | 0 => some c
    | i + 1 => match c with
      | .mx rows => match rows[i]? with
        | some (some (z, es)) => some (.rw z es)
        | _ => none
      | _ => none
def mdel (j : Nat) : Mem → Mem
  | [] => []
  | (k, s, c) :: r => bif Nat.beq j k then mdel j r else (k, s, c) :: mdel j r
def tg : Tm → Nat → AV
  | [], _ => .any
  | (i, v) :: r, j => bif Nat.beq j i then v else tg r j

/-! slots dropped, by a mask -/
def bit (m i : Nat) : Bool := Nat.beq (Nat.land (Nat.shiftRight m i) 1) 1
def mask : Nat → List Nat → Nat
  | m, [] => m
  | m, t :: ts => mask (Nat.lor m (Nat.shiftLeft 1 t)) ts
def cnm (m : Nat) : Tm → Tm
  | [] => []
  | (i, v) :: r => bif bit m i then cnm m r else (i, v) :: cnm (Nat.lor m (Nat.shiftLeft 1 i)) r
def fN (n : Nat) (K : Nat → Prop) : Prop := match n with
  | 0 => K 0
  | k + 1 => K (k + 1)
/-- no name in a cell -/
def dat : AV → Bool
  | .int _ _ => true | .bool _ => true | .con _ => true | .sl _ _ => true | .nil => true
  | _ => false
def datL : List AV → Bool
  | [] => true
  | v :: r => bif dat v then datL r else false
def datLL : List (List AV) → Bool
  | [] => true
  | v :: r => bif datL v then datLL r else false
/-- is a name used? -/
def rf1 (s : Nat) : AV → Bool
  | .row k _ _ _ _ => Nat.beq k s | .ptr k _ _ _ => Nat.beq k s
  | _ => false
def rfL (s : Nat) : List AV → Bool
  | [] => false
  | v :: r => bif rf1 s v then true else rfL s r
def rfLL (s : Nat) : List (List AV) → Bool
  | [] => false
  | v :: r => bif rfL s v then true else rfLL s r
def rf2 (s : Nat) : AV → Bool
  | .agg cs => rfL s cs
  | .fn _ _ _ cs => rfL s cs
  | v => rf1 s v
def rf2L (s : Nat) : List AV → Bool
  | [] => false
  | v :: r => bif rf2 s v then true else rf2L s r
def rf3 (s : Nat) : AV → Bool
  | .tup vs => rf2L s vs
  | v => rf2 s v
def rfT (s : Nat) : Tm → Bool
  | [] => false
  | (_, v) :: r => bif rf3 s v then true else rfT s r
def rfC (s : Nat) : Cel → Bool
  | .bx cs => rfL s cs
  | .rw _ _ => false
  | .bs _ es => rfLL s es
  | .mx _ => false
def rfM (s : Nat) : Mem → Bool
  | [] => false
  | (k, _, c) :: r => bif Nat.beq s k then true else bif rfC s c then true else rfM s r
/-- is a row of a row of rows held somewhere? -/
def ch1 (s : Nat) : AV → Bool
  | .row k t _ _ _ => bif Nat.beq k s then (match t with | 0 => false | _ + 1 => true) else false
  | .ptr k t _ _ => bif Nat.beq k s then (match t with | 0 => false | _ + 1 => true) else false
  | _ => false
def chL (s : Nat) : List AV → Bool
  | [] => false
  | v :: r => bif ch1 s v then true else chL s r
def ch2 (s : Nat) : AV → Bool
  | .agg cs => chL s cs
  | .fn _ _ _ cs => chL s cs
  | v => ch1 s v
def ch2L (s : Nat) : List AV → Bool
  | [] => false
  | v :: r => bif ch2 s v then true else ch2L s r
def ch3 (s : Nat) : AV → Bool
  | .tup vs => ch2L s vs
  | v => ch2 s v
def chT (s : Nat) : Tm → Bool
  | [] => false
  | (_, v) :: r => bif ch3 s v then true else chT s r
def chLL (s : Nat) : List (List AV) → Bool
  | [] => false
  | v :: r => bif chL s v then true else chLL s r
def chC (s : Nat) : Cel → Bool
  | .bx cs => chL s cs
  | .bs _ es => chLL s es
  | _ => false
def chM (s : Nat) : Mem → Bool
  | [] => false
  | (_, _, c) :: r => bif chC s c then true else chM s r
def New (s : Nat) (tm : Tm) (M : Mem) (A : Prop) : Prop := bif rfM s M then False else bif rfT s tm then False else A

/-- is a name in use? -/
def used (k : Nat) (tm : Tm) (M : Mem) : Bool := bif rfM k M then true else rfT k tm
/-- a new name: the first one of a list that is not in use -/
def pickN (tm : Tm) (M : Mem) : List Nat → (Nat → Prop) → Prop
  | [], _ => False
  | k :: r, K => bif used k tm M then pickN tm M r K else K k
/-- the site's own, or one made of it -/
def NewF (s : Nat) (tm : Tm) (M : Mem) (K : Nat → Prop) : Prop := pickN tm M [s, s + 1000000, s + 2000000, s + 3000000] K
/-! forced -/
def fL : List AV → (List AV → Prop) → Prop
  | [], K => K []
  | v :: r, K => fL r fun r' => K (v :: r')
def fV (v : AV) (K : AV → Prop) : Prop := match v with
  | .int k n => K (.int k n) | .bool b => K (.bool b) | .sl l es => K (.sl l es) | .row s t z o n => K (.row s t z o n)
  | .nil => K .nil | .ptr s t i j => K (.ptr s t i j) | .dptr cs => K (.dptr cs) | .agg cs => fL cs fun cs => K (.agg cs)
  | .fn p f g cs => fL cs fun cs => K (.fn p f g cs)
  | .tup vs => fL vs fun vs => K (.tup vs) | .con c => K (.con c) | .any => False
def fC (v : AV) (K : List AV → Prop) : Prop := match v with
  | .agg cs => fL cs K
  | .fn _ _ _ _ => False
  | .tup _ => False
  | .any => False
  | v => fV v fun v => K [v]
def fB (b : Bool) (K : Bool → Prop) : Prop := match b with
  | true => K true
  | false => K false
def fT : Tm → (Tm → Prop) → Prop
  | [], K => K []
  | (i, v) :: r, K => fT r fun r' => K ((i, v) :: r')
def fM : Mem → (Mem → Prop) → Prop
  | [], K => K []
  | (k, s, c) :: r, K => fM r fun r' => K ((k, s, c) :: r')
def fF (v : AV) (K : AV → Prop) : Prop := match v with
  | .int k n => K (.int k n) | .bool b => K (.bool b) | .sl l es => K (.sl l es) | .row s t z o n => K (.row s t z o n)
  | .nil => K .nil | .ptr s t i j => K (.ptr s t i j) | .con c => K (.con c) | _ => False
def f2 (v : AV) (K : AV → Prop) : Prop := match v with
  | .int k n => K (.int k n) | .bool b => K (.bool b) | .sl l es => K (.sl l es) | .row s t z o n => K (.row s t z o n)
  | .nil => K .nil | .ptr s t i j => K (.ptr s t i j) | .con c => K (.con c) | .agg cs => fL cs fun cs => K (.agg cs) | .fn p f g cs => fL cs fun cs => K (.fn p f g cs) | _ => False
def ofc (agg : Bool) (ds : List AV) (K : AV → Prop) : Prop := match agg with
  | true => K (.agg ds)
  | false => match ds with
    | [c] => fF c K
    | _ => False

/-! pauses -/
def CmpP (p q A B : Prop) : Prop := (p → A) ∧ (q → B)
def Req (p A : Prop) : Prop := p ∧ A
def OpP (op : BinOp) (k : IntKind) (a : Int) (k' : IntKind) (b : Int) (K : AV → Prop) : Prop := ∃ v, intBin op k a k' b = some v ∧ K v
def UnP (op : UnOp) (k : IntKind) (n : Int) (K : AV → Prop) : Prop := ∃ v, unA op (.int k n) = some v ∧ K v
def ConvP (k : IntKind) (n : Int) (K : Int → Prop) : Prop := K (k.wrap n)
def RdP (es : List (List AV)) (a : Int) (z : Nat) (K : List AV → Prop) : Prop := 0 ≤ a ∧ ∃ cs, es[a.toNat]? = some cs ∧ cs.length = z ∧ K cs
def LdR (es : List (List AV)) (i j n : Nat) (K : List AV → Prop) : Prop := ∃ cs ds, es[i]? = some cs ∧ part cs j n = some ds ∧ K ds
def StR (es : List (List AV)) (i j : Nat) (vs : List AV) (K : List (List AV) → Prop) : Prop := ∃ cs, es[i]? = some cs ∧ j + vs.length ≤ cs.length ∧ K (es.set i (splice cs j vs))
def MkR (a b : Int) (bytes : Nat) (zero : List AV) (K : List (List AV) → Nat → Prop) : Prop := (0 ≤ a ∧ a ≤ b ∧ b * bytes ≤ roomMax ∧ b ≤ 9223372036854775807) ∧ K (List.replicate a.toNat zero) a.toNat
def LenP (es : List (List AV)) (K : Nat → Prop) : Prop := K es.length
def AppR (es : List (List AV)) (len : Nat) (ys : List (List AV)) (z bytes : Nat) (K : List (List AV) → Nat → Prop) : Prop :=
  len ≤ es.length ∧ (∀ e ∈ ys, e.length = z) ∧ (len + ys.length) * bytes ≤ roomMax ∧ len + ys.length ≤ 9223372036854775807 ∧ K (es.take len ++ ys) (len + ys.length)
def AppN (ys : List (List AV)) (z bytes : Nat) (K : List (List AV) → Nat → Prop) : Prop :=
  (∀ e ∈ ys, e.length = z) ∧ ys.length * bytes ≤ roomMax ∧ ys.length ≤ 9223372036854775807 ∧ K ys ys.length
def CpyR (es : List (List AV)) (off len : Nat) (ys : List (List AV)) (z : Nat) (K : List (List AV) → Nat → Prop) : Prop :=
  off + len ≤ es.length ∧ (∀ e ∈ ys, e.length = z) ∧ K (es.take off ++ ys.take len ++ es.drop (off + min ys.length len)) (min ys.length len)
/-- a part of a row as it reads -/
def RowP (es : List (List AV)) (off len : Nat) (K : List (List AV) → Prop) : Prop := off + len ≤ es.length ∧ K ((es.drop off).take len)
/-- the same of a row that a call reads: data alone -/
def okE : List AV → Bool
  | [] => true
  | v :: r => match v with
    | .int _ _ => okE r | .bool _ => okE r | .con _ => okE r | .sl _ _ => okE r
    | _ => false
def nl : AV → AV
  | .nil => .sl false []
  | v => v
def okN : List AV → Bool
  | [] => true
  | v :: r => match v with
    | .int _ _ => okN r | .bool _ => okN r | .con _ => okN r | .sl _ _ => okN r | .nil => okN r
    | _ => false
def SnR (es : List (List AV)) (off len : Nat) (K : List (List AV) → Prop) : Prop := off + len ≤ es.length ∧ (∀ e ∈ es, okN e = true) ∧ K (((es.drop off).take len).map fun e => e.map nl)
/-! rows of rows -/
def LdM (rows : List (Option (Nat × List (List AV)))) (i : Nat) (K : Option (Nat × List (List AV)) → Prop) : Prop := ∃ r, rows[i]? = some r ∧ K r
def GetM (rows : List (Option (Nat × List (List AV)))) (i : Nat) (K : Nat → List (List AV) → Prop) : Prop := ∃ z es, rows[i]? = some (some (z, es)) ∧ K z es
def SetM (rows : List (Option (Nat × List (List AV)))) (i z : Nat) (es : List (List AV)) (K : List (Option (Nat × List (List AV))) → Prop) : Prop := i < rows.length ∧ K (rows.set i (some (z, es)))
def PutM (rows : List (Option (Nat × List (List AV)))) (i z : Nat) (es es' : List (List AV)) (K : List (Option (Nat × List (List AV))) → Prop) : Prop := es'.length = es.length ∧ K (rows.set i (some (z, es')))
def MkM (a b : Int) (bytes : Nat) (K : List (Option (Nat × List (List AV))) → Nat → Prop) : Prop := (0 ≤ a ∧ a ≤ b ∧ b * bytes ≤ roomMax ∧ b ≤ 9223372036854775807) ∧ K (List.replicate a.toNat none) a.toNat
def AppM (rows : List (Option (Nat × List (List AV)))) (len : Nat) (r : Option (Nat × List (List AV))) (bytes : Nat) (K : List (Option (Nat × List (List AV))) → Nat → Prop) : Prop :=
  len = rows.length ∧ (len + 1) * bytes ≤ roomMax ∧ len + 1 ≤ 9223372036854775807 ∧ K (rows ++ [r]) (len + 1)
def rowsE (q : Bool) : List (Option (Nat × List (List AV))) → List (List AV)
  | [] => []
  | none :: r => [.sl false []] :: rowsE q r
  | some (_, es) :: r => [.sl q es] :: rowsE q r
def SnM (q : Bool) (rows : List (Option (Nat × List (List AV)))) (off len : Nat) (K : List (List AV) → Prop) : Prop :=
  off = 0 ∧ len = rows.length ∧ (∀ z es, some (z, es) ∈ rows → ∀ e ∈ es, okE e = true) ∧ K (rowsE q rows)
/-- bounds of a slice expression -/
def Bds (lo hi : Option Int) (len : Nat) (K : Nat → Nat → Prop) : Prop :=
  ∃ a h : Nat, (match lo with | none => a = 0 | some x => 0 ≤ x ∧ a = x.toNat) ∧ (match hi with | none => h = len | some x => 0 ≤ x ∧ x ≤ len ∧ h = x.toNat) ∧ a ≤ h ∧ K a h
def SlS (z : Nat) (es : List (List AV)) (lo hi : Option Int) (K : List (List AV) → Prop) : Prop := (∀ e ∈ es, e.length = z) ∧ Bds lo hi es.length fun a h => K ((es.take h).drop a)
def CallP (L : Lib) (f : Nat) (vs : List AV) (K : AV → Prop) : Prop := ∃ r, Ev L f vs r ∧ K r

/-! stamps -/
abbrev Stp := Nat → Nat → Nat × Nat
def st1 (σ : Stp) : AV → AV
  | .row k t z o n => .row (σ k t).1 (σ k t).2 z o n
  | .ptr k t i j => .ptr (σ k t).1 (σ k t).2 i j
  | v => v
def st2 (σ : Stp) : AV → AV
  | .agg cs => .agg (cs.map (st1 σ))
  | .fn p f g cs => .fn p f g (cs.map (st1 σ))
  | v => st1 σ v
def st3 (σ : Stp) : AV → AV
  | .tup vs => .tup (vs.map (st2 σ))
  | v => st2 σ v
def mxB (σ : Stp) (k : Nat) : Nat → List (Option (Nat × List (List AV))) → List (List AV)
  | _, [] => []
  | i, none :: r => [.nil] :: mxB σ k (i + 1) r
  | i, some (z, es) :: r => [.row (σ k (i + 1)).1 (σ k (i + 1)).2 z 0 es.length] :: mxB σ k (i + 1) r
def Cel.blk (σ : Stp) (k : Nat) : Cel → Blk
  | .bx cs => ⟨cs.length, [cs.map (st1 σ)]⟩
  | .rw z es => ⟨z, es⟩
  | .bs z es => ⟨z, es.map fun cs => cs.map (st1 σ)⟩
  | .mx rows => ⟨1, mxB σ k 0 rows⟩
/-- memory is as the list says -/
structure Sat (σ : Stp) (own : Own) (M : Mem) : Prop where
  site : ∀ k s c, mget M k = some (s, c) → (σ k 0).1 = s
  blk : ∀ k t c, mref M k t = some c → (own (σ k t).1).blk (σ k t).2 = some (c.blk σ k)
  old : ∀ k t c, mref M k t = some c → (σ k t).2 < (own (σ k t).1).cnt
  inj : ∀ k t k' t' c c', mref M k t = some c → mref M k' t' = some c' → σ k t = σ k' t' → k = k' ∧ t = t'
structure RX (σ : Stp) (tm : Tm) (M : Mem) (st : St) : Prop where
  tm : ∀ j, tg tm j = .any ∨ tget st.tm j = st3 σ (tg tm j)
  sat : Sat σ st.own M
def SQ (Q : Tm → Mem → Prop) (st : St) : Prop := ∃ σ tm M, RX σ tm M st ∧ Q tm M
def AKM (L : Lib) (k : List It) (tm : Tm) (M : Mem) (Q : Tm → Mem → Prop) : Prop := ∀ σ st, RX σ tm M st → AK L k st (SQ Q)
def AOM (L : Lib) (l : List AI) (k : List It) (tm : Tm) (M : Mem) (Q : Tm → Mem → Prop) : Prop := ∀ σ st, RX σ tm M st → AO L l k st (SQ Q)
/-- a call in the own memory -/
def CalP (L : Lib) (f : Nat) (vs : List AV) (tm : Tm) (M : Mem) (K : AV → Mem → Prop) : Prop :=
  ∀ σ own, Sat σ own M → ∃ r own' σ' M', EvI L f (vs.map (st3 σ)) own (st3 σ' r) own' ∧ Sat σ' own' M' ∧ (∀ j, st3 σ' (tg tm j) = st3 σ (tg tm j)) ∧ K r M'

/-! the walk -/
def cv : AV → AV
  | .agg cs => bif datL cs then .agg cs else .any
  | .tup [] => .tup []
  | .dptr _ => .any
  | v => bif dat v then v else .any
def ex (tm : Tm) : Opd → AV
  | .t n => tg tm n
  | .c v => cv v
def kq (k k' : IntKind) : Bool := decide (k = k')
def binX (op : BinOp) (k : IntKind) (a : Int) (k' : IntKind) (b : Int) (K : AV → Prop) : Prop := match op with
  | .lss => bif kq k k' then CmpP (a < b) (b ≤ a) (K (.bool true)) (K (.bool false)) else False
  | .leq => bif kq k k' then CmpP (a ≤ b) (b < a) (K (.bool true)) (K (.bool false)) else False
  | .gtr => bif kq k k' then CmpP (b < a) (a ≤ b) (K (.bool true)) (K (.bool false)) else False
  | .geq => bif kq k k' then CmpP (b ≤ a) (a < b) (K (.bool true)) (K (.bool false)) else False
  | .eql => bif kq k k' then CmpP (a = b) (a ≠ b) (K (.bool true)) (K (.bool false)) else False
  | .neq => bif kq k k' then CmpP (a ≠ b) (a = b) (K (.bool true)) (K (.bool false)) else False
  | op => OpP op k a k' b K
noncomputable def mmX (mx : Bool) (k : IntKind) (K : AV → Prop) (a : Int) (l : List AV) : Prop :=
  List.rec (motive := fun _ => Int → Prop) (fun a => K (.int k a)) (fun v _ ih a => match v with
    | .int _ b => bif mx then CmpP (a < b) (b ≤ a) (ih b) (ih a) else CmpP (b < a) (a ≤ b) (ih b) (ih a)
    | _ => False) l a
def lget : List AV → Nat → AV
  | [], _ => .any
  | v :: _, 0 => v
  | _ :: r, n + 1 => lget r n
def okB (s : Nat) : List Nat → Bool
  | [] => true
  | ban => !(memN s ban)
/-- the data rows under a name and place -/
def rwX (M : Mem) (k t : Nat) (K : Nat → List (List AV) → Prop) : Prop := match mget M k with
  | some (_, c) => match t with
    | 0 => match c with
      | .rw z es => K z es
      | _ => False
    | i + 1 => match c with
      | .mx rows => GetM rows i K
      | _ => False
  | none => False
/-- the elements of a slice -/
def elX (M : Mem) (v : AV) (K : List (List AV) → Prop) : Prop := match v with
  | .sl _ es => K es
  | .nil => K []
  | .con (.bool _) => K []
  | .row key t z off len => rwX M key t fun z' es => bif Nat.beq z z' then RowP es off len K else False
  | _ => False
/-- a cell that leads to data alone, read for a call -/
def snD (q : Bool) (M : Mem) (ban : List Nat) (v : AV) (K : AV → Prop) : Prop := match v with
  | .int k n => K (.int k n)
  | .bool b => K (.bool b)
  | .sl l es => K (.sl l es)
  | .con c => K (.con c)
  | .nil => K (.sl false [])
  | .row key t z off len => match mget M key with
    | some (s, .rw z' es) => match t with
      | 0 => bif Nat.beq z z' then bif okB s ban then SnR es off len fun es => K (.sl q es) else False else False
      | _ + 1 => False
    | some (_, .mx rows) => match t with
      | 0 => False
      | i + 1 => match ban with
        | [] => GetM rows i fun z' es => bif Nat.beq z z' then SnR es off len fun es => K (.sl q es) else False
        | _ :: _ => False
    | _ => False
  | _ => False
noncomputable def snDL (q : Bool) (M : Mem) (ban : List Nat) (l : List AV) : (List AV → Prop) → Prop :=
  List.rec (motive := fun _ => (List AV → Prop) → Prop) (fun K => K []) (fun v _ ih K => snD q M ban v fun v' => ih fun r' => K (v' :: r')) l
noncomputable def snDLL (q : Bool) (M : Mem) (ban : List Nat) (l : List (List AV)) : (List (List AV) → Prop) → Prop :=
  List.rec (motive := fun _ => (List (List AV) → Prop) → Prop) (fun K => K []) (fun v _ ih K => snDL q M ban v fun v' => ih fun r' => K (v' :: r')) l
/-- a cell, read for a call -/
noncomputable def snC (q : Bool) (M : Mem) (ban : List Nat) (v : AV) (K : AV → Prop) : Prop := match v with
  | .row key 0 z off len => match mget M key with
    | some (s, .bs z' es) => bif Nat.beq z z' then bif okB s ban then bif Nat.beq off 0 then Req (len = es.length) (snDLL q M ban es fun es => K (.sl q es)) else False else False else False
    | some (_, .mx rows) => match ban with
      | [] => bif Nat.beq z 1 then SnM q rows off len fun es => K (.sl q es) else False
      | _ :: _ => False
    | _ => snD q M ban (.row key 0 z off len) K
  | v => snD q M ban v K
noncomputable def snL (q : Bool) (M : Mem) (ban : List Nat) (l : List AV) : (List AV → Prop) → Prop :=
  List.rec (motive := fun _ => (List AV → Prop) → Prop) (fun K => K []) (fun v _ ih K => snC q M ban v fun v' => ih fun r' => K (v' :: r')) l
noncomputable def snA (q : Bool) (M : Mem) (ban : List Nat) (v : AV) (K : AV → Prop) : Prop := match v with
  | .agg cs => snL q M ban cs fun cs => K (.agg cs)
  | v => snC q M ban v K
noncomputable def snX (tm : Tm) (M : Mem) (ban : List Nat) (l : List Opd) : (List AV → Prop) → Prop :=
  List.rec (motive := fun _ => (List AV → Prop) → Prop) (fun K => K []) (fun x _ ih K => snA true M ban (ex tm x) fun v => ih fun vs => K (v :: vs)) l
noncomputable def exF (tm : Tm) (l : List Opd) : (List AV → Prop) → Prop :=
  List.rec (motive := fun _ => (List AV → Prop) → Prop) (fun K => K []) (fun x _ ih K => fV (ex tm x) fun v => ih fun vs => K (v :: vs)) l
def obX (tm : Tm) (o : Option Opd) (K : Option Int → Prop) : Prop := match o with
  | none => K none
  | some x => match ex tm x with
    | .int _ n => K (some n)
    | _ => False
def lnX (es : List (List AV)) (K : Nat → Prop) : Prop := match es with
  | [] => K 0
  | [_] => K 1
  | [_, _] => K 2
  | [_, _, _] => K 3
  | [_, _, _, _] => K 4
  | es => K es.length
noncomputable def bsX (tm : Tm) (z : Nat) (l : List Opd) : (List (List AV) → Prop) → Prop :=
  List.rec (motive := fun _ => (List (List AV) → Prop) → Prop) (fun K => K []) (fun x _ ih K => fC (ex tm x) fun cs => bif Nat.beq cs.length z then ih fun es => K (cs :: es) else False) l
noncomputable def flX (tm : Tm) (ps : List (Nat × Nat × Opd)) : List AV → (List AV → Prop) → Prop :=
  List.rec (motive := fun _ => List AV → (List AV → Prop) → Prop) (fun cells K => K cells) (fun p _ ih cells K => fC (ex tm p.2.2) fun vs => bif Nat.beq vs.length p.2.1 then bif Nat.ble (p.1 + p.2.1) cells.length then fL (splice cells p.1 vs) fun cells => ih cells K else False else False) ps
def exL (tm : Tm) : List Opd → List AV
  | [] => []
  | x :: r => ex tm x :: exL tm r

def TbP (tb : List Nat) (n : Int) (K : Nat → Prop) : Prop := 0 ≤ n ∧ ∃ v, tb[n.toNat]? = some v ∧ K v
/-- what a function value takes along -/
noncomputable def oaX (tm : Tm) (l : List Opd) : (List AV → Prop) → Prop :=
  List.rec (motive := fun _ => (List AV → Prop) → Prop) (fun K => K []) (fun x _ ih K => fF (ex tm x) fun v => ih fun cs => K (v :: cs)) l
def one1 : AV → Bool
  | .agg _ => false | .fn _ _ _ _ => false | .tup _ => false | .any => false
  | _ => true
def oneL : List AV → Bool
  | [] => true
  | v :: r => bif one1 v then oneL r else false
/-- one row, or nil, to be put behind a row of rows -/
def apX (M : Mem) (v : AV) : Option (Nat × Option (Nat × Nat × Nat)) := match v with
  | .row ky 0 1 0 1 => match mget M ky with
    | some (_, .bs 1 [[.row k2 0 z 0 n]]) => some (ky, some (k2, z, n))
    | some (_, .rw 1 [[.nil]]) => some (ky, none)
    | _ => none
  | _ => none
/-- a store -/
def stX (tm : Tm) (M : Mem) (K : AV → Mem → Prop) (n : Nat) (x v : Opd) : Prop := match ex tm x with
  | .ptr key t i j => fC (ex tm v) fun vs => bif Nat.beq vs.length n then (match mget M key with
    | some (s, c) => match t with
      | 0 => match c with
        | .bx cs => bif Nat.beq i 0 then bif Nat.ble (j + vs.length) cs.length then fL (splice cs j vs) fun cs' => K (.tup []) ((key, s, .bx cs') :: M) else False else False
        | .rw z es => bif datL vs then StR es i j vs fun es' => K (.tup []) ((key, s, .rw z es') :: M) else False
        | .bs _ _ => False
        | .mx rows => match vs with
          | [.row key2 0 z 0 m] => bif Nat.beq key key2 then False else bif chT key tm then False else bif chM key M then False else bif Nat.beq j 0 then (match mget M key2 with
            | some (_, .rw z' es) => bif Nat.beq z z' then fM (mdel key2 M) fun M' => Req (m = es.length) (SetM rows i z es fun rows' => K (.tup []) ((key, s, .mx rows') :: M')) else False
            | _ => False) else False
          | _ => False
      | i' + 1 => match c with
        | .mx rows => bif datL vs then GetM rows i' fun z es => StR es i j vs fun es' => PutM rows i' z es es' fun rows' => K (.tup []) ((key, s, .mx rows') :: M) else False
        | _ => False
    | none => False) else False
  | _ => False
/-- a list of numbers is handed back -/
def FlP (r : AV) (K : AV → Prop) : Prop := FlatR r ∧ K (lnd r)
noncomputable def XE (L : Lib) (tm : Tm) (M : Mem) (ban : List Nat) (K : AV → Mem → Prop) : AOp → Prop
  | .mov x => fV (ex tm x) fun v => K v M
  | .vrow s z => NewF s tm M fun k => K (.row k 0 z 0 0) ((k, s, .rw z []) :: M)
  | .pick c a b => match ex tm c with
    | .bool true => fV (ex tm a) fun v => K v M
    | .bool false => fV (ex tm b) fun v => K v M
    | _ => False
  | .bin op x y => match ex tm x, ex tm y with
    | .int k a, .int k' b => binX op k a k' b fun v => K v M
    | _, _ => False
  | .beq ne x y => match ex tm x, ex tm y with
    | .bool a, .bool b => fB (bif ne then !(a == b) else a == b) fun c => K (.bool c) M
    | _, _ => False
  | .un op x => match ex tm x with
    | .int k n => UnP op k n fun v => K v M
    | .bool b => match op with
      | .not => fB (!b) fun c => K (.bool c) M
      | _ => False
    | _ => False
  | .conv k x => match ex tm x with
    | .int _ n => ConvP k n fun v => K (.int k v) M
    | _ => False
  | .box s x => fC (ex tm x) fun cs => NewF s tm M fun k => K (.ptr k 0 0 0) ((k, s, .bx cs) :: M)
  | .alloc s zero => bif datL zero then (NewF s tm M fun k => K (.ptr k 0 0 0) ((k, s, .bx zero) :: M)) else False
  | .build zero parts => bif datL zero then flX tm parts zero fun cs => K (.agg cs) M else False
  | .bslice s z parts => bsX tm z parts fun es => lnX es fun n => NewF s tm M fun k => bif datLL es then K (.row k 0 z 0 n) ((k, s, .rw z es) :: M) else K (.row k 0 z 0 n) ((k, s, .bs z es) :: M)
  | .fadr x off => match ex tm x with
    | .ptr key t i j => K (.ptr key t i (j + off)) M
    | .dptr cs => fL (cs.drop off) fun cs => K (.dptr cs) M
    | _ => False
  | .fld x off n agg => match ex tm x with
    | .agg cs => match part cs off n with
      | some ds => fL ds fun ds => ofc agg ds fun v => K v M
      | none => False
    | _ => False
  | .iadr arr z x i => match ex tm i with
    | .int _ n => match arr, ex tm x with
      | some len, .ptr key t i' j => Req (0 ≤ n ∧ n < (len : Int)) (K (.ptr key t i' (j + n.toNat * z)) M)
      | some len, .dptr cs => Req (0 ≤ n ∧ n < (len : Int)) (fL (cs.drop (n.toNat * z)) fun cs => K (.dptr cs) M)
      | none, .row key t z' off len => bif Nat.beq z' z then Req (0 ≤ n ∧ n < (len : Int)) (K (.ptr key t (off + n.toNat) 0) M) else False
      | none, .sl _ es => RdP es n z fun cs => K (.dptr cs) M
      | _, _ => False
    | _ => False
  | .idx len z agg x i => match ex tm i, ex tm x with
    | .int _ n, .agg cs => Req (0 ≤ n ∧ n < (len : Int)) (match part cs (n.toNat * z) z with
      | some ds => fL ds fun ds => ofc agg ds fun v => K v M
      | none => False)
    | _, _ => False
  | .ld agg n x => match ex tm x with
    | .ptr key t i j => match mget M key with
      | some (s, c) => match t with
        | 0 => bif okB s ban then (match c with
          | .bx cs => bif Nat.beq i 0 then (match part cs j n with
            | some ds => fL ds fun ds => ofc agg ds fun v => K v M
            | none => False) else False
          | .rw _ es => LdR es i j n fun ds => fL ds fun ds => bif datL ds then ofc agg ds fun v => K v M else False
          | .bs _ es => (match es[i]? with
            | some cs => (match part cs j n with
              | some ds => fL ds fun ds => ofc agg ds fun v => K v M
              | none => False)
            | none => False)
          | .mx rows => bif Nat.beq j 0 then bif Nat.beq n 1 then LdM rows i fun r => match r with
            | some (z, es) => ofc agg [.row key (i + 1) z 0 es.length] fun v => K v M
            | none => ofc agg [.nil] fun v => K v M else False else False) else False
        | i' + 1 => match c, ban with
          | .mx rows, [] => GetM rows i' fun _ es => LdR es i j n fun ds => fL ds fun ds => bif datL ds then ofc agg ds fun v => K v M else False
          | _, _ => False
      | none => False
    | .dptr cs => match part cs 0 n with
      | some ds => fL ds fun ds => bif datL ds then ofc agg ds fun v => K v M else False
      | none => False
    | _ => False
  | .st n x v => stX tm M K n x v
  | .sto s n x v => match ex tm x with
    | .ptr key 0 _ _ => (match mget M key with
      | some (s', _) => bif Nat.beq s' s then stX tm M K n x v else False
      | none => False)
    | _ => False
  | .callq f xs => exF tm xs fun vs => bif vs.all dq then CallP L f (vs.map unl) fun r => FlP r fun r => K r M else False
  | .mk s z bytes zero l c => match ex tm l, ex tm c with
    | .int _ a, .int _ b => bif Nat.beq zero.length z then bif datL zero then match zero with
      | [.nil] => MkM a b bytes fun rows n => NewF s tm M fun k => K (.row k 0 z 0 n) ((k, s, .mx rows) :: M)
      | zero => (MkR a b bytes zero fun es n => NewF s tm M fun k => K (.row k 0 z 0 n) ((k, s, .rw z es) :: M)) else False else False
    | _, _ => False
  | .slc z x lo hi => obX tm lo fun lo => obX tm hi fun hi => match ex tm x with
    | .sl l es => SlS z es lo hi fun es => K (.sl l es) M
    | .row key t z' off len => bif Nat.beq z' z then Bds lo hi len fun a h => K (.row key t z (off + a) (h - a)) M else False
    | .nil => (match lo, hi with
      | none, none => K .nil M
      | some a, none => Req (a = 0) (K .nil M)
      | none, some h => Req (h = 0) (K .nil M)
      | some a, some h => Req (a = 0 ∧ h = 0) (K .nil M))
    | _ => False
  | .ext x i => match ex tm x with
    | .tup vs => f2 (lget vs i) fun v => K v M
    | _ => False
  | .len x => match ex tm x with
    | .sl _ es => LenP es fun n => K (.int .i64 (n : Int)) M
    | .nil => K (.int .i64 0) M
    | .row _ _ _ _ n => K (.int .i64 (n : Int)) M
    | _ => False
  | .mm mx xs => match exL tm xs with
    | .int k a :: r => mmX mx k (fun v => K v M) a r
    | _ => False
  | .app s z bytes x y => match apX M (ex tm y) with
    | some (ky, some (k2, z2, n2)) => match ex tm x with
      | .row key 0 z' off len => bif Nat.beq off 0 then bif Nat.beq z' 1 then bif Nat.beq z 1 then bif Nat.beq key k2 then False else bif Nat.beq key ky then False else bif Nat.beq k2 ky then False else (match mget M k2 with
        | some (_, .rw z3 es) => bif Nat.beq z2 z3 then (match mget M key with
          | some (s', .mx rows) => fM (mdel key (mdel k2 (mdel ky M))) fun M' => Req (n2 = es.length) (AppM rows len (some (z2, es)) bytes fun rows' n => NewF s tm M fun k => K (.row k 0 z 0 n) ((k, s', .mx rows') :: M'))
          | _ => False) else False
        | _ => False) else False else False else False
      | .nil => bif Nat.beq z 1 then (match mget M k2 with
        | some (_, .rw z3 es) => bif Nat.beq z2 z3 then fM (mdel k2 M) fun M' => Req (n2 = es.length ∧ bytes ≤ 140737488355328) (NewF s tm M fun k => K (.row k 0 z 0 1) ((k, s, .mx [some (z2, es)]) :: M')) else False
        | _ => False) else False
      | _ => False
    | some (ky, none) => match ex tm x with
      | .row key 0 z' off len => bif Nat.beq off 0 then bif Nat.beq z' 1 then bif Nat.beq z 1 then bif Nat.beq key ky then False else (match mget M key with
          | some (s', .mx rows) => fM (mdel key M) fun M' => AppM rows len none bytes fun rows' n => NewF s tm M fun k => K (.row k 0 z 0 n) ((k, s', .mx rows') :: M')
          | _ => False) else False else False else False
      | .nil => bif Nat.beq z 1 then Req (bytes ≤ 140737488355328) (NewF s tm M fun k => K (.row k 0 z 0 1) ((k, s, .mx [none]) :: M)) else False
      | _ => False
    | none => elX M (ex tm y) fun ys => match ex tm x with
      | .row key 0 z' off len => bif Nat.beq off 0 then bif Nat.beq z' z then (match mget M key with
        | some (s', .rw z'' es) => bif Nat.beq z'' z then fM (mdel key M) fun M' => (AppR es len ys z bytes fun es' n => NewF s tm M fun k => K (.row k 0 z 0 n) ((k, s', .rw z es') :: M')) else False
        | _ => False) else False else False
      | .nil => AppN ys z bytes fun es n => NewF s tm M fun k => K (.row k 0 z 0 n) ((k, s, .rw z es) :: M)
      | _ => False
  | .cpy z x y => elX M (ex tm y) fun ys => match ex tm x with
    | .row key 0 z' off len => bif Nat.beq z' z then (match mget M key with
      | some (s', .rw z'' es) => bif Nat.beq z'' z then CpyR es off len ys z fun es' n => K (.int .i64 (n : Int)) ((key, s', .rw z es') :: M) else False
      | _ => False) else False
    | _ => False
  | .call f xs => snX tm M ban xs fun vs => CallP L f vs fun r => K r M
  | .calli f xs => exF tm xs fun vs => CalP L f vs tm M K
  | .isn ne x => match ex tm x with
    | .nil => fB (xor true ne) fun c => K (.bool c) M
    | .con (.bool b) => fB (xor b ne) fun c => K (.bool c) M
    | .sl _ es => Req (es ≠ []) (fB (xor false ne) fun c => K (.bool c) M)
    | .row _ _ _ _ n => Req (0 < n) (fB (xor false ne) fun c => K (.bool c) M)
    | _ => False
  | .sidx tb x => match ex tm x with
    | .int _ n => TbP tb n fun v => K (.int .u8 v) M
    | _ => False
  | .mkf p f xs => oaX tm xs fun cs => K (.fn p f (L.num f) cs) M
  | .callv x xs => match ex tm x with
    | .fn true f g [] => Req (g = L.num f) (snX tm M [] xs fun vs => CallP L f vs fun r => K r M)
    | .fn false f g cs => bif oneL cs then Req (g = L.num f) (exF tm xs fun vs => fL (vs ++ cs) fun vs => CalP L f vs tm M K) else False
    | _ => False

def pt (d : Option Nat) (v : AV) (tm : Tm) : Tm := match d with
  | some d => (d, v) :: tm
  | none => tm
noncomputable def XI (L : Lib) (o : AI) (ih : (Tm → Mem → Prop) → Tm → Mem → Prop) (K : Tm → Mem → Prop) (tm : Tm) (M : Mem) : Prop := match o with
  | ⟨some d, op, none, ban⟩ => XE L tm M ban (fun v M => ih K ((d, v) :: tm) M) op
  | ⟨none, op, none, ban⟩ => XE L tm M ban (fun _ M => ih K tm M) op
  | ⟨dst, op, some (g, w), ban⟩ => match tg tm g with
    | .bool b => fB (b == w) fun c => match c, dst with
      | true, some d => XE L tm M ban (fun v M => ih K ((d, v) :: tm) M) op
      | true, none => XE L tm M ban (fun _ M => ih K tm M) op
      | false, some d => ih K ((d, .tup []) :: tm) M
      | false, none => ih K tm M
    | .tup [] => match dst with
      | some d => ih K ((d, .tup []) :: tm) M
      | none => ih K tm M
    | _ => False
noncomputable def XO (L : Lib) (l : List AI) : (Tm → Mem → Prop) → Tm → Mem → Prop :=
  List.rec (motive := fun _ => (Tm → Mem → Prop) → Tm → Mem → Prop) (fun K tm M => K tm M) (fun o _ ih K tm M => XI L o ih K tm M) l
noncomputable def XS (L : Lib) (Q : Tm → Mem → Prop) (ih : List It → Tm → Mem → Prop) (k : List It) (tm : Tm) (M : Mem) : Prop := match k with
  | [] => Q tm M
  | it :: k => match it with
    | .blk _ => ih k tm M
    | .drp ts ss => fN (mask 0 ts) fun m => fT (cnm m tm) fun tm => match ss with
      | [] => ih k tm M
      | _ :: _ => False
    | .lp c => AKM L (.lp c :: k) tm M Q
    | .code c => match c with
      | .skip => ih k tm M
      | .ops l _ => XO L l (fun tm M => ih k tm M) tm M
      | .dr c ts ss => ih (.code c :: .drp ts ss :: k) tm M
      | .scope c => ih (.code c :: k) tm M
      | .seq a b => ih (.code a :: .code b :: k) tm M
      | .cond x a b => match ex tm x with
        | .bool b' => fB b' fun c => match c with
          | true => ih (.code a :: k) tm M
          | false => ih (.code b :: k) tm M
        | _ => False
      | .block id c => ih (.code c :: .blk id :: k) tm M
      | .loop c => AKM L (.lp c :: k) tm M Q
      | .exit id => match exitA id k with
        | some k' => ih k' tm M
        | none => False
      | .ret => Q tm M
noncomputable def XK (L : Lib) (Q : Tm → Mem → Prop) (n : Nat) : List It → Tm → Mem → Prop :=
  Nat.rec (motive := fun _ => List It → Tm → Mem → Prop) (fun k tm M => AKM L k tm M Q) (fun _ ih k tm M => XS L Q ih k tm M) n
/-! results -/
def resX (tm : Tm) (M : Mem) (r : ARes) (K : AV → Prop) : Prop := match r with
  | .tmp t => f2 (tg tm t) K
  | .cell t agg n => match tg tm t with
    | .ptr key 0 i j => match mget M key with
      | some (_, .bx cs) => bif Nat.beq i 0 then (match part cs j n with
        | some ds => fL ds fun ds => ofc agg ds K
        | none => False) else False
      | _ => False
    | _ => False
noncomputable def resLX (tm : Tm) (M : Mem) (l : List ARes) : (List AV → Prop) → Prop :=
  List.rec (motive := fun _ => (List AV → Prop) → Prop) (fun K => K []) (fun x _ ih K => resX tm M x fun v => ih fun vs => K (v :: vs)) l
noncomputable def snAL (q : Bool) (M : Mem) (l : List AV) : (List AV → Prop) → Prop :=
  List.rec (motive := fun _ => (List AV → Prop) → Prop) (fun K => K []) (fun x _ ih K => snA q M [] x fun v => ih fun vs => K (v :: vs)) l
def rsv (vs : List AV) (K : AV → Prop) : Prop := match vs with
  | [v] => K v
  | vs => K (.tup vs)
def FinP (a r : AV) : Prop := a = r ∧ Clean r
noncomputable def RetX (fn : AFn) (r : AV) (tm : Tm) (M : Mem) : Prop := resLX tm M fn.res fun vs => snAL false M vs fun vs => rsv vs fun v => FinP v r
end Go.Eng
