/-
  Rules by which the abstract machine is run by rewriting: one for each kind of operation.
-/
import Derived.Test.YtlkfmmfmefobnaaEngAK
set_option linter.unusedSimpArgs false
set_option linter.unusedVariables false
set_option linter.unnecessarySimpa false
namespace Go.Eng

section
variable {L : Lib} {k : List It} {tm : Tm} {own : Own} {Q : St → Prop} {l : List AI} {ban : List Nat} {d : Nat}

theorem ev_t (n : Nat) : St.ev ⟨tm, own⟩ (.t n) = tget tm n := rfl
theorem ev_c (v : AV) : St.ev ⟨tm, own⟩ (.c v) = v := rfl
theorem tget_cons (i : Nat) (v : AV) (r : Tm) (j : Nat) : tget ((i, v) :: r) j = if j = i then v else tget r j := rfl
theorem tget_nil (j : Nat) : tget [] j = .any := rfl
theorem tput_cons (i : Nat) (v : AV) (r : Tm) (j : Nat) (u : AV) : tput ((i, v) :: r) j u = if j = i then (i, u) :: r else if j < i then (j, u) :: (i, v) :: r else (i, v) :: tput r j u := rfl
theorem tput_nil (j : Nat) (u : AV) : tput [] j u = [(j, u)] := rfl
theorem tdrop_cons (i : Nat) (v : AV) (r : Tm) (l : List Nat) : tdrop ((i, v) :: r) l = if l.contains i then tdrop r l else (i, v) :: tdrop r l := rfl
theorem tdrop_nil (l : List Nat) : tdrop [] l = [] := rfl
theorem initTm_cons (i : Nat) (v : AV) (r : List AV) : initTm i (v :: r) = (i, v) :: initTm (i + 1) r := rfl
theorem initTm_nil (i : Nat) : initTm i [] = [] := rfl

theorem AO_iff {o : AI} {st : St} : AO L (o :: l) k st Q ↔ ∃ c n st1 st2 st', stepI (clAt L c) o st = some st1 ∧ stepL (clAt L c) l st1 = some st2 ∧ run (clAt L c) n k st2 = some st' ∧ Q st' := by
  constructor
  · rintro ⟨n, c, st1, st', hs, hr, hq⟩
    simp only [stepL] at hs
    cases hI : stepI (clAt L c) o st with
    | none => simp [hI] at hs
    | some st2 => simp only [hI] at hs; exact ⟨c, n, st2, st1, st', hI, hs, hr, hq⟩
  · rintro ⟨c, n, st1, st2, st', hI, hs, hr, hq⟩
    exact ⟨n, c, st2, st', by simp only [stepL, hI, hs], hr, hq⟩

def orF {α : Type} (X : Option α) (f : α → Prop) : Prop := match X with | some x => f x | none => False
theorem orF_some {α : Type} (x : α) (f : α → Prop) : orF (some x) f ↔ f x := Iff.rfl
theorem orF_none {α : Type} (f : α → Prop) : orF none f ↔ False := Iff.rfl

/-- an operation that hangs on no call -/
theorem AO_eff {op : AOp} {dst : Option Nat} {st : St} (X : Option Eff) (h : ∀ C, eff C ban st.ev st.own op = X) : AO L (⟨dst, op, none, ban⟩ :: l) k st Q ↔ orF X (fun E => AO L l k (st.app dst E) Q) := by
  cases X with
  | none =>
    rw [AO_iff]
    constructor
    · rintro ⟨c, n, st1, st2, st', hI, _⟩
      simp [stepI, guardA, h] at hI
    · exact False.elim
  | some E => exact AO_op rfl h

theorem AO_guard {op : AOp} {dst : Option Nat} {g : Nat} {want : Bool} : AO L (⟨dst, op, some (g, want), ban⟩ :: l) k ⟨tm, own⟩ Q ↔
    match tget tm g with
    | .bool b => if b = want then AO L (⟨dst, op, none, ban⟩ :: l) k ⟨tm, own⟩ Q else AO L l k (St.dst ⟨tm, own⟩ dst (.tup [])) Q
    | .tup [] => AO L l k (St.dst ⟨tm, own⟩ dst (.tup [])) Q
    | _ => False := by
  rw [AO_iff]
  cases hg : tget tm g with
  | bool b =>
    simp only
    by_cases hb : b = want
    · rw [if_pos hb, AO_iff]
      have e : ∀ C, stepI C ⟨dst, op, some (g, want), ban⟩ ⟨tm, own⟩ = stepI C ⟨dst, op, none, ban⟩ ⟨tm, own⟩ := fun C => by
        have h1 : guardA ⟨tm, own⟩ (some (g, want)) = some true := by simp [guardA, hg, hb]
        have h2 : guardA ⟨tm, own⟩ none = some true := rfl
        unfold stepI
        simp only [h1, h2]
      simp only [e]
    · rw [if_neg hb, ← AO_iff]
      exact AO_not (by simp [guardA, hg, hb])
  | tup vs =>
    cases vs with
    | nil => rw [← AO_iff]; exact AO_not (by simp [guardA, hg])
    | cons v r =>
      simp only [iff_false]
      rintro ⟨c, n, st1, st2, st', hI, _⟩
      simp [stepI, guardA, hg] at hI
  | _ =>
    simp only [iff_false]
    rintro ⟨c, n, st1, st2, st', hI, _⟩
    simp [stepI, guardA, hg] at hI

theorem dst_some (v : AV) : St.dst ⟨tm, own⟩ (some d) v = ⟨tput tm d v, own⟩ := rfl
theorem dst_none (v : AV) : St.dst ⟨tm, own⟩ none v = ⟨tm, own⟩ := rfl

theorem AO_mov {x : Opd} : AO L (⟨some d, .mov x, none, ban⟩ :: l) k ⟨tm, own⟩ Q ↔ AO L l k ⟨tput tm d (St.ev ⟨tm, own⟩ x), own⟩ Q := AO_op (E := .val (St.ev ⟨tm, own⟩ x)) rfl fun _ => rfl
theorem AO_vrow {s z : Nat} : AO L (⟨some d, .vrow s z, none, ban⟩ :: l) k ⟨tm, own⟩ Q ↔ AO L l k ⟨tput tm d (.row s (own.cnt s) z 0 0), own.put s ((own s).new ⟨z, []⟩)⟩ Q := AO_op (E := .vir s ⟨z, []⟩ (fun t => .row s t z 0 0)) rfl fun _ => rfl
theorem AO_pick {c a b : Opd} : AO L (⟨some d, .pick c a b, none, ban⟩ :: l) k ⟨tm, own⟩ Q ↔ match St.ev ⟨tm, own⟩ c with
    | .bool t => AO L l k ⟨tput tm d (if t = true then St.ev ⟨tm, own⟩ a else St.ev ⟨tm, own⟩ b), own⟩ Q
    | _ => False := by
  rw [AO_eff (eff ⟨fun _ _ => none, fun _ _ _ => none⟩ ban (St.ev ⟨tm, own⟩) own (.pick c a b)) fun _ => rfl]
  simp only [eff, orF]
  cases hc : St.ev ⟨tm, own⟩ c with
  | bool t => cases t <;> simp [St.app, St.dst]
  | _ => simp
theorem AO_bin {f : BinOp} {x y : Opd} : AO L (⟨some d, .bin f x y, none, ban⟩ :: l) k ⟨tm, own⟩ Q ↔ match St.ev ⟨tm, own⟩ x, St.ev ⟨tm, own⟩ y with
    | .int k1 a, .int k2 b => (match intBin f k1 a k2 b with | some v => AO L l k ⟨tput tm d v, own⟩ Q | none => False)
    | _, _ => False := by
  rw [AO_eff (eff ⟨fun _ _ => none, fun _ _ _ => none⟩ ban (St.ev ⟨tm, own⟩) own (.bin f x y)) fun _ => rfl]
  simp only [eff, orF]
  cases St.ev ⟨tm, own⟩ x with
  | int k1 a => cases St.ev ⟨tm, own⟩ y with
    | int k2 b => simp only; cases intBin f k1 a k2 b <;> simp [St.app, St.dst]
    | _ => simp
  | _ => simp
theorem AO_beq {ne : Bool} {x y : Opd} : AO L (⟨some d, .beq ne x y, none, ban⟩ :: l) k ⟨tm, own⟩ Q ↔ match St.ev ⟨tm, own⟩ x, St.ev ⟨tm, own⟩ y with
    | .bool a, .bool b => AO L l k ⟨tput tm d (.bool (if ne then !(a == b) else a == b)), own⟩ Q
    | _, _ => False := by
  rw [AO_eff (eff ⟨fun _ _ => none, fun _ _ _ => none⟩ ban (St.ev ⟨tm, own⟩) own (.beq ne x y)) fun _ => rfl]
  simp only [eff, orF]
  cases St.ev ⟨tm, own⟩ x with
  | bool a => cases St.ev ⟨tm, own⟩ y with
    | bool b => simp [St.app, St.dst]
    | _ => simp
  | _ => simp
theorem AO_un {f : UnOp} {x : Opd} : AO L (⟨some d, .un f x, none, ban⟩ :: l) k ⟨tm, own⟩ Q ↔ match unA f (St.ev ⟨tm, own⟩ x) with | some v => AO L l k ⟨tput tm d v, own⟩ Q | none => False := by
  rw [AO_eff (eff ⟨fun _ _ => none, fun _ _ _ => none⟩ ban (St.ev ⟨tm, own⟩) own (.un f x)) fun _ => rfl]
  simp only [eff, orF]
  cases unA f (St.ev ⟨tm, own⟩ x) <;> simp [St.app, St.dst]
theorem AO_conv {kd : IntKind} {x : Opd} : AO L (⟨some d, .conv kd x, none, ban⟩ :: l) k ⟨tm, own⟩ Q ↔ match St.ev ⟨tm, own⟩ x with
    | .int _ n => AO L l k ⟨tput tm d (.int kd (kd.wrap n)), own⟩ Q
    | _ => False := by
  rw [AO_eff (eff ⟨fun _ _ => none, fun _ _ _ => none⟩ ban (St.ev ⟨tm, own⟩) own (.conv kd x)) fun _ => rfl]
  simp only [eff, orF]
  cases St.ev ⟨tm, own⟩ x <;> simp [St.app, St.dst]
theorem AO_box {s : Nat} {x : Opd} : AO L (⟨some d, .box s x, none, ban⟩ :: l) k ⟨tm, own⟩ Q ↔ match cellsOf (St.ev ⟨tm, own⟩ x) with
    | some cs => AO L l k ⟨tput tm d (.ptr s (own.cnt s) 0 0), own.put s ((own s).new ⟨cs.length, [cs]⟩)⟩ Q
    | none => False := by
  rw [AO_eff (eff ⟨fun _ _ => none, fun _ _ _ => none⟩ ban (St.ev ⟨tm, own⟩) own (.box s x)) fun _ => rfl]
  simp only [eff, orF]
  cases cellsOf (St.ev ⟨tm, own⟩ x) <;> simp [St.app, St.dst]
theorem AO_alloc {s : Nat} {z : List AV} : AO L (⟨some d, .alloc s z, none, ban⟩ :: l) k ⟨tm, own⟩ Q ↔ AO L l k ⟨tput tm d (.ptr s (own.cnt s) 0 0), own.put s ((own s).new ⟨z.length, [z]⟩)⟩ Q := AO_op (E := .new s ⟨z.length, [z]⟩ (fun t => .ptr s t 0 0)) rfl fun _ => rfl
theorem AO_build {z : List AV} {ps : List (Nat × Nat × Opd)} : AO L (⟨some d, .build z ps, none, ban⟩ :: l) k ⟨tm, own⟩ Q ↔ match fill z (ps.map fun p => (p.1, p.2.1, St.ev ⟨tm, own⟩ p.2.2)) with
    | some cs => AO L l k ⟨tput tm d (.agg cs), own⟩ Q
    | none => False := by
  rw [AO_eff (eff ⟨fun _ _ => none, fun _ _ _ => none⟩ ban (St.ev ⟨tm, own⟩) own (.build z ps)) fun _ => rfl]
  simp only [eff, orF]
  cases fill z (ps.map fun p => (p.1, p.2.1, St.ev ⟨tm, own⟩ p.2.2)) <;> simp [St.app, St.dst]
/-- the cells of the parts of a slice literal -/
def cellsL (z : Nat) : List AV → Option (List (List AV))
  | [] => some []
  | v :: r => match cellsOf v with
    | some cs => if cs.length = z then (match cellsL z r with | some es => some (cs :: es) | none => none) else none
    | none => none
theorem cellsL_spec (z : Nat) : ∀ (vs : List AV) (es : List (List AV)), cellsL z vs = some es ↔ vs.mapM cellsOf = some es ∧ ∀ e ∈ es, e.length = z
  | [], es => by simp [cellsL]; intro h; subst h; simp
  | v :: r, es => by
    simp only [cellsL, List.mapM_cons, Option.bind_eq_bind, Option.pure_def]
    cases hv : cellsOf v with
    | none => simp
    | some cs =>
      simp only [Option.bind_some]
      by_cases hz : cs.length = z
      · rw [if_pos hz]
        cases hr : cellsL z r with
        | none =>
          constructor
          · intro h; cases h
          · rintro ⟨h1, h2⟩
            cases hm : r.mapM cellsOf with
            | none => simp [hm] at h1
            | some es' =>
              simp [hm] at h1
              subst h1
              have := (cellsL_spec z r es').2 ⟨hm, fun e he => h2 e (by simp [he])⟩
              rw [hr] at this
              cases this
        | some es' =>
          obtain ⟨h1, h2⟩ := (cellsL_spec z r es').1 hr
          simp only [h1, Option.bind_some, Option.some.injEq]
          constructor
          · intro h; subst h; exact ⟨rfl, by simpa [hz] using h2⟩
          · exact fun h => h.1
      · rw [if_neg hz]
        constructor
        · intro h; cases h
        · rintro ⟨h1, h2⟩
          cases hm : r.mapM cellsOf with
          | none => simp [hm] at h1
          | some es' =>
            simp [hm] at h1
            subst h1
            exact absurd (h2 cs (by simp)) hz
theorem mapM_map' {α β γ : Type} (f : α → β) (g : β → Option γ) : ∀ l : List α, (l.map f).mapM g = l.mapM (fun x => g (f x))
  | [] => rfl
  | x :: r => by simp only [List.map_cons, List.mapM_cons, mapM_map' f g r]
theorem AO_bslice {s z : Nat} {ps : List Opd} : AO L (⟨some d, .bslice s z ps, none, ban⟩ :: l) k ⟨tm, own⟩ Q ↔ match cellsL z (ps.map (St.ev ⟨tm, own⟩)) with
    | some es => AO L l k ⟨tput tm d (.row s (own.cnt s) z 0 es.length), own.put s ((own s).new ⟨z, es⟩)⟩ Q
    | none => False := by
  rw [AO_eff (eff ⟨fun _ _ => none, fun _ _ _ => none⟩ ban (St.ev ⟨tm, own⟩) own (.bslice s z ps)) fun _ => rfl]
  simp only [eff, orF, ← mapM_map']
  cases hc : cellsL z (ps.map (St.ev ⟨tm, own⟩)) with
  | some es =>
    obtain ⟨h1, h2⟩ := (cellsL_spec z _ es).1 hc
    simp only [h1]
    rw [if_pos h2]
    simp [St.app, St.dst]
  | none =>
    cases hm : (ps.map (St.ev ⟨tm, own⟩)).mapM cellsOf with
    | none => simp
    | some es =>
      by_cases hz : ∀ e ∈ es, e.length = z
      · have := (cellsL_spec z _ es).2 ⟨hm, hz⟩
        rw [hc] at this; cases this
      · simp [hz]
theorem AO_fadr {x : Opd} {off : Nat} : AO L (⟨some d, .fadr x off, none, ban⟩ :: l) k ⟨tm, own⟩ Q ↔ match St.ev ⟨tm, own⟩ x with
    | .ptr s t i j => AO L l k ⟨tput tm d (.ptr s t i (j + off)), own⟩ Q
    | .dptr cs => AO L l k ⟨tput tm d (.dptr (cs.drop off)), own⟩ Q
    | _ => False := by
  rw [AO_eff (eff ⟨fun _ _ => none, fun _ _ _ => none⟩ ban (St.ev ⟨tm, own⟩) own (.fadr x off)) fun _ => rfl]
  simp only [eff, orF]
  cases St.ev ⟨tm, own⟩ x <;> simp [St.app, St.dst]
/-- what a load of cells gives -/
def ldv (agg : Bool) : Option (List AV) → Option AV
  | some cs => ofCells agg cs
  | none => none
theorem AO_fld {x : Opd} {off n : Nat} {agg : Bool} : AO L (⟨some d, .fld x off n agg, none, ban⟩ :: l) k ⟨tm, own⟩ Q ↔ match St.ev ⟨tm, own⟩ x with
    | .agg cs => (match ldv agg (part cs off n) with | some v => AO L l k ⟨tput tm d v, own⟩ Q | none => False)
    | _ => False := by
  rw [AO_eff (eff ⟨fun _ _ => none, fun _ _ _ => none⟩ ban (St.ev ⟨tm, own⟩) own (.fld x off n agg)) fun _ => rfl]
  simp only [eff, orF]
  cases St.ev ⟨tm, own⟩ x with
  | agg cs =>
    simp only [ldv]
    cases part cs off n with
    | none => simp
    | some ds => simp only; cases ofCells agg ds <;> simp [St.app, St.dst]
  | _ => simp
theorem AO_iadr_arr {n z : Nat} {x i : Opd} : AO L (⟨some d, .iadr (some n) z x i, none, ban⟩ :: l) k ⟨tm, own⟩ Q ↔ match St.ev ⟨tm, own⟩ i, St.ev ⟨tm, own⟩ x with
    | .int _ a, .ptr s t i' j => 0 ≤ a ∧ a < n ∧ AO L l k ⟨tput tm d (.ptr s t i' (j + a.toNat * z)), own⟩ Q
    | .int _ a, .dptr cs => 0 ≤ a ∧ a < n ∧ AO L l k ⟨tput tm d (.dptr (cs.drop (a.toNat * z))), own⟩ Q
    | _, _ => False := by
  rw [AO_eff (eff ⟨fun _ _ => none, fun _ _ _ => none⟩ ban (St.ev ⟨tm, own⟩) own (.iadr (some n) z x i)) fun _ => rfl]
  simp only [eff, orF]
  cases St.ev ⟨tm, own⟩ i with
  | int kd a =>
    cases St.ev ⟨tm, own⟩ x with
    | ptr s t i' j =>
      simp only
      by_cases h : 0 ≤ a ∧ a < n
      · simp [h, St.app, St.dst]
      · rw [if_neg h]; simp only [false_iff]; exact fun h' => h ⟨h'.1, h'.2.1⟩
    | dptr cs =>
      simp only
      by_cases h : 0 ≤ a ∧ a < n
      · simp [h, St.app, St.dst]
      · rw [if_neg h]; simp only [false_iff]; exact fun h' => h ⟨h'.1, h'.2.1⟩
    | _ => simp
  | _ => simp
theorem AO_iadr {z : Nat} {x i : Opd} : AO L (⟨some d, .iadr none z x i, none, ban⟩ :: l) k ⟨tm, own⟩ Q ↔ match St.ev ⟨tm, own⟩ i, St.ev ⟨tm, own⟩ x with
    | .int _ a, .row s t z' off len => 0 ≤ a ∧ a < len ∧ z' = z ∧ AO L l k ⟨tput tm d (.ptr s t (off + a.toNat) 0), own⟩ Q
    | .int _ a, .sl _ es => 0 ≤ a ∧ (match es[a.toNat]? with | some cs => cs.length = z ∧ AO L l k ⟨tput tm d (.dptr cs), own⟩ Q | none => False)
    | _, _ => False := by
  rw [AO_eff (eff ⟨fun _ _ => none, fun _ _ _ => none⟩ ban (St.ev ⟨tm, own⟩) own (.iadr none z x i)) fun _ => rfl]
  simp only [eff, orF]
  cases St.ev ⟨tm, own⟩ i with
  | int kd a =>
    cases St.ev ⟨tm, own⟩ x with
    | row s t z' off len =>
      simp only
      by_cases h : 0 ≤ a ∧ a < len ∧ z' = z
      · simp [h, St.app, St.dst]
      · rw [if_neg h]; simp only [false_iff]; exact fun h' => h ⟨h'.1, h'.2.1, h'.2.2.1⟩
    | sl q es =>
      simp only
      by_cases h : 0 ≤ a
      · simp only [h, if_true, true_and]
        cases es[a.toNat]? with
        | none => simp
        | some cs =>
          simp only
          by_cases hz : cs.length = z
          · simp [hz, St.app, St.dst]
          · simp [hz]
      · simp [h]
    | _ => simp
  | _ => simp
theorem AO_idx {n z : Nat} {agg : Bool} {x i : Opd} : AO L (⟨some d, .idx n z agg x i, none, ban⟩ :: l) k ⟨tm, own⟩ Q ↔ match St.ev ⟨tm, own⟩ i, St.ev ⟨tm, own⟩ x with
    | .int _ a, .agg cs => 0 ≤ a ∧ a < n ∧ (match ldv agg (part cs (a.toNat * z) z) with | some v => AO L l k ⟨tput tm d v, own⟩ Q | none => False)
    | _, _ => False := by
  rw [AO_eff (eff ⟨fun _ _ => none, fun _ _ _ => none⟩ ban (St.ev ⟨tm, own⟩) own (.idx n z agg x i)) fun _ => rfl]
  simp only [eff, orF]
  cases St.ev ⟨tm, own⟩ i with
  | int kd a =>
    cases St.ev ⟨tm, own⟩ x with
    | agg cs =>
      simp only
      by_cases h : 0 ≤ a ∧ a < n
      · simp only [h, and_self, if_true, true_and, ldv]
        cases part cs (a.toNat * z) z with
        | none => simp
        | some ds => simp only; cases ofCells agg ds <;> simp [St.app, St.dst]
      · rw [if_neg h]; simp only [false_iff]; exact fun h' => h ⟨h'.1, h'.2.1⟩
    | _ => simp
  | _ => simp
theorem AO_ld {agg : Bool} {n : Nat} {x : Opd} : AO L (⟨some d, .ld agg n x, none, ban⟩ :: l) k ⟨tm, own⟩ Q ↔ match St.ev ⟨tm, own⟩ x with
    | .ptr s t i j => (match ldv agg ((own.hide ban).ldp s t i j n) with | some v => AO L l k ⟨tput tm d v, own⟩ Q | none => False)
    | .dptr cs => (match ldv agg (part cs 0 n) with | some v => AO L l k ⟨tput tm d v, own⟩ Q | none => False)
    | _ => False := by
  rw [AO_eff (eff ⟨fun _ _ => none, fun _ _ _ => none⟩ ban (St.ev ⟨tm, own⟩) own (.ld agg n x)) fun _ => rfl]
  simp only [eff, orF]
  cases St.ev ⟨tm, own⟩ x with
  | ptr s t i j =>
    simp only [ldv]
    cases (own.hide ban).ldp s t i j n with
    | none => simp
    | some ds => simp only; cases ofCells agg ds <;> simp [St.app, St.dst]
  | dptr cs =>
    simp only [ldv]
    cases part cs 0 n with
    | none => simp
    | some ds => simp only; cases ofCells agg ds <;> simp [St.app, St.dst]
  | _ => simp
theorem AO_st {n : Nat} {x v : Opd} : AO L (⟨none, .st n x v, none, ban⟩ :: l) k ⟨tm, own⟩ Q ↔ match St.ev ⟨tm, own⟩ x, cellsOf (St.ev ⟨tm, own⟩ v) with
    | .ptr s t i j, some vs => vs.length = n ∧ (match own.stp s t i j vs with | some o => AO L l k ⟨tm, o⟩ Q | none => False)
    | _, _ => False := by
  rw [AO_eff (eff ⟨fun _ _ => none, fun _ _ _ => none⟩ ban (St.ev ⟨tm, own⟩) own (.st n x v)) fun _ => rfl]
  simp only [eff, orF]
  cases St.ev ⟨tm, own⟩ x with
  | ptr s t i j =>
    cases cellsOf (St.ev ⟨tm, own⟩ v) with
    | none => simp
    | some vs =>
      simp only
      by_cases h : vs.length = n
      · simp only [h, if_true, true_and]
        cases own.stp s t i j vs <;> simp [St.app, St.dst]
      · simp [h]
  | _ => simp
theorem AO_mk {s z bytes : Nat} {zero : List AV} {a c : Opd} : AO L (⟨some d, .mk s z bytes zero a c, none, ban⟩ :: l) k ⟨tm, own⟩ Q ↔ match St.ev ⟨tm, own⟩ a, St.ev ⟨tm, own⟩ c with
    | .int _ p, .int _ q => (0 ≤ p ∧ p ≤ q ∧ q * bytes ≤ roomMax ∧ q ≤ 9223372036854775807 ∧ zero.length = z) ∧ AO L l k ⟨tput tm d (.row s (own.cnt s) z 0 p.toNat), own.put s ((own s).new ⟨z, List.replicate p.toNat zero⟩)⟩ Q
    | _, _ => False := by
  rw [AO_eff (eff ⟨fun _ _ => none, fun _ _ _ => none⟩ ban (St.ev ⟨tm, own⟩) own (.mk s z bytes zero a c)) fun _ => rfl]
  simp only [eff, orF]
  cases St.ev ⟨tm, own⟩ a with
  | int k1 p => cases St.ev ⟨tm, own⟩ c with
    | int k2 q =>
      simp only
      by_cases h : 0 ≤ p ∧ p ≤ q ∧ q * bytes ≤ roomMax ∧ q ≤ 9223372036854775807 ∧ zero.length = z
      · rw [if_pos h]; simp [h, St.app, St.dst]
      · rw [if_neg h]; simp [h]
    | _ => simp
  | _ => simp
theorem AO_ext {x : Opd} {i : Nat} : AO L (⟨some d, .ext x i, none, ban⟩ :: l) k ⟨tm, own⟩ Q ↔ match St.ev ⟨tm, own⟩ x with
    | .tup vs => (match vs[i]? with | some v => AO L l k ⟨tput tm d v, own⟩ Q | none => False)
    | _ => False := by
  rw [AO_eff (eff ⟨fun _ _ => none, fun _ _ _ => none⟩ ban (St.ev ⟨tm, own⟩) own (.ext x i)) fun _ => rfl]
  simp only [eff, orF]
  cases St.ev ⟨tm, own⟩ x with
  | tup vs => simp only; cases vs[i]? <;> simp [St.app, St.dst]
  | _ => simp
theorem AO_len {x : Opd} : AO L (⟨some d, .len x, none, ban⟩ :: l) k ⟨tm, own⟩ Q ↔ match lenOf (St.ev ⟨tm, own⟩ x) with
    | some n => AO L l k ⟨tput tm d (.int .i64 (n : Int)), own⟩ Q
    | none => False := by
  rw [AO_eff (eff ⟨fun _ _ => none, fun _ _ _ => none⟩ ban (St.ev ⟨tm, own⟩) own (.len x)) fun _ => rfl]
  simp only [eff, orF]
  cases lenOf (St.ev ⟨tm, own⟩ x) <;> simp [St.app, St.dst]
theorem AO_mm {mx : Bool} {x : Opd} {xs : List Opd} : AO L (⟨some d, .mm mx (x :: xs), none, ban⟩ :: l) k ⟨tm, own⟩ Q ↔ match mmL mx (St.ev ⟨tm, own⟩ x) (xs.map (St.ev ⟨tm, own⟩)) with
    | some v => AO L l k ⟨tput tm d v, own⟩ Q
    | none => False := by
  rw [AO_eff (eff ⟨fun _ _ => none, fun _ _ _ => none⟩ ban (St.ev ⟨tm, own⟩) own (.mm mx (x :: xs))) fun _ => rfl]
  simp only [eff, orF, List.map_cons]
  cases mmL mx (St.ev ⟨tm, own⟩ x) (xs.map (St.ev ⟨tm, own⟩)) <;> simp [St.app, St.dst]
theorem AO_slc {z : Nat} {x : Opd} {lo hi : Option Opd} : AO L (⟨some d, .slc z x lo hi, none, ban⟩ :: l) k ⟨tm, own⟩ Q ↔ orF (eff ⟨fun _ _ => none, fun _ _ _ => none⟩ ban (St.ev ⟨tm, own⟩) own (.slc z x lo hi)) (fun E => AO L l k (St.app ⟨tm, own⟩ (some d) E) Q) := AO_eff _ fun _ => rfl
theorem AO_app {s z bytes : Nat} {x y : Opd} : AO L (⟨some d, .app s z bytes x y, none, ban⟩ :: l) k ⟨tm, own⟩ Q ↔ orF (eff ⟨fun _ _ => none, fun _ _ _ => none⟩ ban (St.ev ⟨tm, own⟩) own (.app s z bytes x y)) (fun E => AO L l k (St.app ⟨tm, own⟩ (some d) E) Q) := AO_eff _ fun _ => rfl
theorem AO_cpy {z : Nat} {dst : Option Nat} {x y : Opd} : AO L (⟨dst, .cpy z x y, none, ban⟩ :: l) k ⟨tm, own⟩ Q ↔ orF (eff ⟨fun _ _ => none, fun _ _ _ => none⟩ ban (St.ev ⟨tm, own⟩) own (.cpy z x y)) (fun E => AO L l k (St.app ⟨tm, own⟩ dst E) Q) := AO_eff _ fun _ => rfl

theorem AO_call' {dst : Option Nat} {f : Nat} {xs : List Opd} {vs : List AV} {r : AV} (hv : (xs.map (St.ev ⟨tm, own⟩)).mapM (snapA (own.hide ban) true) = some vs) (hr : Ev L f vs r) : AO L (⟨dst, .call f xs, none, ban⟩ :: l) k ⟨tm, own⟩ Q ↔ AO L l k (St.dst ⟨tm, own⟩ dst r) Q := AO_call rfl hv hr
theorem AO_calli' {dst : Option Nat} {f : Nat} {xs : List Opd} {r : AV} {o' : Own} (hr : EvI L f (xs.map (St.ev ⟨tm, own⟩)) own r o') : AO L (⟨dst, .calli f xs, none, ban⟩ :: l) k ⟨tm, own⟩ Q ↔ AO L l k { (St.dst ⟨tm, own⟩ dst r) with own := o' } Q := AO_calli rfl hr

theorem AK_drp' {ts : List Nat} : AK L (.drp ts [] :: k) ⟨tm, own⟩ Q ↔ AK L k ⟨tdrop tm ts, own⟩ Q := AK_drp
theorem AK_cond' {x : Opd} {a b : ACode} : AK L (.code (.cond x a b) :: k) ⟨tm, own⟩ Q ↔ match St.ev ⟨tm, own⟩ x with
    | .bool t => if t = true then AK L (.code a :: k) ⟨tm, own⟩ Q else AK L (.code b :: k) ⟨tm, own⟩ Q
    | _ => False := by
  cases h : St.ev ⟨tm, own⟩ x with
  | bool t => exact AK_cond h
  | _ =>
    simp only [iff_false]
    rintro ⟨n, c, st', hr, _⟩
    cases n with
    | zero => simp [run] at hr
    | succ n => simp [run, h] at hr
theorem AK_exit' {id : Nat} : AK L (.code (.exit id) :: k) ⟨tm, own⟩ Q ↔ match exitA id k with | some k' => AK L k' ⟨tm, own⟩ Q | none => False := by
  cases h : exitA id k with
  | some k' => exact AK_exit h
  | none =>
    simp only [iff_false]
    rintro ⟨n, c, st', hr, _⟩
    cases n with
    | zero => simp [run] at hr
    | succ n => simp [run, h] at hr
end
end Go.Eng
