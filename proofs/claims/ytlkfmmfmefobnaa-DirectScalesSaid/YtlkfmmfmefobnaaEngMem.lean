/-
  What an abstract value says of a value in memory; when it stays said.
-/
import Derived.Test.YtlkfmmfmefobnaaEngComp
import Derived.Below
import Derived.Laws.CopyRow
import Derived.Laws.Cells
import Derived.Laws.MakeOwn
import Derived.Laws.AppendOwn
import Derived.Deep.AppendSrc
import Derived.Deep.Draws
import Derived.ArgAppend
set_option linter.unusedSimpArgs false
set_option linter.unusedVariables false
set_option linter.unnecessarySimpa false
namespace Go.Eng
open Go.RowKit

theorem add_none (b o n : Nat) : (⟨b, o, none⟩ : Addr).add n = ⟨b, o + n, none⟩ := by
  unfold Addr.add
  split <;> simp_all

/-- a reading of data; 'R l b': the block b may be met, by lent data or not -/
inductive Rd (w : World) (R : Bool → Nat → Prop) : AV → Value → Prop
  | int (k : IntKind) (n : Int) : Rd w R (.int k n) (.int k n)
  | bool (b : Bool) : Rd w R (.bool b) (.bool b)
  | str (s : ByteArray) : Rd w R (.con (.string s)) (.string s)
  | sl0 (l : Bool) (a : Option Addr) (cap : Nat) : Rd w R (.sl l []) (.slice a 0 cap)
  | sl (l : Bool) (es : List (List AV)) (b o esz cap : Nat) (u : Nat → Nat → Value) (hne : es ≠ []) (hp : 0 < esz) (hR : R l b) (hcap : es.length ≤ cap) (hz : ∀ e ∈ es, e.length = esz)
      (hc : ∀ i e, es[i]? = some e → ∀ j c, e[j]? = some c → w.cell? ⟨b, o + (i * esz + j), none⟩ = some (u i j))
      (hr : ∀ i e, es[i]? = some e → ∀ j c, e[j]? = some c → Rd w R c (u i j)) :
      Rd w R (.sl l es) (.slice (some ⟨b, o, none⟩) es.length cap)

theorem Rd.one {w : World} {R : Bool → Nat → Prop} {a : AV} {v : Value} (h : Rd w R a v) : v.oneCell' = true := by
  cases h <;> rfl

theorem cell_lt {w : World} {a : Addr} {u : Value} (h : w.cell? a = some u) : a.block < w.heap.size := by
  unfold World.cell? at h
  split at h
  · rename_i hh
    exact (Array.getElem?_eq_some_iff.1 hh).1
  · cases h

theorem first_cell {es : List (List AV)} {esz : Nat} (hne : es ≠ []) (hp : 0 < esz) (hz : ∀ e ∈ es, e.length = esz) : ∃ e c, es[0]? = some e ∧ e[0]? = some c := by
  cases es with
  | nil => exact absurd rfl hne
  | cons e r =>
    have := hz e (by simp)
    cases e with
    | nil => simp at this; omega
    | cons c q => exact ⟨c :: q, c, rfl, rfl⟩

theorem Rd.mono {w w' : World} {R R' : Bool → Nat → Prop} (hR : ∀ l b, b < w.heap.size → R l b → R' l b)
    (hw : ∀ l b, b < w.heap.size → R l b → w'.heap[b]? = w.heap[b]?) {a : AV} {v : Value} (h : Rd w R a v) : Rd w' R' a v := by
  induction h with
  | int k n => exact .int k n
  | bool b => exact .bool b
  | str s => exact .str s
  | sl0 l a cap => exact .sl0 l a cap
  | sl l es b o esz cap u hne hp h1 hcap hz hc hr ih =>
    obtain ⟨e, c, he, hc0⟩ := first_cell hne hp hz
    have hb : b < w.heap.size := cell_lt (hc 0 e he 0 c hc0)
    refine .sl l es b o esz cap u hne hp (hR l b hb h1) hcap hz (fun i e he j c hcj => ?_) ih
    rw [World.cell?_of_block (w := w) (hw l b hb h1)]
    exact hc i e he j c hcj

/-- The memory as the abstract machine sees it: names, blocks, the world. -/
structure M where
  ν : Nat → Nat → Option Nat
  own : Own
  w : World

section
variable (B : Nat) (S : Nat → Prop)

/-- blocks that stay as they are while this call runs; 'true': lent ones too -/
def safe (m : M) (l : Bool) (b : Nat) : Prop :=
  (S b ∧ b < B) ∨ (B ≤ b ∧ ∀ s t, (m.own.get s t).isSome = true → m.ν s t ≠ some b) ∨ (l = true ∧ b < B)

/-- one cell's value -/
inductive CC (m : M) : AV → Value → Prop
  | rd {a : AV} {v : Value} (h : Rd m.w (safe B S m) a v) : CC m a v
  | nil : CC m .nil (.slice none 0 0)
  | row (s t z off len : Nat) (a : Option Addr) (cap : Nat) (ht : t < m.own.cnt s) (hz0 : 0 < z) (hlc : len ≤ cap) (ha : 0 < len → a.isSome = true)
      (h : ∀ b, m.own.get s t = some b → b.esz = z ∧ ((len = 0 ∧ cap = 0) ∨ ∃ g arr e, m.ν s t = some g ∧ a = some ⟨g, off * z, none⟩ ∧ m.w.heap[g]? = some (.cells arr e (0, 0)) ∧ (off + cap) * z ≤ arr.size)) :
      CC m (.row s t z off len) (.slice a len cap)
  | ptr (s t i j : Nat) (a : Addr) (ht : t < m.own.cnt s) (h : ∀ b, m.own.get s t = some b → ∃ g, m.ν s t = some g ∧ a = ⟨g, i * b.esz + j, none⟩) : CC m (.ptr s t i j) (.pointer (some a))
  | dptr (cs : List AV) (b o : Nat) (u : Nat → Value) (l : Bool) (hR : cs ≠ [] → safe B S m l b) (hc : ∀ j c, cs[j]? = some c → m.w.cell? ⟨b, o + j, none⟩ = some (u j)) (hr : ∀ j c, cs[j]? = some c → Rd m.w (safe B S m) c (u j)) :
      CC m (.dptr cs) (.pointer (some ⟨b, o, none⟩))

def CL (m : M) (cs : List AV) (vs : List Value) : Prop := cs.length = vs.length ∧ ∀ (j : Nat) (c : AV) (v : Value), cs[j]? = some c → vs[j]? = some v → CC B S m c v

/-- a value of one or more cells -/
inductive CA (m : M) : AV → Value → Prop
  | one {a : AV} {v : Value} (h : CC B S m a v) : CA m a v
  | agg (cs : List AV) (vs : List Value) (h : CL B S m cs vs) : CA m (.agg cs) (.agg vs.toArray)

/-- a slot's value -/
inductive CV (m : M) : AV → Value → Prop
  | any (v : Value) : CV m .any v
  | ca {a : AV} {v : Value} (h : CA B S m a v) : CV m a v
  | tup (as : List AV) (vs : List Value) (hl : as.length = vs.length) (h : ∀ (j : Nat) (c : AV) (v : Value), as[j]? = some c → vs[j]? = some v → CA B S m c v) : CV m (.tup as) (.tuple vs.toArray)

/-- what lies in an own block -/
def BlkAt (m : M) (s t : Nat) (b : Blk) : Prop :=
  (∀ e ∈ b.es, e.length = b.esz) ∧ match m.ν s t with
    | none => b.es = []
    | some g => B ≤ g ∧ ∃ arr e, m.w.heap[g]? = some (.cells arr e (0, 0)) ∧
        ∀ i cs, b.es[i]? = some cs → ∀ j c, cs[j]? = some c → ∃ u, arr[i * b.esz + j]? = some u ∧ CC B S m c u

structure MemOK (w0 : World) (m : M) : Prop where
  below : Below B w0 m.w
  size : B ≤ m.w.heap.size
  fresh : ∀ s t, m.own.cnt s ≤ t → m.own.get s t = none
  blk : ∀ s t b, m.own.get s t = some b → BlkAt B S m s t b
  inj : ∀ s t s' t' b b' g, m.own.get s t = some b → m.own.get s' t' = some b' → m.ν s t = some g → m.ν s' t' = some g → s = s' ∧ t = t'

/-- what is said stays said -/
structure Ext (m m' : M) : Prop where
  size : m.w.heap.size ≤ m'.w.heap.size
  keep : ∀ b, b < m.w.heap.size → safe B S m true b → m'.w.heap[b]? = m.w.heap[b]?
  saf : ∀ l b, b < m.w.heap.size → safe B S m l b → safe B S m' l b
  cnt : ∀ s, m.own.cnt s ≤ m'.own.cnt s
  name : ∀ s t b', t < m.own.cnt s → m'.own.get s t = some b' → ∃ b, m.own.get s t = some b ∧ b'.esz = b.esz ∧ m'.ν s t = m.ν s t ∧
      ∀ g arr e, m.ν s t = some g → m.w.heap[g]? = some (.cells arr e (0, 0)) → ∃ arr', m'.w.heap[g]? = some (.cells arr' e (0, 0)) ∧ arr'.size = arr.size
end

section
variable {B : Nat} {S : Nat → Prop}

theorem safe_true {m : M} {l : Bool} {b : Nat} (h : safe B S m l b) : safe B S m true b := by
  rcases h with h | h | ⟨_, h⟩
  · exact .inl h
  · exact .inr (.inl h)
  · exact .inr (.inr ⟨rfl, h⟩)

theorem Ext.rd {m m' : M} (h : Ext B S m m') {a : AV} {v : Value} (hr : Rd m.w (safe B S m) a v) : Rd m'.w (safe B S m') a v :=
  hr.mono h.saf (fun _ b hb hs => h.keep b hb (safe_true hs))

theorem Ext.cc {m m' : M} (h : Ext B S m m') {a : AV} {v : Value} (hc : CC B S m a v) : CC B S m' a v := by
  cases hc with
  | rd hr => exact .rd (h.rd hr)
  | nil => exact .nil
  | row s t z off len a cap ht hz0 hlc ha hb =>
    refine .row s t z off len a cap (Nat.lt_of_lt_of_le ht (h.cnt s)) hz0 hlc ha fun b' hb' => ?_
    obtain ⟨b, h1, h2, h3, h4⟩ := h.name s t b' ht hb'
    obtain ⟨hz, hor⟩ := hb b h1
    refine ⟨h2.trans hz, ?_⟩
    rcases hor with h0 | ⟨g, arr, e, hg, hae, hh, hle⟩
    · exact .inl h0
    · obtain ⟨arr', ha', hs'⟩ := h4 g arr e hg hh
      exact .inr ⟨g, arr', e, h3.trans hg, hae, ha', hs' ▸ hle⟩
  | ptr s t i j a ht hb =>
    refine .ptr s t i j a (Nat.lt_of_lt_of_le ht (h.cnt s)) fun b' hb' => ?_
    obtain ⟨b, h1, h2, h3, _⟩ := h.name s t b' ht hb'
    obtain ⟨g, hg, hae⟩ := hb b h1
    exact ⟨g, h3.trans hg, h2 ▸ hae⟩
  | dptr cs b o u l hR hc hr =>
    have hlt : cs ≠ [] → b < m.w.heap.size := fun hne => by
      cases cs with
      | nil => exact absurd rfl hne
      | cons c r => exact cell_lt (hc 0 c rfl)
    refine .dptr cs b o u l (fun hne => h.saf l b (hlt hne) (hR hne)) (fun j c hj => ?_) (fun j c hj => h.rd (hr j c hj))
    have hne : cs ≠ [] := fun e => by subst e; simp at hj
    rw [World.cell?_of_block (w := m.w) (h.keep b (hlt hne) (safe_true (hR hne)))]
    exact hc j c hj

theorem Ext.cl {m m' : M} (h : Ext B S m m') {cs : List AV} {vs : List Value} (hc : CL B S m cs vs) : CL B S m' cs vs :=
  ⟨hc.1, fun j c v h1 h2 => h.cc (hc.2 j c v h1 h2)⟩

theorem Ext.ca {m m' : M} (h : Ext B S m m') {a : AV} {v : Value} (hc : CA B S m a v) : CA B S m' a v := by
  cases hc with
  | one hc => exact .one (h.cc hc)
  | agg cs vs hc => exact .agg cs vs (h.cl hc)

theorem Ext.cv {m m' : M} (h : Ext B S m m') {a : AV} {v : Value} (hc : CV B S m a v) : CV B S m' a v := by
  cases hc with
  | any v => exact .any v
  | ca hc => exact .ca (h.ca hc)
  | tup as vs hl hc => exact .tup as vs hl fun j c v h1 h2 => h.ca (hc j c v h1 h2)

theorem Ext.refl (m : M) : Ext B S m m :=
  ⟨Nat.le_refl _, fun _ _ _ => rfl, fun _ _ _ h => h, fun _ => Nat.le_refl _, fun _ _ b' _ h => ⟨b', h, rfl, rfl, fun _ arr _ _ h => ⟨arr, h, rfl⟩⟩⟩

theorem Ext.trans {m m' m'' : M} (h : Ext B S m m') (k : Ext B S m' m'') : Ext B S m m'' where
  size := Nat.le_trans h.size k.size
  keep b hb hs := (k.keep b (Nat.lt_of_lt_of_le hb h.size) (h.saf true b hb hs)).trans (h.keep b hb hs)
  saf l b hb hs := k.saf l b (Nat.lt_of_lt_of_le hb h.size) (h.saf l b hb hs)
  cnt s := Nat.le_trans (h.cnt s) (k.cnt s)
  name s t b'' ht hb'' := by
    obtain ⟨b', h1, h2, h3, h4⟩ := k.name s t b'' (Nat.lt_of_lt_of_le ht (h.cnt s)) hb''
    obtain ⟨b, g1, g2, g3, g4⟩ := h.name s t b' ht h1
    refine ⟨b, g1, h2.trans g2, h3.trans g3, fun g arr e hg ha => ?_⟩
    obtain ⟨arr', ha', hs'⟩ := g4 g arr e hg ha
    obtain ⟨arr'', ha'', hs''⟩ := h4 g arr' e (g3.trans hg) ha'
    exact ⟨arr'', ha'', hs''.trans hs'⟩

/-- the values of an own block, over an extension that keeps its cells -/
theorem CC.one {m : M} {a : AV} {v : Value} (h : CC B S m a v) : v.oneCell' = true := by
  cases h with
  | rd h => exact h.one
  | _ => rfl
end
end Go.Eng
