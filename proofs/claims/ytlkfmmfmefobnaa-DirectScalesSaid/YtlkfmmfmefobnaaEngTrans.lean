/-
  How memory turns: each step of the abstract machine's memory, and that what is said stays said.
-/
import Derived.Test.YtlkfmmfmefobnaaEngMem
set_option linter.unusedSimpArgs false
set_option linter.unusedVariables false
set_option linter.unnecessarySimpa false
namespace Go.Eng
open Go.RowKit

section
variable {B : Nat} {S : Nat → Prop} {w0 : World}

def live (m : M) (s t : Nat) : Prop := ∃ b, m.own.get s t = some b

theorem MemOK.ge {m : M} (h : MemOK B S w0 m) {s t g : Nat} (hl : live m s t) (hg : m.ν s t = some g) : B ≤ g ∧ ∃ arr e, m.w.heap[g]? = some (.cells arr e (0, 0)) := by
  obtain ⟨b, hb⟩ := hl
  obtain ⟨_, h2⟩ := h.blk s t b hb
  rw [hg] at h2
  obtain ⟨h3, arr, e, h4, _⟩ := h2
  exact ⟨h3, arr, e, h4⟩

theorem ext_of {m m' : M} (hm : MemOK B S w0 m) (hs : m.w.heap.size ≤ m'.w.heap.size)
    (hk : ∀ b, b < m.w.heap.size → (∀ s t, live m s t → m.ν s t ≠ some b) → m'.w.heap[b]? = m.w.heap[b]?) (hcnt : ∀ s, m.own.cnt s ≤ m'.own.cnt s)
    (hname : ∀ s t b', t < m.own.cnt s → m'.own.get s t = some b' → ∃ b, m.own.get s t = some b ∧ b'.esz = b.esz ∧ m'.ν s t = m.ν s t ∧
      ∀ g arr e, m.ν s t = some g → m.w.heap[g]? = some (.cells arr e (0, 0)) → ∃ arr', m'.w.heap[g]? = some (.cells arr' e (0, 0)) ∧ arr'.size = arr.size)
    (hnew : ∀ s t g, live m' s t → m'.ν s t = some g → g < m.w.heap.size → ∃ s0 t0, live m s0 t0 ∧ m.ν s0 t0 = some g) : Ext B S m m' := by
  have hnl : ∀ b, safe B S m true b → ∀ s t, live m s t → m.ν s t ≠ some b := by
    intro b hb s t hl hg
    have hge := (hm.ge hl hg).1
    rcases hb with ⟨_, h⟩ | ⟨_, h⟩ | ⟨_, h⟩
    · omega
    · obtain ⟨b', hb'⟩ := hl
      exact h s t (by simp [hb']) hg
    · omega
  refine ⟨hs, fun b hb hsafe => hk b hb (hnl b hsafe), fun l b hb hsafe => ?_, hcnt, hname⟩
  rcases hsafe with h | ⟨h, hn⟩ | h
  · exact .inl h
  · refine .inr (.inl ⟨h, fun s t hl hg => ?_⟩)
    obtain ⟨b', hb'⟩ := Option.isSome_iff_exists.1 hl
    obtain ⟨s0, t0, ⟨b0, hb0⟩, hg0⟩ := hnew s t b ⟨b', hb'⟩ hg hb
    exact hn s0 t0 (by simp [hb0]) hg0
  · exact .inr (.inr h)

/-- the world has grown, all that lay there lies there -/
theorem grow {m : M} (hm : MemOK B S w0 m) {w' : World} (hb : Below m.w.heap.size m.w w') :
    MemOK B S w0 ⟨m.ν, m.own, w'⟩ ∧ Ext B S m ⟨m.ν, m.own, w'⟩ := by
  have he : Ext B S m ⟨m.ν, m.own, w'⟩ := by
    refine ext_of hm hb.size (fun b hb' _ => hb.block b hb') (fun _ => Nat.le_refl _) (fun s t b' _ hb' => ⟨b', hb', rfl, rfl, fun g arr e hg ha => ⟨arr, ?_, rfl⟩⟩) (fun s t g hl hg _ => ⟨s, t, hl, hg⟩)
    have : g < m.w.heap.size := (Array.getElem?_eq_some_iff.1 ha).1
    exact (hb.block g this).trans ha
  refine ⟨⟨hm.below.trans (hb.mono hm.size), Nat.le_trans hm.size hb.size, hm.fresh, fun s t b hg => ?_, hm.inj⟩, he⟩
  obtain ⟨h1, h2⟩ := hm.blk s t b hg
  refine ⟨h1, ?_⟩
  show match m.ν s t with | none => _ | some g => _
  cases hν : m.ν s t with
  | none => rw [hν] at h2; exact h2
  | some g =>
    rw [hν] at h2
    obtain ⟨h3, arr, e, h4, h5⟩ := h2
    refine ⟨h3, arr, e, ?_, fun i cs hi j c hj => ?_⟩
    · exact (hb.block g (Array.getElem?_eq_some_iff.1 h4).1).trans h4
    · obtain ⟨u, hu, hcc⟩ := h5 i cs hi j c hj
      exact ⟨u, hu, he.cc hcc⟩

theorem get_new (o : Own) (s s' t' : Nat) (b : Blk) : (o.put s ((o s).new b)).get s' t' = if s' = s ∧ t' = o.cnt s then some b else o.get s' t' := by
  unfold Own.get Own.put Site.new Own.cnt
  by_cases h : s' = s
  · subst h
    by_cases h2 : t' = (o s').cnt <;> simp [h2]
  · simp [h]
theorem cnt_new (o : Own) (s s' : Nat) (b : Blk) : (o.put s ((o s).new b)).cnt s' = if s' = s then o.cnt s + 1 else o.cnt s' := by
  unfold Own.cnt Own.put Site.new
  by_cases h : s' = s <;> simp [h]
theorem get_upd (o : Own) (s t s' t' : Nat) (b : Option Blk) : (o.put s ((o s).upd t b)).get s' t' = if s' = s ∧ t' = t then b else o.get s' t' := by
  unfold Own.get Own.put Site.upd
  by_cases h : s' = s
  · subst h
    by_cases h2 : t' = t <;> simp [h2]
  · simp [h]
theorem cnt_upd (o : Own) (s t s' : Nat) (b : Option Blk) : (o.put s ((o s).upd t b)).cnt s' = o.cnt s' := by
  unfold Own.cnt Own.put Site.upd
  by_cases h : s' = s <;> simp [h]

def newν (m : M) (s : Nat) (g : Option Nat) : Nat → Nat → Option Nat := fun s' t' => if s' = s ∧ t' = m.own.cnt s then g else m.ν s' t'

theorem not_live_cnt {m : M} (hm : MemOK B S w0 m) (s : Nat) : ¬ live m s (m.own.cnt s) := fun ⟨b, hb⟩ => by
  rw [hm.fresh s _ (Nat.le_refl _)] at hb; cases hb

/-- a new block -/
theorem alloc_ok {m : M} (hm : MemOK B S w0 m) (s : Nat) (b : Blk) (arr : Array Value) (e : TypeId) (hz : ∀ x ∈ b.es, x.length = b.esz)
    (hc : ∀ i cs, b.es[i]? = some cs → ∀ j c, cs[j]? = some c → ∃ u, arr[i * b.esz + j]? = some u ∧ CC B S m c u) :
    MemOK B S w0 ⟨newν m s (some m.w.heap.size), m.own.put s ((m.own s).new b), m.w.alloc (.cells arr e)⟩ ∧
    Ext B S m ⟨newν m s (some m.w.heap.size), m.own.put s ((m.own s).new b), m.w.alloc (.cells arr e)⟩ := by
  have hsz : (m.w.alloc (.cells arr e)).heap.size = m.w.heap.size + 1 := by simp
  have hν : ∀ s' t', live m s' t' → newν m s (some m.w.heap.size) s' t' = m.ν s' t' := fun s' t' hl => by
    unfold newν
    rw [if_neg]
    rintro ⟨rfl, rfl⟩
    exact not_live_cnt hm _ hl
  have he : Ext B S m ⟨newν m s (some m.w.heap.size), m.own.put s ((m.own s).new b), m.w.alloc (.cells arr e)⟩ := by
    refine ext_of hm (by rw [hsz]; omega) (fun k hk _ => Below.heap_alloc _ _ _ hk) (fun s' => ?_) (fun s' t' b' ht hb' => ?_) (fun s' t' g hl hg hlt => ?_)
    · rw [cnt_new]; split
      · rename_i h; subst h; omega
      · exact Nat.le_refl _
    · rw [get_new] at hb'
      rw [if_neg (by rintro ⟨rfl, rfl⟩; omega)] at hb'
      refine ⟨b', hb', rfl, hν s' t' ⟨b', hb'⟩, fun g ar e' hg ha => ⟨ar, ?_, rfl⟩⟩
      exact (Below.heap_alloc _ _ _ (Array.getElem?_eq_some_iff.1 ha).1).trans ha
    · obtain ⟨b', hb'⟩ := hl
      have hb2 := hb'
      rw [get_new] at hb'
      by_cases h : s' = s ∧ t' = m.own.cnt s
      · simp only [newν, if_pos h, Option.some.injEq] at hg
        omega
      · rw [if_neg h] at hb'
        exact ⟨s', t', ⟨b', hb'⟩, by rw [← hν s' t' ⟨b', hb'⟩]; exact hg⟩
  refine ⟨⟨hm.below.alloc hm.size _, by rw [hsz]; have := hm.size; omega, fun s' t' ht => ?_, fun s' t' b' hb' => ?_, fun s1 t1 s2 t2 b1 b2 g h1 h2 g1 g2 => ?_⟩, he⟩
  · rw [cnt_new] at ht
    rw [get_new, if_neg]
    · refine hm.fresh s' t' ?_
      split at ht
      · rename_i h; subst h; omega
      · exact ht
    · rintro ⟨rfl, rfl⟩
      simp at ht
      omega
  · rw [get_new] at hb'
    by_cases h : s' = s ∧ t' = m.own.cnt s
    · rw [if_pos h] at hb'
      obtain rfl : b = b' := by simpa using hb'
      refine ⟨hz, ?_⟩
      show match newν m s (some m.w.heap.size) s' t' with | none => _ | some g => _
      rw [show newν m s (some m.w.heap.size) s' t' = some m.w.heap.size by simp [newν, h]]
      refine ⟨hm.size, arr, e, heap_alloc_new _ _, fun i cs hi j c hj => ?_⟩
      obtain ⟨u, hu, hcc⟩ := hc i cs hi j c hj
      exact ⟨u, hu, he.cc hcc⟩
    · rw [if_neg h] at hb'
      obtain ⟨h1, h2⟩ := hm.blk s' t' b' hb'
      refine ⟨h1, ?_⟩
      show match newν m s (some m.w.heap.size) s' t' with | none => _ | some g => _
      rw [hν s' t' ⟨b', hb'⟩]
      cases hv : m.ν s' t' with
      | none => rw [hv] at h2; exact h2
      | some g =>
        rw [hv] at h2
        obtain ⟨h3, ar, e', h4, h5⟩ := h2
        refine ⟨h3, ar, e', (Below.heap_alloc _ _ _ (Array.getElem?_eq_some_iff.1 h4).1).trans h4, fun i cs hi j c hj => ?_⟩
        obtain ⟨u, hu, hcc⟩ := h5 i cs hi j c hj
        exact ⟨u, hu, he.cc hcc⟩
  · rw [get_new] at h1 h2
    have lt : ∀ s' t' b', m.own.get s' t' = some b' → newν m s (some m.w.heap.size) s' t' = some g → g < m.w.heap.size := fun s' t' b' hb hg => by
      rw [hν s' t' ⟨b', hb⟩] at hg
      obtain ⟨_, ar, e', h4⟩ := hm.ge ⟨b', hb⟩ hg
      exact (Array.getElem?_eq_some_iff.1 h4).1
    have at_ : ∀ s' t', s' = s ∧ t' = m.own.cnt s → newν m s (some m.w.heap.size) s' t' = some g → g = m.w.heap.size := fun s' t' h hg => by
      simp only [newν, if_pos h, Option.some.injEq] at hg
      exact hg.symm
    by_cases p1 : s1 = s ∧ t1 = m.own.cnt s <;> by_cases p2 : s2 = s ∧ t2 = m.own.cnt s
    · exact ⟨p1.1.trans p2.1.symm, p1.2.trans p2.2.symm⟩
    · rw [if_neg p2] at h2
      have := lt s2 t2 b2 h2 g2
      have := at_ s1 t1 p1 g1
      omega
    · rw [if_neg p1] at h1
      have := lt s1 t1 b1 h1 g1
      have := at_ s2 t2 p2 g2
      omega
    · rw [if_neg p1] at h1
      rw [if_neg p2] at h2
      exact hm.inj s1 t1 s2 t2 b1 b2 g h1 h2 (by rw [← hν s1 t1 ⟨b1, h1⟩]; exact g1) (by rw [← hν s2 t2 ⟨b2, h2⟩]; exact g2)

/-- a name for a row that is nil as yet -/
theorem vir_ok {m : M} (hm : MemOK B S w0 m) (s esz : Nat) :
    MemOK B S w0 ⟨newν m s none, m.own.put s ((m.own s).new ⟨esz, []⟩), m.w⟩ ∧ Ext B S m ⟨newν m s none, m.own.put s ((m.own s).new ⟨esz, []⟩), m.w⟩ := by
  have hν : ∀ s' t', live m s' t' → newν m s none s' t' = m.ν s' t' := fun s' t' hl => by
    unfold newν
    rw [if_neg]
    rintro ⟨rfl, rfl⟩
    exact not_live_cnt hm _ hl
  have he : Ext B S m ⟨newν m s none, m.own.put s ((m.own s).new ⟨esz, []⟩), m.w⟩ := by
    refine ext_of hm (Nat.le_refl _) (fun k hk _ => rfl) (fun s' => ?_) (fun s' t' b' ht hb' => ?_) (fun s' t' g hl hg hlt => ?_)
    · rw [cnt_new]; split
      · rename_i h; subst h; omega
      · exact Nat.le_refl _
    · rw [get_new] at hb'
      rw [if_neg (by rintro ⟨rfl, rfl⟩; omega)] at hb'
      exact ⟨b', hb', rfl, hν s' t' ⟨b', hb'⟩, fun g ar e' hg ha => ⟨ar, ha, rfl⟩⟩
    · obtain ⟨b', hb'⟩ := hl
      rw [get_new] at hb'
      by_cases h : s' = s ∧ t' = m.own.cnt s
      · simp [newν, if_pos h] at hg
      · rw [if_neg h] at hb'
        exact ⟨s', t', ⟨b', hb'⟩, by rw [← hν s' t' ⟨b', hb'⟩]; exact hg⟩
  refine ⟨⟨hm.below, hm.size, fun s' t' ht => ?_, fun s' t' b' hb' => ?_, fun s1 t1 s2 t2 b1 b2 g h1 h2 g1 g2 => ?_⟩, he⟩
  · rw [cnt_new] at ht
    rw [get_new, if_neg]
    · refine hm.fresh s' t' ?_
      split at ht
      · rename_i h; subst h; omega
      · exact ht
    · rintro ⟨rfl, rfl⟩
      simp at ht
      omega
  · rw [get_new] at hb'
    by_cases h : s' = s ∧ t' = m.own.cnt s
    · rw [if_pos h] at hb'
      obtain rfl : (⟨esz, []⟩ : Blk) = b' := by simpa using hb'
      refine ⟨by simp, ?_⟩
      show match newν m s none s' t' with | none => _ | some g => _
      rw [show newν m s none s' t' = none by simp [newν, h]]
    · rw [if_neg h] at hb'
      obtain ⟨h1, h2⟩ := hm.blk s' t' b' hb'
      refine ⟨h1, ?_⟩
      show match newν m s none s' t' with | none => _ | some g => _
      rw [hν s' t' ⟨b', hb'⟩]
      cases hv : m.ν s' t' with
      | none => rw [hv] at h2; exact h2
      | some g =>
        rw [hv] at h2
        obtain ⟨h3, ar, e', h4, h5⟩ := h2
        refine ⟨h3, ar, e', h4, fun i cs hi j c hj => ?_⟩
        obtain ⟨u, hu, hcc⟩ := h5 i cs hi j c hj
        exact ⟨u, hu, he.cc hcc⟩
  · rw [get_new] at h1 h2
    by_cases p1 : s1 = s ∧ t1 = m.own.cnt s
    · simp [newν, if_pos p1] at g1
    · by_cases p2 : s2 = s ∧ t2 = m.own.cnt s
      · simp [newν, if_pos p2] at g2
      · rw [if_neg p1] at h1
        rw [if_neg p2] at h2
        exact hm.inj s1 t1 s2 t2 b1 b2 g h1 h2 (by rw [← hν s1 t1 ⟨b1, h1⟩]; exact g1) (by rw [← hν s2 t2 ⟨b2, h2⟩]; exact g2)

/-- the cells of an own block are stored anew -/
theorem upd_ok {m : M} (hm : MemOK B S w0 m) (s t : Nat) (b b' : Blk) (hb : m.own.get s t = some b) (g : Nat) (hg : m.ν s t = some g) (arr arr' : Array Value) (e : TypeId)
    (ha : m.w.heap[g]? = some (.cells arr e (0, 0))) (hz' : b'.esz = b.esz) (hz : ∀ x ∈ b'.es, x.length = b'.esz) (hsz : arr'.size = arr.size)
    (hc : ∀ i cs, b'.es[i]? = some cs → ∀ j c, cs[j]? = some c → ∃ u, arr'[i * b'.esz + j]? = some u ∧ CC B S m c u) (w' : World) (hbel : Below B w0 w') (hsize : w'.heap.size = m.w.heap.size)
    (hk : ∀ k, k ≠ g → w'.heap[k]? = m.w.heap[k]?) (hgw : w'.heap[g]? = some (.cells arr' e (0, 0))) :
    MemOK B S w0 ⟨m.ν, m.own.put s ((m.own s).upd t (some b')), w'⟩ ∧ Ext B S m ⟨m.ν, m.own.put s ((m.own s).upd t (some b')), w'⟩ := by
  have hlt : t < m.own.cnt s := by
    rcases Nat.lt_or_ge t (m.own.cnt s) with h | h
    · exact h
    · rw [hm.fresh s t h] at hb; cases hb
  have he : Ext B S m ⟨m.ν, m.own.put s ((m.own s).upd t (some b')), w'⟩ := by
    refine ext_of hm (by rw [hsize]; exact Nat.le_refl _) (fun k hk' hn => hk k (fun e => hn s t ⟨b, hb⟩ (e ▸ hg))) (fun s' => by rw [cnt_upd]; exact Nat.le_refl _) (fun s' t' b2 ht hb2 => ?_) (fun s' t' g' hl hg' _ => ?_)
    · rw [get_upd] at hb2
      by_cases h : s' = s ∧ t' = t
      · obtain ⟨rfl, rfl⟩ := h
        rw [if_pos ⟨rfl, rfl⟩] at hb2
        obtain rfl : b' = b2 := by simpa using hb2
        refine ⟨b, hb, hz', rfl, fun g2 ar e' hg2 ha2 => ?_⟩
        obtain rfl : g = g2 := by rw [hg] at hg2; simpa using hg2
        rw [ha] at ha2
        obtain ⟨rfl, rfl⟩ : arr = ar ∧ e = e' := by simpa using ha2
        exact ⟨arr', hgw, hsz⟩
      · rw [if_neg h] at hb2
        refine ⟨b2, hb2, rfl, rfl, fun g2 ar e' hg2 ha2 => ⟨ar, ?_, rfl⟩⟩
        rw [← ha2]
        exact hk g2 (fun e2 => h (by
          subst e2
          exact hm.inj s' t' s t b2 b g2 hb2 hb hg2 hg))
    · obtain ⟨b2, hb2⟩ := hl
      rw [get_upd] at hb2
      by_cases h : s' = s ∧ t' = t
      · obtain ⟨rfl, rfl⟩ := h
        exact ⟨s', t', ⟨b, hb⟩, hg'⟩
      · rw [if_neg h] at hb2
        exact ⟨s', t', ⟨b2, hb2⟩, hg'⟩
  refine ⟨⟨hbel, by rw [hsize]; exact hm.size, fun s' t' ht => ?_, fun s' t' b2 hb2 => ?_, fun s1 t1 s2 t2 b1 b2 g1 h1 h2 e1 e2 => ?_⟩, he⟩
  · rw [cnt_upd] at ht
    rw [get_upd, if_neg (by rintro ⟨rfl, rfl⟩; omega)]
    exact hm.fresh s' t' ht
  · rw [get_upd] at hb2
    by_cases h : s' = s ∧ t' = t
    · obtain ⟨rfl, rfl⟩ := h
      rw [if_pos ⟨rfl, rfl⟩] at hb2
      obtain rfl : b' = b2 := by simpa using hb2
      refine ⟨hz, ?_⟩
      show match m.ν s' t' with | none => _ | some g => _
      rw [hg]
      refine ⟨(hm.ge ⟨b, hb⟩ hg).1, arr', e, hgw, fun i cs hi j c hj => ?_⟩
      obtain ⟨u, hu, hcc⟩ := hc i cs hi j c hj
      exact ⟨u, hu, he.cc hcc⟩
    · rw [if_neg h] at hb2
      obtain ⟨h1, h2⟩ := hm.blk s' t' b2 hb2
      refine ⟨h1, ?_⟩
      show match m.ν s' t' with | none => _ | some g => _
      cases hv : m.ν s' t' with
      | none => rw [hv] at h2; exact h2
      | some g2 =>
        rw [hv] at h2
        obtain ⟨h3, ar, e', h4, h5⟩ := h2
        refine ⟨h3, ar, e', ?_, fun i cs hi j c hj => ?_⟩
        · rw [← h4]
          exact hk g2 (fun e2 => h (by
            subst e2
            exact hm.inj s' t' s t b2 b g2 hb2 hb hv hg))
        · obtain ⟨u, hu, hcc⟩ := h5 i cs hi j c hj
          exact ⟨u, hu, he.cc hcc⟩
  · have old : ∀ s' t' b2, (m.own.put s ((m.own s).upd t (some b'))).get s' t' = some b2 → ∃ b3, m.own.get s' t' = some b3 := fun s' t' b2 h => by
      rw [get_upd] at h
      by_cases h' : s' = s ∧ t' = t
      · obtain ⟨rfl, rfl⟩ := h'; exact ⟨b, hb⟩
      · rw [if_neg h'] at h; exact ⟨b2, h⟩
    obtain ⟨c1, k1⟩ := old s1 t1 b1 h1
    obtain ⟨c2, k2⟩ := old s2 t2 b2 h2
    exact hm.inj s1 t1 s2 t2 c1 c2 g1 k1 k2 e1 e2

theorem get_move (o : Own) (s t s' t' : Nat) (b : Blk) : (o.put s (((o s).upd t none).new b)).get s' t' = if s' = s ∧ t' = o.cnt s then some b else if s' = s ∧ t' = t then none else o.get s' t' := by
  unfold Own.get Own.put Site.new Site.upd Own.cnt
  by_cases h : s' = s
  · subst h
    by_cases h2 : t' = (o s').cnt <;> by_cases h3 : t' = t <;> simp [h2, h3]
  · simp [h]
theorem cnt_move (o : Own) (s t s' : Nat) (b : Blk) : (o.put s (((o s).upd t none).new b)).cnt s' = if s' = s then o.cnt s + 1 else o.cnt s' := by
  unfold Own.cnt Own.put Site.new Site.upd
  by_cases h : s' = s <;> simp [h]

/-- an append: the row has a new name; it lies where it lay, or in a new block, or is nil still -/
theorem move_ok {m : M} (hm : MemOK B S w0 m) (s t : Nat) (b b' : Blk) (hb : m.own.get s t = some b) (gopt : Option Nat) (w' : World) (hbel : Below B w0 w') (hsz : m.w.heap.size ≤ w'.heap.size)
    (hk : ∀ k, k < m.w.heap.size → m.ν s t ≠ some k → w'.heap[k]? = m.w.heap[k]?) (hz : ∀ x ∈ b'.es, x.length = b'.esz)
    (hnone : gopt = none → b'.es = [])
    (hsome : ∀ g, gopt = some g → B ≤ g ∧ (m.w.heap.size ≤ g ∨ m.ν s t = some g) ∧ ∃ arr e, w'.heap[g]? = some (.cells arr e (0, 0)) ∧
      ∀ i cs, b'.es[i]? = some cs → ∀ j c, cs[j]? = some c → ∃ u, arr[i * b'.esz + j]? = some u ∧ CC B S m c u) :
    MemOK B S w0 ⟨newν m s gopt, m.own.put s (((m.own s).upd t none).new b'), w'⟩ ∧ Ext B S m ⟨newν m s gopt, m.own.put s (((m.own s).upd t none).new b'), w'⟩ := by
  have hlt : t < m.own.cnt s := by
    rcases Nat.lt_or_ge t (m.own.cnt s) with h | h
    · exact h
    · rw [hm.fresh s t h] at hb; cases hb
  have hν : ∀ s' t', live m s' t' → newν m s gopt s' t' = m.ν s' t' := fun s' t' hl => by
    unfold newν
    rw [if_neg]
    rintro ⟨rfl, rfl⟩
    exact not_live_cnt hm _ hl
  have he : Ext B S m ⟨newν m s gopt, m.own.put s (((m.own s).upd t none).new b'), w'⟩ := by
    refine ext_of hm hsz (fun k hk' hn => hk k hk' (hn s t ⟨b, hb⟩)) (fun s' => ?_) (fun s' t' b2 ht hb2 => ?_) (fun s' t' g' hl hg' hlt' => ?_)
    · rw [cnt_move]; split
      · rename_i h; subst h; omega
      · exact Nat.le_refl _
    · rw [get_move] at hb2
      rw [if_neg (by rintro ⟨rfl, rfl⟩; omega)] at hb2
      by_cases h : s' = s ∧ t' = t
      · rw [if_pos h] at hb2; cases hb2
      · rw [if_neg h] at hb2
        refine ⟨b2, hb2, rfl, hν s' t' ⟨b2, hb2⟩, fun g2 ar e' hg2 ha2 => ⟨ar, ?_, rfl⟩⟩
        rw [← ha2]
        exact hk g2 (Array.getElem?_eq_some_iff.1 ha2).1 (fun e2 => h (hm.inj s' t' s t b2 b g2 hb2 hb hg2 e2))
    · obtain ⟨b2, hb2⟩ := hl
      rw [get_move] at hb2
      by_cases h0 : s' = s ∧ t' = m.own.cnt s
      · simp only [newν, if_pos h0] at hg'
        obtain ⟨_, h2, _⟩ := hsome g' hg'
        rcases h2 with h2 | h2
        · omega
        · exact ⟨s, t, ⟨b, hb⟩, h2⟩
      · rw [if_neg h0] at hb2
        by_cases h : s' = s ∧ t' = t
        · rw [if_pos h] at hb2; cases hb2
        · rw [if_neg h] at hb2
          exact ⟨s', t', ⟨b2, hb2⟩, by rw [← hν s' t' ⟨b2, hb2⟩]; exact hg'⟩
  refine ⟨⟨hbel, Nat.le_trans hm.size hsz, fun s' t' ht => ?_, fun s' t' b2 hb2 => ?_, fun s1 t1 s2 t2 b1 b2 g1 h1 h2 e1 e2 => ?_⟩, he⟩
  · rw [cnt_move] at ht
    have ht' : m.own.cnt s' ≤ t' ∧ ¬ (s' = s ∧ t' = m.own.cnt s) := by
      by_cases h : s' = s
      · subst h
        simp at ht
        exact ⟨by omega, by omega⟩
      · simp [h] at ht
        exact ⟨ht, fun h' => h h'.1⟩
    rw [get_move, if_neg ht'.2]
    split
    · rfl
    · exact hm.fresh s' t' ht'.1
  · rw [get_move] at hb2
    by_cases h0 : s' = s ∧ t' = m.own.cnt s
    · rw [if_pos h0] at hb2
      obtain rfl : b' = b2 := by simpa using hb2
      refine ⟨hz, ?_⟩
      show match newν m s gopt s' t' with | none => _ | some g => _
      rw [show newν m s gopt s' t' = gopt by simp [newν, h0]]
      cases gopt with
      | none => exact hnone rfl
      | some g =>
        obtain ⟨h1, _, arr, e, h4, h5⟩ := hsome g rfl
        refine ⟨h1, arr, e, h4, fun i cs hi j c hj => ?_⟩
        obtain ⟨u, hu, hcc⟩ := h5 i cs hi j c hj
        exact ⟨u, hu, he.cc hcc⟩
    · rw [if_neg h0] at hb2
      by_cases h : s' = s ∧ t' = t
      · rw [if_pos h] at hb2; cases hb2
      · rw [if_neg h] at hb2
        obtain ⟨h1, h2⟩ := hm.blk s' t' b2 hb2
        refine ⟨h1, ?_⟩
        show match newν m s gopt s' t' with | none => _ | some g => _
        rw [hν s' t' ⟨b2, hb2⟩]
        cases hv : m.ν s' t' with
        | none => rw [hv] at h2; exact h2
        | some g2 =>
          rw [hv] at h2
          obtain ⟨h3, ar, e', h4, h5⟩ := h2
          refine ⟨h3, ar, e', ?_, fun i cs hi j c hj => ?_⟩
          · rw [← h4]
            exact hk g2 (Array.getElem?_eq_some_iff.1 h4).1 (fun e2 => h (hm.inj s' t' s t b2 b g2 hb2 hb hv e2))
          · obtain ⟨u, hu, hcc⟩ := h5 i cs hi j c hj
            exact ⟨u, hu, he.cc hcc⟩
  · rw [get_move] at h1 h2
    have old : ∀ s' t' b2, (if s' = s ∧ t' = t then none else m.own.get s' t') = some b2 → m.own.get s' t' = some b2 ∧ ¬ (s' = s ∧ t' = t) := fun s' t' b2 h => by
      by_cases h' : s' = s ∧ t' = t
      · rw [if_pos h'] at h; cases h
      · rw [if_neg h'] at h; exact ⟨h, h'⟩
    have clash : ∀ s' t' b2, m.own.get s' t' = some b2 → ¬ (s' = s ∧ t' = t) → newν m s gopt s' t' = some g1 → gopt = some g1 → False := fun s' t' b2 hb2 hne e1 e2 => by
      rw [hν s' t' ⟨b2, hb2⟩] at e1
      obtain ⟨_, h2, _⟩ := hsome g1 e2
      obtain ⟨_, ar, e', h4⟩ := hm.ge ⟨b2, hb2⟩ e1
      have := (Array.getElem?_eq_some_iff.1 h4).1
      rcases h2 with h2 | h2
      · omega
      · exact hne (hm.inj s' t' s t b2 b g1 hb2 hb e1 h2)
    have at_ : ∀ s' t', s' = s ∧ t' = m.own.cnt s → newν m s gopt s' t' = some g1 → gopt = some g1 := fun s' t' h hg => by simpa [newν, if_pos h] using hg
    by_cases p1 : s1 = s ∧ t1 = m.own.cnt s <;> by_cases p2 : s2 = s ∧ t2 = m.own.cnt s
    · exact ⟨p1.1.trans p2.1.symm, p1.2.trans p2.2.symm⟩
    · rw [if_neg p2] at h2
      obtain ⟨k2, n2⟩ := old s2 t2 b2 h2
      exact (clash s2 t2 b2 k2 n2 e2 (at_ s1 t1 p1 e1)).elim
    · rw [if_neg p1] at h1
      obtain ⟨k1, n1⟩ := old s1 t1 b1 h1
      exact (clash s1 t1 b1 k1 n1 e1 (at_ s2 t2 p2 e2)).elim
    · rw [if_neg p1] at h1
      rw [if_neg p2] at h2
      obtain ⟨k1, n1⟩ := old s1 t1 b1 h1
      obtain ⟨k2, n2⟩ := old s2 t2 b2 h2
      exact hm.inj s1 t1 s2 t2 b1 b2 g1 k1 k2 (by rw [← hν s1 t1 ⟨b1, k1⟩]; exact e1) (by rw [← hν s2 t2 ⟨b2, k2⟩]; exact e2)

theorem get_drop (o : Own) (l : List Nat) (s t : Nat) : (o.drop l).get s t = if s ∈ l then none else o.get s t := by
  induction l with
  | nil => simp [Own.drop]
  | cons x r ih =>
    unfold Own.get at *
    by_cases h : s = x
    · subst h; simp [Own.drop, Own.put]
    · simp only [Own.drop, Own.put, if_neg h, List.mem_cons]
      rw [ih]
      by_cases h2 : s ∈ r <;> simp [h, h2]
theorem cnt_drop (o : Own) (l : List Nat) (s : Nat) : (o.drop l).cnt s = o.cnt s := by
  induction l with
  | nil => simp [Own.drop]
  | cons x r ih =>
    unfold Own.cnt at *
    by_cases h : s = x
    · subst h; simp [Own.drop, Own.put]
    · simp [Own.drop, Own.put, h, ih]

theorem drop_ok {m : M} (hm : MemOK B S w0 m) (l : List Nat) : MemOK B S w0 ⟨m.ν, m.own.drop l, m.w⟩ ∧ Ext B S m ⟨m.ν, m.own.drop l, m.w⟩ := by
  have old : ∀ s t b, (m.own.drop l).get s t = some b → m.own.get s t = some b := fun s t b h => by
    rw [get_drop] at h
    split at h
    · cases h
    · exact h
  have he : Ext B S m ⟨m.ν, m.own.drop l, m.w⟩ := by
    refine ext_of hm (Nat.le_refl _) (fun _ _ _ => rfl) (fun s => by rw [cnt_drop]; exact Nat.le_refl _) (fun s t b' _ hb' => ⟨b', old s t b' hb', rfl, rfl, fun _ ar _ _ ha => ⟨ar, ha, rfl⟩⟩) (fun s t g hl hg _ => ?_)
    obtain ⟨b, hb⟩ := hl
    exact ⟨s, t, ⟨b, old s t b hb⟩, hg⟩
  refine ⟨⟨hm.below, hm.size, fun s t ht => ?_, fun s t b hb => ?_, fun s1 t1 s2 t2 b1 b2 g h1 h2 => hm.inj s1 t1 s2 t2 b1 b2 g (old _ _ _ h1) (old _ _ _ h2)⟩, he⟩
  · rw [cnt_drop] at ht
    rw [get_drop]
    split
    · rfl
    · exact hm.fresh s t ht
  · obtain ⟨h1, h2⟩ := hm.blk s t b (old s t b hb)
    refine ⟨h1, ?_⟩
    show match m.ν s t with | none => _ | some g => _
    cases hv : m.ν s t with
    | none => rw [hv] at h2; exact h2
    | some g =>
      rw [hv] at h2
      obtain ⟨h3, ar, e', h4, h5⟩ := h2
      refine ⟨h3, ar, e', h4, fun i cs hi j c hj => ?_⟩
      obtain ⟨u, hu, hcc⟩ := h5 i cs hi j c hj
      exact ⟨u, hu, he.cc hcc⟩
end
end Go.Eng
