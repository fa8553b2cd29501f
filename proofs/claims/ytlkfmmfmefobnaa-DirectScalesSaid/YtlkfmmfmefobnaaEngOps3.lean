/-
  Addresses, loads, stores, slices.
-/
import Derived.Test.YtlkfmmfmefobnaaEngOps2
set_option linter.unusedSimpArgs false
set_option linter.unusedVariables false
set_option linter.unnecessarySimpa false
namespace Go.Eng
open Go.RowKit

section
variable {B : Nat} {S : Nat → Prop} {w0 : World} {m : M}
variable {P : Program} {num : Nat → Nat} {o : Oper} {a : Act} {ρ : Opd → AV}

theorem cv_cc {x : AV} {v : Value} (h : CV B S m x v) (h1 : x ≠ .any) (h2 : ∀ cs, x ≠ .agg cs) (h3 : ∀ cs, x ≠ .tup cs) : CC B S m x v := by
  cases h with
  | any => exact absurd rfl h1
  | tup as => exact absurd rfl (h3 as)
  | ca h => cases h with
    | one h => exact h
    | agg cs => exact absurd rfl (h2 cs)
theorem cv_ptr {s t i j : Nat} {v : Value} (h : CV B S m (.ptr s t i j) v) : ∃ ad, v = .pointer (some ad) ∧ t < m.own.cnt s ∧ ∀ b, m.own.get s t = some b → ∃ g, m.ν s t = some g ∧ ad = ⟨g, i * b.esz + j, none⟩ := by
  cases cv_cc h (by simp) (by simp) (by simp) with
  | rd h => cases h
  | ptr s t i j ad ht h' => exact ⟨ad, rfl, ht, h'⟩
theorem cv_dptr {cs : List AV} {v : Value} (h : CV B S m (.dptr cs) v) : ∃ (b o : Nat) (u : Nat → Value) (l : Bool), v = .pointer (some ⟨b, o, none⟩) ∧ (cs ≠ [] → safe B S m l b) ∧ (∀ j c, cs[j]? = some c → m.w.cell? ⟨b, o + j, none⟩ = some (u j)) ∧ (∀ j c, cs[j]? = some c → Rd m.w (safe B S m) c (u j)) := by
  cases cv_cc h (by simp) (by simp) (by simp) with
  | rd h => cases h
  | dptr _ b o u l h1 h2 h3 => exact ⟨b, o, u, l, rfl, h1, h2, h3⟩
theorem cv_row {s t z off len : Nat} {v : Value} (h : CV B S m (.row s t z off len) v) : ∃ (ad : Option Addr) (cap : Nat), v = .slice ad len cap ∧ t < m.own.cnt s ∧ 0 < z ∧ len ≤ cap ∧ (0 < len → ad.isSome = true) ∧
    ∀ b, m.own.get s t = some b → b.esz = z ∧ ((len = 0 ∧ cap = 0) ∨ ∃ g arr e, m.ν s t = some g ∧ ad = some ⟨g, off * z, none⟩ ∧ m.w.heap[g]? = some (.cells arr e (0, 0)) ∧ (off + cap) * z ≤ arr.size) := by
  cases cv_cc h (by simp) (by simp) (by simp) with
  | rd h => cases h
  | row s t z off len ad cap ht hz0 hlc ha h' => exact ⟨ad, cap, rfl, ht, hz0, hlc, ha, h'⟩
theorem cv_nil {v : Value} (h : CV B S m .nil v) : v = .slice none 0 0 := by
  cases cv_cc h (by simp) (by simp) (by simp) with
  | rd h => cases h
  | nil => rfl
theorem cv_sl {l : Bool} {es : List (List AV)} {v : Value} (h : CV B S m (.sl l es) v) : Rd m.w (safe B S m) (.sl l es) v := by
  cases cv_cc h (by simp) (by simp) (by simp) with
  | rd h => exact h

theorem do_fadr_ptr (hm : MemOK B S w0 m) (hs : Says B S m ρ a.eval) {x' : Opd} {off : Nat} (h : okOp P num o.op (.fadr x' off) = true) {s t i j : Nat} (hx : ρ x' = .ptr s t i j) : Does B S w0 P o a m (.val (.ptr s t i (j + off))) := by
  obtain ⟨ty, x, f, fs, fd, inf, hop, h1, hu, hf, ho, hi, hsz⟩ := inv_fadr h
  obtain ⟨ad, hv, ht, hb⟩ := cv_ptr (hx ▸ hs x x' h1)
  refine does_val hm (u := .pointer (some (ad.add off))) ?_ (.ca (.one (.ptr s t i (j + off) _ ht fun b hb' => ?_)))
  · simp [execOp, hop, hv, Instr.fieldAt, run_underlying hu, hf, Instr.sureAddr, fieldPlace, sizeOf, typeInfo, hi, hsz, ho]
  · obtain ⟨g, hg, rfl⟩ := hb b hb'
    exact ⟨g, hg, by rw [add_none]; simp; omega⟩

theorem do_fadr_dptr (hm : MemOK B S w0 m) (hs : Says B S m ρ a.eval) {x' : Opd} {off : Nat} (h : okOp P num o.op (.fadr x' off) = true) {cs : List AV} (hx : ρ x' = .dptr cs) : Does B S w0 P o a m (.val (.dptr (cs.drop off))) := by
  obtain ⟨ty, x, f, fs, fd, inf, hop, h1, hu, hf, ho, hi, hsz⟩ := inv_fadr h
  obtain ⟨b, ob, u, l, hv, hR, hc, hr⟩ := cv_dptr (hx ▸ hs x x' h1)
  refine does_val hm (u := .pointer (some ⟨b, ob + off, none⟩)) ?_ (.ca (.one (.dptr _ b (ob + off) (fun j => u (off + j)) l (fun hne => hR (fun e => hne (by simp [e]))) (fun j c hj => ?_) (fun j c hj => ?_))))
  · simp [execOp, hop, hv, Instr.fieldAt, run_underlying hu, hf, Instr.sureAddr, fieldPlace, sizeOf, typeInfo, hi, hsz, ho, add_none]
  · rw [List.getElem?_drop] at hj
    rw [Nat.add_assoc]
    exact hc _ c hj
  · rw [List.getElem?_drop] at hj
    exact hr _ c hj

theorem ofCells_ok {agg : Bool} {cs : List AV} {v : AV} (h : ofCells agg cs = some v) {vs : List Value} (hc : CL B S m cs vs) : CV B S m v (if agg then .agg vs.toArray else vs.getD 0 undef) ∧ (agg = false → vs.length = 1) := by
  unfold ofCells at h
  cases agg with
  | true =>
    obtain rfl : AV.agg cs = v := by simpa using h
    exact ⟨.ca (.agg cs vs hc), by simp⟩
  | false =>
    simp only [Bool.false_eq_true, if_false] at h
    split at h
    · rename_i c
      obtain rfl : c = v := by simpa using h
      obtain ⟨u, hu, hcc⟩ := cl_get hc (j := 0) (c := c) rfl
      refine ⟨?_, fun _ => by rw [← hc.1]; rfl⟩
      simp only [Bool.false_eq_true, if_false, List.getD, hu, Option.getD_some]
      exact .ca (.one hcc)
    · cases h

theorem run_part (t : TypeId) (agg : Bool) (inf : TypeInfo) (hagg : ∀ w, (isAgg t).run P w = .ok agg w) (hi : P.info? t = some inf) (vs : List Value) (off n : Nat) (hn : inf.size = n) (hle : off + n ≤ vs.length) (h1 : agg = false → n = 1) (w : World) :
    (Go.part t vs.toArray off).run P w = .ok (if agg then .agg ((vs.drop off).take n).toArray else ((vs.drop off).take n).getD 0 undef) w := by
  unfold Go.part
  rw [Sem.run_bind, hagg w]
  cases agg with
  | true => simp [sizeOf, typeInfo, hi, hn, List.extract_eq_take_drop]
  | false =>
    have hlt : off < vs.length := by have := h1 rfl; omega
    simp [hlt, h1 rfl]

theorem do_fld (hm : MemOK B S w0 m) (hs : Says B S m ρ a.eval) {x' : Opd} {off n : Nat} {agg : Bool} (h : okOp P num o.op (.fld x' off n agg) = true) {cs ds : List AV} {v : AV} (hx : ρ x' = .agg cs) (hp : part cs off n = some ds) (hv : ofCells agg ds = some v) :
    Does B S w0 P o a m (.val v) := by
  obtain ⟨ty, x, f, fs, fd, inf, hop, h1, hu, hf, ho, hi, hsz, hagg, h0⟩ := inv_fld h
  obtain ⟨vs, hev, hcl⟩ := cv_agg (hx ▸ hs x x' h1)
  unfold Eng.part at hp
  split at hp
  · rename_i hle
    obtain rfl : (cs.drop off).take n = ds := by simpa using hp
    obtain ⟨hcv, hone⟩ := ofCells_ok hv (cl_part hcl off n)
    have hl := hcl.1
    have h1' : agg = false → n = 1 := fun e => by have := hone e; simp at this; omega
    refine does_val hm ?_ hcv
    simp only [execOp, hop, Sem.run_bind, Instr.field, run_underlying hu, Result.andThen_ok, hf, hev, asAgg, Sem.run_pure, ho]
    rw [run_part fd.type agg inf hagg hi vs off n hsz (by omega) h1']
    rfl
  · cases hp

theorem do_idx (hm : MemOK B S w0 m) (hs : Says B S m ρ a.eval) {len esz : Nat} {agg : Bool} {x' i' : Opd} (h : okOp P num o.op (.idx len esz agg x' i') = true) {k : IntKind} {n : Int} {cs ds : List AV} {v : AV} (hi' : ρ i' = .int k n) (hx : ρ x' = .agg cs) (h0 : 0 ≤ n) (hn : n < len)
    (hp : part cs (n.toNat * esz) esz = some ds) (hv : ofCells agg ds = some v) : Does B S w0 P o a m (.val v) := by
  obtain ⟨ty, x, i, e, inf, hop, h1, h2, hu, hi, hsz, hagg⟩ := inv_idx h
  obtain ⟨vs, hev, hcl⟩ := cv_agg (hx ▸ hs x x' h1)
  have hiv := cv_int (hi' ▸ hs i i' h2)
  unfold Eng.part at hp
  split at hp
  · rename_i hle
    obtain rfl : (cs.drop (n.toNat * esz)).take esz = ds := by simpa using hp
    obtain ⟨hcv, hone⟩ := ofCells_ok hv (cl_part hcl (n.toNat * esz) esz)
    have hl := hcl.1
    have h1' : agg = false → esz = 1 := fun e => by have := hone e; simp at this; omega
    refine does_val hm ?_ hcv
    simp only [execOp, hop, Sem.run_bind, Instr.index, hiv, asIntOf, Sem.run_pure, run_underlying hu, Result.andThen_ok, hev]
    rw [if_pos ⟨h0, hn⟩]
    simp only [Sem.run_bind, sizeOf, typeInfo, run_program, hi, Sem.run_pure, Result.andThen_ok, hsz]
    rw [run_part e agg inf hagg hi vs (n.toNat * esz) esz hsz (by omega) h1']
    rfl
  · cases hp

theorem do_iadr_arr (hm : MemOK B S w0 m) (hs : Says B S m ρ a.eval) {len esz : Nat} {x' i' : Opd} (h : okOp P num o.op (.iadr (some len) esz x' i') = true) {k : IntKind} {n : Int} {s t i0 j : Nat} (hi' : ρ i' = .int k n) (hx : ρ x' = .ptr s t i0 j) (h0 : 0 ≤ n) (hn : n < len) :
    Does B S w0 P o a m (.val (.ptr s t i0 (j + n.toNat * esz))) := by
  obtain ⟨ty, x, i, e, inf, hop, h1, h2, hi, hsz, hor⟩ := inv_iadr h
  rcases hor with ⟨len', hl, hu, hlt⟩ | ⟨hl, _⟩
  · obtain rfl : len = len' := by simpa using hl
    obtain ⟨ad, hv, ht, hb⟩ := cv_ptr (hx ▸ hs x x' h1)
    have hiv := cv_int (hi' ▸ hs i i' h2)
    refine does_val hm (u := .pointer (some (ad.add (n.toNat * esz)))) ?_ (.ca (.one (.ptr s t i0 (j + n.toNat * esz) _ ht fun b hb' => ?_)))
    · simp [execOp, hop, hv, hiv, Instr.indexAt, asIntOf, run_underlying hu, Instr.sureAddr, sizeOf, typeInfo, hi, hsz, h0, hn]
    · obtain ⟨g, hg, rfl⟩ := hb b hb'
      exact ⟨g, hg, by rw [add_none]; simp; omega⟩
  · cases hl

theorem do_iadr_darr (hm : MemOK B S w0 m) (hs : Says B S m ρ a.eval) {len esz : Nat} {x' i' : Opd} (h : okOp P num o.op (.iadr (some len) esz x' i') = true) {k : IntKind} {n : Int} {cs : List AV} (hi' : ρ i' = .int k n) (hx : ρ x' = .dptr cs) (h0 : 0 ≤ n) (hn : n < len) :
    Does B S w0 P o a m (.val (.dptr (cs.drop (n.toNat * esz)))) := by
  obtain ⟨ty, x, i, e, inf, hop, h1, h2, hi, hsz, hor⟩ := inv_iadr h
  rcases hor with ⟨len', hl, hu, hlt⟩ | ⟨hl, _⟩
  · obtain rfl : len = len' := by simpa using hl
    obtain ⟨b, ob, u, l, hv, hR, hc, hr⟩ := cv_dptr (hx ▸ hs x x' h1)
    have hiv := cv_int (hi' ▸ hs i i' h2)
    refine does_val hm (u := .pointer (some ⟨b, ob + n.toNat * esz, none⟩)) ?_ (.ca (.one (.dptr _ b (ob + n.toNat * esz) (fun j => u (n.toNat * esz + j)) l (fun hne => hR (fun e => hne (by simp [e]))) (fun j c hj => ?_) (fun j c hj => ?_))))
    · simp [execOp, hop, hv, hiv, Instr.indexAt, asIntOf, run_underlying hu, Instr.sureAddr, sizeOf, typeInfo, hi, hsz, h0, hn, add_none]
    · rw [List.getElem?_drop] at hj
      rw [Nat.add_assoc]
      exact hc _ c hj
    · rw [List.getElem?_drop] at hj
      exact hr _ c hj
  · cases hl

theorem run_iadr (ty e : TypeId) (inf : TypeInfo) (hu : P.underlying ty = some (.slice e)) (hi : P.info? e = some inf) (ad : Addr) (len cap : Nat) (k : IntKind) (n : Int) (h0 : 0 ≤ n) (hn : n < len) (w : World) :
    (Instr.indexAt ty (.slice (some ad) len cap) (.int k n)).run P w = .ok (.pointer (some (ad.add (n.toNat * inf.size)))) w := by
  simp [Instr.indexAt, asIntOf, run_underlying hu, sizeOf, typeInfo, hi, h0, hn]

theorem do_iadr_row (hm : MemOK B S w0 m) (hs : Says B S m ρ a.eval) {esz : Nat} {x' i' : Opd} (h : okOp P num o.op (.iadr none esz x' i') = true) {k : IntKind} {n : Int} {s t z off len : Nat} (hi' : ρ i' = .int k n) (hx : ρ x' = .row s t z off len) (h0 : 0 ≤ n) (hn : n < len) (hz : z = esz) :
    Does B S w0 P o a m (.val (.ptr s t (off + n.toNat) 0)) := by
  obtain ⟨ty, x, i, e, inf, hop, h1, h2, hi, hsz, hor⟩ := inv_iadr h
  rcases hor with ⟨_, hl, _⟩ | ⟨_, hu, _⟩
  · cases hl
  · obtain ⟨ad, cap, hv, ht, hz0, hlc, ha, hb⟩ := cv_row (hx ▸ hs x x' h1)
    have hiv := cv_int (hi' ▸ hs i i' h2)
    obtain ⟨ad', rfl⟩ := Option.isSome_iff_exists.1 (ha (by omega))
    refine does_val hm (u := .pointer (some (ad'.add (n.toNat * esz)))) ?_ (.ca (.one (.ptr s t (off + n.toNat) 0 _ ht fun b hb' => ?_)))
    · simp only [execOp, hop, hv, hiv, Sem.run_bind]
      rw [run_iadr ty e inf hu hi ad' len cap k n h0 hn, hsz]
      rfl
    · obtain ⟨hbz, hor⟩ := hb b hb'
      rcases hor with ⟨hl0, _⟩ | ⟨g, arr, e', hg, hae, _, _⟩
      · omega
      · obtain rfl : ad' = ⟨g, off * z, none⟩ := by simpa using hae
        exact ⟨g, hg, by rw [add_none, hbz, ← hz, Nat.add_mul]; rfl⟩

theorem do_iadr_sl (hm : MemOK B S w0 m) (hs : Says B S m ρ a.eval) {esz : Nat} {x' i' : Opd} (h : okOp P num o.op (.iadr none esz x' i') = true) {k : IntKind} {n : Int} {l : Bool} {es : List (List AV)} {cs : List AV} (hi' : ρ i' = .int k n) (hx : ρ x' = .sl l es) (h0 : 0 ≤ n) (hn : es[n.toNat]? = some cs) (hz : cs.length = esz) :
    Does B S w0 P o a m (.val (.dptr cs)) := by
  obtain ⟨ty, x, i, e, inf, hop, h1, h2, hi, hsz, hor⟩ := inv_iadr h
  rcases hor with ⟨_, hl, _⟩ | ⟨_, hu, _⟩
  · cases hl
  · have hrd := cv_sl (hx ▸ hs x x' h1)
    have hiv := cv_int (hi' ▸ hs i i' h2)
    have hlt : n.toNat < es.length := (List.getElem?_eq_some_iff.1 hn).1
    generalize hev : a.eval x = v at hrd
    cases hrd with
    | sl0 => simp at hlt
    | sl _ _ b ob esz' cap u hne hp hR hcap hzz hc hr =>
      have hze : esz' = esz := by
        rw [← hz]
        exact (hzz cs (List.mem_of_getElem? hn)).symm
      subst hze
      refine does_val hm (u := .pointer (some ⟨b, ob + n.toNat * esz', none⟩)) ?_ (.ca (.one (.dptr _ b (ob + n.toNat * esz') (u n.toNat) l (fun _ => hR) (fun j c hj => ?_) (fun j c hj => hr _ cs hn j c hj))))
      · simp only [execOp, hop, hev, hiv, Sem.run_bind]
        rw [run_iadr ty e inf hu hi ⟨b, ob, none⟩ es.length cap k n h0 (by omega), hsz, add_none]
        rfl
      · rw [Nat.add_assoc]
        exact hc _ cs hn j c hj
end
end Go.Eng
