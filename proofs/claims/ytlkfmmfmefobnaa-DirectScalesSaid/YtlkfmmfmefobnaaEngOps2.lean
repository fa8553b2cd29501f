/-
  The operations that make and read memory.
-/
import Derived.Test.YtlkfmmfmefobnaaEngOps
set_option linter.unusedSimpArgs false
set_option linter.unusedVariables false
set_option linter.unnecessarySimpa false
namespace Go.Eng
open Go.RowKit

section
variable {B : Nat} {S : Nat → Prop} {w0 : World} {m : M}
variable {P : Program} {num : Nat → Nat} {o : Oper} {a : Act} {ρ : Opd → AV}

theorem cl_get {cs : List AV} {vs : List Value} (h : CL B S m cs vs) {j : Nat} {c : AV} (hj : cs[j]? = some c) : ∃ u, vs[j]? = some u ∧ CC B S m c u := by
  have hlt : j < cs.length := (List.getElem?_eq_some_iff.1 hj).1
  have hlt' : j < vs.length := by rw [← h.1]; exact hlt
  exact ⟨vs[j], List.getElem?_eq_getElem hlt', h.2 j c _ hj (List.getElem?_eq_getElem hlt')⟩

/-- the pointer to a new block -/
theorem new_ptr {s : Nat} {b : Blk} {w' : World} {g : Nat} : CV B S ⟨newν m s (some g), m.own.put s ((m.own s).new b), w'⟩ (.ptr s (m.own.cnt s) 0 0) (.pointer (some ⟨g, 0, none⟩)) := by
  refine .ca (.one (.ptr s (m.own.cnt s) 0 0 ⟨g, 0, none⟩ ?_ fun b' hb' => ⟨g, ?_, by simp⟩))
  · show _ < Own.cnt _ s
    rw [cnt_new]; simp
  · simp [newν]

theorem do_cells (hm : MemOK B S w0 m) (s : Nat) (cs : List AV) (vs : Array Value) (e : TypeId) (hc : CL B S m cs vs.toList) (h : (execOp a.eval o).run P m.w = .ok (.value (.pointer (some ⟨m.w.heap.size, 0, none⟩))) (m.w.alloc (.cells vs e))) :
    Does B S w0 P o a m (.new s ⟨cs.length, [cs]⟩ (fun t => .ptr s t 0 0)) := by
  intro K Q hK
  obtain ⟨h1, h2⟩ := alloc_ok hm s ⟨cs.length, [cs]⟩ vs e (by simp) (fun i cs' hi j c hj => by
    cases i with
    | zero =>
      obtain rfl : cs = cs' := by simpa using hi
      obtain ⟨u, hu, hcc⟩ := cl_get hc hj
      exact ⟨u, by simpa using hu, hcc⟩
    | succ i => simp at hi)
  exact wp_of_run h (hK _ ⟨newν m s (some m.w.heap.size), m.own.put s ((m.own s).new ⟨cs.length, [cs]⟩), m.w.alloc (.cells vs e)⟩ rfl h1 h2 new_ptr)

theorem do_box (hm : MemOK B S w0 m) (hs : Says B S m ρ a.eval) {s : Nat} {x' : Opd} (h : okOp P num o.op (.box s x') = true) {cs : List AV} (hc : cellsOf (ρ x') = some cs) :
    Does B S w0 P o a m (.new s ⟨cs.length, [cs]⟩ (fun t => .ptr s t 0 0)) := by
  obtain ⟨t, x, hop, h1⟩ := inv_box h
  exact do_cells hm s cs (a.eval x).cells t (cv_cells (hs x x' h1) hc) (by simp [execOp, hop, Instr.box, newVar, newRow])

theorem do_alloc (hm : MemOK B S w0 m) {s : Nat} {z : List AV} (h : okOp P num o.op (.alloc s z) = true) : Does B S w0 P o a m (.new s ⟨z.length, [z]⟩ (fun t => .ptr s t 0 0)) := by
  obtain ⟨t, hop, h1⟩ := inv_alloc h
  obtain ⟨i, v, hi, hz, he⟩ := zeroIs_inv h1
  exact do_cells hm s z v.cells t (eqVals_cl he) (by simp [execOp, hop, Instr.alloc, zeroValue, typeInfo, hi, hz, newVar, newRow])

theorem fold_splice (off : Nat) : ∀ (vs : List Value) (k : Nat) (cells : Array Value), off + k + vs.length ≤ cells.size →
    ((vs.zipIdx k).foldl (fun cs (x : Value × Nat) => cs.setIfInBounds (off + x.2) x.1) cells).toList = cells.toList.take (off + k) ++ vs ++ cells.toList.drop (off + k + vs.length)
  | [], k, cells, _ => by simp
  | v :: r, k, cells, h => by
    simp only [List.length_cons] at h
    rw [List.zipIdx_cons, List.foldl_cons, fold_splice off r (k + 1) _ (by simp; omega)]
    simp only [Array.toList_setIfInBounds, List.length_cons]
    apply List.ext_getElem?
    intro q
    have e1 : (cells.toList.set (off + k) v).drop (off + (k + 1) + r.length) = cells.toList.drop (off + k + (r.length + 1)) := by
      rw [show off + (k + 1) + r.length = off + k + (r.length + 1) by omega]
      exact List.drop_set_of_lt (by omega)
    have e2 : (cells.toList.set (off + k) v).take (off + (k + 1)) = cells.toList.take (off + k) ++ [v] := by
      rw [show off + (k + 1) = off + k + 1 by omega, List.take_succ_eq_append_getElem (by simp; omega)]
      simp [List.take_set_of_le]
    rw [e1, e2]
    simp

theorem fill_ok (place : Nat → Option (Nat × Nat)) (hs : Says B S m ρ a.eval) : ∀ (ps : List (Nat × Operand)) (ps' : List (Nat × Nat × Opd)) (cs cs' : List AV) (vs : Array Value), partsAre place ps ps' = true → CL B S m cs vs.toList →
    fill cs (ps'.map fun p => (p.1, p.2.1, ρ p.2.2)) = some cs' → ∃ vs', Instr.fill place vs (ps.map fun p => (p.1, a.eval p.2)) = some vs' ∧ CL B S m cs' vs'.toList
  | [], [], cs, cs', vs, _, hc, hf => by
    simp [fill] at hf
    subst hf
    exact ⟨vs, rfl, hc⟩
  | (i, x) :: r, (off, n, y) :: l, cs, cs', vs, hp, hc, hf => by
    simp only [partsAre, Bool.and_eq_true, beq_iff_eq] at hp
    obtain ⟨⟨hp1, hp2⟩, hp3⟩ := hp
    simp only [List.map_cons, fill] at hf
    cases hcell : cellsOf (ρ y) with
    | none => simp [hcell] at hf
    | some us =>
      simp only [hcell] at hf
      split at hf
      · rename_i hn
        obtain ⟨hn1, hn2⟩ := hn
        have hcu := cv_cells (hs x y hp2) hcell
        have hsz : (a.eval x).cells.size = n := by rw [← hn1, hcu.1]; simp
        have hoff : off + (a.eval x).cells.size ≤ vs.size := by rw [hsz]; have := hc.1; simp at this; omega
        have hfold := fold_splice off (a.eval x).cells.toList 0 vs (by simpa using hoff)
        have hstep : Instr.fill place vs (((i, x) :: r).map fun p => (p.1, a.eval p.2)) = Instr.fill place ((a.eval x).cells.zipIdx.foldl (fun cs (c, j) => cs.setIfInBounds (off + j) c) vs) (r.map fun p => (p.1, a.eval p.2)) := by
          simp only [List.map_cons, Instr.fill, hp1]
          rw [if_neg (by simp; omega)]
        rw [hstep]
        refine fill_ok place hs r l (splice cs off us) cs' _ hp3 ?_ hf
        have hz : ((a.eval x).cells.zipIdx.foldl (fun cs (c, j) => cs.setIfInBounds (off + j) c) vs).toList = vs.toList.take off ++ (a.eval x).cells.toList ++ vs.toList.drop (off + (a.eval x).cells.toList.length) := by
          rw [← Array.foldl_toList]
          simpa using hfold
        rw [hz]
        unfold splice
        refine ⟨?_, fun j c v hj hv => ?_⟩
        · have := hc.1; have := hcu.1; simp at *; omega
        · have hl1 := hc.1
          have hl2 := hcu.1
          simp only [Array.length_toList] at hl1 hl2
          rw [List.getElem?_append] at hj hv
          simp only [List.length_append, List.length_take, Array.length_toList] at hj hv
          rw [List.getElem?_append] at hj hv
          simp only [List.length_take, Array.length_toList] at hj hv
          have hm1 : min off cs.length = off := by omega
          have hm2 : min off vs.size = off := by omega
          rw [hm1] at hj
          rw [hm2] at hv
          rw [← hl2] at hv
          split at hj
          · rename_i h1
            rw [if_pos h1] at hv
            split at hj
            · rename_i h2
              rw [if_pos h2] at hv
              rw [List.getElem?_take] at hj hv
              rw [if_pos h2] at hj hv
              exact hc.2 j c v hj hv
            · rename_i h2
              rw [if_neg h2] at hv
              exact hcu.2 _ c v hj hv
          · rename_i h1
            rw [if_neg h1] at hv
            rw [List.getElem?_drop] at hj hv
            exact hc.2 _ c v hj hv
      · cases hf
  | [], _ :: _, _, _, _, hp, _, _ => by simp [partsAre] at hp
  | _ :: _, [], _, _, _, hp, _, _ => by simp [partsAre] at hp

theorem do_build (hm : MemOK B S w0 m) (hs : Says B S m ρ a.eval) {z : List AV} {ps' : List (Nat × Nat × Opd)} (h : okOp P num o.op (.build z ps') = true) {cs : List AV} (hf : fill z (ps'.map fun p => (p.1, p.2.1, ρ p.2.2)) = some cs) :
    Does B S w0 P o a m (.val (.agg cs)) := by
  obtain ⟨t, ps, hop, h1, h2⟩ := inv_build h
  obtain ⟨i, v, hi, hz, he⟩ := zeroIs_inv h1
  have key : ∃ vs', P.built t (ps.map fun p => (p.1, a.eval p.2)).toList = some vs' ∧ CL B S m cs vs'.toList := by
    unfold buildIs at h2
    unfold Program.built
    split at h2
    · rename_i fs hu
      split at h2
      · rename_i places hp
        obtain ⟨vs', h3, h4⟩ := fill_ok _ hs ps.toList ps' z cs v.cells h2 (eqVals_cl he) hf
        refine ⟨vs', ?_, h4⟩
        simp only [hi, hu, hz, hp, Array.toList_map]
        exact h3
      · cases h2
    · rename_i n e hu
      split at h2
      · rename_i ie hie
        obtain ⟨vs', h3, h4⟩ := fill_ok _ hs ps.toList ps' z cs v.cells h2 (eqVals_cl he) hf
        refine ⟨vs', ?_, h4⟩
        simp only [hi, hu, hz, hie, Array.toList_map]
        exact h3
      · cases h2
    · cases h2
  obtain ⟨vs', h3, h4⟩ := key
  refine does_val hm (u := .agg vs') ?_ (.ca (by simpa using CA.agg cs vs'.toList h4))
  simp only [execOp, hop, Sem.run_bind]
  rw [run_build m.w t _ vs' h3]
  rfl

theorem fill_seq (size : Nat) (hs : Says B S m ρ a.eval) : ∀ (ps : List (Nat × Operand)) (ps' : List Opd) (k : Nat) (es : List (List AV)) (vs : Array Value), elemsAre k ps ps' = true → ps'.mapM (fun x => cellsOf (ρ x)) = some es → (∀ e ∈ es, e.length = size) → vs.size = (k + ps'.length) * size →
    ∃ vs', Instr.fill (fun i => some (i * size, size)) vs (ps.map fun p => (p.1, a.eval p.2)) = some vs' ∧ vs'.size = vs.size ∧ (∀ q, q < k * size → vs'[q]? = vs[q]?) ∧ ∀ i cs, es[i]? = some cs → ∀ j c, cs[j]? = some c → ∃ u, vs'[(k + i) * size + j]? = some u ∧ CC B S m c u
  | [], [], k, es, vs, _, hes, _, _ => by
    simp at hes
    subst hes
    exact ⟨vs, rfl, rfl, fun _ _ => rfl, fun i cs hi => by simp at hi⟩
  | (i, x) :: r, y :: l, k, es, vs, he, hes, hz, hv => by
    simp only [elemsAre, Bool.and_eq_true, beq_iff_eq] at he
    obtain ⟨⟨rfl, h1⟩, h2⟩ := he
    simp only [List.mapM_cons, Option.bind_eq_bind, Option.pure_def] at hes
    cases hcell : cellsOf (ρ y) with
    | none => simp [hcell] at hes
    | some us =>
      cases hrest : l.mapM (fun x => cellsOf (ρ x)) with
      | none => simp [hcell, hrest] at hes
      | some es' =>
        simp [hcell, hrest] at hes
        subst hes
        have hcu := cv_cells (hs x y h1) hcell
        have hus : us.length = size := hz us (by simp)
        have hsz : (a.eval x).cells.size = size := by rw [← hus, hcu.1]; simp
        simp only [List.length_cons] at hv
        have hle : i * size + size ≤ vs.size := by rw [hv, show i + (l.length + 1) = i + 1 + l.length by omega, Nat.add_mul, Nat.add_mul]; omega
        have hfold := fold_splice (i * size) (a.eval x).cells.toList 0 vs (by simp [hsz]; omega)
        generalize hvs1 : (a.eval x).cells.zipIdx.foldl (fun cs (c, j) => cs.setIfInBounds (i * size + j) c) vs = vs1
        have hz1 : vs1.toList = vs.toList.take (i * size) ++ (a.eval x).cells.toList ++ vs.toList.drop (i * size + size) := by
          rw [← hvs1, ← Array.foldl_toList]
          simpa [hsz] using hfold
        have hs1 : vs1.size = vs.size := by
          have := congrArg List.length hz1
          simp [hsz] at this
          omega
        obtain ⟨vs', h3, h4, h5, h6⟩ := fill_seq size hs r l (i + 1) es' vs1 h2 hrest (fun e he => hz e (by simp [he])) (by rw [hs1, hv]; congr 1; omega)
        refine ⟨vs', ?_, h4.trans hs1, fun q hq => ?_, fun i' cs hi' j c hj => ?_⟩
        · simp only [List.map_cons, Instr.fill]
          rw [if_neg (by simp [hsz]; omega), hvs1]
          exact h3
        · rw [h5 q (by rw [Nat.add_mul]; omega)]
          have : vs1.toList[q]? = vs.toList[q]? := by
            rw [hz1, List.append_assoc, List.getElem?_append_left (by simp; omega), List.getElem?_take, if_pos hq]
          simpa using this
        · cases i' with
          | zero =>
            obtain rfl : us = cs := by simpa using hi'
            obtain ⟨u, hu, hcc⟩ := cl_get hcu hj
            have hjl : j < size := by rw [← hus]; exact (List.getElem?_eq_some_iff.1 hj).1
            refine ⟨u, ?_, hcc⟩
            rw [Nat.add_zero, h5 _ (by rw [Nat.add_mul]; omega)]
            have : vs1.toList[i * size + j]? = some u := by
              rw [hz1, List.append_assoc, List.getElem?_append_right (by simp; omega)]
              simp only [List.length_take, Array.length_toList, show min (i * size) vs.size = i * size by omega, show i * size + j - i * size = j by omega]
              rw [List.getElem?_append_left (by simp [hsz]; omega)]
              exact hu
            simpa using this
          | succ i' =>
            obtain ⟨u, hu, hcc⟩ := h6 i' cs (by simpa using hi') j c hj
            exact ⟨u, by rw [show i + (i' + 1) = i + 1 + i' by omega]; exact hu, hcc⟩
  | [], _ :: _, _, _, _, he, _, _, _ => by simp [elemsAre] at he
  | _ :: _, [], _, _, _, he, _, _, _ => by simp [elemsAre] at he

/-- the slice over a new block -/
theorem new_row {s z n cap : Nat} {es : List (List AV)} {w' : World} {g : Nat} {arr : Array Value} {e : TypeId} (hz : 0 < z) (hn : n ≤ cap) (hg : w'.heap[g]? = some (.cells arr e (0, 0))) (hc : cap * z ≤ arr.size) :
    CV B S ⟨newν m s (some g), m.own.put s ((m.own s).new ⟨z, es⟩), w'⟩ (.row s (m.own.cnt s) z 0 n) (.slice (some ⟨g, 0, none⟩) n cap) := by
  refine .ca (.one (.row s (m.own.cnt s) z 0 n _ cap ?_ hz hn (fun _ => rfl) fun b' hb' => ⟨?_, .inr ⟨g, arr, e, ?_, by simp, hg, by simpa using hc⟩⟩))
  · show _ < Own.cnt _ s
    rw [cnt_new]; simp
  · change Own.get _ s _ = some b' at hb'
    rw [get_new, if_pos ⟨rfl, rfl⟩] at hb'
    obtain rfl : (⟨z, es⟩ : Blk) = b' := by simpa using hb'
    rfl
  · simp [newν]

theorem do_row (hm : MemOK B S w0 m) (s z n cap : Nat) (es : List (List AV)) (vs : Array Value) (e : TypeId) (hz0 : 0 < z) (hn : n ≤ cap) (hsz : cap * z ≤ vs.size) (hz : ∀ x ∈ es, x.length = z)
    (hc : ∀ i cs, es[i]? = some cs → ∀ j c, cs[j]? = some c → ∃ u, vs[i * z + j]? = some u ∧ CC B S m c u)
    (h : (execOp a.eval o).run P m.w = .ok (.value (.slice (some ⟨m.w.heap.size, 0, none⟩) n cap)) (m.w.alloc (.cells vs e))) :
    Does B S w0 P o a m (.new s ⟨z, es⟩ (fun t => .row s t z 0 n)) := by
  intro K Q hK
  obtain ⟨h1, h2⟩ := alloc_ok hm s ⟨z, es⟩ vs e hz hc
  exact wp_of_run h (hK _ ⟨newν m s (some m.w.heap.size), m.own.put s ((m.own s).new ⟨z, es⟩), m.w.alloc (.cells vs e)⟩ rfl h1 h2 (new_row hz0 hn (heap_alloc_new _ _) hsz))

theorem do_bslice (hm : MemOK B S w0 m) (hs : Says B S m ρ a.eval) {s esz : Nat} {ps' : List Opd} (h : okOp P num o.op (.bslice s esz ps') = true) {es : List (List AV)} (hes : ps'.mapM (fun x => cellsOf (ρ x)) = some es) (hz : ∀ e ∈ es, e.length = esz) :
    Does B S w0 P o a m (.new s ⟨esz, es⟩ (fun t => .row s t esz 0 es.length)) := by
  obtain ⟨t, n, ps, e, i, hop, hu, hi, hsz, h0, hn, hsmall, hel, hzero⟩ := inv_bslice h
  have hlen : es.length = n := by
    rw [hn]
    clear h hel hzero hn
    induction ps' generalizing es with
    | nil => simp at hes; subst hes; rfl
    | cons y l ih =>
      simp only [List.mapM_cons, Option.bind_eq_bind, Option.pure_def] at hes
      cases hcell : cellsOf (ρ y) with
      | none => simp [hcell] at hes
      | some us =>
        cases hrest : l.mapM (fun x => cellsOf (ρ x)) with
        | none => simp [hcell, hrest] at hes
        | some es' =>
          simp [hcell, hrest] at hes
          subst hes
          simp [ih hrest (fun e he => hz e (by simp [he]))]
  obtain ⟨zc, hzc⟩ : ∃ zc : Array Value, (n * esz = 0 ∧ zc = #[]) ∨ (¬ n * esz = 0 ∧ ∃ z, i.zero = some z ∧ zc = z.cells) := by
    by_cases hne : n * esz = 0
    · exact ⟨#[], .inl ⟨hne, rfl⟩⟩
    · rcases hzero with h0' | ⟨z, hz1, hz2⟩
      · simp [h0'] at hne
      · exact ⟨z.cells, .inr ⟨hne, z, hz1, rfl⟩⟩
  have hzsz : ((Array.range (n * esz)).map (zc[· % zc.size]!)).size = n * esz := by simp
  obtain ⟨vs', h3, h4, _, h6⟩ := fill_seq esz hs ps.toList ps' 0 es _ hel hes hz (by rw [hzsz, hn]; simp)
  have hrun : (execOp a.eval o).run P m.w = .ok (.value (.slice (some ⟨m.w.heap.size, 0, none⟩) n n)) (m.w.alloc (.cells vs' e)) := by
    simp only [execOp, hop, Instr.buildSlice, Sem.run_bind, run_underlying hu, Result.andThen_ok, sizeOf, typeInfo, run_program, hi, Sem.run_pure, hsz]
    simp only [show ¬ (n * esz > 2 ^ 24) from by omega, if_false, Sem.run_bind, Sem.run_pure, Result.andThen_ok]
    rcases hzc with ⟨h0', rfl⟩ | ⟨h0', z, hz1, rfl⟩
    · simp only [h0', if_true, Sem.run_bind, Sem.run_pure, Result.andThen_ok, Array.toList_map]
      rw [h0'] at h3
      rw [h3]
      rfl
    · simp only [h0', if_false, Sem.run_bind, Sem.run_pure, Result.andThen_ok, Array.toList_map, zeroValue, typeInfo, run_program, hi, hz1]
      rw [h3]
      rfl
  rw [hlen]
  exact do_row hm s esz n n es vs' e (Nat.pos_of_ne_zero h0) (Nat.le_refl _) (by rw [h4, hzsz]; exact Nat.le_refl _) hz (fun i cs hi' j c hj => by simpa using h6 i cs hi' j c hj) hrun
end
end Go.Eng
