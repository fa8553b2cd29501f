/-
  Loads, stores, make, slice expressions and the small ones.
-/
import Derived.Test.YtlkfmmfmefobnaaEngOps3
set_option linter.unusedSimpArgs false
set_option linter.unusedVariables false
set_option linter.unnecessarySimpa false
namespace Go.Eng
open Go.RowKit

section
variable {B : Nat} {S : Nat → Prop} {w0 : World} {m : M}
variable {P : Program} {num : Nat → Nat} {o : Oper} {a : Act} {ρ : Opd → AV}

theorem run_loadAt (t : TypeId) (agg : Bool) (n : Nat) (hagg : ∀ w, (isAgg t).run P w = .ok agg w) (hn : if agg then ∃ i, P.info? t = some i ∧ i.size = n else n = 1) (ad : Addr) (vs : List Value) (hl : vs.length = n) (w : World)
    (hc : ∀ q v, vs[q]? = some v → w.cell? (ad.add q) = some v) : (Instr.loadAt t (.pointer (some ad))).run P w = .ok (if agg then .agg vs.toArray else vs.getD 0 undef) w := by
  unfold Instr.loadAt loadVar
  simp only [Instr.sureAddr, Sem.run_bind, Sem.run_pure, Result.andThen_ok, hagg w]
  cases agg with
  | true =>
    simp only [if_true] at hn
    obtain ⟨i, hi, hs⟩ := hn
    have := run_loadCells_list (P := P) w ad vs hc
    simp [sizeOf, typeInfo, hi, hs, ← hl, this]
  | false =>
    simp only [Bool.false_eq_true, if_false] at hn ⊢
    have hlt : 0 < vs.length := by omega
    have h0 := hc 0 vs[0] (List.getElem?_eq_getElem hlt)
    have h0' : w.cell? ad = some vs[0] := by simpa [Addr.add] using h0
    simp [load, Sem.run, h0', hlt]

/-- the values of an own block -/
theorem own_cells (hm : MemOK B S w0 m) {s t i j n : Nat} {cs : List AV} (h : m.own.ldp s t i j n = some cs) : ∃ b g arr e, m.own.get s t = some b ∧ (0 < n → m.ν s t = some g ∧ m.w.heap[g]? = some (.cells arr e (0, 0))) ∧
    ∃ vs : List Value, vs.length = n ∧ CL B S m cs vs ∧ ∀ q v, vs[q]? = some v → arr[i * b.esz + j + q]? = some v := by
  unfold Own.ldp at h
  cases hb : m.own.get s t with
  | none => simp [hb] at h
  | some b =>
    simp only [hb] at h
    cases he : b.es[i]? with
    | none => simp [he] at h
    | some ds =>
      simp only [he, part] at h
      split at h
      · rename_i hle
        obtain rfl : (ds.drop j).take n = cs := by simpa using h
        obtain ⟨hz, hmat⟩ := hm.blk s t b hb
        cases hν : m.ν s t with
        | none =>
          rw [hν] at hmat
          rw [hmat] at he
          simp at he
        | some g =>
          rw [hν] at hmat
          obtain ⟨hB, arr, e, hh, hcc⟩ := hmat
          have hsz : ∀ q, q < n → ∃ u, arr[i * b.esz + j + q]? = some u := fun q hq => by
            have hlt : j + q < ds.length := by omega
            obtain ⟨u, hu, _⟩ := hcc i ds he (j + q) ds[j + q] (List.getElem?_eq_getElem hlt)
            exact ⟨u, by rw [← hu]; congr 1; omega⟩
          refine ⟨b, g, arr, e, rfl, fun _ => ⟨rfl, hh⟩, (arr.toList.drop (i * b.esz + j)).take n, ?_, ⟨?_, ?_⟩, ?_⟩
          · rw [List.length_take, List.length_drop]
            rcases Nat.eq_zero_or_pos n with h0 | h0
            · omega
            · obtain ⟨u, hu⟩ := hsz (n - 1) (by omega)
              have := (Array.getElem?_eq_some_iff.1 hu).1
              simp; omega
          · rw [List.length_take, List.length_take, List.length_drop, List.length_drop]
            rcases Nat.eq_zero_or_pos n with h0 | h0
            · omega
            · obtain ⟨u, hu⟩ := hsz (n - 1) (by omega)
              have := (Array.getElem?_eq_some_iff.1 hu).1
              simp; omega
          · intro q c v hq hv
            rw [List.getElem?_take] at hq hv
            split at hq
            · rename_i hqn
              rw [if_pos hqn] at hv
              rw [List.getElem?_drop] at hq hv
              obtain ⟨u, hu, hc⟩ := hcc i ds he (j + q) c hq
              have : some u = some v := by
                rw [← hu, ← hv]
                simp only [Array.getElem?_toList]
                congr 1; omega
              obtain rfl : u = v := by simpa using this
              exact hc
            · cases hq
          · intro q v hv
            rw [List.getElem?_take] at hv
            split at hv
            · rw [List.getElem?_drop] at hv
              simpa using hv
            · cases hv
      · cases h

theorem cell_at {w : World} {g p : Nat} {arr : Array Value} {e : TypeId} (h : w.heap[g]? = some (.cells arr e (0, 0))) : w.cell? ⟨g, p, none⟩ = arr[p]? := by
  simp [World.cell?, h]

theorem do_ld_ptr (hm : MemOK B S w0 m) (hs : Says B S m ρ a.eval) {agg : Bool} {n : Nat} {x' : Opd} (h : okOp P num o.op (.ld agg n x') = true) {s t i j : Nat} {cs : List AV} {v : AV} (hx : ρ x' = .ptr s t i j) (hl : m.own.ldp s t i j n = some cs) (hv : ofCells agg cs = some v) :
    Does B S w0 P o a m (.val v) := by
  obtain ⟨ty, x, hop, h1, hagg, hn⟩ := inv_ld h
  obtain ⟨ad, hev, ht, hb⟩ := cv_ptr (hx ▸ hs x x' h1)
  obtain ⟨b, g, arr, e, hget, hg, vs, hvl, hcl, hvs⟩ := own_cells hm hl
  obtain ⟨hcv, _⟩ := ofCells_ok hv hcl
  refine does_val hm ?_ hcv
  simp only [execOp, hop, Sem.run_bind, hev]
  rw [run_loadAt ty agg n hagg hn ad vs hvl m.w (fun q u hq => ?_)]
  · rfl
  · have hlt : q < vs.length := (List.getElem?_eq_some_iff.1 hq).1
    obtain ⟨hg1, hg2⟩ := hg (by omega)
    obtain ⟨g', hg', rfl⟩ := hb b hget
    obtain rfl : g = g' := by rw [hg1] at hg'; simpa using hg'
    rw [add_none, cell_at hg2]
    exact hvs q u hq

theorem do_ld_dptr (hm : MemOK B S w0 m) (hs : Says B S m ρ a.eval) {agg : Bool} {n : Nat} {x' : Opd} (h : okOp P num o.op (.ld agg n x') = true) {cs ds : List AV} {v : AV} (hx : ρ x' = .dptr cs) (hl : part cs 0 n = some ds) (hv : ofCells agg ds = some v) :
    Does B S w0 P o a m (.val v) := by
  obtain ⟨ty, x, hop, h1, hagg, hn⟩ := inv_ld h
  obtain ⟨b, ob, u, l, hev, hR, hc, hr⟩ := cv_dptr (hx ▸ hs x x' h1)
  unfold Eng.part at hl
  split at hl
  · rename_i hle
    obtain rfl : (cs.drop 0).take n = ds := by simpa using hl
    have hcl : CL B S m ((cs.drop 0).take n) ((List.range n).map u) := by
      refine ⟨by simp; omega, fun q c v' hq hv' => ?_⟩
      simp only [List.drop_zero, List.getElem?_take] at hq
      split at hq
      · rename_i hqn
        simp [hqn] at hv'
        subst hv'
        exact .rd (hr q c hq)
      · cases hq
    obtain ⟨hcv, _⟩ := ofCells_ok hv hcl
    refine does_val hm ?_ hcv
    simp only [execOp, hop, Sem.run_bind, hev]
    rw [run_loadAt ty agg n hagg hn ⟨b, ob, none⟩ ((List.range n).map u) (by simp) m.w (fun q w' hq => ?_)]
    · rfl
    · have hqn : q < n := by have := (List.getElem?_eq_some_iff.1 hq).1; simpa using this
      simp [hqn] at hq
      subst hq
      rw [add_none]
      exact hc q cs[q] (List.getElem?_eq_getElem (by omega))
  · cases hl

theorem splice_get {α : Type} (l : List α) (off : Nat) (vs : List α) (h : off + vs.length ≤ l.length) (q : Nat) : (l.take off ++ vs ++ l.drop (off + vs.length))[q]? = if q < off then l[q]? else if q < off + vs.length then vs[q - off]? else l[q]? := by
  rw [List.append_assoc]
  by_cases h1 : q < off
  · rw [if_pos h1, List.getElem?_append_left (by simp; omega), List.getElem?_take, if_pos h1]
  · rw [if_neg h1, List.getElem?_append_right (by simp; omega)]
    have e1 : (l.take off).length = off := by simp; omega
    rw [e1]
    by_cases h2 : q < off + vs.length
    · rw [if_pos h2, List.getElem?_append_left (by omega)]
    · rw [if_neg h2, List.getElem?_append_right (by omega), List.getElem?_drop]
      congr 1; omega

theorem below_setRow (hm : MemOK B S w0 m) {g : Nat} (hB : B ≤ g) (arr : Array Value) : Below B w0 (m.w.setRow g arr) :=
  hm.below.trans ⟨rfl, rfl, rfl, by simp, fun k hk => setRow_other _ _ _ _ (by omega)⟩

theorem do_st (hm : MemOK B S w0 m) (hs : Says B S m ρ a.eval) {n : Nat} {x' v' : Opd} (h : okOp P num o.op (.st n x' v') = true) {s t i j : Nat} {vs : List AV} {own' : Own} (hx : ρ x' = .ptr s t i j) (hv : cellsOf (ρ v') = some vs) (hn : vs.length = n) (hst : m.own.stp s t i j vs = some own') :
    Does B S w0 P o a m (.tur (.tup []) own') := by
  obtain ⟨ty, x, v, inf, hop, h1, h2, hi, hsz⟩ := inv_st h
  obtain ⟨ad, hev, ht, hb⟩ := cv_ptr (hx ▸ hs x x' h1)
  have hcl := cv_cells (hs v v' h2) hv
  unfold Own.stp at hst
  cases hget : m.own.get s t with
  | none => simp [hget] at hst
  | some b =>
    simp only [hget] at hst
    cases he : b.es[i]? with
    | none => simp [he] at hst
    | some cs =>
      simp only [he] at hst
      split at hst
      · rename_i hle
        obtain rfl := Option.some.inj hst
        obtain ⟨hz, hmat⟩ := hm.blk s t b hget
        obtain ⟨g, hg, rfl⟩ := hb b hget
        rw [hg] at hmat
        obtain ⟨hB, arr, e, hh, hcc⟩ := hmat
        have hcsl : cs.length = b.esz := hz cs (List.mem_of_getElem? he)
        have hlen : (a.eval v).cells.toList.length = vs.length := hcl.1.symm
        have hil : i < b.es.length := (List.getElem?_eq_some_iff.1 he).1
        have hoff : i * b.esz + j + vs.length ≤ arr.size := by
          rcases Nat.eq_zero_or_pos vs.length with h0 | h0
          · rcases Nat.eq_zero_or_pos j with hj0 | hj0
            · rw [h0, hj0]
              rcases Nat.eq_zero_or_pos i with hi0 | hi0
              · rw [hi0]; omega
              · rcases Nat.eq_zero_or_pos b.esz with hz0 | hz0
                · rw [hz0]; omega
                · have hi1 : i - 1 < b.es.length := by omega
                  have hl1 : (b.es[i - 1]).length = b.esz := hz _ (List.getElem_mem hi1)
                  obtain ⟨u, hu, _⟩ := hcc (i - 1) _ (List.getElem?_eq_getElem hi1) (b.esz - 1) _ (List.getElem?_eq_getElem (by omega))
                  have := (Array.getElem?_eq_some_iff.1 hu).1
                  have e1 : (i - 1) * b.esz + b.esz = i * b.esz := by
                    rw [← Nat.succ_mul]; congr 1; omega
                  omega
            · obtain ⟨u, hu, _⟩ := hcc i cs he (j - 1) cs[j - 1] (List.getElem?_eq_getElem (by omega))
              have := (Array.getElem?_eq_some_iff.1 hu).1
              omega
          · obtain ⟨u, hu, _⟩ := hcc i cs he (j + vs.length - 1) cs[j + vs.length - 1] (List.getElem?_eq_getElem (by omega))
            have := (Array.getElem?_eq_some_iff.1 hu).1
            omega
        have hone := cl_one hcl
        have hstore := run_storeCells_at (P := P) g (i * b.esz + j) e (a.eval v).cells.toList 0 arr m.w hh (by rw [hlen]; omega) hone
        generalize harr' : (arr.toList.take (i * b.esz + j + 0) ++ (a.eval v).cells.toList ++ arr.toList.drop (i * b.esz + j + 0 + (a.eval v).cells.toList.length)).toArray = arr' at hstore
        have harrg : ∀ p, arr'[p]? = if p < i * b.esz + j then arr[p]? else if p < i * b.esz + j + vs.length then (a.eval v).cells.toList[p - (i * b.esz + j)]? else arr[p]? := fun p => by
          rw [← harr']
          simp only [Nat.add_zero, List.getElem?_toArray]
          rw [splice_get _ _ _ (by rw [hlen]; simpa using hoff), hlen]
          simp only [Array.getElem?_toList]
        have hsize' : arr'.size = arr.size := by
          rw [← harr']
          simp [hlen]
          have := hlen
          simp at this
          omega
        obtain ⟨k1, k2⟩ := upd_ok hm s t b ⟨b.esz, b.es.set i (splice cs j vs)⟩ hget g hg arr arr' e hh rfl (fun y hy => by
            rcases List.mem_or_eq_of_mem_set hy with hy | hy
            · exact hz y hy
            · rw [hy, ← hcsl]; simp [splice]; omega) hsize'
          (fun i' cs' hi' q c hq => by
            show ∃ u, arr'[i' * b.esz + q]? = some u ∧ _
            change (b.es.set i (splice cs j vs))[i']? = some cs' at hi'
            by_cases hii : i' = i
            · subst hii
              rw [List.getElem?_set_self hil] at hi'
              obtain rfl : splice cs j vs = cs' := by simpa using hi'
              unfold splice at hq
              rw [splice_get _ _ _ hle] at hq
              rw [harrg]
              by_cases hq1 : q < j
              · rw [if_pos hq1] at hq
                rw [if_pos (by omega)]
                exact hcc i' cs he q c hq
              · rw [if_neg hq1] at hq
                rw [if_neg (by omega)]
                by_cases hq2 : q < j + vs.length
                · rw [if_pos hq2] at hq
                  rw [if_pos (by omega)]
                  obtain ⟨u, hu, hcu⟩ := cl_get hcl hq
                  exact ⟨u, by rw [← hu]; congr 1; omega, hcu⟩
                · rw [if_neg hq2] at hq
                  rw [if_neg (by omega)]
                  exact hcc i' cs he q c hq
            · rw [List.getElem?_set_ne (by omega)] at hi'
              have hql : q < b.esz := by
                rw [← hz cs' (List.mem_of_getElem? hi')]
                exact (List.getElem?_eq_some_iff.1 hq).1
              obtain ⟨u, hu, hcu⟩ := hcc i' cs' hi' q c hq
              refine ⟨u, ?_, hcu⟩
              rw [harrg, ← hu]
              rcases Nat.lt_or_gt_of_ne hii with hlt | hgt
              · have : (i' + 1) * b.esz ≤ i * b.esz := Nat.mul_le_mul_right _ hlt
                rw [Nat.succ_mul] at this
                rw [if_pos (by omega)]
              · have : (i + 1) * b.esz ≤ i' * b.esz := Nat.mul_le_mul_right _ hgt
                rw [Nat.succ_mul] at this
                rw [if_neg (by omega), if_neg (by omega)])
          (m.w.setRow g arr') (below_setRow hm hB arr') (by simp) (fun k hk => setRow_other _ _ _ _ hk) (setRow_heap _ _ _ _ _ _ hh)
        intro K Q hK
        refine wp_of_run_skip (w' := m.w.setRow g arr') ?_ (hK undef ⟨m.ν, _, m.w.setRow g arr'⟩ rfl k1 k2 mkUndef)
        have hsz' : (a.eval v).cells.size = inf.size := by rw [hsz, ← hn, ← hlen]; simp
        simp only [execOp, hop, hev, Instr.storeAt, storeVar, Instr.sureAddr, Sem.run_bind, Sem.run_pure, Result.andThen_ok, sizeOf, typeInfo, run_program, hi]
        rw [if_neg (by simpa using hsz')]
        simp only [Sem.run_bind, Sem.run_pure, Result.andThen_ok, hstore]
      · cases hst

theorem do_mk (hm : MemOK B S w0 m) (hs : Says B S m ρ a.eval) {s esz bytes : Nat} {zero : List AV} {l' c' : Opd} (h : okOp P num o.op (.mk s esz bytes zero l' c') = true) {kl kc : IntKind} {l c : Int} (hl : ρ l' = .int kl l) (hc : ρ c' = .int kc c) (h0 : 0 ≤ l) (hlc : l ≤ c) (hb : c * bytes ≤ roomMax) (h63 : c ≤ 9223372036854775807) (hz : zero.length = esz) :
    Does B S w0 P o a m (.new s ⟨esz, List.replicate l.toNat zero⟩ (fun t => .row s t esz 0 l.toNat)) := by
  obtain ⟨ty, lx, cx, e, inf, z, hop, h1, h2, hu, hi, hsz, hby, hz0, hzz, hne⟩ := inv_mk h
  have el := cv_int (hl ▸ hs lx l' h1)
  have ec := cv_int (hc ▸ hs cx c' h2)
  have hcl : CL B S m zero z.cells.toList := eqVals_cl hzz
  have hzs : z.cells.size = esz := by rw [← hz, hcl.1]; simp
  refine do_row hm s esz l.toNat c.toNat _ (madeCells z.cells (c.toNat * inf.size)) e (Nat.pos_of_ne_zero hne) (by omega) (by rw [size_madeCells, hsz]; exact Nat.le_refl _) (fun x hx => by rw [(List.mem_replicate.1 hx).2, hz]) (fun i cs hi' j c1 hj => ?_) ?_
  · rw [List.getElem?_replicate] at hi'
    split at hi'
    · rename_i hil
      obtain rfl : zero = cs := by simpa using hi'
      obtain ⟨u, hu', hcu⟩ := cl_get hcl hj
      refine ⟨u, ?_, hcu⟩
      have hjl : j < esz := by rw [← hz]; exact (List.getElem?_eq_some_iff.1 hj).1
      have hlt : i * esz + j < c.toNat * inf.size := by
        rw [hsz]
        have h3 : (i + 1) * esz ≤ c.toNat * esz := Nat.mul_le_mul_right _ (by omega)
        rw [Nat.succ_mul] at h3
        omega
      have hmod : (i * esz + j) % z.cells.size = j := by rw [hzs, Nat.add_comm, Nat.add_mul_mod_self_right, Nat.mod_eq_of_lt hjl]
      have hu2 : z.cells[j]? = some u := by simpa using hu'
      have hjs : j < z.cells.size := (Array.getElem?_eq_some_iff.1 hu2).1
      have hul : z.cells[j] = u := (Array.getElem?_eq_some_iff.1 hu2).2
      simp [madeCells, hlt, hmod, hjs, hul]
    · cases hi'
  · have := run_make (P := P) m.w ty e inf z hu hi hz0 kl kc l c h0 hlc (by rw [hby, Int.mul_comm]; simp only [roomMax] at hb; omega) h63
    simp only [execOp, hop, el, ec, Sem.run_bind, this, Result.andThen_ok, Sem.run_pure]

theorem do_ext (hm : MemOK B S w0 m) (hs : Says B S m ρ a.eval) {x' : Opd} {i : Nat} (h : okOp P num o.op (.ext x' i) = true) {vs : List AV} {v : AV} (hx : ρ x' = .tup vs) (hv : vs[i]? = some v) : Does B S w0 P o a m (.val v) := by
  obtain ⟨x, hop, h1⟩ := inv_ext h
  obtain ⟨us, hev, hl, hc⟩ := cv_tup (hx ▸ hs x x' h1)
  have hlt : i < us.length := by rw [← hl]; exact (List.getElem?_eq_some_iff.1 hv).1
  refine does_val hm (u := us[i]) ?_ (.ca (hc i v us[i] hv (List.getElem?_eq_getElem hlt)))
  simp [execOp, hop, hev, Instr.extract, hlt]

theorem do_len (hm : MemOK B S w0 m) (hs : Says B S m ρ a.eval) {x' : Opd} (h : okOp P num o.op (.len x') = true) {n : Nat} (hx : lenOf (ρ x') = some n) : Does B S w0 P o a m (.val (.int .i64 n)) := by
  obtain ⟨x, t, e, hop, h1, hu⟩ := inv_len h
  have hcv := hs x x' h1
  obtain ⟨ad, cap, hev⟩ : ∃ ad cap, a.eval x = .slice ad n cap := by
    generalize ρ x' = av at *
    cases av with
    | sl l es =>
      have hr := cv_sl hcv
      simp only [lenOf, Option.some.injEq] at hx
      subst hx
      generalize a.eval x = v at *
      cases hr with
      | sl0 => exact ⟨_, _, rfl⟩
      | sl => exact ⟨_, _, rfl⟩
    | row s t z off len =>
      obtain ⟨ad, cap, hv, _⟩ := cv_row hcv
      simp only [lenOf, Option.some.injEq] at hx
      subst hx
      exact ⟨ad, cap, hv⟩
    | nil =>
      simp only [lenOf, Option.some.injEq] at hx
      subst hx
      exact ⟨_, _, cv_nil hcv⟩
    | _ => simp [lenOf] at hx
  refine does_val hm (u := .int .i64 n) ?_ (mkInt _ _)
  simp [execOp, hop, resolve, invoke, builtin, hev, Builtin.len_, run_underlying hu, goInt]

theorem eqOpds_says (hs : Says B S m ρ a.eval) : ∀ {xs : List Operand} {ys : List Opd}, eqOpds xs ys = true → xs.length = ys.length ∧ ∀ (j : Nat) (x : Operand) (y : Opd), xs[j]? = some x → ys[j]? = some y → CV B S m (ρ y) (a.eval x)
  | [], [], _ => ⟨rfl, fun j x y h => by simp at h⟩
  | x :: r, y :: l, h => by
    simp only [eqOpds, Bool.and_eq_true] at h
    obtain ⟨ih1, ih2⟩ := eqOpds_says hs h.2
    refine ⟨by simp [ih1], fun j x' y' hx hy => ?_⟩
    cases j with
    | zero => simp at hx hy; subst hx hy; exact hs _ _ h.1
    | succ j => exact ih2 j x' y' (by simpa using hx) (by simpa using hy)
  | [], _ :: _, h => by simp [eqOpds] at h
  | _ :: _, [], h => by simp [eqOpds] at h

theorem run_mm (mx : Bool) (hs : Says B S m ρ a.eval) (w : World) : ∀ (xs : List Operand) (ys : List Opd) (v : AV) (u : Value) (r : AV), eqOpds xs ys = true → CV B S m v u → mmL mx v (ys.map ρ) = some r → (∃ k n, v = .int k n) → ∃ k n, r = .int k n ∧
    ((xs.map a.eval).foldlM (if mx then Builtin.max2 else Builtin.min2) u).run P w = .ok (.int k n) w
  | [], [], v, u, r, _, hc, hm, ⟨k, n, hv⟩ => by
    simp only [List.map_nil, mmL, Option.some.injEq] at hm
    subst hm hv
    obtain rfl := cv_int hc
    exact ⟨k, n, rfl, by simp⟩
  | x :: xr, y :: yr, v, u, r, he, hc, hm, ⟨k, n, hv⟩ => by
    simp only [eqOpds, Bool.and_eq_true] at he
    simp only [List.map_cons, mmL] at hm
    have hx := hs x y he.1
    subst hv
    obtain rfl := cv_int hc
    cases hy : ρ y with
    | int k' n' =>
      rw [hy] at hx hm
      have hxe := cv_int hx
      simp only [mm2] at hm
      obtain ⟨k2, n2, rfl, h2⟩ := run_mm mx hs w xr yr _ (.int k (if mx then (if n' > n then n' else n) else (if n' < n then n' else n))) r he.2 (mkInt _ _) hm ⟨_, _, rfl⟩
      refine ⟨k2, n2, rfl, ?_⟩
      simp only [List.map_cons, List.foldlM_cons, Sem.run_bind, hxe]
      cases mx
      · simpa [Builtin.min2] using h2
      · simpa [Builtin.max2] using h2
    | _ => rw [hy] at hm; simp [mm2] at hm
  | [], _ :: _, _, _, _, he, _, _, _ => by simp [eqOpds] at he
  | _ :: _, [], _, _, _, he, _, _, _ => by simp [eqOpds] at he

theorem do_mm (hm : MemOK B S w0 m) (hs : Says B S m ρ a.eval) {mx : Bool} {xs' : List Opd} (h : okOp P num o.op (.mm mx xs') = true) {v r : AV} {l : List AV} (hx : xs'.map ρ = v :: l) (hv : mmL mx v l = some r) (hi : ∃ k n, v = .int k n) : Does B S w0 P o a m (.val r) := by
  obtain ⟨xs, ts, hop, he⟩ := inv_mm h
  cases xs' with
  | nil => simp at hx
  | cons y yr =>
    simp only [List.map_cons, List.cons.injEq] at hx
    obtain ⟨rfl, rfl⟩ := hx
    obtain ⟨xl⟩ := xs
    cases xl with
    | nil => simp [eqOpds] at he
    | cons x xr =>
      simp only [eqOpds, Bool.and_eq_true] at he
      obtain ⟨k, n, rfl, hrun⟩ := run_mm (P := P) mx hs m.w xr yr (ρ y) (a.eval x) r he.2 (hs x y he.1) hv hi
      refine does_val hm (u := .int k n) ?_ (mkInt _ _)
      cases mx
      · simp only [execOp, hop, resolve, invoke, builtin, Builtin.min_, Sem.run_bind, Sem.run_pure, Result.andThen_ok] at hrun ⊢
        simp at hrun ⊢
        rw [hrun]
        rfl
      · simp only [execOp, hop, resolve, invoke, builtin, Builtin.max_, Sem.run_bind, Sem.run_pure, Result.andThen_ok] at hrun ⊢
        simp at hrun ⊢
        rw [hrun]
        rfl
end
end Go.Eng
