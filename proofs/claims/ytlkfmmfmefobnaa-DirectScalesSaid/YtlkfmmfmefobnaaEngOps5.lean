/-
  Slice expressions, append, copy.
-/
import Derived.Test.YtlkfmmfmefobnaaEngOps4
import Derived.Laws.Slices
set_option linter.unusedSimpArgs false
set_option linter.unusedVariables false
set_option linter.unnecessarySimpa false
namespace Go.Eng
open Go.RowKit

section
variable {B : Nat} {S : Nat → Prop} {w0 : World} {m : M}
variable {P : Program} {num : Nat → Nat} {o : Oper} {a : Act} {ρ : Opd → AV}

/-- a bound of a slice expression, as the abstract machine reads it -/
def bndA (ρ : Opd → AV) (d : Nat) : Option Opd → Option Int
  | none => some d
  | some y => match ρ y with | .int _ n => some n | _ => none

theorem run_slc (ty e : TypeId) (inf : TypeInfo) (hu : P.underlying ty = some (.slice e)) (hi : P.info? e = some inf) (hs : Says B S m ρ a.eval) {lo hi' : Option Operand} {lo' hi'' : Option Opd} (hlo : eqOpt lo lo' = true) (hhi : eqOpt hi' hi'' = true)
    (ad : Option Addr) (len cap : Nat) (l h : Int) (hl : bndA ρ 0 lo' = some l) (hh : bndA ρ len hi'' = some h) (h0 : 0 ≤ l) (hlh : l ≤ h) (hhl : h ≤ len) (hlc : len ≤ cap) (w : World) :
    (Instr.sliceAt ty (.slice ad len cap) (lo.map a.eval) (hi'.map a.eval) none).run P w = .ok (.slice (if cap = l.toNat then ad else ad.map (·.add (l.toNat * inf.size))) (h.toNat - l.toNat) (cap - l.toNat)) w := by
  have hiv : ∀ {x : Option Operand} {y : Option Opd} {d : Nat} {n : Int}, eqOpt x y = true → bndA ρ d y = some n → (x = none ∧ y = none ∧ n = d) ∨ ∃ x' k, x = some x' ∧ a.eval x' = .int k n := by
    intro x y d n hxy hb
    cases x with
    | none => cases y with
      | none => simp [bndA] at hb; exact .inl ⟨rfl, rfl, hb.symm⟩
      | some y => simp [eqOpt] at hxy
    | some x => cases y with
      | none => simp [eqOpt] at hxy
      | some y =>
        simp only [eqOpt] at hxy
        simp only [bndA] at hb
        cases hy : ρ y with
        | int k q =>
          rw [hy] at hb
          simp only [Option.some.injEq] at hb
          subst hb
          exact .inr ⟨x, k, rfl, cv_int (hy ▸ hs x y hxy)⟩
        | _ => rw [hy] at hb; cases hb
  have hcapb : h ≤ (cap : Int) := by omega
  unfold Instr.sliceAt Instr.slice Instr.sliceBounds
  rcases hiv hlo hl with ⟨rfl, _, rfl⟩ | ⟨x1, k1, rfl, e1⟩ <;> rcases hiv hhi hh with ⟨rfl, _, rfl⟩ | ⟨x2, k2, rfl, e2⟩
  · simp [run_underlying hu, sizeOf, typeInfo, hi]
  · have hb1 := run_sliceBound (P := P) w k2 h cap .sliceAcap (by omega) hcapb
    simp [run_underlying hu, sizeOf, typeInfo, hi, e2, hb1]
  · have hb2 := run_sliceBound (P := P) w k1 l len .sliceB h0 (by omega)
    simp [run_underlying hu, sizeOf, typeInfo, hi, e1, hb2]
  · have hb1 := run_sliceBound (P := P) w k2 h cap .sliceAcap (by omega) hcapb
    have hb2 := run_sliceBound (P := P) w k1 l h.toNat .sliceB h0 (by omega)
    simp [run_underlying hu, sizeOf, typeInfo, hi, e1, e2, hb1, hb2]

theorem do_slc_nil (hm : MemOK B S w0 m) (hs : Says B S m ρ a.eval) {esz : Nat} {x' : Opd} {lo' hi' : Option Opd} (h : okOp P num o.op (.slc esz x' lo' hi') = true) (hx : ρ x' = .nil) (hl : bndA ρ 0 lo' = some 0) (hh : bndA ρ 0 hi' = some 0) : Does B S w0 P o a m (.val .nil) := by
  obtain ⟨ty, x, lo, hi2, e, inf, hop, h1, h2, h3, hu, hi, hsz, hne⟩ := inv_slc h
  have hev := cv_nil (hx ▸ hs x x' h1)
  have hrun := run_slc ty e inf hu hi hs h2 h3 none 0 0 0 0 hl hh (by omega) (by omega) (by omega) (by omega) m.w
  refine does_val hm (u := .slice none 0 0) ?_ (.ca (.one .nil))
  simp only [execOp, hop, hev, Sem.run_bind, Option.map_none, hrun]
  rfl

theorem do_slc_row (hm : MemOK B S w0 m) (hs : Says B S m ρ a.eval) {esz : Nat} {x' : Opd} {lo' hi' : Option Opd} (h : okOp P num o.op (.slc esz x' lo' hi') = true) {s t z off len : Nat} {l u : Int} (hx : ρ x' = .row s t z off len) (hl : bndA ρ 0 lo' = some l) (hh : bndA ρ len hi' = some u) (h0 : 0 ≤ l) (hlu : l ≤ u) (hul : u ≤ len) (hz : z = esz) :
    Does B S w0 P o a m (.val (.row s t z (off + l.toNat) (u.toNat - l.toNat))) := by
  obtain ⟨ty, x, lo, hi2, e, inf, hop, h1, h2, h3, hu, hi, hsz, hne⟩ := inv_slc h
  obtain ⟨ad, cap, hev, ht, hz0, hlc, ha, hb⟩ := cv_row (hx ▸ hs x x' h1)
  have hrun := run_slc ty e inf hu hi hs h2 h3 ad len cap l u hl hh h0 hlu hul hlc m.w
  refine does_val hm ?_ (.ca (.one (.row s t z (off + l.toNat) (u.toNat - l.toNat) (if cap = l.toNat then ad else ad.map (·.add (l.toNat * inf.size))) (cap - l.toNat) ht hz0 (by omega) (fun hp => ?_) fun b hb' => ?_)))
  · simp only [execOp, hop, hev, Sem.run_bind, Option.map_none, hrun]
    rfl
  · rw [if_neg (by omega)]
    obtain ⟨ad', rfl⟩ := Option.isSome_iff_exists.1 (ha (by omega))
    rfl
  · obtain ⟨hbz, hor⟩ := hb b hb'
    refine ⟨hbz, ?_⟩
    rcases hor with ⟨hl0, hc0⟩ | ⟨g, arr, e', hg, hae, hh', hle⟩
    · exact .inl ⟨by omega, by omega⟩
    · by_cases hc : cap = l.toNat
      · exact .inl ⟨by omega, by omega⟩
      · refine .inr ⟨g, arr, e', hg, ?_, hh', ?_⟩
        · rw [if_neg hc, hae, hsz, hz]
          simp only [Option.map_some, add_none, Nat.add_mul]
        · rw [show off + l.toNat + (cap - l.toNat) = off + cap by omega]
          exact hle

theorem do_slc_sl (hm : MemOK B S w0 m) (hs : Says B S m ρ a.eval) {esz : Nat} {x' : Opd} {lo' hi' : Option Opd} (h : okOp P num o.op (.slc esz x' lo' hi') = true) {lt : Bool} {es : List (List AV)} {l u : Int} (hx : ρ x' = .sl lt es) (hl : bndA ρ 0 lo' = some l) (hh : bndA ρ es.length hi' = some u) (h0 : 0 ≤ l) (hlu : l ≤ u) (hul : u ≤ es.length) (hz : ∀ e ∈ es, e.length = esz) :
    Does B S w0 P o a m (.val (.sl lt ((es.take u.toNat).drop l.toNat))) := by
  obtain ⟨ty, x, lo, hi2, e, inf, hop, h1, h2, h3, hu, hi, hsz, hne⟩ := inv_slc h
  have hrd := cv_sl (hx ▸ hs x x' h1)
  generalize hev : a.eval x = v at hrd
  cases hrd with
  | sl0 _ ad cap =>
    have hrun := run_slc ty e inf hu hi hs h2 h3 ad 0 cap l u hl hh h0 hlu (by simpa using hul) (by omega) m.w
    simp only [List.length_nil] at hul
    rw [show (([] : List (List AV)).take u.toNat).drop l.toNat = [] by simp]
    refine does_val hm (u := .slice (if cap = l.toNat then ad else ad.map (·.add (l.toNat * inf.size))) 0 (cap - l.toNat)) ?_ (.ca (.one (.rd (.sl0 lt _ _))))
    simp only [execOp, hop, hev, Sem.run_bind, Option.map_none, hrun]
    rw [show u.toNat - l.toNat = 0 by omega]
    rfl
  | sl _ _ b ob esz' cap uu hne' hp hR hcap hzz hc hr =>
    have hrun := run_slc ty e inf hu hi hs h2 h3 (some ⟨b, ob, none⟩) es.length cap l u hl hh h0 hlu hul hcap m.w
    have hze : esz' = esz := by
      cases es with
      | nil => exact absurd rfl hne'
      | cons q r => rw [← hzz q (by simp), hz q (by simp)]
    subst hze
    by_cases hz0 : u.toNat - l.toNat = 0
    · have : (es.take u.toNat).drop l.toNat = [] := by
        apply List.eq_nil_of_length_eq_zero
        simp; omega
      rw [this]
      refine does_val hm (u := .slice (if cap = l.toNat then some ⟨b, ob, none⟩ else (some (⟨b, ob, none⟩ : Addr)).map (·.add (l.toNat * inf.size))) 0 (cap - l.toNat)) ?_ (.ca (.one (.rd (Rd.sl0 lt _ _))))
      simp only [execOp, hop, hev, Sem.run_bind, Option.map_none, hrun]
      rw [hz0]
      rfl
    · have hlen : ((es.take u.toNat).drop l.toNat).length = u.toNat - l.toNat := by simp; omega
      have hget : ∀ i, i < u.toNat - l.toNat → ((es.take u.toNat).drop l.toNat)[i]? = es[l.toNat + i]? := fun i hi' => by
        rw [List.getElem?_drop, List.getElem?_take, if_pos (by omega)]
      refine does_val hm (u := .slice (some ⟨b, ob + l.toNat * esz', none⟩) ((es.take u.toNat).drop l.toNat).length (cap - l.toNat)) ?_ (.ca (.one (.rd (.sl lt _ b (ob + l.toNat * esz') esz' (cap - l.toNat) (fun i j => uu (l.toNat + i) j) (fun e => hz0 (by rw [← hlen, e]; rfl)) hp hR (by rw [hlen]; omega) (fun q hq => hzz q (List.mem_of_mem_take (List.mem_of_mem_drop hq))) (fun i q hi' j c hj => ?_) (fun i q hi' j c hj => ?_)))))
      · simp only [execOp, hop, hev, Sem.run_bind, Option.map_none, hrun]
        rw [if_neg (by omega), hlen, hsz]
        simp only [Option.map_some, add_none]
        rfl
      · have hil : i < u.toNat - l.toNat := by rw [← hlen]; exact (List.getElem?_eq_some_iff.1 hi').1
        rw [hget i hil] at hi'
        rw [show ob + l.toNat * esz' + (i * esz' + j) = ob + ((l.toNat + i) * esz' + j) by rw [Nat.add_mul]; omega]
        exact hc _ q hi' j c hj
      · have hil : i < u.toNat - l.toNat := by rw [← hlen]; exact (List.getElem?_eq_some_iff.1 hi').1
        rw [hget i hil] at hi'
        exact hr _ q hi' j c hj

/-- the cells of a slice whose elements are known -/
structure Elems (B : Nat) (S : Nat → Prop) (m : M) (esz : Nat) (ys : List (List AV)) (ad : Option Addr) (news : List Value) : Prop where
  len : news.length = ys.length * esz
  cells : ∀ b, ad = some b → ∀ j v, news[j]? = some v → m.w.cell? (b.add j) = some v
  some_ : ys ≠ [] → ad.isSome = true
  rel : ∀ i cs, ys[i]? = some cs → ∀ j c, cs[j]? = some c → ∃ u, news[i * esz + j]? = some u ∧ CC B S m c u

theorem div_mod_at (esz i j : Nat) (h : j < esz) : (i * esz + j) / esz = i ∧ (i * esz + j) % esz = j := by
  constructor
  · rw [Nat.add_comm, Nat.add_mul_div_right _ _ (by omega), Nat.div_eq_of_lt h, Nat.zero_add]
  · rw [Nat.add_comm, Nat.add_mul_mod_self_right, Nat.mod_eq_of_lt h]

theorem elems_of (hm : MemOK B S w0 m) {av : AV} {v : Value} (hc : CV B S m av v) {ys : List (List AV)} (he : elemsOf m.own av = some ys) {esz : Nat} (hz : ∀ e ∈ ys, e.length = esz) (h0 : 0 < esz) :
    ∃ ad cap news, v = .slice ad ys.length cap ∧ Elems B S m esz ys ad news := by
  cases av with
  | sl l es =>
    simp only [elemsOf, Option.some.injEq] at he
    subst he
    cases cv_sl hc with
    | sl0 _ ad cap => exact ⟨ad, cap, [], rfl, by simp, fun b _ j v hv => by simp at hv, fun h => absurd rfl h, fun i cs hi => by simp at hi⟩
    | sl _ _ b ob esz' cap uu hne' hp hR hcap hzz hcl hr =>
      have hze : esz' = esz := by
        cases es with
        | nil => exact absurd rfl hne'
        | cons q r => rw [← hzz q (by simp), hz q (by simp)]
      subst hze
      refine ⟨some ⟨b, ob, none⟩, cap, (List.range (es.length * esz')).map (fun k => uu (k / esz') (k % esz')), rfl, by simp, fun b' hb' j v hv => ?_, fun _ => rfl, fun i cs hi j c hj => ?_⟩
      · obtain rfl : (⟨b, ob, none⟩ : Addr) = b' := by simpa using hb'
        rw [List.getElem?_map] at hv
        have hjl : j < es.length * esz' := by
          rcases Nat.lt_or_ge j (es.length * esz') with h | h
          · exact h
          · rw [List.getElem?_eq_none (by simpa using h)] at hv; cases hv
        rw [List.getElem?_range hjl] at hv
        simp only [Option.map_some, Option.some.injEq] at hv
        subst hv
        have hd : j / esz' < es.length := Nat.div_lt_of_lt_mul (by rw [Nat.mul_comm]; exact hjl)
        have hmo : j % esz' < esz' := Nat.mod_lt _ h0
        have hel : (es[j / esz']).length = esz' := hzz _ (List.getElem_mem hd)
        have := hcl (j / esz') _ (List.getElem?_eq_getElem hd) (j % esz') _ (List.getElem?_eq_getElem (by rw [hel]; exact hmo))
        rw [add_none, ← this]
        congr 2
        have := Nat.div_add_mod j esz'
        rw [Nat.mul_comm] at this
        omega
      · have hjl : j < esz' := by rw [← hzz cs (List.mem_of_getElem? hi)]; exact (List.getElem?_eq_some_iff.1 hj).1
        have hil : i < es.length := (List.getElem?_eq_some_iff.1 hi).1
        have hlt : i * esz' + j < es.length * esz' := by
          have : (i + 1) * esz' ≤ es.length * esz' := Nat.mul_le_mul_right _ hil
          rw [Nat.succ_mul] at this
          omega
        obtain ⟨e1, e2⟩ := div_mod_at esz' i j hjl
        refine ⟨uu i j, ?_, .rd (hr i cs hi j c hj)⟩
        rw [List.getElem?_map, List.getElem?_range hlt]
        simp [e1, e2]
  | nil =>
    simp only [elemsOf, Option.some.injEq] at he
    subst he
    exact ⟨none, 0, [], cv_nil hc, by simp, fun b hb => (by cases hb), fun h => absurd rfl h, fun i cs hi => by simp at hi⟩
  | row s t z off len =>
    obtain ⟨ad, cap, hv, ht, hz0, hlc, ha, hb⟩ := cv_row hc
    simp only [elemsOf] at he
    cases hget : m.own.get s t with
    | none => simp [hget] at he
    | some b =>
      simp only [hget] at he
      split at he
      · rename_i hle
        obtain ⟨hle, hbz⟩ := hle
        obtain rfl := Option.some.inj he
        have hyl : ((b.es.drop off).take len).length = len := by simp; omega
        obtain ⟨_, hor⟩ := hb b hget
        by_cases hl0 : len = 0
        · subst hl0
          refine ⟨ad, cap, [], by simpa using hv, by simp, fun b _ j v hv => by simp at hv, fun h => absurd (by simp) h, fun i cs hi => by simp at hi⟩
        · rcases hor with ⟨h1, _⟩ | ⟨g, arr, e', hg, hae, hh', hle'⟩
          · exact absurd h1 hl0
          · obtain ⟨hzz, hmat⟩ := hm.blk s t b hget
            rw [hg] at hmat
            obtain ⟨hB, arr2, e2, hh2, hcc⟩ := hmat
            rw [hh'] at hh2
            obtain ⟨rfl, rfl⟩ : arr = arr2 ∧ e' = e2 := by simpa using hh2
            have hez : esz = z := by
              have hlt : off < b.es.length := by omega
              have h1 : b.es[off] ∈ (b.es.drop off).take len := by
                have : ((b.es.drop off).take len)[0]? = some b.es[off] := by
                  rw [List.getElem?_take, if_pos (by omega), List.getElem?_drop]
                  simp [hlt]
                exact List.mem_of_getElem? this
              rw [← hz _ h1, hzz _ (List.getElem_mem hlt), hbz]
            subst hez
            have hsz : off * esz + len * esz ≤ arr.size := by
              have : (off + len) * esz ≤ (off + cap) * esz := Nat.mul_le_mul_right _ (by omega)
              rw [Nat.add_mul] at this
              omega
            refine ⟨ad, cap, (arr.toList.drop (off * esz)).take (len * esz), by rw [hyl]; exact hv, by rw [hyl]; simp; omega, fun b' hb' j v hv' => ?_, fun _ => by rw [hae]; rfl, fun i cs hi j c hj => ?_⟩
            · rw [hae] at hb'
              obtain rfl : (⟨g, off * esz, none⟩ : Addr) = b' := by simpa using hb'
              rw [List.getElem?_take] at hv'
              split at hv'
              · rw [List.getElem?_drop] at hv'
                rw [add_none, cell_at hh']
                simpa using hv'
              · cases hv'
            · rw [List.getElem?_take] at hi
              split at hi
              · rename_i hil
                rw [List.getElem?_drop] at hi
                have hjl : j < esz := by rw [← hbz, ← hzz cs (List.mem_of_getElem? hi)]; exact (List.getElem?_eq_some_iff.1 hj).1
                obtain ⟨u, hu, hcu⟩ := hcc (off + i) cs hi j c hj
                refine ⟨u, ?_, hcu⟩
                have hlt : i * esz + j < len * esz := by
                  have : (i + 1) * esz ≤ len * esz := Nat.mul_le_mul_right _ hil
                  rw [Nat.succ_mul] at this
                  omega
                rw [List.getElem?_take, if_pos hlt, List.getElem?_drop, ← hu, hbz]
                simp only [Array.getElem?_toList]
                congr 1
                rw [Nat.add_mul]; omega
              · cases hi
      · cases he
  | _ => simp [elemsOf] at he

theorem Elems.one {esz : Nat} {ys : List (List AV)} {ad : Option Addr} {news : List Value} (h : Elems B S m esz ys ad news) (h0 : 0 < esz) (hz : ∀ e ∈ ys, e.length = esz) : ∀ u ∈ news, u.oneCell' = true := by
  intro u hu
  obtain ⟨k, hk, rfl⟩ := List.getElem_of_mem hu
  rw [h.len] at hk
  have hd : k / esz < ys.length := Nat.div_lt_of_lt_mul (by rw [Nat.mul_comm]; exact hk)
  have hmo : k % esz < esz := Nat.mod_lt _ h0
  have hel : (ys[k / esz]).length = esz := hz _ (List.getElem_mem hd)
  obtain ⟨u', hu', hc⟩ := h.rel (k / esz) _ (List.getElem?_eq_getElem hd) (k % esz) _ (List.getElem?_eq_getElem (by rw [hel]; exact hmo))
  have hkk : k / esz * esz + k % esz = k := by
    have := Nat.div_add_mod k esz
    rw [Nat.mul_comm] at this
    exact this
  rw [hkk] at hu'
  obtain rfl : news[k] = u' := by
    have := (List.getElem?_eq_some_iff.1 hu').2
    exact this
  exact hc.one

theorem Elems.src {esz : Nat} {ys : List (List AV)} {ad : Option Addr} {news : List Value} (h : Elems B S m esz ys ad news) (h0 : 0 < esz) (hz : ∀ e ∈ ys, e.length = esz) {t e : TypeId} (hu : P.underlying t = some (.slice e)) (cap : Nat) : Src P esz t (.slice ad ys.length cap) ys.length news m.w := by
  cases ad with
  | none =>
    have hys : ys = [] := by
      cases ys with
      | nil => rfl
      | cons y r => exact absurd (h.some_ (by simp)) (by simp)
    subst hys
    have hn : news = [] := List.eq_nil_of_length_eq_zero (by simpa using h.len)
    subst hn
    exact Src.ofNil m.w hu cap
  | some b => exact Src.ofSlice m.w hu b ys.length cap news h.len (h.cells b rfl) (h.one h0 hz)

theorem ofSetRow_get (arr : Array Value) (off : Nat) (news : List Value) (h : off + news.length ≤ arr.size) (p : Nat) : (arr.toList.take off ++ news ++ arr.toList.drop (off + news.length)).toArray[p]? = if p < off then arr[p]? else if p < off + news.length then news[p - off]? else arr[p]? := by
  simp only [List.getElem?_toArray]
  rw [splice_get _ _ _ (by simpa using h)]
  simp only [Array.getElem?_toList]

/-- append where there is room -/
theorem run_app_room (t e : TypeId) (i : TypeInfo) (ht : P.underlying t = some (.slice e)) (hi : P.info? e = some i) (g off sLen sCap : Nat) (x : Value) (n : Nat) (news : List Value) (w : World) (hs : Src P i.size t x n news w) (hroom : sLen + n ≤ sCap) (arr : Array Value) (e' : TypeId)
    (hh : w.heap[g]? = some (.cells arr e' (0, 0))) (hsz : off + sLen * i.size + news.length ≤ arr.size) (ty : TypeId) :
    (Builtin.append_ #[t, t] ty #[.slice (some ⟨g, off, none⟩) sLen sCap, x]).run P w = .ok (.slice (some ⟨g, off, none⟩) (sLen + n) sCap) (w.setRow g (arr.toList.take (off + sLen * i.size) ++ news ++ arr.toList.drop (off + sLen * i.size + news.length)).toArray) := by
  have hst := run_storeCells_at (P := P) g (off + sLen * i.size) e' news 0 arr w hh (by omega) hs.one
  simp only [Nat.add_zero] at hst
  simp [Builtin.append_, run_underlying ht, sizeOf, typeInfo, hi, hs.len, hroom, hs.cells, add_none, hst]

theorem run_app_none (t e : TypeId) (i : TypeInfo) (ht : P.underlying t = some (.slice e)) (hi : P.info? e = some i) (ad : Option Addr) (sCap : Nat) (x : Value) (w : World) (hs : Src P i.size t x 0 [] w) (ty : TypeId) :
    (Builtin.append_ #[t, t] ty #[.slice ad 0 sCap, x]).run P w = .ok (.slice ad 0 sCap) w := by
  have hc := hs.cells
  cases ad <;> simp [Builtin.append_, run_underlying ht, sizeOf, typeInfo, hi, hs.len, hc, storeCells]

theorem run_exec_app {x y : Operand} {t : TypeId} (hop : o.op = .call ⟨.builtin .append, #[x, y], #[t, t]⟩) {u : Value} {w w' : World} (h : (Builtin.append_ #[t, t] o.type #[a.eval x, a.eval y]).run P w = .ok u w') : (execOp a.eval o).run P w = .ok (.value u) w' := by
  simp [execOp, hop, resolve, invoke, builtin, h]
theorem run_exec_cpy {x y : Operand} {t : TypeId} (hop : o.op = .call ⟨.builtin .copy, #[x, y], #[t, t]⟩) {u : Value} {w w' : World} (h : (Builtin.copy_ #[t, t] o.type #[a.eval x, a.eval y]).run P w = .ok u w') : (execOp a.eval o).run P w = .ok (.value u) w' := by
  simp [execOp, hop, resolve, invoke, builtin, h]

theorem grown_get (olds news : List Value) (z : Array Value) (k p : Nat) (h : p < olds.length + news.length) : ((olds ++ news).toArray ++ Builtin.zeroCells z k)[p]? = (olds ++ news)[p]? := by
  rw [Array.getElem?_append_left (by simpa using h)]
  simp

/-- the elements of a row and those behind them, in one list of cells -/
theorem rel_append {esz len : Nat} {xs ys : List (List AV)} {olds news : List Value} (hxl : xs.length = len) (hol : olds.length = len * esz) (hzx : ∀ e ∈ xs, e.length = esz)
    (hx : ∀ i cs, xs[i]? = some cs → ∀ j c, cs[j]? = some c → ∃ u, olds[i * esz + j]? = some u ∧ CC B S m c u)
    (hy : ∀ i cs, ys[i]? = some cs → ∀ j c, cs[j]? = some c → ∃ u, news[i * esz + j]? = some u ∧ CC B S m c u) :
    ∀ i cs, (xs ++ ys)[i]? = some cs → ∀ j c, cs[j]? = some c → ∃ u, (olds ++ news)[i * esz + j]? = some u ∧ CC B S m c u := by
  intro i cs hi j c hj
  by_cases hil : i < len
  · rw [List.getElem?_append_left (by omega)] at hi
    obtain ⟨u, hu, hc⟩ := hx i cs hi j c hj
    exact ⟨u, by rw [List.getElem?_append_left (by have := (List.getElem?_eq_some_iff.1 hu).1; omega)]; exact hu, hc⟩
  · rw [List.getElem?_append_right (by omega), hxl] at hi
    obtain ⟨u, hu, hc⟩ := hy (i - len) cs hi j c hj
    refine ⟨u, ?_, hc⟩
    have e1 : i * esz = len * esz + (i - len) * esz := by rw [← Nat.add_mul]; congr 1; omega
    rw [List.getElem?_append_right (by omega), ← hu]
    congr 1; omega

theorem move_row {s z n cap : Nat} {es : List (List AV)} {w' : World} {g t : Nat} {arr : Array Value} {e : TypeId} (hz : 0 < z) (hn : n ≤ cap) (hg : w'.heap[g]? = some (.cells arr e (0, 0))) (hc : cap * z ≤ arr.size) :
    CV B S ⟨newν m s (some g), m.own.put s (((m.own s).upd t none).new ⟨z, es⟩), w'⟩ (.row s (m.own.cnt s) z 0 n) (.slice (some ⟨g, 0, none⟩) n cap) := by
  refine .ca (.one (.row s (m.own.cnt s) z 0 n _ cap ?_ hz hn (fun _ => rfl) fun b' hb' => ⟨?_, .inr ⟨g, arr, e, ?_, by simp, hg, by simpa using hc⟩⟩))
  · show _ < Own.cnt _ s
    rw [cnt_move]; simp
  · change Own.get _ s _ = some b' at hb'
    rw [get_move, if_pos ⟨rfl, rfl⟩] at hb'
    obtain rfl : (⟨z, es⟩ : Blk) = b' := by simpa using hb'
    rfl
  · simp [newν]

theorem below_drew_alloc (hm : MemOK B S w0 m) (ob : Obj) : Below B w0 (m.w.drew.alloc ob) := hm.below.drew.alloc (by simpa using hm.size) ob

theorem do_app_row (hm : MemOK B S w0 m) (hs : Says B S m ρ a.eval) {s esz bytes : Nat} {x' y' : Opd} (h : okOp P num o.op (.app s esz bytes x' y') = true) {ys : List (List AV)} (hy : elemsOf m.own (ρ y') = some ys) (hz : ∀ e ∈ ys, e.length = esz) {s' t len : Nat} {b : Blk} (hx : ρ x' = .row s' t esz 0 len) (hget : m.own.get s' t = some b)
    (hbz : b.esz = esz) (hle : len ≤ b.es.length) (hroom : (len + ys.length) * bytes ≤ roomMax) (h63 : len + ys.length ≤ 9223372036854775807) :
    Does B S w0 P o a m (.tur (.row s' (m.own.cnt s') esz 0 (len + ys.length)) (m.own.put s' (((m.own s').upd t none).new ⟨esz, b.es.take len ++ ys⟩))) := by
  obtain ⟨x, y, ty, e, i, z, hop, h1, h2, hu, hi, hsz, hby, hz0, hzz, hne⟩ := inv_app h
  have h0 : 0 < esz := Nat.pos_of_ne_zero hne
  obtain ⟨ad, cap, hev, ht, _, hlc, ha, hb⟩ := cv_row (hx ▸ hs x x' h1)
  obtain ⟨yad, ycap, news, hyv, hel⟩ := elems_of hm (hs y y' h2) hy hz h0
  have hsrc : Src P i.size ty (.slice yad ys.length ycap) ys.length news m.w := by rw [hsz]; exact hel.src h0 hz hu ycap
  obtain ⟨hbb, hmat⟩ := hm.blk s' t b hget
  obtain ⟨_, hor⟩ := hb b hget
  have htl : (b.es.take len).length = len := by simp; omega
  have hzall : ∀ q ∈ b.es.take len ++ ys, q.length = esz := fun q hq => by
    rcases List.mem_append.1 hq with hq | hq
    · rw [← hbz]; exact hbb q (List.mem_of_mem_take hq)
    · exact hz q hq
  intro K Q hK
  by_cases hfit : len + ys.length ≤ cap
  · rcases hor with ⟨hl0, hc0⟩ | ⟨g, arr, e', hg, hae, hh, hcz⟩
    · have hys : ys = [] := List.eq_nil_of_length_eq_zero (by omega)
      subst hys
      subst hl0 hc0
      have hn0 : news = [] := List.eq_nil_of_length_eq_zero (by simpa using hel.len)
      subst hn0
      have hrun := run_app_none ty e i hu hi ad 0 (.slice yad 0 ycap) m.w (by simpa using hsrc) o.type
      obtain ⟨k1, k2⟩ := move_ok hm s' t b ⟨esz, b.es.take 0 ++ []⟩ hget none m.w hm.below (Nat.le_refl _) (fun _ _ _ => rfl) (by simp) (by simp) (by simp)
      refine wp_of_run (run_exec_app hop (by rw [hev, hyv]; simpa using hrun)) (hK _ ⟨newν m s' none, m.own.put s' (((m.own s').upd t none).new ⟨esz, b.es.take 0 ++ []⟩), m.w⟩ rfl k1 k2 (.ca (.one (.row s' (m.own.cnt s') esz 0 0 ad 0 ?_ h0 (Nat.le_refl _) (fun h => by omega) fun b' hb' => ⟨?_, .inl ⟨rfl, rfl⟩⟩))))
      · show _ < Own.cnt _ s'
        rw [cnt_move]; simp
      · change Own.get _ s' _ = some b' at hb'
        rw [get_move, if_pos ⟨rfl, rfl⟩] at hb'
        obtain rfl : (⟨esz, b.es.take 0 ++ []⟩ : Blk) = b' := by simpa using hb'
        rfl
    · have hae' : ad = some ⟨g, 0, none⟩ := by simpa using hae
      rw [hg] at hmat
      obtain ⟨hB, arr2, e2, hh2, hcc⟩ := hmat
      rw [hh] at hh2
      obtain ⟨rfl, rfl⟩ : arr = arr2 ∧ e' = e2 := by simpa using hh2
      have hnl : news.length = ys.length * esz := hel.len
      have hbound : len * esz + news.length ≤ arr.size := by
        have : (len + ys.length) * esz ≤ (0 + cap) * esz := Nat.mul_le_mul_right _ (by omega)
        rw [Nat.add_mul] at this
        omega
      have hrun := run_app_room ty e i hu hi g 0 len cap (.slice yad ys.length ycap) ys.length news m.w hsrc hfit arr e' hh (by rw [hsz]; omega) o.type
      rw [hsz, Nat.zero_add] at hrun
      generalize harr' : (arr.toList.take (len * esz) ++ news ++ arr.toList.drop (len * esz + news.length)).toArray = arr' at hrun
      have hg' : ∀ p, arr'[p]? = if p < len * esz then arr[p]? else if p < len * esz + news.length then news[p - len * esz]? else arr[p]? := fun p => by rw [← harr']; exact ofSetRow_get arr (len * esz) news hbound p
      have hsize' : arr'.size = arr.size := by rw [← harr']; simp; omega
      obtain ⟨k1, k2⟩ := move_ok hm s' t b ⟨esz, b.es.take len ++ ys⟩ hget (some g) (m.w.setRow g arr') (below_setRow hm hB arr') (by simp) (fun k _ hne' => setRow_other _ _ _ _ (fun e => hne' (e ▸ hg))) hzall (by simp) (fun g' hg2 => by
        obtain rfl : g = g' := by simpa using hg2
        refine ⟨hB, .inr hg, arr', e', setRow_heap _ _ _ _ _ _ hh, fun i' cs hi' j c hj => ?_⟩
        show ∃ u, arr'[i' * esz + j]? = some u ∧ _
        by_cases hil : i' < len
        · rw [List.getElem?_append_left (by omega), List.getElem?_take, if_pos hil] at hi'
          have hjl : j < esz := by rw [← hbz, ← hbb cs (List.mem_of_getElem? hi')]; exact (List.getElem?_eq_some_iff.1 hj).1
          obtain ⟨u, hu', hcu⟩ := hcc i' cs hi' j c hj
          refine ⟨u, ?_, hcu⟩
          have : (i' + 1) * esz ≤ len * esz := Nat.mul_le_mul_right _ hil
          rw [Nat.succ_mul] at this
          rw [hg', if_pos (by omega), ← hu', hbz]
        · rw [List.getElem?_append_right (by omega), htl] at hi'
          obtain ⟨u, hu', hcu⟩ := hel.rel (i' - len) cs hi' j c hj
          refine ⟨u, ?_, hcu⟩
          have hul := (List.getElem?_eq_some_iff.1 hu').1
          have e1 : i' * esz = len * esz + (i' - len) * esz := by rw [← Nat.add_mul]; congr 1; omega
          rw [hg', if_neg (by omega), if_pos (by omega), ← hu']
          congr 1; omega)
      exact wp_of_run (run_exec_app hop (by rw [hev, hyv, hae']; exact hrun)) (hK _ ⟨newν m s' (some g), m.own.put s' (((m.own s').upd t none).new ⟨esz, b.es.take len ++ ys⟩), m.w.setRow g arr'⟩ rfl k1 k2 (move_row h0 hfit (setRow_heap _ _ _ _ _ _ hh) (by rw [hsize']; simpa using hcz)))
  · have hgrow : cap < len + ys.length := by omega
    obtain ⟨olds, hol, hold, hrel⟩ : ∃ olds : List Value, olds.length = len * esz ∧ (Builtin.firstCells i.size len (.slice ad len cap)).run P m.w.drew = .ok olds.toArray m.w.drew ∧ (∀ i' cs, (b.es.take len)[i']? = some cs → ∀ j c, cs[j]? = some c → ∃ u, olds[i' * esz + j]? = some u ∧ CC B S m c u) := by
      rcases hor with ⟨hl0, hc0⟩ | ⟨g, arr, e', hg, hae, hh, hcz⟩
      · subst hl0
        refine ⟨[], by simp, ?_, fun i' cs hi' => by simp at hi'⟩
        cases ad with
        | none => exact run_firstCells_none m.w.drew i.size 0 0 cap
        | some ad' => exact run_firstCells_some m.w.drew i.size 0 ad' 0 cap [] (by simp) (fun j v hv => by simp at hv)
      · have hae' : ad = some ⟨g, 0, none⟩ := by simpa using hae
        rw [hg] at hmat
        obtain ⟨hB, arr2, e2, hh2, hcc⟩ := hmat
        rw [hh] at hh2
        obtain ⟨rfl, rfl⟩ : arr = arr2 ∧ e' = e2 := by simpa using hh2
        have hcl : len * esz ≤ arr.size := by
          have : len * esz ≤ (0 + cap) * esz := Nat.mul_le_mul_right _ (by omega)
          omega
        refine ⟨arr.toList.take (len * esz), by simp; omega, ?_, fun i' cs hi' j c hj => ?_⟩
        · rw [hae']
          refine run_firstCells_some m.w.drew i.size len ⟨g, 0, none⟩ len cap _ (by rw [hsz]; simp; omega) (fun j v hv => ?_)
          rw [List.getElem?_take] at hv
          split at hv
          · rw [add_none, cell_at (w := m.w.drew) (show m.w.heap[g]? = _ from hh)]
            simpa using hv
          · cases hv
        · rw [List.getElem?_take] at hi'
          split at hi'
          · rename_i hil
            have hjl : j < esz := by rw [← hbz, ← hbb cs (List.mem_of_getElem? hi')]; exact (List.getElem?_eq_some_iff.1 hj).1
            obtain ⟨u, hu', hcu⟩ := hcc i' cs hi' j c hj
            refine ⟨u, ?_, hcu⟩
            have : (i' + 1) * esz ≤ len * esz := Nat.mul_le_mul_right _ hil
            rw [Nat.succ_mul] at this
            rw [List.getElem?_take, if_pos (by omega), ← hu', hbz]
            simp
          · cases hi'
    have hrun := run_append_grow_src (P := P) m.w ty ty o.type e i z hu hi hz0 ad len cap olds hold (.slice yad ys.length ycap) ys.length news hsrc hgrow (by omega) (growslice_fits hgrow (by rw [hby]; exact hroom))
    have hnl : news.length = ys.length * esz := hel.len
    have hcap : len + ys.length ≤ grownCap m.w (len + ys.length) cap e := grownCap_ge _ _ _ _
    generalize hgc : grownCap m.w (len + ys.length) cap e = gc at hrun hcap
    have hbel := below_drew_alloc hm (.cells ((olds ++ news).toArray ++ Builtin.zeroCells z.cells (gc - (len + ys.length))) e)
    have hnew : (m.w.drew.alloc (.cells ((olds ++ news).toArray ++ Builtin.zeroCells z.cells (gc - (len + ys.length))) e)).heap[m.w.heap.size]? = some (.cells ((olds ++ news).toArray ++ Builtin.zeroCells z.cells (gc - (len + ys.length))) e (0, 0)) := heap_alloc_new m.w.drew _
    obtain ⟨k1, k2⟩ := move_ok hm s' t b ⟨esz, b.es.take len ++ ys⟩ hget (some m.w.heap.size) _ hbel (by simp) (fun k hk _ => Below.heap_alloc m.w.drew _ k hk) hzall (by simp) (fun g' hg2 => by
      obtain rfl : m.w.heap.size = g' := by simpa using hg2
      refine ⟨hm.size, .inl (Nat.le_refl _), _, e, hnew, fun i' cs hi' j c hj => ?_⟩
      obtain ⟨u, hu', hcu⟩ := rel_append htl hol (fun q hq => by rw [← hbz]; exact hbb q (List.mem_of_mem_take hq)) hrel hel.rel i' cs hi' j c hj
      refine ⟨u, ?_, hcu⟩
      rw [grown_get _ _ _ _ _ (by have := (List.getElem?_eq_some_iff.1 hu').1; simpa using this)]
      exact hu')
    refine wp_of_run (run_exec_app hop (by rw [hev, hyv]; exact hrun)) (hK _ ⟨newν m s' (some m.w.heap.size), m.own.put s' (((m.own s').upd t none).new ⟨esz, b.es.take len ++ ys⟩), _⟩ rfl k1 k2 (move_row h0 hcap hnew ?_))
    have hzc : (Builtin.zeroCells z.cells (gc - (len + ys.length))).size = (gc - (len + ys.length)) * esz := by simp [Builtin.zeroCells, hzz]
    rw [Array.size_append, hzc]
    simp only [List.size_toArray, List.length_append, hol, hnl]
    rw [← Nat.add_mul, ← Nat.add_mul]
    exact Nat.mul_le_mul_right _ (by omega)

theorem do_app_nil (hm : MemOK B S w0 m) (hs : Says B S m ρ a.eval) {s esz bytes : Nat} {x' y' : Opd} (h : okOp P num o.op (.app s esz bytes x' y') = true) {ys : List (List AV)} (hy : elemsOf m.own (ρ y') = some ys) (hz : ∀ e ∈ ys, e.length = esz) (hx : ρ x' = .nil)
    (hroom : ys.length * bytes ≤ roomMax) (h63 : ys.length ≤ 9223372036854775807) :
    Does B S w0 P o a m (.tur (.row s (m.own.cnt s) esz 0 ys.length) (m.own.put s ((m.own s).new ⟨esz, ys⟩))) := by
  obtain ⟨x, y, ty, e, i, z, hop, h1, h2, hu, hi, hsz, hby, hz0, hzz, hne⟩ := inv_app h
  have h0 : 0 < esz := Nat.pos_of_ne_zero hne
  have hev := cv_nil (hx ▸ hs x x' h1)
  obtain ⟨yad, ycap, news, hyv, hel⟩ := elems_of hm (hs y y' h2) hy hz h0
  have hsrc : Src P i.size ty (.slice yad ys.length ycap) ys.length news m.w := by rw [hsz]; exact hel.src h0 hz hu ycap
  intro K Q hK
  by_cases hys : ys = []
  · subst hys
    have hn0 : news = [] := List.eq_nil_of_length_eq_zero (by simpa using hel.len)
    subst hn0
    have hrun := run_app_none ty e i hu hi none 0 (.slice yad 0 ycap) m.w (by simpa using hsrc) o.type
    obtain ⟨k1, k2⟩ := vir_ok hm s esz
    refine wp_of_run (run_exec_app hop (by rw [hev, hyv]; simpa using hrun)) (hK _ ⟨newν m s none, m.own.put s ((m.own s).new ⟨esz, []⟩), m.w⟩ rfl k1 k2 (.ca (.one (.row s (m.own.cnt s) esz 0 0 none 0 ?_ h0 (Nat.le_refl _) (fun h => by omega) fun b' hb' => ⟨?_, .inl ⟨rfl, rfl⟩⟩))))
    · show _ < Own.cnt _ s
      rw [cnt_new]; simp
    · change Own.get _ s _ = some b' at hb'
      rw [get_new, if_pos ⟨rfl, rfl⟩] at hb'
      obtain rfl : (⟨esz, []⟩ : Blk) = b' := by simpa using hb'
      rfl
  · have hpos : 0 < ys.length := List.length_pos_iff.2 hys
    have hrun := run_append_grow_src (P := P) m.w ty ty o.type e i z hu hi hz0 none 0 0 [] (run_firstCells_none m.w.drew i.size 0 0 0) (.slice yad ys.length ycap) ys.length news hsrc (by omega) (by omega) (growslice_fits (by omega) (by rw [hby, Nat.zero_add]; exact hroom))
    simp only [Nat.zero_add, List.nil_append] at hrun
    have hnl : news.length = ys.length * esz := hel.len
    have hcap : ys.length ≤ grownCap m.w ys.length 0 e := grownCap_ge _ _ _ _
    generalize hgc : grownCap m.w ys.length 0 e = gc at hrun hcap
    have hd : Below m.w.heap.size m.w m.w.drew := (Below.refl _ _).drew
    obtain ⟨hm1, he1⟩ := grow hm hd
    obtain ⟨k1, k2⟩ := alloc_ok hm1 s ⟨esz, ys⟩ (news.toArray ++ Builtin.zeroCells z.cells (gc - ys.length)) e hz (fun i' cs hi' j c hj => by
      obtain ⟨u, hu', hcu⟩ := hel.rel i' cs hi' j c hj
      refine ⟨u, ?_, he1.cc hcu⟩
      have hul := (List.getElem?_eq_some_iff.1 hu').1
      show (news.toArray ++ Builtin.zeroCells z.cells (gc - ys.length))[i' * esz + j]? = some u
      rw [Array.getElem?_append_left (by simpa using hul)]
      simpa using hu')
    have hzc : (Builtin.zeroCells z.cells (gc - ys.length)).size = (gc - ys.length) * esz := by simp [Builtin.zeroCells, hzz]
    refine wp_of_run (run_exec_app hop (by rw [hev, hyv]; exact hrun)) (hK _ ⟨newν ⟨m.ν, m.own, m.w.drew⟩ s (some m.w.drew.heap.size), m.own.put s ((m.own s).new ⟨esz, ys⟩), _⟩ rfl k1 (he1.trans k2) (new_row (m := ⟨m.ν, m.own, m.w.drew⟩) h0 hcap (heap_alloc_new m.w.drew _) ?_))
    rw [Array.size_append, hzc]
    simp only [List.size_toArray, hnl]
    rw [← Nat.add_mul]
    exact Nat.mul_le_mul_right _ (by omega)
end
end Go.Eng
