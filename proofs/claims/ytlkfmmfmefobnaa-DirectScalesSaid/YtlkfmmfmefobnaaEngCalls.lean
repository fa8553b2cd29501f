/-
  Calls: readings handed over and handed back.
-/
import Derived.Test.YtlkfmmfmefobnaaEngOps6
set_option linter.unusedSimpArgs false
set_option linter.unusedVariables false
set_option linter.unnecessarySimpa false
namespace Go.Eng
open Go.RowKit

theorem mapM_get {α β : Type} (f : α → Option β) : ∀ {l : List α} {l' : List β}, l.mapM f = some l' → l.length = l'.length ∧ ∀ (i : Nat) (x : α), l[i]? = some x → ∃ y, l'[i]? = some y ∧ f x = some y
  | [], l', h => by
    simp at h; subst h
    exact ⟨rfl, fun i x hx => by simp at hx⟩
  | x :: r, l', h => by
    simp only [List.mapM_cons, Option.bind_eq_bind, Option.pure_def] at h
    cases hx : f x with
    | none => simp [hx] at h
    | some y =>
      cases hr : r.mapM f with
      | none => simp [hx, hr] at h
      | some r' =>
        simp [hx, hr] at h
        subst h
        obtain ⟨h1, h2⟩ := mapM_get f hr
        refine ⟨by simp [h1], fun i z hz => ?_⟩
        cases i with
        | zero => simp at hz; subst hz; exact ⟨y, rfl, hx⟩
        | succ i => exact h2 i z (by simpa using hz)

section
variable {B : Nat} {S : Nat → Prop} {w0 : World} {m : M}
variable {P : Program} {num : Nat → Nat} {o : Oper} {a : Act} {ρ : Opd → AV}

theorem snap_rd (hm : MemOK B S w0 m) (l0 : Bool) (R : Bool → Nat → Prop) (hR : ∀ l b, b < m.w.heap.size → safe B S m l b → R l b) (hL : ∀ s t g, live m s t → m.ν s t = some g → R l0 g) :
    ∀ (d : Nat) (c c' : AV) (v : Value), snap m.own l0 d c = some c' → CC B S m c v → Rd m.w R c' v := by
  intro d
  induction d with
  | zero =>
    intro c c' v h hc
    cases hc with
    | rd hr =>
      have : c' = c := by cases hr <;> simp [snap] at h <;> exact h.symm
      subst this
      exact hr.mono hR (fun _ _ _ _ => rfl)
    | nil => simp [snap] at h; subst h; exact .sl0 _ _ _
    | _ => simp [snap] at h
  | succ d ih =>
    intro c c' v h hc
    cases hc with
    | rd hr =>
      have : c' = c := by cases hr <;> simp [snap] at h <;> exact h.symm
      subst this
      exact hr.mono hR (fun _ _ _ _ => rfl)
    | nil => simp [snap] at h; subst h; exact .sl0 _ _ _
    | ptr => simp [snap] at h
    | dptr => simp [snap] at h
    | row s t z off len ad cap ht hz0 hlc ha hb =>
      simp only [snap] at h
      cases hel : elemsOf m.own (.row s t z off len) with
      | none => simp [hel] at h
      | some es =>
        simp only [hel] at h
        cases hes : es.mapM (fun cs : List AV => cs.mapM (snap m.own l0 d)) with
        | none => simp [hes] at h
        | some es' =>
          simp [hes] at h
          subst h
          have hzes : (∀ e ∈ es, e.length = z) ∧ es.length = len ∧ ∃ b, m.own.get s t = some b := by
            simp only [elemsOf] at hel
            cases hget : m.own.get s t with
            | none => simp [hget] at hel
            | some b =>
              simp only [hget] at hel
              split at hel
              · rename_i hle
                obtain rfl := Option.some.inj hel
                refine ⟨fun e he => ?_, by simp; omega, b, rfl⟩
                rw [← hle.2]
                exact (hm.blk s t b hget).1 e (List.mem_of_mem_drop (List.mem_of_mem_take he))
              · cases hel
          obtain ⟨hz, hlen, b, hget⟩ := hzes
          have hcv : CV B S m (.row s t z off len) (.slice ad len cap) := .ca (.one (.row s t z off len ad cap ht hz0 hlc ha hb))
          obtain ⟨ad2, cap2, news, hv2, hE⟩ := elems_of hm hcv hel hz hz0
          obtain ⟨rfl, _, rfl⟩ : ad = ad2 ∧ len = es.length ∧ cap = cap2 := by simpa using hv2
          obtain ⟨hl1, hget1⟩ := mapM_get _ hes
          by_cases h0 : es = []
          · subst h0
            have : es' = [] := List.eq_nil_of_length_eq_zero (by rw [← hl1]; rfl)
            subst this
            have : len = 0 := by rw [← hlen]; rfl
            subst this
            exact .sl0 _ _ _
          · obtain ⟨_, hor⟩ := hb b hget
            rcases hor with ⟨hl0', _⟩ | ⟨g, arr, e', hg, hae, hh, hcz⟩
            · exact absurd (List.eq_nil_of_length_eq_zero (by omega)) h0
            · rw [hae, ← hlen, hl1]
              refine .sl l0 es' g (off * z) z cap (fun i j => news.getD (i * z + j) undef) (fun e => h0 (List.eq_nil_of_length_eq_zero (by rw [hl1, e]; rfl))) hz0 (hL s t g ⟨b, hget⟩ hg) (by omega) (fun e' he' => ?_) (fun i e hi j c hj => ?_) (fun i e hi j c hj => ?_)
              · obtain ⟨i, hi, rfl⟩ := List.getElem_of_mem he'
                have hi' : i < es.length := by omega
                obtain ⟨y, hy, hfy⟩ := hget1 i es[i] (List.getElem?_eq_getElem hi')
                have : es'[i] = y := by
                  have := (List.getElem?_eq_some_iff.1 hy).2; exact this
                rw [this, ← (mapM_get _ hfy).1]
                exact hz _ (List.getElem_mem hi')
              · have hi' : i < es.length := by rw [hl1]; exact (List.getElem?_eq_some_iff.1 hi).1
                obtain ⟨y, hy, hfy⟩ := hget1 i es[i] (List.getElem?_eq_getElem hi')
                rw [hi] at hy
                obtain rfl : e = y := by simpa using hy
                obtain ⟨hl2, _⟩ := mapM_get _ hfy
                have hj' : j < (es[i]).length := by rw [hl2]; exact (List.getElem?_eq_some_iff.1 hj).1
                obtain ⟨u, hu, hcu⟩ := hE.rel i es[i] (List.getElem?_eq_getElem hi') j _ (List.getElem?_eq_getElem hj')
                have := hE.cells _ hae (i * z + j) u hu
                rw [add_none] at this
                simp only [List.getD, hu, Option.getD_some]
                exact this
              · have hi' : i < es.length := by rw [hl1]; exact (List.getElem?_eq_some_iff.1 hi).1
                obtain ⟨y, hy, hfy⟩ := hget1 i es[i] (List.getElem?_eq_getElem hi')
                rw [hi] at hy
                obtain rfl : e = y := by simpa using hy
                obtain ⟨hl2, hg2⟩ := mapM_get _ hfy
                have hj' : j < (es[i]).length := by rw [hl2]; exact (List.getElem?_eq_some_iff.1 hj).1
                obtain ⟨u, hu, hcu⟩ := hE.rel i es[i] (List.getElem?_eq_getElem hi') j _ (List.getElem?_eq_getElem hj')
                obtain ⟨c2, hc2, hs2⟩ := hg2 j _ (List.getElem?_eq_getElem hj')
                rw [hj] at hc2
                obtain rfl : c = c2 := by simpa using hc2
                simp only [List.getD, hu, Option.getD_some]
                exact ih _ _ _ hs2 hcu

/-- a reading as data alone -/
def DA (w : World) (R : Bool → Nat → Prop) (c : AV) (v : Value) : Prop :=
  Rd w R c v ∨ ∃ (cs : List AV) (vs : List Value), c = .agg cs ∧ v = .agg vs.toArray ∧ cs.length = vs.length ∧ ∀ (j : Nat) (x : AV) (u : Value), cs[j]? = some x → vs[j]? = some u → Rd w R x u

theorem snapA_da (hm : MemOK B S w0 m) (l0 : Bool) (R : Bool → Nat → Prop) (hR : ∀ l b, b < m.w.heap.size → safe B S m l b → R l b) (hL : ∀ s t g, live m s t → m.ν s t = some g → R l0 g)
    {c c' : AV} {v : Value} (h : snapA m.own l0 c = some c') (hc : CV B S m c v) : DA m.w R c' v := by
  cases hc with
  | any v => simp [snapA, snap] at h
  | tup => simp [snapA, snap] at h
  | ca hc => cases hc with
    | one hc =>
      have h' : snap m.own l0 6 c = some c' := by
        cases hc with
        | rd hr => cases hr <;> simpa [snapA] using h
        | _ => simpa [snapA] using h
      exact Or.inl (snap_rd hm l0 R hR hL 6 c c' v h' hc)
    | agg cs vs hcl =>
      simp only [snapA] at h
      cases hcs : cs.mapM (snap m.own l0 6) with
      | none => simp [hcs] at h
      | some cs' =>
        simp [hcs] at h
        subst h
        obtain ⟨h1, h2⟩ := mapM_get _ hcs
        refine Or.inr ⟨cs', vs, rfl, rfl, h1.symm.trans hcl.1, fun j x u hx hu => ?_⟩
        have hj : j < cs.length := by rw [h1]; exact (List.getElem?_eq_some_iff.1 hx).1
        obtain ⟨y, hy, hfy⟩ := h2 j cs[j] (List.getElem?_eq_getElem hj)
        rw [hx] at hy
        obtain rfl : x = y := by simpa using hy
        exact snap_rd hm l0 R hR hL 6 _ _ _ hfy (hcl.2 j cs[j] u (List.getElem?_eq_getElem hj) hu)

def DV (w : World) (R : Bool → Nat → Prop) (c : AV) (v : Value) : Prop :=
  DA w R c v ∨ ∃ (cs : List AV) (vs : List Value), c = .tup cs ∧ v = .tuple vs.toArray ∧ cs.length = vs.length ∧ ∀ (j : Nat) (x : AV) (u : Value), cs[j]? = some x → vs[j]? = some u → DA w R x u

theorem snapR_dv (hm : MemOK B S w0 m) (l0 : Bool) (R : Bool → Nat → Prop) (hR : ∀ l b, b < m.w.heap.size → safe B S m l b → R l b) (hL : ∀ s t g, live m s t → m.ν s t = some g → R l0 g)
    {c c' : AV} {v : Value} (h : snapR m.own l0 c = some c') (hc : CV B S m c v) : DV m.w R c' v := by
  by_cases ht : ∃ cs, c = .tup cs
  · obtain ⟨cs, rfl⟩ := ht
    obtain ⟨vs, rfl, hl, hcc⟩ := cv_tup hc
    simp only [snapR] at h
    cases hcs : cs.mapM (snapA m.own l0) with
    | none => simp [hcs] at h
    | some cs' =>
      simp [hcs] at h
      subst h
      obtain ⟨h1, h2⟩ := mapM_get _ hcs
      refine Or.inr ⟨cs', vs, rfl, rfl, h1.symm.trans hl, fun j x u hx hu => ?_⟩
      have hj : j < cs.length := by rw [h1]; exact (List.getElem?_eq_some_iff.1 hx).1
      obtain ⟨y, hy, hfy⟩ := h2 j cs[j] (List.getElem?_eq_getElem hj)
      rw [hx] at hy
      obtain rfl : x = y := by simpa using hy
      exact snapA_da hm l0 R hR hL hfy (.ca (hcc j cs[j] u (List.getElem?_eq_getElem hj) hu))
  · have h' : snapA m.own l0 c = some c' := by
      cases c <;> first | exact h | exact absurd ⟨_, rfl⟩ ht
    exact Or.inl (snapA_da hm l0 R hR hL h' hc)

theorem DA.ca {B : Nat} {S : Nat → Prop} {m : M} {c : AV} {v : Value} (h : DA m.w (safe B S m) c v) : CA B S m c v := by
  rcases h with h | ⟨cs, vs, rfl, rfl, hl, hh⟩
  · exact .one (.rd h)
  · exact .agg cs vs ⟨hl, fun j x u hx hu => .rd (hh j x u hx hu)⟩
theorem DV.cv {B : Nat} {S : Nat → Prop} {m : M} {c : AV} {v : Value} (h : DV m.w (safe B S m) c v) : CV B S m c v := by
  rcases h with h | ⟨cs, vs, rfl, rfl, hl, hh⟩
  · exact .ca h.ca
  · exact .tup cs vs hl fun j x u hx hu => (hh j x u hx hu).ca

theorem cleanL_get : ∀ {cs : List AV}, CleanL cs → ∀ (j : Nat) (c : AV), cs[j]? = some c → Clean c
  | [], _, j, c, h => by simp at h
  | x :: r, hc, j, c, h => by
    unfold CleanL at hc
    cases j with
    | zero => simp at h; subst h; exact hc.1
    | succ j => exact cleanL_get hc.2 j c (by simpa using h)
theorem cleanLL_get : ∀ {cs : List (List AV)}, CleanLL cs → ∀ (j : Nat) (c : List AV), cs[j]? = some c → CleanL c
  | [], _, j, c, h => by simp at h
  | x :: r, hc, j, c, h => by
    unfold CleanLL at hc
    cases j with
    | zero => simp at h; subst h; exact hc.1
    | succ j => exact cleanLL_get hc.2 j c (by simpa using h)

theorem Rd.clean {w : World} {R R' : Bool → Nat → Prop} (hR : ∀ b, b < w.heap.size → R false b → R' false b) {c : AV} {v : Value} (h : Rd w R c v) (hc : Clean c) : Rd w R' c v := by
  induction h with
  | int k n => exact .int k n
  | bool b => exact .bool b
  | str s => exact .str s
  | sl0 l a cap => exact .sl0 l a cap
  | sl l es b o esz cap u hne hp h1 hcap hz hcl hr ih =>
    unfold Clean at hc
    obtain ⟨rfl, hc⟩ := hc
    obtain ⟨e, c, he, hc0⟩ := first_cell hne hp hz
    have hb : b < w.heap.size := cell_lt (hcl 0 e he 0 c hc0)
    exact .sl false es b o esz cap u hne hp (hR b hb h1) hcap hz hcl fun i e he j c hj => ih i e he j c hj (cleanL_get (cleanLL_get hc i e he) j c hj)

theorem DA.clean {w : World} {R R' : Bool → Nat → Prop} (hR : ∀ b, b < w.heap.size → R false b → R' false b) {c : AV} {v : Value} (h : DA w R c v) (hc : Clean c) : DA w R' c v := by
  rcases h with h | ⟨cs, vs, rfl, rfl, hl, hh⟩
  · exact Or.inl (h.clean hR hc)
  · unfold Clean at hc
    exact Or.inr ⟨cs, vs, rfl, rfl, hl, fun j x u hx hu => (hh j x u hx hu).clean hR (cleanL_get hc j x hx)⟩
theorem DV.clean {w : World} {R R' : Bool → Nat → Prop} (hR : ∀ b, b < w.heap.size → R false b → R' false b) {c : AV} {v : Value} (h : DV w R c v) (hc : Clean c) : DV w R' c v := by
  rcases h with h | ⟨cs, vs, rfl, rfl, hl, hh⟩
  · exact Or.inl (h.clean hR hc)
  · unfold Clean at hc
    exact Or.inr ⟨cs, vs, rfl, rfl, hl, fun j x u hx hu => (hh j x u hx hu).clean hR (cleanL_get hc j x hx)⟩

/-- a clean value is data -/
theorem cv_dv {B : Nat} {S : Nat → Prop} {m : M} {c : AV} {v : Value} (h : CV B S m c v) (hc : Clean c) : DV m.w (safe B S m) c v := by
  have one : ∀ {c : AV} {v : Value}, CC B S m c v → Clean c → Rd m.w (safe B S m) c v := fun h hc => by
    cases h with
    | rd h => exact h
    | _ => unfold Clean at hc; exact hc.elim
  have ca : ∀ {c : AV} {v : Value}, CA B S m c v → Clean c → DA m.w (safe B S m) c v := fun h hc => by
    cases h with
    | one h => exact Or.inl (one h hc)
    | agg cs vs h =>
      unfold Clean at hc
      exact Or.inr ⟨cs, vs, rfl, rfl, h.1, fun j x u hx hu => one (h.2 j x u hx hu) (cleanL_get hc j x hx)⟩
  cases h with
  | any v => unfold Clean at hc; exact hc.elim
  | ca h => exact Or.inl (ca h hc)
  | tup as vs hl h =>
    unfold Clean at hc
    exact Or.inr ⟨as, vs, rfl, rfl, hl, fun j x u hx hu => ca (h j x u hx hu) (cleanL_get hc j x hx)⟩

theorem run_exec_call {f : Nat} {xs : Array Operand} {ts : Array TypeId} (hop : o.op = .call ⟨.value (.func f), xs, ts⟩) {w : World} (h : (callFunc f (xs.map a.eval)).run P w = .ok (.enter f (xs.map a.eval)) w) : (execOp a.eval o).run P w = .ok (.enter f (xs.map a.eval)) w := by
  simp [execOp, hop, resolve, Deferred.ofValue, Act.eval, invoke]
  exact h

theorem do_call {C : Cl} (hC : CallsOK P num C) (hm : MemOK B S w0 m) (hs : Says B S m ρ a.eval) {f : Nat} {xs' : List Opd} (h : okOp P num o.op (.call f xs') = true) {vs : List AV} {r : AV} (hv : (xs'.map ρ).mapM (snapA m.own true) = some vs) (hr : C.pure f vs = some r) : Does B S w0 P o a m (.val r) := by
  obtain ⟨xs, ts, hop, he⟩ := inv_call h
  obtain ⟨hl, hx⟩ := eqOpds_says hs he
  obtain ⟨hl2, hg2⟩ := mapM_get _ hv
  have hmap : (xs.map a.eval) = (xs.toList.map a.eval).toArray := by cases xs; simp
  have hargs : ∀ (j : Nat) (c : AV) (v : Value), vs[j]? = some c → (xs.toList.map a.eval)[j]? = some v → CA m.w.heap.size (safe B S m false) ⟨fun _ _ => none, Own.emp, m.w⟩ c v := by
    intro j c v hc hvv
    rw [List.getElem?_map] at hvv
    cases hxj : xs.toList[j]? with
    | none => simp [hxj] at hvv
    | some x =>
      simp [hxj] at hvv
      subst hvv
      have hjl : j < xs'.length := by rw [← hl]; exact (List.getElem?_eq_some_iff.1 hxj).1
      obtain ⟨y, hy, hfy⟩ := hg2 j (ρ xs'[j]) (by rw [List.getElem?_map, List.getElem?_eq_getElem hjl]; rfl)
      rw [hc] at hy
      obtain rfl : c = y := by simpa using hy
      have hcv := hx j x xs'[j] hxj (List.getElem?_eq_getElem hjl)
      have hda := snapA_da hm true (safe m.w.heap.size (safe B S m false) ⟨fun _ _ => none, Own.emp, m.w⟩) (fun l b hb hsf => by
        cases l with
        | false => exact .inl ⟨hsf, hb⟩
        | true => exact .inr (.inr ⟨rfl, hb⟩)) (fun s t g hlv hg => by
        obtain ⟨_, arr, e, hh⟩ := hm.ge hlv hg
        exact .inr (.inr ⟨rfl, (Array.getElem?_eq_some_iff.1 hh).1⟩)) hfy hcv
      exact DA.ca (m := ⟨fun _ _ => none, Own.emp, m.w⟩) hda
  have hcall := hC.pure f vs r hr (safe B S m false) m.w (xs.toList.map a.eval) (by rw [← hl2]; simp [hl]) hargs
  intro K Q hK
  unfold Oper.wp
  rw [run_exec_call hop (hC.enterP f vs r hr _ _), hmap]
  refine Calls.mono hcall fun e w' ⟨u, he', hbel, hcv, hcl⟩ => ?_
  subst he'
  obtain ⟨hm', hext⟩ := grow hm hbel
  refine hK u ⟨m.ν, m.own, w'⟩ rfl hm' hext ?_
  refine DV.cv (m := ⟨m.ν, m.own, w'⟩) ((cv_dv hcv hcl).clean (fun b hb hsf => ?_) hcl)
  rcases hsf with ⟨h1, h2⟩ | ⟨h1, _⟩ | ⟨h1, _⟩
  · exact hext.saf false b h2 h1
  · refine .inr (.inl ⟨Nat.le_trans hm.size h1, fun s t hlv hg => ?_⟩)
    obtain ⟨b', hb'⟩ := Option.isSome_iff_exists.1 hlv
    obtain ⟨_, arr, e, hh⟩ := hm.ge ⟨b', hb'⟩ hg
    have := (Array.getElem?_eq_some_iff.1 hh).1
    omega
  · cases h1

theorem do_calli {C : Cl} (hC : CallsOK P num C) (hm : MemOK B S w0 m) (hs : Says B S m ρ a.eval) {f : Nat} {xs' : List Opd} (h : okOp P num o.op (.calli f xs') = true) {r : AV} {own' : Own} (hr : C.inn f (xs'.map ρ) m.own = some (r, own')) : Does B S w0 P o a m (.tur r own') := by
  obtain ⟨xs, ts, hop, he⟩ := inv_calli h
  obtain ⟨hl, hx⟩ := eqOpds_says hs he
  have hmap : (xs.map a.eval) = (xs.toList.map a.eval).toArray := by cases xs; simp
  have hcall := hC.inn f (xs'.map ρ) m.own r own' hr B S w0 m (xs.toList.map a.eval) rfl hm (by simp [hl]) (fun j c v hc hv => by
    rw [List.getElem?_map] at hc hv
    cases hxj : xs.toList[j]? with
    | none => simp [hxj] at hv
    | some x =>
      cases hyj : xs'[j]? with
      | none => simp [hyj] at hc
      | some y =>
        simp [hxj] at hv
        simp [hyj] at hc
        subst hv hc
        exact hx j x y hxj hyj)
  intro K Q hK
  unfold Oper.wp
  rw [run_exec_call hop (hC.enterI f _ _ _ hr _ _), hmap]
  refine Calls.mono hcall fun e w' ⟨u, m', he', hw, hown, hm', hext, hcv⟩ => ?_
  subst he' hw
  exact hK u m' hown hm' hext hcv
end
end Go.Eng
