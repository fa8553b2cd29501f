/-
  Functions: what the abstract machine says of a call, the model does.
-/
import Derived.Test.YtlkfmmfmefobnaaEngRun
set_option linter.unusedSimpArgs false
set_option linter.unusedVariables false
set_option linter.unnecessarySimpa false
namespace Go.Eng
open Go.RowKit

section
variable {P : Program} {num : Nat → Nat} {L : Lib}

/-- the program has each function of the library as it stands there -/
def ProgOK (P : Program) (num : Nat → Nat) (L : Lib) : Prop := ∀ f fa, L f = some fa → ∃ fn, P.funcs[num f]? = some fn ∧ okFn P num fn fa = true ∧ (fn.name == "runtime.NumGoroutine") = false

theorem initTm_get : ∀ (args : List AV) (k i : Nat), tget (initTm k args) i = if k ≤ i then (match args[i - k]? with | some v => v | none => .any) else .any
  | [], k, i => by simp [initTm, tget]
  | v :: r, k, i => by
    simp only [initTm, tget]
    by_cases h : i = k
    · subst h; simp
    · rw [if_neg h, initTm_get r (k + 1) i]
      by_cases h2 : k ≤ i
      · rw [if_pos h2, if_pos (by omega)]
        have : i - k = (i - (k + 1)) + 1 := by omega
        rw [this]
        simp
      · rw [if_neg h2, if_neg (by omega)]

section
variable {B : Nat} {S : Nat → Prop} {w0 : World} {m0 : M} {N : Nat}

def resSem (tmps : Array Value) : ResultVar → Sem Value
  | .tmp t => pure (tmps.getD t undef)
  | .cell x t => do loadVar t (← asAddr (tmps.getD x undef))

theorem ca_of_res {m : M} {x v : AV} {u : Value} (h : resTmp x = some v) (hcv : CV B S m x u) : CA B S m v u := by
  cases hcv with
  | any => simp [resTmp] at h
  | tup => simp [resTmp] at h
  | ca hc =>
    have : x = v := by
      cases hc with
      | one hc => cases hc with
        | rd hr => cases hr <;> simpa [resTmp] using h
        | _ => simpa [resTmp] using h
      | agg => simpa [resTmp] using h
    subst this
    exact hc

theorem results_ok {m : M} {a : Act} {st : St} (hf : FrOK B S w0 m0 N (tget st.tm) m a) (hown : m.own = st.own) : ∀ {rv : List ResultVar} {ra : List ARes} {vs : List AV}, okRes P rv ra = true → ra.mapM (resOf st) = some vs →
    ∃ us : List Value, (rv.mapM (resSem a.tmps)).run P m.w = .ok us m.w ∧ vs.length = us.length ∧ ∀ (j : Nat) (c : AV) (v : Value), vs[j]? = some c → us[j]? = some v → CA B S m c v
  | [], [], vs, _, h => by
    simp at h; subst h
    exact ⟨[], by simp, rfl, fun j c v hc => by simp at hc⟩
  | .tmp t :: r, .tmp t' :: l, vs, hok, h => by
    simp only [okRes, Bool.and_eq_true, beq_iff_eq] at hok
    obtain ⟨rfl, hok⟩ := hok
    simp only [List.mapM_cons, Option.bind_eq_bind, Option.pure_def] at h
    cases hv : resOf st (.tmp t) with
    | none => simp [hv] at h
    | some v =>
      cases hr : l.mapM (resOf st) with
      | none => simp [hv, hr] at h
      | some vr =>
        simp [hv, hr] at h
        subst h
        obtain ⟨us, h1, h2, h3⟩ := results_ok hf hown hok hr
        have hcv := hf.tm t
        have hca : CA B S m v (a.tmps.getD t undef) := ca_of_res hv hcv
        refine ⟨a.tmps.getD t undef :: us, ?_, by simp [h2], fun j c u hc hu => ?_⟩
        · simp only [List.mapM_cons, Sem.run_bind, resSem, Sem.run_pure, Result.andThen_ok, h1]
        · cases j with
          | zero =>
            obtain rfl : v = c := by simpa using hc
            obtain rfl : a.tmps.getD t undef = u := Option.some.inj hu
            exact hca
          | succ j => exact h3 j c u (by simpa using hc) (by simpa using hu)
  | .cell x t :: r, .cell x' agg n :: l, vs, hok, h => by
    simp only [okRes, Bool.and_eq_true, beq_iff_eq] at hok
    obtain ⟨⟨⟨rfl, hagg⟩, hn⟩, hok⟩ := hok
    simp only [List.mapM_cons, Option.bind_eq_bind, Option.pure_def] at h
    cases hv : resOf st (.cell x agg n) with
    | none => simp [hv] at h
    | some v =>
      cases hr : l.mapM (resOf st) with
      | none => simp [hv, hr] at h
      | some vr =>
        simp [hv, hr] at h
        subst h
        obtain ⟨us, h1, h2, h3⟩ := results_ok hf hown hok hr
        have hcv := hf.tm x
        simp only [resOf] at hv
        split at hv
        · rename_i s u i j hx
          rw [hx] at hcv
          split at hv
          · rename_i cs hcs
            rw [← hown] at hcs
            obtain ⟨ad, hev, ht, hb⟩ := cv_ptr hcv
            obtain ⟨b, g, arr, e, hget, hg, vs', hvl, hcl, hvs⟩ := own_cells hf.mem hcs
            obtain ⟨hcv', hone⟩ := ofCells_ok hv hcl
            have hld := run_loadAt (P := P) t agg n (aggOf_inv (by simpa using hagg)) (by
              cases agg
              · simpa using hn
              · exact sizeIs_inv (by simpa using hn)) ad vs' hvl m.w (fun q u' hq => by
              have hlt : q < vs'.length := (List.getElem?_eq_some_iff.1 hq).1
              obtain ⟨hg1, hg2⟩ := hg (by omega)
              obtain ⟨g', hg', rfl⟩ := hb b hget
              obtain rfl : g = g' := by rw [hg1] at hg'; simpa using hg'
              rw [add_none, cell_at hg2]
              exact hvs q u' hq)
            have hld' : (resSem a.tmps (.cell x t)).run P m.w = .ok (if agg then .agg vs'.toArray else vs'.getD 0 undef) m.w := by
              show (do loadVar t (← asAddr (a.tmps.getD x undef)) : Sem Value).run P m.w = _
              rw [hev]
              simpa [asAddr, Instr.loadAt, Instr.sureAddr] using hld
            have hca : CA B S m v (if agg then .agg vs'.toArray else vs'.getD 0 undef) := by
              unfold ofCells at hv
              cases agg with
              | true =>
                simp only [if_true, Option.some.injEq] at hv
                subst hv
                exact .agg cs vs' hcl
              | false =>
                simp only [Bool.false_eq_true, if_false] at hv ⊢
                split at hv
                · rename_i c
                  simp only [Option.some.injEq] at hv
                  subst hv
                  obtain ⟨u', hu', hcc⟩ := cl_get hcl (j := 0) (c := c) rfl
                  simp only [List.getD, hu', Option.getD_some]
                  exact .one hcc
                · cases hv
            refine ⟨(if agg then .agg vs'.toArray else vs'.getD 0 undef) :: us, ?_, by simp [h2], fun j' c u' hc hu => ?_⟩
            · rw [List.mapM_cons, Sem.run_bind, hld', Result.andThen_ok, Sem.run_bind, h1, Result.andThen_ok]
              rfl
            · cases j' with
              | zero =>
                obtain rfl : v = c := by simpa using hc
                obtain rfl := Option.some.inj hu
                exact hca
              | succ j' => exact h3 j' c u' (by simpa using hc) (by simpa using hu)
          · cases hv
        · cases hv
  | [], _ :: _, _, hok, _ => by simp [okRes] at hok
  | .tmp _ :: _, [], _, hok, _ => by simp [okRes] at hok
  | .cell _ _ :: _, [], _, hok, _ => by simp [okRes] at hok
  | .tmp _ :: _, .cell _ _ _ :: _, _, hok, _ => by simp [okRes] at hok
  | .cell _ _ :: _, .tmp _ :: _, _, hok, _ => by simp [okRes] at hok
end

theorem callFunc_enter (hP : ProgOK P num L) {f : Nat} {fa : AFn} (hL : L f = some fa) (us : Array Value) (w : World) : (callFunc (num f) us).run P w = .ok (.enter (num f) us) w := by
  obtain ⟨fn, h1, h2, h3⟩ := hP f fa hL
  have hb : fn.body.isNone = false := by
    simp only [okFn, Bool.and_eq_true] at h2
    cases hbd : fn.body with
    | none => rw [hbd] at h2; simp at h2
    | some c => rfl
  unfold callFunc
  simp only [Sem.run_bind, run_program, Result.andThen_ok, h1, h3, hb, Bool.false_eq_true, if_false, Sem.run_pure]

theorem inn_sound (hP : ProgOK P num L) {n : Nat} (hC : CallsOK P num (clAt L n)) {f : Nat} {vs : List AV} {own : Own} {r : AV} {own' : Own} (h : evI L (n + 1) f vs own = some (r, own')) (B : Nat) (S : Nat → Prop) (w0 : World) (m : M) (us : List Value) (hown : m.own = own) (hm : MemOK B S w0 m) (hl : vs.length = us.length)
    (hcv : ∀ (j : Nat) (c : AV) (v : Value), vs[j]? = some c → us[j]? = some v → CV B S m c v) :
    Calls P (num f) us.toArray m.w fun e w' => ∃ u m', e = .returned u ∧ m'.w = w' ∧ m'.own = own' ∧ MemOK B S w0 m' ∧ Ext B S m m' ∧ CV B S m' r u := by
  rw [evI_succ] at h
  cases hL : L f with
  | none => simp [hL] at h
  | some fa =>
    simp only [hL] at h
    split at h
    · rename_i hpars
      split at h
      · rename_i st hrun
        split at h
        · rename_i rvs hres
          simp only [Option.some.injEq, Prod.mk.injEq] at h
          obtain ⟨rfl, rfl⟩ := h
          obtain ⟨fn, h1, h2, h3⟩ := hP f fa hL
          simp only [okFn, Bool.and_eq_true, beq_iff_eq, decide_eq_true_eq] at h2
          obtain ⟨⟨⟨h4, h5⟩, h6⟩, h7⟩ := h2
          split at h7
          · rename_i c hc
            intro cs
            have henter : Frame.enter P (num f) us.toArray .normal = ({ (default : Frame) with fn := num f, kind := .normal } : Frame).at { tmps := us.toArray ++ Array.replicate (fn.ntmps - us.toArray.size) undef, defers := [] } [.code c] := by
              simp [Frame.enter, Frame.at, h1, hc]
            have hsz : us.length = fa.pars := by rw [← hl]; exact hpars
            have hf0 : FrOK B S w0 m fn.ntmps (tget (initTm 0 vs)) m { tmps := us.toArray ++ Array.replicate (fn.ntmps - us.toArray.size) undef, defers := [] } := by
              refine ⟨hm, Ext.refl m, fun i => ?_, by simp; omega, rfl⟩
              rw [initTm_get]
              simp only [Nat.zero_le, if_true, Nat.sub_zero]
              cases hvi : vs[i]? with
              | none => exact .any _
              | some v =>
                have hi : i < us.length := by rw [← hl]; exact (List.getElem?_eq_some_iff.1 hvi).1
                have hget : (us.toArray ++ Array.replicate (fn.ntmps - us.toArray.size) undef).getD i undef = us[i] := by
                  rw [Array.getD_eq_getD_getElem?, Array.getElem?_append_left (by simpa using hi)]
                  simp [hi]
                simp only [hget]
                exact hcv i v us[i] hvi (List.getElem?_eq_getElem hi)
            obtain ⟨a', m', todo', hsteps, hown', hf'⟩ := run_sound (m0 := m) hC { (default : Frame) with fn := num f, kind := .normal } cs n [.code fa.body] ⟨initTm 0 vs, own⟩ st hrun [.code c] (.code h7 .nil) m _ hown hf0
            obtain ⟨uvs, hu1, hu2, hu3⟩ := results_ok (P := P) hf' hown' h6 hres
            have hresult : (results fn a'.tmps).run P m'.w = .ok (if h : uvs.length = 1 then uvs[0] else .tuple uvs.toArray) m'.w := by
              have hr : results fn a'.tmps = (do let vs ← fn.results.mapM (resSem a'.tmps); pure (if h : vs.size = 1 then vs[0] else .tuple vs)) := rfl
              rw [hr, Sem.run_bind, Array.mapM_eq_mapM_toList]
              simp [hu1]
            refine ⟨.returned (if h : uvs.length = 1 then uvs[0] else .tuple uvs.toArray), m'.w, _, ⟨_, m', rfl, rfl, hown', hf'.mem, hf'.ext, ?_⟩, by rw [henter]; exact hsteps, rfl, rfl, hf'.defers, rfl, fn, h1, hresult⟩
            unfold resVal
            split
            · rename_i v
              have h1' : uvs.length = 1 := by rw [← hu2]; rfl
              rw [dif_pos h1']
              exact .ca (hu3 0 v uvs[0] rfl (List.getElem?_eq_getElem (by omega)))
            · rename_i hne
              have h1' : ¬ uvs.length = 1 := fun e => by
                rw [← hu2] at e
                cases rvs with
                | nil => simp at e
                | cons q qs => cases qs with
                  | nil => exact hne q rfl
                  | cons => simp at e
              rw [dif_neg h1']
              exact .tup rvs uvs hu2 hu3
          · cases h7
        · cases h
      · cases h
    · cases h

theorem memOK_start (S : Nat → Prop) (w : World) : MemOK w.heap.size S w ⟨fun _ _ => none, Own.emp, w⟩ :=
  ⟨Below.refl _ _, Nat.le_refl _, fun _ _ _ => rfl, fun s t b h => by simp [Own.get, Own.emp] at h, fun s t s' t' b b' g h => by simp [Own.get, Own.emp] at h⟩

theorem evI_none_of_lib {n f : Nat} {vs : List AV} {own : Own} {r : AV × Own} (h : evI L n f vs own = some r) : ∃ fa, L f = some fa := by
  cases n with
  | zero => simp [evI] at h
  | succ n =>
    rw [evI_succ] at h
    cases hL : L f with
    | none => simp [hL] at h
    | some fa => exact ⟨fa, rfl⟩

theorem evP_inv {n f : Nat} {vs : List AV} {r : AV} (h : evP L n f vs = some r) : ∃ r0 o, evI L n f vs Own.emp = some (r0, o) ∧ snapR o false r0 = some r ∧ Clean r := by
  unfold evP at h
  cases he : evI L n f vs Own.emp with
  | none => simp [he] at h
  | some x =>
    obtain ⟨r0, o⟩ := x
    simp only [he] at h
    split at h
    · rename_i r' hr
      split at h
      · rename_i hc
        simp only [Option.some.injEq] at h
        subst h
        exact ⟨r0, o, rfl, hr, hc⟩
      · cases h
    · cases h

theorem calls_ok (hP : ProgOK P num L) : ∀ n, CallsOK P num (clAt L n) := by
  intro n
  induction n with
  | zero =>
    exact ⟨fun f vs r h => by obtain ⟨r0, o, h1, _⟩ := evP_inv (L := L) (n := 0) (f := f) (vs := vs) (r := r) h; simp [evI] at h1, fun f vs own r h => by change evI L 0 f vs own = some r at h; simp [evI] at h,
      fun f vs r h => by obtain ⟨r0, o, h1, _⟩ := evP_inv (L := L) (n := 0) (f := f) (vs := vs) (r := r) h; simp [evI] at h1, fun f vs own r own' h => by change evI L 0 f vs own = _ at h; simp [evI] at h⟩
  | succ n ih =>
    refine ⟨fun f vs r h us w => ?_, fun f vs own r h us w => ?_, fun f vs r h S w us hl hca => ?_, fun f vs own r own' h B S w0 m us hown hm hl hcv => inn_sound hP ih h B S w0 m us hown hm hl hcv⟩
    · obtain ⟨r0, o, h1, _⟩ := evP_inv (L := L) h
      obtain ⟨fa, hL⟩ := evI_none_of_lib h1
      exact callFunc_enter hP hL us w
    · obtain ⟨fa, hL⟩ := evI_none_of_lib (L := L) h
      exact callFunc_enter hP hL us w
    · obtain ⟨r0, o, h1, h2, h3⟩ := evP_inv (L := L) h
      refine Calls.mono (inn_sound hP ih h1 w.heap.size S w ⟨fun _ _ => none, Own.emp, w⟩ us rfl (memOK_start S w) hl fun j c v hc hv => .ca (hca j c v hc hv)) fun e w' ⟨u, m', he, hw, hown, hm', _, hcv⟩ => ?_
      subst hw
      refine ⟨u, he, hm'.below, ?_, h3⟩
      refine DV.cv (m := ⟨fun _ _ => none, Own.emp, m'.w⟩) (snapR_dv hm' false (safe w.heap.size S ⟨fun _ _ => none, Own.emp, m'.w⟩) (fun l b hb hs => ?_) (fun s t g hlv hg => ?_) (by rw [hown]; exact h2) hcv)
      · rcases hs with h | ⟨h, _⟩ | h
        · exact .inl h
        · exact .inr (.inl ⟨h, fun s t hlv => by simp [Own.get, Own.emp] at hlv⟩)
        · exact .inr (.inr h)
      · exact .inr (.inl ⟨(hm'.ge hlv hg).1, fun s t hlv => by simp [Own.get, Own.emp] at hlv⟩)
end
end Go.Eng
namespace Go.Eng
/-- a library given as a list -/
theorem progOK_of {P : Program} {num : Nat → Nat} (l : List (Nat × AFn)) (h : ∀ p ∈ l, ∃ fn, P.funcs[num p.1]? = some fn ∧ okFn P num fn p.2 = true ∧ (fn.name == "runtime.NumGoroutine") = false) : ProgOK P num (fun f => l.lookup f) := by
  intro f fa hf
  have hm : (f, fa) ∈ l := by
    clear h
    change l.lookup f = some fa at hf
    induction l with
    | nil => simp at hf
    | cons x r ih =>
      obtain ⟨k, v⟩ := x
      rw [List.lookup_cons] at hf
      cases hk : (f == k) with
      | true =>
        rw [hk] at hf
        have : f = k := by simpa using hk
        subst this
        simp at hf
        simp [hf]
      | false =>
        rw [hk] at hf
        exact List.mem_cons_of_mem _ (ih hf)
  exact h (f, fa) hm
end Go.Eng
