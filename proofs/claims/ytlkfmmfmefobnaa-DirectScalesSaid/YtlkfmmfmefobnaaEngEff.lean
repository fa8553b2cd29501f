/-
  Whatever the abstract machine says of an operation, the model does.
-/
import Derived.Test.YtlkfmmfmefobnaaEngCalls
set_option linter.unusedSimpArgs false
set_option linter.unusedVariables false
set_option linter.unnecessarySimpa false
namespace Go.Eng
open Go.RowKit

section
variable {B : Nat} {S : Nat → Prop} {w0 : World} {m : M}
variable {P : Program} {num : Nat → Nat} {o : Oper} {a : Act} {ρ : Opd → AV} {C : Cl} {ban : List Nat}

theorem do_mm' (hm : MemOK B S w0 m) (hs : Says B S m ρ a.eval) {mx : Bool} {xs' : List Opd} (h : okOp P num o.op (.mm mx xs') = true) {v r : AV} {l : List AV} (hx : xs'.map ρ = v :: l) (hv : mmL mx v l = some r) : Does B S w0 P o a m (.val r) := by
  by_cases hi : ∃ k n, v = .int k n
  · exact do_mm hm hs h hx hv hi
  · cases l with
    | cons u q =>
      simp only [mmL] at hv
      exfalso
      cases v <;> first | (exact hi ⟨_, _, rfl⟩) | (simp [mm2] at hv)
    | nil =>
      simp only [mmL, Option.some.injEq] at hv
      subst hv
      obtain ⟨xs, ts, hop, he⟩ := inv_mm h
      cases xs' with
      | nil => simp at hx
      | cons y yr =>
        simp only [List.map_cons, List.cons.injEq, List.map_eq_nil_iff] at hx
        obtain ⟨rfl, rfl⟩ := hx
        obtain ⟨xl⟩ := xs
        cases xl with
        | nil => simp [eqOpds] at he
        | cons x xr =>
          simp only [eqOpds, Bool.and_eq_true] at he
          cases xr with
          | cons => simp [eqOpds] at he
          | nil =>
            refine does_val hm (u := a.eval x) ?_ (hs x y he.1)
            cases mx <;> simp [execOp, hop, resolve, invoke, builtin, Builtin.min_, Builtin.max_]

theorem get_hide (o : Own) (l : List Nat) (s t : Nat) (b : Blk) (h : (o.hide l).get s t = some b) : o.get s t = some b := by
  induction l with
  | nil => exact h
  | cons x r ih =>
    unfold Own.get Own.hide at h
    by_cases hs : s = x
    · simp [hs] at h
    · simp only [if_neg hs] at h
      exact ih h
theorem ldp_hide {o : Own} {l : List Nat} {s t i j n : Nat} {cs : List AV} (h : (o.hide l).ldp s t i j n = some cs) : o.ldp s t i j n = some cs := by
  unfold Own.ldp at *
  cases hg : (o.hide l).get s t with
  | none => simp [hg] at h
  | some b =>
    rw [get_hide o l s t b hg]
    simpa [hg] using h
theorem elems_hide {o : Own} {l : List Nat} {v : AV} {es : List (List AV)} (h : elemsOf (o.hide l) v = some es) : elemsOf o v = some es := by
  cases v <;> first | exact h | skip
  rename_i s t z off len
  simp only [elemsOf] at h ⊢
  cases hg : (o.hide l).get s t with
  | none => simp [hg] at h
  | some b =>
    rw [get_hide o l s t b hg]
    simpa [hg] using h
theorem mapM_mono {α β : Type} {f g : α → Option β} (hfg : ∀ x y, f x = some y → g x = some y) : ∀ {l : List α} {l' : List β}, l.mapM f = some l' → l.mapM g = some l'
  | [], l', h => by simpa using h
  | x :: r, l', h => by
    simp only [List.mapM_cons, Option.bind_eq_bind, Option.pure_def] at h ⊢
    cases hx : f x with
    | none => simp [hx] at h
    | some y =>
      cases hr : r.mapM f with
      | none => simp [hx, hr] at h
      | some r' =>
        simp [hx, hr] at h
        simp [hfg x y hx, mapM_mono hfg hr, h]
theorem snap_hide (o : Own) (l : List Nat) (b : Bool) : ∀ (d : Nat) (c c' : AV), snap (o.hide l) b d c = some c' → snap o b d c = some c'
  | 0, c, c', h => by cases c <;> simp_all [snap]
  | d + 1, c, c', h => by
    cases c <;> first | (simp_all [snap]; done) | skip
    rename_i s t z off len
    simp only [snap] at h ⊢
    cases he : elemsOf (o.hide l) (.row s t z off len) with
    | none => simp [he] at h
    | some es =>
      simp only [he] at h
      rw [elems_hide he]
      simp only [Option.map_eq_some_iff] at h ⊢
      obtain ⟨es', h1, h2⟩ := h
      exact ⟨es', mapM_mono (fun x y hx => mapM_mono (snap_hide o l b d) hx) h1, h2⟩
theorem snapA_hide (o : Own) (l : List Nat) (b : Bool) (c c' : AV) (h : snapA (o.hide l) b c = some c') : snapA o b c = some c' := by
  cases c <;> first | exact snap_hide o l b 6 _ _ h | skip
  simp only [snapA, Option.map_eq_some_iff] at h ⊢
  obtain ⟨cs, h1, h2⟩ := h
  exact ⟨cs, mapM_mono (snap_hide o l b 6) h1, h2⟩
theorem mapM_hide {o : Own} {l : List Nat} {b : Bool} {xs vs : List AV} (h : xs.mapM (snapA (o.hide l) b) = some vs) : xs.mapM (snapA o b) = some vs := mapM_mono (snapA_hide o l b) h

theorem eff_sound (hC : CallsOK P num C) (hm : MemOK B S w0 m) (hs : Says B S m ρ a.eval) {op' : AOp} (hok : okOp P num o.op op' = true) {E : Eff} (h : eff C ban ρ m.own op' = some E) : Does B S w0 P o a m E := by
  cases op' with
  | mov x => simp only [eff, Option.some.injEq] at h; subst h; exact do_mov hm hs hok
  | vrow s z => simp only [eff, Option.some.injEq] at h; subst h; exact do_vrow hm hok
  | pick c x y =>
    simp only [eff] at h
    split at h
    · rename_i hc; simp only [Option.some.injEq] at h; subst h; exact do_pick hm hs hok hc
    · rename_i hc; simp only [Option.some.injEq] at h; subst h; exact do_pick hm hs hok hc
    · cases h
  | bin f x y =>
    simp only [eff] at h
    split at h
    · rename_i k n k' n' hx hy
      simp only [Option.map_eq_some_iff] at h
      obtain ⟨v, hv, rfl⟩ := h
      exact do_bin hm hs hok hx hy hv
    · cases h
  | beq ne x y =>
    simp only [eff] at h
    split at h
    · rename_i b b' hx hy
      simp only [Option.some.injEq] at h; subst h
      exact do_beq hm hs hok hx hy
    · cases h
  | un f x =>
    simp only [eff, Option.map_eq_some_iff] at h
    obtain ⟨v, hv, rfl⟩ := h
    exact do_un hm hs hok hv
  | conv k x =>
    simp only [eff] at h
    split at h
    · rename_i k' n hx
      simp only [Option.some.injEq] at h; subst h
      exact do_conv hm hs hok hx
    · cases h
  | box s x =>
    simp only [eff] at h
    split at h
    · rename_i cs hcs
      simp only [Option.some.injEq] at h; subst h
      exact do_box hm hs hok hcs
    · cases h
  | alloc s z => simp only [eff, Option.some.injEq] at h; subst h; exact do_alloc hm hok
  | build z ps =>
    simp only [eff, Option.map_eq_some_iff] at h
    obtain ⟨cs, hcs, rfl⟩ := h
    exact do_build hm hs hok hcs
  | bslice s esz ps =>
    simp only [eff] at h
    split at h
    · rename_i es hes
      split at h
      · rename_i hz
        simp only [Option.some.injEq] at h; subst h
        exact do_bslice hm hs hok hes hz
      · cases h
    · cases h
  | fadr x off =>
    simp only [eff] at h
    split at h
    · rename_i s t i j hx
      simp only [Option.some.injEq] at h; subst h
      exact do_fadr_ptr hm hs hok hx
    · rename_i cs hx
      simp only [Option.some.injEq] at h; subst h
      exact do_fadr_dptr hm hs hok hx
    · cases h
  | fld x off n agg =>
    simp only [eff] at h
    split at h
    · rename_i cs hx
      split at h
      · rename_i ds hp
        simp only [Option.map_eq_some_iff] at h
        obtain ⟨v, hv, rfl⟩ := h
        exact do_fld hm hs hok hx hp hv
      · cases h
    · cases h
  | iadr arr esz x i =>
    simp only [eff] at h
    split at h
    · rename_i k n hi
      split at h
      · rename_i len s t i' j hx
        split at h
        · rename_i hn
          simp only [Option.some.injEq] at h; subst h
          exact do_iadr_arr hm hs hok hi hx hn.1 hn.2
        · cases h
      · rename_i len cs hx
        split at h
        · rename_i hn
          simp only [Option.some.injEq] at h; subst h
          exact do_iadr_darr hm hs hok hi hx hn.1 hn.2
        · cases h
      · rename_i s t z off len hx
        split at h
        · rename_i hn
          simp only [Option.some.injEq] at h; subst h
          exact do_iadr_row hm hs hok hi hx hn.1 hn.2.1 hn.2.2
        · cases h
      · rename_i l es hx
        split at h
        · rename_i h0
          split at h
          · rename_i cs hcs
            split at h
            · rename_i hz
              simp only [Option.some.injEq] at h; subst h
              exact do_iadr_sl hm hs hok hi hx h0 hcs hz
            · cases h
          · cases h
        · cases h
      · cases h
    · cases h
  | idx len esz agg x i =>
    simp only [eff] at h
    split at h
    · rename_i k n cs hi hx
      split at h
      · rename_i hn
        split at h
        · rename_i ds hp
          simp only [Option.map_eq_some_iff] at h
          obtain ⟨v, hv, rfl⟩ := h
          exact do_idx hm hs hok hi hx hn.1 hn.2 hp hv
        · cases h
      · cases h
    · cases h
  | ld agg n x =>
    simp only [eff] at h
    split at h
    · rename_i s t i j hx
      split at h
      · rename_i cs hcs
        simp only [Option.map_eq_some_iff] at h
        obtain ⟨v, hv, rfl⟩ := h
        exact do_ld_ptr hm hs hok hx (ldp_hide hcs) hv
      · cases h
    · rename_i cs hx
      split at h
      · rename_i ds hp
        simp only [Option.map_eq_some_iff] at h
        obtain ⟨v, hv, rfl⟩ := h
        exact do_ld_dptr hm hs hok hx hp hv
      · cases h
    · cases h
  | st n x v =>
    simp only [eff] at h
    split at h
    · rename_i s t i j vs hx hvs
      split at h
      · rename_i hn
        simp only [Option.map_eq_some_iff] at h
        obtain ⟨own', ho, rfl⟩ := h
        exact do_st hm hs hok hx hvs hn ho
      · cases h
    · cases h
  | mk s esz bytes zero l c =>
    simp only [eff] at h
    split at h
    · rename_i kl a' kc b' hl hc
      split at h
      · rename_i hn
        simp only [Option.some.injEq] at h; subst h
        exact do_mk hm hs hok hl hc hn.1 hn.2.1 hn.2.2.1 hn.2.2.2.1 hn.2.2.2.2
      · cases h
    · cases h
  | slc esz x lo hi =>
    simp only [eff] at h
    have bnd : ∀ (d : Nat) (y : Option Opd) (q : Nat), (match y with | none => some d | some o => match ρ o with | .int _ n => if 0 ≤ n ∧ n ≤ d then some n.toNat else none | _ => none) = some q → ∃ n : Int, bndA ρ d y = some n ∧ 0 ≤ n ∧ n ≤ d ∧ q = n.toNat := fun d y q hq => by
      cases y with
      | none => simp only [Option.some.injEq] at hq; subst hq; exact ⟨d, rfl, by omega, by omega, by simp⟩
      | some y =>
        simp only at hq
        cases hy : ρ y with
        | int k n =>
          simp only [hy] at hq
          split at hq
          · rename_i hn
            simp only [Option.some.injEq] at hq; subst hq
            exact ⟨n, by simp [bndA, hy], hn.1, hn.2, rfl⟩
          · cases hq
        | _ => simp [hy] at hq
    have bnd0 : ∀ (y : Option Opd) (q : Nat), (match y with | none => some 0 | some o => match ρ o with | .int _ n => if 0 ≤ n then some n.toNat else none | _ => none) = some q → ∃ n : Int, bndA ρ 0 y = some n ∧ 0 ≤ n ∧ q = n.toNat := fun y q hq => by
      cases y with
      | none => simp only [Option.some.injEq] at hq; subst hq; exact ⟨0, rfl, by omega, by simp⟩
      | some y =>
        simp only at hq
        cases hy : ρ y with
        | int k n =>
          simp only [hy] at hq
          split at hq
          · rename_i hn
            simp only [Option.some.injEq] at hq; subst hq
            exact ⟨n, by simp [bndA, hy], hn, rfl⟩
          · cases hq
        | _ => simp [hy] at hq
    have bndz : ∀ (y : Option Opd) (q : Nat), (match y with | none => some 0 | some o => match ρ o with | .int _ n => if n = 0 then some 0 else none | _ => none) = some q → bndA ρ 0 y = some 0 := fun y q hq => by
      cases y with
      | none => rfl
      | some y =>
        simp only at hq
        cases hy : ρ y with
        | int k n =>
          simp only [hy] at hq
          split at hq
          · rename_i hn
            subst hn
            simp [bndA, hy]
          · cases hq
        | _ => simp [hy] at hq
    split at h
    · rename_i l es hx
      split at h
      · rename_i q1 q2 h1 h2
        split at h
        · rename_i hq
          simp only [Option.some.injEq] at h; subst h
          obtain ⟨n1, b1, c1, rfl⟩ := bnd0 _ _ h1
          obtain ⟨n2, b2, c2, c3, rfl⟩ := bnd _ _ _ h2
          exact do_slc_sl hm hs hok hx b1 b2 c1 (by omega) c3 hq.2
        · cases h
      · cases h
    · rename_i hx
      split at h
      · rename_i q1 q2 h1 h2
        simp only [Option.some.injEq] at h; subst h
        exact do_slc_nil hm hs hok hx (bndz _ _ h1) (bndz _ _ h2)
      · cases h
    · rename_i s t z off len hx
      split at h
      · rename_i q1 q2 h1 h2
        split at h
        · rename_i hq
          simp only [Option.some.injEq] at h; subst h
          obtain ⟨n1, b1, c1, rfl⟩ := bnd0 _ _ h1
          obtain ⟨n2, b2, c2, c3, rfl⟩ := bnd _ _ _ h2
          exact do_slc_row hm hs hok hx b1 b2 c1 (by omega) c3 hq.2
        · cases h
      · cases h
    · cases h
  | ext x i =>
    simp only [eff] at h
    split at h
    · rename_i vs hx
      simp only [Option.map_eq_some_iff] at h
      obtain ⟨v, hv, rfl⟩ := h
      exact do_ext hm hs hok hx hv
    · cases h
  | len x =>
    simp only [eff] at h
    split at h
    · rename_i n hn
      simp only [Option.some.injEq] at h; subst h
      exact do_len hm hs hok hn
    · cases h
  | mm mx xs =>
    simp only [eff] at h
    split at h
    · cases h
    · rename_i v r hx
      simp only [Option.map_eq_some_iff] at h
      obtain ⟨q, hq, rfl⟩ := h
      exact do_mm' hm hs hok hx hq
  | app s esz bytes x y =>
    simp only [eff] at h
    split at h
    · rename_i ys hys
      split at h
      · rename_i hz
        split at h
        · rename_i s' t z len hx
          split at h
          · rename_i b hb
            split at h
            · rename_i hn
              obtain ⟨n1, rfl, n3, n4, n5⟩ := hn
              simp only [Option.some.injEq] at h; subst h
              exact do_app_row hm hs hok hys hz hx hb n1 n3 n4 n5
            · cases h
          · cases h
        · rename_i hx
          split at h
          · rename_i hn
            simp only [Option.some.injEq] at h; subst h
            exact do_app_nil hm hs hok hys hz hx hn.1 hn.2
          · cases h
        · cases h
      · cases h
    · cases h
  | cpy esz x y =>
    simp only [eff] at h
    split at h
    · rename_i s t z off len ys hx hys
      split at h
      · rename_i b hb
        split at h
        · rename_i hn
          obtain ⟨n1, rfl, n3, n4⟩ := hn
          simp only [Option.some.injEq] at h; subst h
          exact do_cpy hm hs hok hys n4 hx hb n1 n3
        · cases h
      · cases h
    · cases h
  | call f xs =>
    simp only [eff] at h
    split at h
    · rename_i vs hvs
      simp only [Option.map_eq_some_iff] at h
      obtain ⟨r, hr, rfl⟩ := h
      exact do_call hC hm hs hok (mapM_hide hvs) hr
    · cases h
  | calli f xs =>
    simp only [eff, Option.map_eq_some_iff] at h
    obtain ⟨r, hr, rfl⟩ := h
    exact do_calli hC hm hs hok hr
end
end Go.Eng
