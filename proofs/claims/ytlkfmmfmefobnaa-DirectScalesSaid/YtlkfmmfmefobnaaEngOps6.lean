/-
  copy; and all operations but calls in one theorem.
-/
import Derived.Test.YtlkfmmfmefobnaaEngOps5
set_option linter.unusedSimpArgs false
set_option linter.unusedVariables false
set_option linter.unnecessarySimpa false
namespace Go.Eng
open Go.RowKit

section
variable {B : Nat} {S : Nat → Prop} {w0 : World} {m : M}
variable {P : Program} {num : Nat → Nat} {o : Oper} {a : Act} {ρ : Opd → AV}

theorem upd_self (ow : Own) (s t : Nat) (b : Blk) (h : ow.get s t = some b) : ow.put s ((ow s).upd t (some b)) = ow := by
  funext s'
  unfold Own.put Site.upd
  by_cases hs : s' = s
  · subst hs
    rw [if_pos rfl]
    unfold Own.get at h
    cases hx : ow s' with
    | mk c f =>
      rw [hx] at h
      simp only at h
      congr
      funext t'
      by_cases ht : t' = t
      · subst ht; simp [h]
      · simp [ht]
  · simp [hs]

theorem run_cpy (ty e : TypeId) (i : TypeInfo) (hu : P.underlying ty = some (.slice e)) (hi : P.info? e = some i) (ad : Option Addr) (dLen dCap : Nat) (yad : Option Addr) (yl yc : Nat) (cs : List Value) (w w' : World) (rt : TypeId)
    (hf : (Builtin.firstCells i.size (Nat.min yl dLen) (.slice yad yl yc)).run P w = .ok cs.toArray w) (hst : ∀ b, ad = some b → (storeCells b cs).run P w = .ok () w') (hn : ad = none → w' = w) :
    (Builtin.copy_ #[ty, ty] rt #[.slice ad dLen dCap, .slice yad yl yc]).run P w = .ok (goInt (Nat.min yl dLen)) w' := by
  cases ad with
  | none => rw [hn rfl]; simp [Builtin.copy_, run_underlying hu, sizeOf, typeInfo, hi, Builtin.lenOf, hf]
  | some b => simp [Builtin.copy_, run_underlying hu, sizeOf, typeInfo, hi, Builtin.lenOf, hf, hst b rfl]

theorem do_cpy (hm : MemOK B S w0 m) (hs : Says B S m ρ a.eval) {esz : Nat} {x' y' : Opd} (h : okOp P num o.op (.cpy esz x' y') = true) {ys : List (List AV)} (hy : elemsOf m.own (ρ y') = some ys) (hz : ∀ e ∈ ys, e.length = esz) {s t off len : Nat} {b : Blk} (hx : ρ x' = .row s t esz off len) (hget : m.own.get s t = some b)
    (hbz : b.esz = esz) (hle : off + len ≤ b.es.length) :
    Does B S w0 P o a m (.tur (.int .i64 (min ys.length len : Nat)) (m.own.put s ((m.own s).upd t (some ⟨esz, b.es.take off ++ ys.take len ++ b.es.drop (off + min ys.length len)⟩)))) := by
  obtain ⟨x, y, ty, e, i, hop, h1, h2, hu, hi, hsz, hne⟩ := inv_cpy h
  have h0 : 0 < esz := Nat.pos_of_ne_zero hne
  obtain ⟨ad, cap, hev, ht, _, hlc, ha, hb⟩ := cv_row (hx ▸ hs x x' h1)
  obtain ⟨yad, ycap, news, hyv, hel⟩ := elems_of hm (hs y y' h2) hy hz h0
  obtain ⟨hbb, hmat⟩ := hm.blk s t b hget
  obtain ⟨_, hor⟩ := hb b hget
  have hnl : news.length = ys.length * esz := hel.len
  have hkle : min ys.length len * esz ≤ news.length := by rw [hnl]; exact Nat.mul_le_mul_right _ (Nat.min_le_left _ _)
  have hcsl : (news.take (min ys.length len * esz)).length = min ys.length len * esz := by simp; omega
  have hf : (Builtin.firstCells i.size (Nat.min ys.length len) (.slice yad ys.length ycap)).run P m.w = .ok (news.take (min ys.length len * esz)).toArray m.w := by
    cases hyad : yad with
    | none =>
      have hys : ys = [] := by
        cases ys with
        | nil => rfl
        | cons q r => exact absurd (hel.some_ (by simp)) (by simp [hyad])
      subst hys
      simp only [List.length_nil, Nat.zero_min, Nat.zero_mul, List.take_zero]
      have := run_firstCells_none (P := P) m.w i.size 0 0 ycap
      simpa using this
    | some yb =>
      refine run_firstCells_some m.w i.size _ yb ys.length ycap _ (by rw [hcsl, hsz]) (fun j v hv => ?_)
      rw [List.getElem?_take] at hv
      split at hv
      · exact hel.cells yb hyad j v hv
      · cases hv
  intro K Q hK
  by_cases hk : min ys.length len = 0
  · have hc0 : news.take (min ys.length len * esz) = [] := by rw [hk]; simp
    have hown : m.own.put s ((m.own s).upd t (some ⟨esz, b.es.take off ++ ys.take len ++ b.es.drop (off + min ys.length len)⟩)) = m.own := by
      have hyt : ys.take len = [] := by
        apply List.eq_nil_of_length_eq_zero
        rw [List.length_take]; omega
      rw [hk, hyt]
      have : b = ⟨esz, b.es.take off ++ [] ++ b.es.drop (off + 0)⟩ := by
        cases b with
        | mk z es => simp at hbz; subst hbz; simp
      rw [← this]
      exact upd_self _ _ _ _ hget
    have hrun := run_cpy ty e i hu hi ad len cap yad ys.length ycap _ m.w m.w o.type hf (fun b' _ => by rw [hc0]; rfl) (fun _ => rfl)
    refine wp_of_run (run_exec_cpy hop (by rw [hev, hyv]; exact hrun)) (hK _ m hown.symm hm (Ext.refl m) (mkInt _ _))
  · rcases hor with ⟨hl0, hc0⟩ | ⟨g, arr, e', hg, hae, hh, hcz⟩
    · omega
    · rw [hg] at hmat
      obtain ⟨hB, arr2, e2, hh2, hcc⟩ := hmat
      rw [hh] at hh2
      obtain ⟨rfl, rfl⟩ : arr = arr2 ∧ e' = e2 := by simpa using hh2
      have hbound : off * esz + (news.take (min ys.length len * esz)).length ≤ arr.size := by
        rw [hcsl, ← Nat.add_mul]
        exact Nat.le_trans (Nat.mul_le_mul_right _ (by omega)) hcz
      have hone : ∀ u ∈ news.take (min ys.length len * esz), u.oneCell' = true := fun u hu' => hel.one h0 hz u (List.mem_of_mem_take hu')
      have hst := run_storeCells_at (P := P) g (off * esz) e' (news.take (min ys.length len * esz)) 0 arr m.w hh (by omega) hone
      simp only [Nat.add_zero] at hst
      generalize harr' : (arr.toList.take (off * esz) ++ news.take (min ys.length len * esz) ++ arr.toList.drop (off * esz + (news.take (min ys.length len * esz)).length)).toArray = arr' at hst
      have hg' : ∀ p, arr'[p]? = if p < off * esz then arr[p]? else if p < off * esz + min ys.length len * esz then (news.take (min ys.length len * esz))[p - off * esz]? else arr[p]? := fun p => by
        rw [← harr', ofSetRow_get arr (off * esz) _ hbound p, hcsl]
      have hsize' : arr'.size = arr.size := by rw [← harr']; simp; omega
      obtain ⟨k1, k2⟩ := upd_ok hm s t b ⟨esz, b.es.take off ++ ys.take len ++ b.es.drop (off + min ys.length len)⟩ hget g hg arr arr' e' hh hbz.symm (fun q hq => by
          rcases List.mem_append.1 hq with hq | hq
          · rcases List.mem_append.1 hq with hq | hq
            · rw [← hbz]; exact hbb q (List.mem_of_mem_take hq)
            · exact hz q (List.mem_of_mem_take hq)
          · rw [← hbz]; exact hbb q (List.mem_of_mem_drop hq)) hsize'
        (fun i' cs hi' j c hj => by
          show ∃ u, arr'[i' * esz + j]? = some u ∧ _
          have hyl : (ys.take len).length = min ys.length len := by simp; omega
          change (b.es.take off ++ ys.take len ++ b.es.drop (off + min ys.length len))[i']? = some cs at hi'
          have hyl' := hyl
          rw [← hyl', splice_get _ _ _ (by rw [hyl]; omega), hyl] at hi'
          by_cases hi1 : i' < off
          · rw [if_pos hi1] at hi'
            have hjl : j < esz := by rw [← hbz, ← hbb cs (List.mem_of_getElem? hi')]; exact (List.getElem?_eq_some_iff.1 hj).1
            obtain ⟨u, hu', hcu⟩ := hcc i' cs hi' j c hj
            have : (i' + 1) * esz ≤ off * esz := Nat.mul_le_mul_right _ hi1
            rw [Nat.succ_mul] at this
            exact ⟨u, by rw [hg', if_pos (by omega), ← hu', hbz], hcu⟩
          · rw [if_neg hi1] at hi'
            have e1 : i' * esz = off * esz + (i' - off) * esz := by rw [← Nat.add_mul]; congr 1; omega
            by_cases hi2 : i' < off + min ys.length len
            · rw [if_pos hi2, List.getElem?_take, if_pos (by omega)] at hi'
              have hjl : j < esz := by rw [← hz cs (List.mem_of_getElem? hi')]; exact (List.getElem?_eq_some_iff.1 hj).1
              obtain ⟨u, hu', hcu⟩ := hel.rel (i' - off) cs hi' j c hj
              have h3 : (i' - off + 1) * esz ≤ min ys.length len * esz := Nat.mul_le_mul_right _ (by omega)
              rw [Nat.succ_mul] at h3
              refine ⟨u, ?_, hcu⟩
              rw [hg', if_neg (by omega), if_pos (by omega), List.getElem?_take, if_pos (by omega), ← hu']
              congr 1; omega
            · rw [if_neg hi2] at hi'
              obtain ⟨u, hu', hcu⟩ := hcc i' cs hi' j c hj
              have h3 : (off + min ys.length len) * esz ≤ i' * esz := Nat.mul_le_mul_right _ (by omega)
              rw [Nat.add_mul] at h3
              exact ⟨u, by rw [hg', if_neg (by omega), if_neg (by omega), ← hu', hbz], hcu⟩)
        (m.w.setRow g arr') (below_setRow hm hB arr') (by simp) (fun k hk => setRow_other _ _ _ _ hk) (setRow_heap _ _ _ _ _ _ hh)
      have hrun := run_cpy ty e i hu hi ad len cap yad ys.length ycap _ m.w (m.w.setRow g arr') o.type hf (fun b' hb' => by
        rw [hae] at hb'
        obtain rfl : (⟨g, off * esz, none⟩ : Addr) = b' := by simpa using hb'
        exact hst) (fun hn => by rw [hae] at hn; cases hn)
      exact wp_of_run (run_exec_cpy hop (by rw [hev, hyv]; exact hrun)) (hK _ ⟨m.ν, _, m.w.setRow g arr'⟩ rfl k1 k2 (mkInt _ _))

/-- what calls must do -/
structure CallsOK (P : Program) (num : Nat → Nat) (C : Cl) : Prop where
  enterP : ∀ (f : Nat) (vs : List AV) (r : AV), C.pure f vs = some r → ∀ (us : Array Value) (w : World), (callFunc (num f) us).run P w = .ok (.enter (num f) us) w
  enterI : ∀ (f : Nat) (vs : List AV) (own : Own) (r : AV × Own), C.inn f vs own = some r → ∀ (us : Array Value) (w : World), (callFunc (num f) us).run P w = .ok (.enter (num f) us) w
  pure : ∀ (f : Nat) (vs : List AV) (r : AV), C.pure f vs = some r → ∀ (S : Nat → Prop) (w : World) (us : List Value), vs.length = us.length → (∀ (j : Nat) (c : AV) (v : Value), vs[j]? = some c → us[j]? = some v → CA w.heap.size S ⟨fun _ _ => none, Own.emp, w⟩ c v) →
    Calls P (num f) us.toArray w fun e w' => ∃ u, e = .returned u ∧ Below w.heap.size w w' ∧ CV w.heap.size S ⟨fun _ _ => none, Own.emp, w'⟩ r u ∧ Clean r
  inn : ∀ (f : Nat) (vs : List AV) (own : Own) (r : AV) (own' : Own), C.inn f vs own = some (r, own') → ∀ (B : Nat) (S : Nat → Prop) (w0 : World) (m : M) (us : List Value), m.own = own → MemOK B S w0 m → vs.length = us.length → (∀ (j : Nat) (c : AV) (v : Value), vs[j]? = some c → us[j]? = some v → CV B S m c v) →
    Calls P (num f) us.toArray m.w fun e w' => ∃ u m', e = .returned u ∧ m'.w = w' ∧ m'.own = own' ∧ MemOK B S w0 m' ∧ Ext B S m m' ∧ CV B S m' r u
end
end Go.Eng
