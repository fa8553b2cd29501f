/-
  A call in the own memory, walked where it is made: the caller's table lies beside the callee's, out of its reach.
-/
import Derived.Test.YtlkfmmfmefobnaaEngXR
set_option linter.unusedSimpArgs false
set_option linter.unusedVariables false
set_option linter.unnecessarySimpa false
namespace Go.Eng
variable {L : Lib}
def oLt (N : Nat) : Opd → Bool
  | .t n => Nat.blt n N
  | .c _ => true
def opLt (N : Nat) : AOp → Bool
  | .mov x => oLt N x
  | .vrow _ _ => true
  | .pick c a b => oLt N c && (oLt N a && oLt N b)
  | .bin _ x y => oLt N x && oLt N y
  | .beq _ x y => oLt N x && oLt N y
  | .un _ x => oLt N x
  | .conv _ x => oLt N x
  | .box _ x => oLt N x
  | .alloc _ _ => true
  | .build _ ps => ps.all fun p => oLt N p.2.2
  | .bslice _ _ ps => ps.all (oLt N)
  | .fadr x _ => oLt N x
  | .fld x _ _ _ => oLt N x
  | .iadr _ _ x i => oLt N x && oLt N i
  | .idx _ _ _ x i => oLt N x && oLt N i
  | .ld _ _ x => oLt N x
  | .st _ x v => oLt N x && oLt N v
  | .mk _ _ _ _ l c => oLt N l && oLt N c
  | .slc _ x lo hi => oLt N x && ((lo.all (oLt N)) && (hi.all (oLt N)))
  | .ext x _ => oLt N x
  | .len x => oLt N x
  | .mm _ xs => xs.all (oLt N)
  | .app _ _ _ x y => oLt N x && oLt N y
  | .cpy _ x y => oLt N x && oLt N y
  | .call _ xs => xs.all (oLt N)
  | .calli _ xs => xs.all (oLt N)
def aiLt (N : Nat) (a : AI) : Bool := (a.dst.all fun d => Nat.blt d N) && ((a.guard.all fun g => Nat.blt g.1 N) && opLt N a.op)
def cLt (N : Nat) : ACode → Bool
  | .skip => true
  | .ops l _ => l.all (aiLt N)
  | .dr c ts _ => cLt N c && ts.all fun t => Nat.blt t N
  | .scope c => cLt N c
  | .seq a b => cLt N a && cLt N b
  | .cond c a b => oLt N c && (cLt N a && cLt N b)
  | .block _ c => cLt N c
  | .loop c => cLt N c
  | .exit _ => true
  | .ret => true
def iLt (N : Nat) : It → Bool
  | .code c => cLt N c
  | .drp ts _ => ts.all fun t => Nat.blt t N
  | .blk _ => true
  | .lp c => cLt N c
/-- the table T with G's slots from N on -/
structure Gh (N : Nat) (G T T' : Tm) : Prop where
  lo : ∀ j, j < N → tget T' j = tget T j
  hi : ∀ j, N ≤ j → tget T' j = tget G j
variable {N : Nat} {G : Tm}
theorem blt_iff {a b : Nat} : Nat.blt a b = true ↔ a < b := by simp [Nat.blt]; omega
theorem Gh.ev {st : St} {T' : Tm} {o : Own} (h : Gh N G st.tm T') {x : Opd} (hx : oLt N x = true) : St.ev ⟨T', o⟩ x = st.ev x := by
  cases x with
  | t n => exact h.lo n (blt_iff.1 hx)
  | c v => rfl
theorem map_ev {f g : Opd → AV} {xs : List Opd} (h : ∀ x, oLt N x = true → f x = g x) (hx : xs.all (oLt N) = true) : xs.map f = xs.map g := by
  apply List.map_congr_left
  intro x hm
  exact h x (List.all_eq_true.1 hx x hm)
theorem eff_gh {C : Cl} {ban : List Nat} {ρ ρ' : Opd → AV} {own : Own} (h : ∀ x, oLt N x = true → ρ' x = ρ x) : ∀ (op : AOp), opLt N op = true → eff C ban ρ' own op = eff C ban ρ own op := by
  intro op hop
  cases op
  case build zero ps =>
    have : (ps.map fun p => (p.1, p.2.1, ρ' p.2.2)) = ps.map fun p => (p.1, p.2.1, ρ p.2.2) := by
      apply List.map_congr_left
      intro p hm
      rw [h _ (List.all_eq_true.1 hop p hm)]
    simp only [eff, this]
  case bslice s esz ps =>
    have : ps.mapM (fun x => cellsOf (ρ' x)) = ps.mapM (fun x => cellsOf (ρ x)) := by
      have hps : ps.all (oLt N) = true := hop
      clear hop
      induction ps with
      | nil => rfl
      | cons p r ih =>
        simp only [List.all_cons, Bool.and_eq_true] at hps
        simp only [List.mapM_cons, h _ hps.1, ih hps.2]
    simp only [eff, this]
  case mm m xs => simp only [eff, map_ev h hop]
  case call f xs => simp only [eff, map_ev h hop]
  case calli f xs => simp only [eff, map_ev h hop]
  case slc esz x lo hi =>
    simp only [opLt, Bool.and_eq_true] at hop
    obtain ⟨h1, h2, h3⟩ := hop
    cases lo <;> cases hi <;> simp only [Option.all_some, Option.all_none] at h2 h3 <;> simp only [eff, h _ h1, h _, h2, h3]
  all_goals (simp only [opLt, Bool.and_eq_true] at hop; simp only [eff, h _, hop])
theorem Gh.dst {T T' : Tm} (h : Gh N G T T') {d : Nat} (hd : d < N) (v : AV) : Gh N G (tput T d v) (tput T' d v) := by
  constructor
  · intro j hj
    rw [tget_tput, tget_tput, h.lo j hj]
  · intro j hj
    rw [tget_tput, h.hi j hj, if_neg (by omega)]
theorem Gh.dstO {T T' : Tm} {o : Own} (h : Gh N G T T') {d : Option Nat} (hd : (d.all fun d => Nat.blt d N) = true) (v : AV) : ((⟨T', o⟩ : St).dst d v).own = ((⟨T, o⟩ : St).dst d v).own ∧ Gh N G ((⟨T, o⟩ : St).dst d v).tm ((⟨T', o⟩ : St).dst d v).tm := by
  cases d with
  | none => exact ⟨rfl, h⟩
  | some d => exact ⟨rfl, h.dst (blt_iff.1 hd) v⟩
theorem stepI_gh {C : Cl} {a : AI} (ha : aiLt N a = true) {T T' : Tm} {o : Own} (h : Gh N G T T') {s' : St} (hs : stepI C a ⟨T', o⟩ = some s') : ∃ s, stepI C a ⟨T, o⟩ = some s ∧ s'.own = s.own ∧ Gh N G s.tm s'.tm := by
  simp only [aiLt, Bool.and_eq_true] at ha
  obtain ⟨h1, h2, h3⟩ := ha
  have hg : guardA ⟨T', o⟩ a.guard = guardA ⟨T, o⟩ a.guard := by
    cases hgg : a.guard with
    | none => rfl
    | some g =>
      rw [hgg] at h2
      simp only [guardA, h.lo _ (blt_iff.1 h2)]
  have he := eff_gh (C := C) (ban := a.ban) (own := o) (ρ := St.ev ⟨T, o⟩) (ρ' := St.ev ⟨T', o⟩) (fun x hx => Gh.ev (st := ⟨T, o⟩) h hx) a.op h3
  unfold stepI at hs ⊢
  rw [hg, he] at hs
  cases hgd : guardA ⟨T, o⟩ a.guard with
  | none => rw [hgd] at hs; cases hs
  | some b =>
    rw [hgd] at hs
    cases b with
    | false =>
      simp only [Option.some.injEq] at hs ⊢
      subst hs
      exact ⟨_, rfl, h.dstO h1 _⟩
    | true =>
      simp only at hs ⊢
      cases hee : eff C a.ban (St.ev ⟨T, o⟩) o a.op with
      | none => rw [hee] at hs; cases hs
      | some e =>
        rw [hee] at hs
        simp only [Option.map_some, Option.some.injEq] at hs ⊢
        subst hs
        refine ⟨_, rfl, ?_⟩
        cases e with
        | val v => exact h.dstO h1 v
        | new s b v => exact ⟨rfl, (h.dstO (o := o) h1 _).2⟩
        | vir s b v => exact ⟨rfl, (h.dstO (o := o) h1 _).2⟩
        | tur v o' => exact ⟨rfl, (h.dstO (o := o) h1 _).2⟩
theorem stepL_gh {C : Cl} : ∀ {l : List AI}, l.all (aiLt N) = true → ∀ {T T' : Tm} {o : Own}, Gh N G T T' → ∀ {s' : St}, stepL C l ⟨T', o⟩ = some s' → ∃ s, stepL C l ⟨T, o⟩ = some s ∧ s'.own = s.own ∧ Gh N G s.tm s'.tm
  | [], _, T, T', o, h, s', hs => by
    simp only [stepL, Option.some.injEq] at hs
    subst hs
    exact ⟨_, rfl, rfl, h⟩
  | a :: l, ha, T, T', o, h, s', hs => by
    simp only [List.all_cons, Bool.and_eq_true] at ha
    simp only [stepL] at hs
    cases h1 : stepI C a ⟨T', o⟩ with
    | none => rw [h1] at hs; cases hs
    | some s1 =>
      rw [h1] at hs
      obtain ⟨s2, e1, e2, e3⟩ := stepI_gh ha.1 h h1
      obtain ⟨T1, o1⟩ := s1
      obtain ⟨T2, o2⟩ := s2
      simp only at e2 e3
      subst e2
      obtain ⟨s3, f1, f2, f3⟩ := stepL_gh ha.2 e3 hs
      exact ⟨s3, by simp only [stepL, e1, f1], f2, f3⟩
theorem exitA_lt {id : Nat} : ∀ {k k' : List It}, k.all (iLt N) = true → exitA id k = some k' → k'.all (iLt N) = true
  | [], _, _, h => by simp [exitA] at h
  | it :: k, k', hk, h => by
    simp only [List.all_cons, Bool.and_eq_true] at hk
    cases it with
    | blk i =>
      simp only [exitA] at h
      split at h
      · cases h; exact hk.2
      · exact exitA_lt hk.2 h
    | code c => simp only [exitA] at h; exact exitA_lt hk.2 h
    | drp a b => simp only [exitA] at h; exact exitA_lt hk.2 h
    | lp c => simp only [exitA] at h; exact exitA_lt hk.2 h
theorem run_gh {C : Cl} : ∀ (n : Nat) {k : List It}, k.all (iLt N) = true → ∀ {T T' : Tm} {o : Own}, Gh N G T T' → ∀ {s' : St}, run C n k ⟨T', o⟩ = some s' → ∃ s, run C n k ⟨T, o⟩ = some s ∧ s'.own = s.own ∧ Gh N G s.tm s'.tm
  | 0, k, _, T, T', o, _, s', hs => by simp [run] at hs
  | n + 1, [], _, T, T', o, h, s', hs => by
    simp only [run, Option.some.injEq] at hs ⊢
    subst hs
    exact ⟨_, rfl, rfl, h⟩
  | n + 1, .blk _ :: k, hk, T, T', o, h, s', hs => by
    simp only [List.all_cons, Bool.and_eq_true] at hk
    simp only [run] at hs ⊢
    exact run_gh n hk.2 h hs
  | n + 1, .drp ts ss :: k, hk, T, T', o, h, s', hs => by
    simp only [List.all_cons, Bool.and_eq_true] at hk
    simp only [run] at hs ⊢
    refine run_gh n hk.2 ⟨fun j hj => ?_, fun j hj => ?_⟩ hs
    · rw [tget_tdrop, tget_tdrop, h.lo j hj]
    · rw [tget_tdrop, h.hi j hj, if_neg]
      intro hc
      have := List.all_eq_true.1 hk.1 j (by simpa using hc)
      have := blt_iff.1 this
      omega
  | n + 1, .lp c :: k, hk, T, T', o, h, s', hs => by
    simp only [run] at hs ⊢
    have hk' := hk
    simp only [List.all_cons, Bool.and_eq_true] at hk
    exact run_gh n (by simp only [List.all_cons, Bool.and_eq_true]; exact ⟨hk.1, hk.1, hk.2⟩) h hs
  | n + 1, .code c :: k, hk, T, T', o, h, s', hs => by
    simp only [List.all_cons, Bool.and_eq_true] at hk
    obtain ⟨hc, hk⟩ := hk
    cases c with
    | skip => simp only [run] at hs ⊢; exact run_gh n hk h hs
    | ops l d =>
      simp only [run] at hs ⊢
      cases h1 : stepL C l ⟨T', o⟩ with
      | none => rw [h1] at hs; cases hs
      | some s1 =>
        rw [h1] at hs
        obtain ⟨s2, e1, e2, e3⟩ := stepL_gh (show l.all (aiLt N) = true from hc) h h1
        obtain ⟨T1, o1⟩ := s1
        obtain ⟨T2, o2⟩ := s2
        simp only at e2 e3
        subst e2
        rw [e1]
        exact run_gh n hk e3 hs
    | dr c ts ss =>
      simp only [run] at hs ⊢
      simp only [iLt, cLt, Bool.and_eq_true] at hc
      exact run_gh n (by simp only [List.all_cons, Bool.and_eq_true]; exact ⟨hc.1, hc.2, hk⟩) h hs
    | scope c =>
      simp only [run] at hs ⊢
      exact run_gh n (by simp only [List.all_cons, Bool.and_eq_true]; exact ⟨hc, hk⟩) h hs
    | seq a b =>
      simp only [run] at hs ⊢
      simp only [iLt, cLt, Bool.and_eq_true] at hc
      exact run_gh n (by simp only [List.all_cons, Bool.and_eq_true]; exact ⟨hc.1, hc.2, hk⟩) h hs
    | cond x a b =>
      simp only [iLt, cLt, Bool.and_eq_true] at hc
      simp only [run, Gh.ev (st := ⟨T, o⟩) h hc.1] at hs ⊢
      cases hx : St.ev ⟨T, o⟩ x <;> rw [hx] at hs <;> try (simp at hs; done)
      rename_i q
      cases q
      · exact run_gh n (by simp only [List.all_cons, Bool.and_eq_true]; exact ⟨hc.2.2, hk⟩) h hs
      · exact run_gh n (by simp only [List.all_cons, Bool.and_eq_true]; exact ⟨hc.2.1, hk⟩) h hs
    | block id c =>
      simp only [run] at hs ⊢
      exact run_gh n (by simp only [List.all_cons, Bool.and_eq_true]; exact ⟨hc, rfl, hk⟩) h hs
    | loop c =>
      simp only [run] at hs ⊢
      exact run_gh n (by simp only [List.all_cons, Bool.and_eq_true]; exact ⟨hc, hc, hk⟩) h hs
    | exit id =>
      simp only [run] at hs ⊢
      cases he : exitA id k with
      | none => rw [he] at hs; cases hs
      | some k' =>
        rw [he] at hs
        exact run_gh n (exitA_lt hk he) h hs
    | ret =>
      simp only [run, Option.some.injEq] at hs ⊢
      subst hs
      exact ⟨_, rfl, rfl, h⟩
/-! the call -/
def shT (N : Nat) : Tm → Tm
  | [] => []
  | (i, v) :: r => (N + i, v) :: shT N r
/-- the ghost's slots -/
def gh (N : Nat) : Tm → Tm
  | [] => []
  | (i, v) :: r => bif Nat.ble N i then (Nat.sub i N, v) :: gh N r else gh N r
theorem tget_shT (N j : Nat) : ∀ T : Tm, tget (shT N T) (N + j) = tget T j
  | [] => rfl
  | (i, v) :: r => by
    have ih := tget_shT N j r
    simp only [shT, tget, ih]
    by_cases h : j = i
    · simp [h]
    · rw [if_neg h, if_neg (by omega)]
theorem tget_shT_lt {N j : Nat} (hj : j < N) : ∀ T : Tm, tget (shT N T) j = .any
  | [] => rfl
  | (i, v) :: r => by
    simp only [shT, tget, tget_shT_lt hj r]
    rw [if_neg (by omega)]
theorem tget_gh (N j : Nat) : ∀ T : Tm, tget (gh N T) j = tget T (N + j)
  | [] => rfl
  | (i, v) :: r => by
    have ih := tget_gh N j r
    simp only [gh]
    cases h : Nat.ble N i
    · have h1 : ¬ N ≤ i := fun e => by rw [Nat.ble_eq_true_of_le e] at h; cases h
      simp only [cond, tget, ih]
      rw [if_neg (by omega)]
    · have h1 := Nat.le_of_ble_eq_true h
      simp only [cond, tget, ih]
      by_cases h2 : j = i - N
      · rw [if_pos (show j = Nat.sub i N from h2), if_pos (by omega)]
      · rw [if_neg (show ¬ j = Nat.sub i N from h2), if_neg (by omega)]
def mapT (f : AV → AV) : Tm → Tm
  | [] => []
  | (i, v) :: r => (i, f v) :: mapT f r
theorem tget_mapT {f : AV → AV} (hf : f .any = .any) (j : Nat) : ∀ T : Tm, tget (mapT f T) j = f (tget T j)
  | [] => hf.symm
  | (i, v) :: r => by
    simp only [mapT, tget, tget_mapT hf j r]
    by_cases h : j = i <;> simp [h]
theorem initTm_map (f : AV → AV) : ∀ (i : Nat) (vs : List AV), initTm i (vs.map f) = mapT f (initTm i vs)
  | _, [] => rfl
  | i, v :: r => by simp only [List.map_cons, initTm, mapT, initTm_map f (i + 1) r]
theorem tget_append (j : Nat) (b : Tm) : ∀ a : Tm, ((a.any fun p => p.1 == j) = true ∧ tget (a ++ b) j = tget a j) ∨ ((a.any fun p => p.1 == j) = false ∧ tget (a ++ b) j = tget b j)
  | [] => Or.inr ⟨rfl, rfl⟩
  | (i, v) :: r => by
    by_cases h : j = i
    · subst h
      exact Or.inl (by simp [tget])
    · have h' : ¬ i = j := fun e => h e.symm
      rcases tget_append j b r with ⟨h1, h2⟩ | ⟨h1, h2⟩
      · exact Or.inl ⟨by rw [List.any_cons, h1, Bool.or_true], by simp only [List.cons_append, tget, if_neg h, h2]⟩
      · exact Or.inr ⟨by rw [List.any_cons, h1, Bool.or_false]; simpa using h', by simp only [List.cons_append, tget, if_neg h, h2]⟩
theorem initTm_any (j : Nat) : ∀ (i : Nat) (vs : List AV), ((initTm i vs).any fun p => p.1 == j) = true → j < i + vs.length
  | _, [], h => by simp [initTm] at h
  | i, v :: r, h => by
    simp only [initTm, List.any_cons, Bool.or_eq_true, beq_iff_eq] at h
    rcases h with h | h
    · simp; omega
    · have := initTm_any j (i + 1) r h
      simp; omega
theorem tget_initTm_hi (j : Nat) : ∀ (i : Nat) (vs : List AV), ((initTm i vs).any fun p => p.1 == j) = false → tget (initTm i vs) j = .any
  | _, [], _ => rfl
  | i, v :: r, h => by
    simp only [initTm, List.any_cons, Bool.or_eq_false_iff, beq_eq_false_iff_ne] at h
    simp only [initTm, tget]
    rw [if_neg fun e => h.1 e.symm, tget_initTm_hi j (i + 1) r h.2]
theorem st3_any (σ : Stp) : st3 σ .any = .any := rfl
/-- what a call gives back, of its table -/
def resI (tm : Tm) : List ARes → Option (List AV)
  | [] => some []
  | .tmp t :: r => match resTmp (tg tm t), resI tm r with
    | some v, some vs => some (v :: vs)
    | _, _ => none
  | .cell _ _ _ :: _ => none
def resLt (N : Nat) : List ARes → Bool
  | [] => true
  | .tmp t :: r => Nat.blt t N && resLt N r
  | .cell _ _ _ :: _ => false
def RetI (N : Nat) (fn : AFn) (tm : Tm) (K : AV → Mem → Prop) (tm' : Tm) (M' : Mem) : Prop := gh N tm' = tm ∧ ∃ rs, resI tm' fn.res = some rs ∧ K (resVal rs) M'
theorem resTmp_st {σ : Stp} {v u : AV} (h : resTmp v = some u) : u = v ∧ st3 σ v = st2 σ v ∧ resTmp (st3 σ v) = some (st3 σ v) := by
  cases v <;> simp [resTmp] at h <;> subst h <;> exact ⟨rfl, rfl, rfl⟩
theorem resI_sound {σ : Stp} {tm' : Tm} {M : Mem} {s s' : St} (hr : RX σ tm' M s') (hlo : ∀ j, j < N → tget s'.tm j = tget s.tm j) : ∀ {res : List ARes} {rs : List AV}, resLt N res = true → resI tm' res = some rs → res.mapM (resOf s) = some (rs.map (st2 σ)) ∧ ∀ v ∈ rs, st3 σ v = st2 σ v
  | [], rs, _, h => by
    simp only [resI, Option.some.injEq] at h
    subst h
    exact ⟨rfl, by simp⟩
  | .cell _ _ _ :: _, _, _, h => by simp [resI] at h
  | .tmp t :: r, rs, hl, h => by
    simp only [resLt, Bool.and_eq_true] at hl
    simp only [resI] at h
    cases h1 : resTmp (tg tm' t) with
    | none => rw [h1] at h; simp at h
    | some v =>
      cases h2 : resI tm' r with
      | none => rw [h1, h2] at h; simp at h
      | some vs =>
        rw [h1, h2] at h
        simp only [Option.some.injEq] at h
        subst h
        obtain ⟨i1, i2⟩ := resI_sound hr hlo hl.2 h2
        obtain ⟨rfl, j2, j3⟩ := resTmp_st (σ := σ) h1
        have : tget s.tm t = st3 σ (tg tm' t) := by
          rcases hr.tm t with e | e
          · rw [e] at h1; cases h1
          · rw [← hlo t (blt_iff.1 hl.1), e]
        refine ⟨?_, ?_⟩
        · rw [j2] at j3 this
          simp only [List.mapM_cons, resOf, this, j3, i1, List.map_cons]
          rfl
        · intro v hv
          simp only [List.mem_cons] at hv
          rcases hv with rfl | hv
          · exact j2
          · exact i2 v hv
theorem resVal_st {σ : Stp} {rs : List AV} (h : ∀ v ∈ rs, st3 σ v = st2 σ v) : resVal (rs.map (st2 σ)) = st3 σ (resVal rs) := by
  match rs, h with
  | [], _ => rfl
  | [v], h => exact (h v (by simp)).symm
  | _ :: _ :: _, _ => rfl
theorem CalP.walk {f : Nat} {fn : AFn} {vs : List AV} {tm : Tm} {M : Mem} {K : AV → Mem → Prop} (N : Nat) (hL : L f = some fn) (hp : Nat.beq vs.length fn.pars = true) (hN : (Nat.ble fn.pars N && (cLt N fn.body && resLt N fn.res)) = true)
    (h : AKM L [.code fn.body] (initTm 0 vs ++ shT N tm) M (RetI N fn tm K)) : CalP L f vs tm M K := by
  intro σ own hs
  simp only [Bool.and_eq_true] at hN
  obtain ⟨n1, n2, n3⟩ := hN
  have n1 := Nat.le_of_ble_eq_true n1
  have hp : vs.length = fn.pars := Nat.eq_of_beq_eq_true hp
  have hrx : RX σ (initTm 0 vs ++ shT N tm) M ⟨mapT (st3 σ) (initTm 0 vs ++ shT N tm), own⟩ := ⟨fun j => Or.inr (by rw [tg_eq]; exact tget_mapT (st3_any σ) j _), hs⟩
  obtain ⟨n, c, s', hr, σ', tm', M', hR, hg, rs, hrs, hk⟩ := h σ _ hrx
  have hgh : Gh N (mapT (st3 σ) (shT N tm)) (initTm 0 (vs.map (st3 σ))) (mapT (st3 σ) (initTm 0 vs ++ shT N tm)) := by
    constructor
    · intro j hj
      rw [initTm_map, tget_mapT (st3_any σ), tget_mapT (st3_any σ)]
      rcases tget_append j (shT N tm) (initTm 0 vs) with ⟨_, e⟩ | ⟨hn, e⟩
      · rw [e]
      · rw [e, tget_shT_lt hj, tget_initTm_hi j 0 vs hn]
    · intro j hj
      rw [tget_mapT (st3_any σ), tget_mapT (st3_any σ)]
      rcases tget_append j (shT N tm) (initTm 0 vs) with ⟨hn, e⟩ | ⟨_, e⟩
      · have := initTm_any j 0 vs hn
        omega
      · rw [e]
  obtain ⟨s, r1, r2, r3⟩ := run_gh n (by simp [iLt, n2]) hgh hr
  obtain ⟨i1, i2⟩ := resI_sound (s := s) hR r3.lo n3 hrs
  refine ⟨resVal rs, s.own, σ', M', EvI.intro hL (by simpa using hp) ⟨n, c, s, r1, ?_, rfl⟩, ?_, ?_, hk⟩
  · rw [i1, Option.map_some, resVal_st i2]
  · rw [← r2]; exact hR.sat
  · intro j
    have e1 : tg tm j = tg tm' (N + j) := by rw [tg_eq, tg_eq, ← hg, tget_gh]
    rcases hR.tm (N + j) with e | e
    · rw [e1, e]; rfl
    · rw [e1, ← e, r3.hi (N + j) (by omega), tget_mapT (st3_any σ), tget_shT, ← tg_eq, e1]
theorem StR.at {α : Type} {enc : α → List AV} {l : List α} {i : Nat} {vs : List AV} {K : List (List AV) → Prop} (n : Nat) (e : α) (hn : i = n) (he : vs = enc e) (hz : ∀ x, (enc x).length = vs.length) (hi : n < l.length) (h : K ((l.set n e).map enc)) : StR (l.map enc) i 0 vs K := by
  subst hn
  exact StR.go e he hz hi h
theorem Bds.up {x : Int} {len : Nat} {K : Nat → Nat → Prop} (h : Nat) (hx : x = h) (hl : h ≤ len) (hk : K 0 h) : Bds none (some x) len K := ⟨0, h, rfl, ⟨by omega, by omega, by omega⟩, by omega, hk⟩
theorem Bds.dn {x : Int} {len : Nat} {K : Nat → Nat → Prop} (a : Nat) (hx : x = a) (hl : a ≤ len) (hk : K a len) : Bds (some x) none len K := ⟨a, len, ⟨by omega, by omega⟩, rfl, by omega, hk⟩
end Go.Eng
