/-
  The walk by computation is sound: calls, regions, code, loops, functions.
-/
import Derived.Test.YtlkfmmfmefobnaaEngXS
set_option linter.unusedSimpArgs false
set_option linter.unusedVariables false
set_option linter.unnecessarySimpa false
namespace Go.Eng
section
variable {σ : Stp} {tm : Tm} {M : Mem} {st : St} {L : Lib} {ban : List Nat}

/-! reading for a call -/
theorem okE_snap {own : Own} {q : Bool} {d : Nat} : ∀ {e : List AV}, okE e = true → e.mapM (snap own q d) = some e
  | [], _ => rfl
  | v :: r, h => by
    have hv : snap own q d v = some v ∧ okE r = true := by
      cases v <;> simp only [okE] at h <;> first | cases h | exact ⟨by cases d <;> rfl, h⟩
    rw [List.mapM_cons, hv.1, okE_snap hv.2]; rfl
theorem okEL_snap {own : Own} {q : Bool} {d : Nat} : ∀ {es : List (List AV)}, (∀ e ∈ es, okE e = true) → es.mapM (fun cs : List AV => cs.mapM (snap own q d)) = some es
  | [], _ => rfl
  | e :: r, h => by
    rw [List.mapM_cons, okE_snap (h e List.mem_cons_self), okEL_snap fun x hx => h x (List.mem_cons_of_mem _ hx)]; rfl
theorem snD_sound (hs : Sat σ st.own M) {q : Bool} {v : AV} {K : AV → Prop} (h : snD q M ban v K) : ∃ v', (∀ d, snap (st.own.hide ban) q (d + 1) (st1 σ v) = some v') ∧ K v' ∧ v ≠ .any ∧ st2 σ v = st1 σ v := by
  cases v with
  | row key t z off len =>
    have fin : ∀ (z' : Nat) (es : List (List AV)), ((st.own.hide ban) (σ key t).1).blk (σ key t).2 = some ⟨z', es⟩ → z = z' → SnR es off len (fun es => K (.sl q es)) → ∃ v', (∀ d, snap (st.own.hide ban) q (d + 1) (st1 σ (.row key t z off len)) = some v') ∧ K v' ∧ AV.row key t z off len ≠ .any ∧ st2 σ (.row key t z off len) = st1 σ (.row key t z off len) := by
      intro z' es hb hz h
      subst hz
      obtain ⟨h1, h2, h3⟩ := h
      refine ⟨_, fun d => ?_, h3, (by intro e; cases e), rfl⟩
      simp only [st1, snap, elemsOf, Own.get, hb]
      rw [if_pos ⟨h1, trivial⟩]
      simp only
      rw [okEL_snap fun e he => h2 e (List.mem_of_mem_drop (List.mem_of_mem_take he))]
      rfl
    simp only [snD] at h
    split at h
    · rename_i s z' es hm
      split at h
      · cases hz : Nat.beq z z' <;> simp only [hz, cond_true, cond_false] at h
        cases hb : okB s ban <;> simp only [hb, cond_true, cond_false] at h
        refine fin z' es ?_ (beq_iff.1 hz) h
        have hbk := hs.blk _ _ _ (mref_root hm)
        rw [hs.site _ _ _ hm] at hbk ⊢
        rw [okB_hide hb]; exact hbk
      · exact h.elim
    · rename_i s rows hm
      split at h
      · exact h.elim
      · rename_i i
        split at h
        · obtain ⟨z', es, g, h⟩ := h
          cases hz : Nat.beq z z' <;> simp only [hz, cond_true, cond_false] at h
          exact fin z' es (hs.blk key (i + 1) (.rw z' es) (by simp [mref, hm, g])) (beq_iff.1 hz) h
        · exact h.elim
    · exact h.elim
  | int k n => exact ⟨_, fun d => rfl, h, (by intro e; cases e), rfl⟩
  | bool b => exact ⟨_, fun d => rfl, h, (by intro e; cases e), rfl⟩
  | sl l es => exact ⟨_, fun d => rfl, h, (by intro e; cases e), rfl⟩
  | con c => exact ⟨_, fun d => rfl, h, (by intro e; cases e), rfl⟩
  | nil => exact ⟨_, fun d => rfl, h, (by intro e; cases e), rfl⟩
  | _ => exact (h : False).elim
theorem snDL_sound (hs : Sat σ st.own M) {q : Bool} : ∀ {l : List AV} {K : List AV → Prop}, snDL q M ban l K → ∃ l', (∀ d, (l.map (st1 σ)).mapM (snap (st.own.hide ban) q (d + 1)) = some l') ∧ K l'
  | [], K, h => ⟨[], fun d => rfl, h⟩
  | v :: r, K, h => by
    obtain ⟨v', h1, h2, _⟩ := snD_sound hs (show snD q M ban v fun v' => snDL q M ban r fun r' => K (v' :: r') from h)
    obtain ⟨l', h3, h4⟩ := snDL_sound hs h2
    refine ⟨v' :: l', fun d => ?_, h4⟩
    rw [List.map_cons, List.mapM_cons, h1 d, h3 d]; rfl
theorem snDLL_sound (hs : Sat σ st.own M) {q : Bool} : ∀ {l : List (List AV)} {K : List (List AV) → Prop}, snDLL q M ban l K → ∃ l', (∀ d, (l.map fun cs => cs.map (st1 σ)).mapM (fun cs : List AV => cs.mapM (snap (st.own.hide ban) q (d + 1))) = some l') ∧ K l'
  | [], K, h => ⟨[], fun d => rfl, h⟩
  | v :: r, K, h => by
    obtain ⟨v', h1, h2⟩ := snDL_sound hs (show snDL q M ban v fun v' => snDLL q M ban r fun r' => K (v' :: r') from h)
    obtain ⟨l', h3, h4⟩ := snDLL_sound hs h2
    refine ⟨v' :: l', fun d => ?_, h4⟩
    rw [List.map_cons, List.mapM_cons, h1 d, h3 d]; rfl
theorem rowsE_snap {own : Own} {q : Bool} {d : Nat} {k : Nat} : ∀ {rows : List (Option (Nat × List (List AV)))} {i : Nat}, (∀ j z es, rows[j]? = some (some (z, es)) → (own (σ k (i + j + 1)).1).blk (σ k (i + j + 1)).2 = some ⟨z, es⟩ ∧ ∀ e ∈ es, okE e = true) →
    (mxB σ k i rows).mapM (fun cs : List AV => cs.mapM (snap own q (d + 1))) = some (rowsE q rows)
  | [], i, h => rfl
  | none :: r, i, h => by
    rw [mxB, List.mapM_cons, rowsE_snap (i := i + 1) fun j z es hj => by
      have := h (j + 1) z es (by simpa using hj)
      rwa [show i + (j + 1) + 1 = i + 1 + j + 1 by omega] at this]
    rfl
  | some (z, es) :: r, i, h => by
    rw [mxB, List.mapM_cons, rowsE_snap (i := i + 1) fun j z es hj => by
      have := h (j + 1) z es (by simpa using hj)
      rwa [show i + (j + 1) + 1 = i + 1 + j + 1 by omega] at this]
    obtain ⟨h1, h2⟩ := h 0 z es rfl
    have : snap own q (d + 1) (.row (σ k (i + 1)).1 (σ k (i + 1)).2 z 0 es.length) = some (.sl q es) := by
      simp only [snap, elemsOf, Own.get]
      rw [show (own (σ k (i + 1)).1).blk (σ k (i + 1)).2 = some ⟨z, es⟩ from h1]
      simp only [Nat.zero_add, Nat.le_refl, and_self, if_true, List.drop_zero]
      rw [List.take_of_length_le (Nat.le_refl _), okEL_snap h2]
      rfl
    rw [List.mapM_cons, this]
    rfl
theorem snC_sound (hs : Sat σ st.own M) {q : Bool} {v : AV} {K : AV → Prop} (h : snC q M ban v K) : ∃ v', snap (st.own.hide ban) q 6 (st1 σ v) = some v' ∧ K v' ∧ v ≠ .any ∧ st2 σ v = st1 σ v ∧ snapA (st.own.hide ban) q (st1 σ v) = some v' := by
  have dat : snD q M ban v K → ∃ v', snap (st.own.hide ban) q 6 (st1 σ v) = some v' ∧ K v' ∧ v ≠ .any ∧ st2 σ v = st1 σ v ∧ snapA (st.own.hide ban) q (st1 σ v) = some v' := by
    intro h
    obtain ⟨v', h1, h2, h3, h4⟩ := snD_sound hs h
    refine ⟨v', h1 5, h2, h3, h4, ?_⟩
    have := h1 5
    cases v <;> first | exact this | exact (h : False).elim
  unfold snC at h
  split at h
  · rename_i key z off len
    split at h
    · rename_i s z' es hm
      cases hz : Nat.beq z z' <;> simp only [hz, cond_true, cond_false] at h
      cases hb : okB s ban <;> simp only [hb, cond_true, cond_false] at h
      cases ho : Nat.beq off 0 <;> simp only [ho, cond_true, cond_false] at h
      obtain rfl := beq_iff.1 hz
      obtain rfl := beq_iff.1 ho
      obtain ⟨rfl, h⟩ := h
      obtain ⟨l', h1, h2⟩ := snDLL_sound hs h
      have hbk := hs.blk _ _ _ (mref_root hm)
      rw [hs.site _ _ _ hm] at hbk
      have key : snap (st.own.hide ban) q 6 (st1 σ (.row key 0 z 0 es.length)) = some (.sl q l') := by
        simp only [st1, snap, elemsOf, Own.get, hs.site _ _ _ hm]
        rw [okB_hide hb, hbk]
        simp only [Cel.blk, Nat.zero_add, List.length_map, Nat.le_refl, and_self, if_true, List.drop_zero]
        rw [List.take_of_length_le (by simp), h1 4]
        rfl
      exact ⟨_, key, h2, (by intro e; cases e), rfl, key⟩
    · rename_i s rows hm
      split at h
      · cases hz : Nat.beq z 1 <;> simp only [hz, cond_true, cond_false] at h
        obtain rfl := beq_iff.1 hz
        obtain ⟨rfl, rfl, h1, h2⟩ := h
        have hbk := hs.blk _ _ _ (mref_root hm)
        have key : snap (st.own.hide []) q 6 (st1 σ (.row key 0 1 0 rows.length)) = some (.sl q (rowsE q rows)) := by
          simp only [st1, snap, elemsOf, Own.get, Own.hide]
          rw [hbk]
          simp only [Cel.blk, Nat.zero_add, mxB_len, Nat.le_refl, and_self, if_true, List.drop_zero]
          rw [List.take_of_length_le (by rw [mxB_len]; exact Nat.le_refl _), rowsE_snap (i := 0) fun j z es hj => ⟨by
            have := hs.blk key (j + 1) (.rw z es) (by simp [mref, hm, hj])
            simpa [Cel.blk] using this, h1 z es (List.mem_of_getElem? hj)⟩]
          rfl
        exact ⟨_, key, h2, (by intro e; cases e), rfl, key⟩
      · exact h.elim
    · exact dat h
  · exact dat h
theorem snL_sound (hs : Sat σ st.own M) {q : Bool} : ∀ {l : List AV} {K : List AV → Prop}, snL q M ban l K → ∃ l', (l.map (st1 σ)).mapM (snap (st.own.hide ban) q 6) = some l' ∧ K l'
  | [], K, h => ⟨[], rfl, h⟩
  | v :: r, K, h => by
    obtain ⟨v', h1, h2, _⟩ := snC_sound hs (show snC q M ban v fun v' => snL q M ban r fun r' => K (v' :: r') from h)
    obtain ⟨l', h3, h4⟩ := snL_sound hs h2
    refine ⟨v' :: l', ?_, h4⟩
    rw [List.map_cons, List.mapM_cons, h1, h3]; rfl
theorem snA_sound (hs : Sat σ st.own M) {q : Bool} {v : AV} {K : AV → Prop} (h : snA q M ban v K) : ∃ v', snapA (st.own.hide ban) q (st3 σ v) = some v' ∧ K v' ∧ v ≠ .any ∧ st3 σ v = st2 σ v := by
  cases v with
  | agg cs =>
    simp only [snA] at h
    obtain ⟨l', h1, h2⟩ := snL_sound hs h
    refine ⟨.agg l', ?_, h2, (by intro e; cases e), rfl⟩
    simp only [s3_agg, snapA, h1, Option.map_some]
  | tup vs => exact (h : False).elim
  | any => exact (h : False).elim
  | _ =>
    simp only [snA] at h
    obtain ⟨v', h1, h2, h3, h4, h5⟩ := snC_sound hs h
    exact ⟨v', h5, h2, h3, rfl⟩
theorem snX_sound (hr : RX σ tm M st) : ∀ {xs : List Opd} {K : List AV → Prop}, snX tm M ban xs K → ∃ vs, (xs.map st.ev).mapM (snapA (st.own.hide ban) true) = some vs ∧ K vs
  | [], K, h => ⟨[], rfl, h⟩
  | x :: r, K, h => by
    obtain ⟨v', h1, h2, h3, _⟩ := snA_sound hr.sat (show snA true M ban (ex tm x) fun v => snX tm M ban r fun vs => K (v :: vs) from h)
    obtain ⟨l', h4, h5⟩ := snX_sound hr h2
    refine ⟨v' :: l', ?_, h5⟩
    rw [List.map_cons, List.mapM_cons, hr.ev rfl h3, h1, h4]; rfl
theorem exF_sound (hr : RX σ tm M st) : ∀ {xs : List Opd} {K : List AV → Prop}, exF tm xs K → ∃ vs, xs.map st.ev = vs.map (st3 σ) ∧ K vs
  | [], K, h => ⟨[], rfl, h⟩
  | x :: r, K, h => by
    obtain ⟨h1, h2⟩ := fV_sound (show fV (ex tm x) fun v => exF tm r fun vs => K (v :: vs) from h)
    obtain ⟨vs, h3, h4⟩ := exF_sound hr h2
    exact ⟨ex tm x :: vs, by rw [List.map_cons, List.map_cons, hr.ev rfl h1, h3], h4⟩
theorem clean_st1 {v : AV} (h : Clean v) : st1 σ v = v := by
  cases v <;> first | rfl | (simp only [Clean] at h)
theorem cleanL_st1 : ∀ {l : List AV}, CleanL l → l.map (st1 σ) = l
  | [], _ => rfl
  | v :: r, h => by
    simp only [CleanL] at h
    rw [List.map_cons, clean_st1 h.1, cleanL_st1 h.2]
theorem clean_st2 {v : AV} (h : Clean v) : st2 σ v = v := by
  cases v with
  | agg cs => simp only [Clean] at h; simp only [st2, cleanL_st1 h]
  | _ => exact clean_st1 (σ := σ) h
theorem cleanL_st2 : ∀ {l : List AV}, CleanL l → l.map (st2 σ) = l
  | [], _ => rfl
  | v :: r, h => by
    simp only [CleanL] at h
    rw [List.map_cons, clean_st2 h.1, cleanL_st2 h.2]
theorem clean_st3 {v : AV} (h : Clean v) : st3 σ v = v := by
  cases v with
  | tup cs => simp only [Clean] at h; simp only [st3, cleanL_st2 h]
  | _ => exact clean_st2 (σ := σ) h
theorem Ev.clean {f : Nat} {vs : List AV} {r : AV} (h : Ev L f vs r) : Clean r := by
  obtain ⟨n, h⟩ := h
  unfold evP at h
  split at h
  · split at h
    · split at h
      · obtain rfl := Option.some.inj h
        assumption
      · cases h
    · cases h
  · cases h

/-! one operation, and what follows -/
theorem RX.put (h : RX σ tm M st) (d : Nat) {v v' : AV} (e : v' = st3 σ v) : RX σ ((d, v) :: tm) M ⟨tput st.tm d v', st.own⟩ := by
  refine ⟨fun j => ?_, h.sat⟩
  simp only [tg, tget_tput]
  cases hb : Nat.beq j d
  · rw [if_neg (beq_false.1 hb)]; exact h.tm j
  · rw [if_pos (beq_iff.1 hb)]; exact Or.inr e
theorem XE_good {K : AV → Mem → Prop} (hr : RX σ tm M st) {op : AOp} (h : XE L tm M ban K op) : Good L tm ban K op st ∨ (∃ f xs, op = .call f xs) ∨ ∃ f xs, op = .calli f xs := by
  cases op with
  | call f xs => exact Or.inr (Or.inl ⟨_, _, rfl⟩)
  | calli f xs => exact Or.inr (Or.inr ⟨_, _, rfl⟩)
  | mov x => exact Or.inl (XE_mov hr h)
  | vrow s z => exact Or.inl (XE_vrow hr h)
  | pick c a b => exact Or.inl (XE_pick hr h)
  | bin o x y => exact Or.inl (XE_bin hr h)
  | beq ne x y => exact Or.inl (XE_beq hr h)
  | un o x => exact Or.inl (XE_un hr h)
  | conv k x => exact Or.inl (XE_conv hr h)
  | box s x => exact Or.inl (XE_box hr h)
  | alloc s z => exact Or.inl (XE_alloc hr h)
  | build z ps => exact Or.inl (XE_build hr h)
  | bslice s z ps => exact Or.inl (XE_bslice hr h)
  | fadr x o => exact Or.inl (XE_fadr hr h)
  | fld x o n a => exact Or.inl (XE_fld hr h)
  | iadr a z x i => exact Or.inl (XE_iadr hr h)
  | idx l z a x i => exact Or.inl (XE_idx hr h)
  | ld a n x => exact Or.inl (XE_ld hr h)
  | st n x v => exact Or.inl (XE_st hr h)
  | mk s z b ze l c => exact Or.inl (XE_mk hr h)
  | slc z x lo hi => exact Or.inl (XE_slc hr h)
  | ext x i => exact Or.inl (XE_ext hr h)
  | len x => exact Or.inl (XE_len hr h)
  | mm m xs => exact Or.inl (XE_mm hr h)
  | app s z b x y => exact Or.inl (XE_app hr h)
  | cpy z x y => exact Or.inl (XE_cpy hr h)
theorem XE_sound {K : AV → Mem → Prop} (hr : RX σ tm M st) {op : AOp} {d : Option Nat} {g : Option (Nat × Bool)} {l : List AI} {k : List It} {Q : St → Prop} (h : XE L tm M ban K op) (hg : guardA st g = some true)
    (hk : ∀ σ' v v' M' own', K v M' → v' = st3 σ' v → RX σ' tm M' ⟨st.tm, own'⟩ → AO L l k ⟨((⟨st.tm, own'⟩ : St).dst d v').tm, own'⟩ Q) : AO L (⟨d, op, g, ban⟩ :: l) k st Q := by
  rcases XE_good hr h with ⟨E, σ', v, M', h1, h2, h3, h4⟩ | ⟨f, xs, rfl⟩ | ⟨f, xs, rfl⟩
  · rw [AO_op hg h1, app_res]
    have := hk σ' v _ M' _ h2 h3 h4
    cases d <;> exact this
  · simp only [XE] at h
    obtain ⟨vs, h1, r, h2, h3⟩ := snX_sound hr h
    rw [AO_call hg h1 h2]
    have := hk σ r r M st.own h3 (clean_st3 h2.clean).symm hr
    cases d <;> exact this
  · simp only [XE] at h
    obtain ⟨vs, h1, h2⟩ := exF_sound hr h
    obtain ⟨r, own', σ', M', h3, h4, h5, h6⟩ := h2 σ st.own hr.sat
    rw [← h1] at h3
    rw [AO_calli hg h3]
    have := hk σ' r _ M' own' h6 rfl ⟨fun j => by rw [h5 j]; exact hr.tm j, h4⟩
    cases d <;> exact this
theorem guard_none : guardA st none = some true := rfl
theorem guard_some (hr : RX σ tm M st) {g : Nat} {w : Bool} {b : Bool} (e : tg tm g = .bool b) : guardA st (some (g, w)) = some (b == w) := by
  rcases hr.tm g with h | h
  · rw [e] at h; cases h
  · rw [e] at h
    simp only [guardA, h, s3_bool]
theorem guard_tup (hr : RX σ tm M st) {g : Nat} {w : Bool} (e : tg tm g = .tup []) : guardA st (some (g, w)) = some false := by
  rcases hr.tm g with h | h
  · rw [e] at h; cases h
  · rw [e] at h
    simp only [guardA, h, s3_tup, List.map_nil]
theorem XO_sound {k : List It} {Q : Tm → Mem → Prop} : ∀ {l : List AI} {K : Tm → Mem → Prop} {tm : Tm} {M : Mem}, XO L l K tm M → (∀ tm' M', K tm' M' → AKM L k tm' M' Q) → AOM L l k tm M Q
  | [], K, tm, M, h, hk => fun σ st hr => AO_nil.2 (hk tm M h σ st hr)
  | o :: l, K, tm, M, h, hk => by
    intro σ st hr
    have h : XI L o (XO L l) K tm M := h
    have ih : ∀ tm' M', XO L l K tm' M' → AOM L l k tm' M' Q := fun tm' M' h' => XO_sound h' hk
    have some_ : ∀ (d : Nat) (op : AOp) (g : Option (Nat × Bool)) (ban : List Nat), guardA st g = some true → XE L tm M ban (fun v M => XO L l K ((d, v) :: tm) M) op → AO L (⟨some d, op, g, ban⟩ :: l) k st (SQ Q) := by
      intro d op g ban hg hx
      refine XE_sound hr hx hg ?_
      intro σ' v v' M' own' h1 h2 h3
      exact ih _ _ h1 σ' _ (h3.put d h2)
    have none_ : ∀ (op : AOp) (g : Option (Nat × Bool)) (ban : List Nat), guardA st g = some true → XE L tm M ban (fun _ M => XO L l K tm M) op → AO L (⟨none, op, g, ban⟩ :: l) k st (SQ Q) := by
      intro op g ban hg hx
      refine XE_sound hr hx hg ?_
      intro σ' v v' M' own' h1 h2 h3
      exact ih _ _ h1 σ' _ h3
    have skip_ : ∀ (d : Option Nat) (op : AOp) (g : Option (Nat × Bool)) (ban : List Nat), guardA st g = some false → (match d with | some d => XO L l K ((d, .tup []) :: tm) M | none => XO L l K tm M) → AO L (⟨d, op, g, ban⟩ :: l) k st (SQ Q) := by
      intro d op g ban hg hx
      rw [AO_not hg]
      cases d with
      | none => exact ih _ _ hx σ _ hr
      | some d => exact ih _ _ hx σ _ (hr.put d rfl)
    obtain ⟨d, op, g, ban⟩ := o
    cases g with
    | none =>
      cases d with
      | none => exact none_ op none ban rfl h
      | some d => exact some_ d op none ban rfl h
    | some gw =>
      obtain ⟨g, w⟩ := gw
      have h : (match tg tm g with
        | .bool b => fB (b == w) fun c => match c, d with
          | true, some d => XE L tm M ban (fun v M => XO L l K ((d, v) :: tm) M) op
          | true, none => XE L tm M ban (fun _ M => XO L l K tm M) op
          | false, some d => XO L l K ((d, .tup []) :: tm) M
          | false, none => XO L l K tm M
        | .tup [] => match d with
          | some d => XO L l K ((d, .tup []) :: tm) M
          | none => XO L l K tm M
        | _ => False) := by cases d <;> exact h
      split at h
      · rename_i b e
        rw [fB_eq] at h
        have hg := guard_some hr (w := w) e
        cases hb : (b == w) <;> rw [hb] at h hg
        · exact skip_ d op _ ban hg (by cases d <;> exact h)
        · cases d with
          | none => exact none_ op _ ban hg h
          | some d => exact some_ d op _ ban hg h
      · rename_i e
        exact skip_ d op _ ban (guard_tup hr e) (by cases d <;> exact h)
      · exact h.elim
theorem XK_sound {Q : Tm → Mem → Prop} : ∀ {n : Nat} {k : List It} {tm : Tm} {M : Mem}, XK L Q n k tm M → AKM L k tm M Q
  | 0, k, tm, M, h => h
  | n + 1, [], tm, M, h => fun σ st hr => AK_nil.2 ⟨σ, tm, M, hr, h⟩
  | n + 1, it :: k, tm, M, h => by
    have h : XS L Q (XK L Q n) (it :: k) tm M := h
    have ih : ∀ k tm M, XK L Q n k tm M → AKM L k tm M Q := fun k tm M h => XK_sound h
    intro σ st hr
    cases it with
    | blk id => exact AK_blk.2 (ih _ _ _ h σ st hr)
    | drp ts ss =>
      simp only [XS, fN_eq, fT_eq] at h
      cases ss with
      | cons s r => exact h.elim
      | nil =>
        refine AK_drp.2 (ih _ _ _ h σ _ ⟨fun j => ?_, hr.sat⟩)
        rw [tg_cnm, tget_tdrop, bit_mask, bit_zero, Bool.false_or]
        cases hc : ts.contains j
        · simp only [Bool.false_eq_true, if_false, cond_false]
          exact hr.tm j
        · exact Or.inl rfl
    | lp c => exact h σ st hr
    | code c =>
      cases c with
      | skip => exact AK_skip.2 (ih _ _ _ h σ st hr)
      | ops l d => exact AK_ops.2 (XO_sound h (fun tm' M' h' => ih _ _ _ h') σ st hr)
      | dr c ts ss => exact AK_dr.2 (ih _ _ _ h σ st hr)
      | scope c => exact AK_scope.2 (ih _ _ _ h σ st hr)
      | seq a b => exact AK_seq.2 (ih _ _ _ h σ st hr)
      | cond x a b =>
        simp only [XS] at h
        split at h
        · rename_i b' e
          rw [fB_eq] at h
          rw [AK_cond (hr.ev e (by intro e; cases e))]
          cases b'
          · simpa using ih _ _ _ h σ st hr
          · simpa using ih _ _ _ h σ st hr
        · exact h.elim
      | block id c => exact AK_block.2 (ih _ _ _ h σ st hr)
      | loop c => exact AK_loop.2 (AK_lp.1 (h σ st hr))
      | exit id =>
        simp only [XS] at h
        split at h
        · rename_i k' e
          exact (AK_exit e).2 (ih _ _ _ h σ st hr)
        · exact h.elim
      | ret => exact AK_ret.2 ⟨σ, tm, M, hr, h⟩

/-! a function -/
theorem resX_sound (hr : RX σ tm M st) {r : ARes} {K : AV → Prop} (h : resX tm M r K) : ∃ v, resOf st r = some (st3 σ v) ∧ K v ∧ st3 σ v = st2 σ v := by
  cases r with
  | tmp t =>
    simp only [resX] at h
    obtain ⟨h1, h2, h3⟩ := f2_sound (σ := σ) h
    refine ⟨_, ?_, h3, h2⟩
    rcases hr.tm t with e | e
    · exact absurd e h1
    · simp only [resOf, e]
      cases hv : tg tm t <;> rw [hv] at h h1 <;> first | rfl | exact (h : False).elim
  | cell t agg n =>
    simp only [resX] at h
    split at h
    · rename_i key i j e
      split at h
      · rename_i s cs hm
        cases hi : Nat.beq i 0 <;> simp only [hi, cond_true, cond_false] at h
        obtain rfl := beq_iff.1 hi
        split at h
        · rename_i ds hp
          rw [fL_eq] at h
          rcases hr.tm t with e' | e'
          · rw [e] at e'; cases e'
          · have hs := hr.sat.site _ _ _ hm
            have hbk := hr.sat.blk _ _ _ (mref_root hm)
            rw [hs] at hbk
            have flat : ∀ v, ofCells agg (ds.map (st1 σ)) = some (st3 σ v) → resOf st (.cell t agg n) = some (st3 σ v) := by
              intro v hv
              simp only [resOf, e', e, s3_ptr, Own.ldp, Own.get, hs, hbk, Cel.blk, List.getElem?_cons_zero, part_map hp, hv]
            cases agg
            · simp only [ofc] at h
              split at h
              · rename_i c
                obtain ⟨_, h1, h2⟩ := fF_sound (σ := σ) h
                refine ⟨c, flat c (by rw [h1]; rfl), h2, ?_⟩
                rw [h1]
                cases c <;> first | rfl | exact (h : False).elim
              · exact h.elim
            · exact ⟨.agg ds, flat _ rfl, h, rfl⟩
        · exact h.elim
      · exact h.elim
    · exact h.elim
theorem resLX_sound (hr : RX σ tm M st) : ∀ {l : List ARes} {K : List AV → Prop}, resLX tm M l K → ∃ vs, l.mapM (resOf st) = some (vs.map (st3 σ)) ∧ K vs ∧ vs.map (st3 σ) = vs.map (st2 σ)
  | [], K, h => ⟨[], rfl, h, rfl⟩
  | r :: l, K, h => by
    obtain ⟨v, h1, h2, h3⟩ := resX_sound hr (show resX tm M r fun v => resLX tm M l fun vs => K (v :: vs) from h)
    obtain ⟨vs, h4, h5, h6⟩ := resLX_sound hr h2
    exact ⟨v :: vs, by rw [List.mapM_cons, h1, h4]; rfl, h5, by rw [List.map_cons, List.map_cons, h3, h6]⟩
theorem snAL_sound (hs : Sat σ st.own M) {q : Bool} : ∀ {l : List AV} {K : List AV → Prop}, snAL q M l K → ∃ l', (l.map (st3 σ)).mapM (snapA st.own q) = some l' ∧ K l' ∧ ∀ v ∈ l, st3 σ v = st2 σ v
  | [], K, h => ⟨[], rfl, h, fun v hv => by cases hv⟩
  | v :: r, K, h => by
    obtain ⟨v', h1, h2, _, h0⟩ := snA_sound hs (show snA q M [] v fun v' => snAL q M r fun r' => K (v' :: r') from h)
    obtain ⟨l', h3, h4, h5⟩ := snAL_sound hs h2
    refine ⟨v' :: l', ?_, h4, fun u hu => ?_⟩
    · rw [List.map_cons, List.mapM_cons, show snapA st.own q (st3 σ v) = some v' from h1, h3]; rfl
    · rcases List.mem_cons.1 hu with rfl | hu
      · exact h0
      · exact h5 u hu
theorem snapR_one {own : Own} {q : Bool} {v v' : AV} (h : snapA own q v = some v') : snapR own q v = some v' := by
  cases v with
  | tup vs => simp [snapA, snap] at h
  | _ => exact h
theorem mapM_two {f : AV → Option AV} {x y : AV} {r l' : List AV} (h : (x :: y :: r).mapM f = some l') : ∃ a b c, l' = a :: b :: c := by
  rw [List.mapM_cons, List.mapM_cons] at h
  cases hx : f x with
  | none => rw [hx] at h; cases h
  | some a =>
    cases hy : f y with
    | none => rw [hx, hy] at h; cases h
    | some b =>
      cases hr : r.mapM f with
      | none => rw [hx, hy, hr] at h; cases h
      | some c =>
        rw [hx, hy, hr] at h
        exact ⟨a, b, c, (Option.some.inj h).symm⟩
theorem RetX_sound {fn : AFn} {r : AV} (hr : RX σ tm M st) (h : RetX fn r tm M) : Res fn r st := by
  unfold RetX at h
  obtain ⟨vs, h1, h2, h3⟩ := resLX_sound hr h
  obtain ⟨l', h4, h5, h6⟩ := snAL_sound hr.sat h2
  unfold Res
  rw [h1, Option.map_some, Option.bind_some]
  match vs, l', h4, h5 with
  | [], l', h4, h5 =>
    obtain rfl := Option.some.inj h4
    obtain ⟨e, hc⟩ := h5
    exact ⟨by rw [← e]; rfl, hc⟩
  | [v], l', h4, h5 =>
    rw [List.map_cons, List.map_nil, List.mapM_cons] at h4
    cases hv : snapA st.own false (st3 σ v) with
    | none => rw [hv] at h4; cases h4
    | some v' =>
      rw [hv] at h4
      obtain rfl := Option.some.inj h4
      obtain ⟨e, hc⟩ := h5
      exact ⟨by rw [← e]; exact snapR_one hv, hc⟩
  | v :: u :: w, l', h4, h5 =>
    obtain ⟨a, b, c, rfl⟩ := mapM_two (show List.mapM (snapA st.own false) (st3 σ v :: st3 σ u :: w.map (st3 σ)) = some l' from h4)
    obtain ⟨e, hc⟩ := h5
    refine ⟨?_, hc⟩
    rw [← e]
    have h4 : List.mapM (snapA st.own false) (st3 σ v :: st3 σ u :: w.map (st3 σ)) = some (a :: b :: c) := h4
    show Option.map AV.tup (List.mapM (snapA st.own false) (st3 σ v :: st3 σ u :: w.map (st3 σ))) = _
    rw [h4]; rfl
/-- no name in an argument -/
def datA : AV → Bool
  | .agg cs => datL cs
  | v => dat v
def datAL : List AV → Bool
  | [] => true
  | v :: r => bif datA v then datAL r else false
theorem datA_st3 {v : AV} (h : datA v = true) : st3 σ v = v := by
  cases v with
  | agg cs => simp only [datA] at h; simp only [st3, st2, datL_st1 h]
  | _ => first | rfl | cases h
theorem datAL_tg {σ : Stp} : ∀ {vs : List AV} {i : Nat}, datAL vs = true → ∀ j, tget (initTm i vs) j = st3 σ (tget (initTm i vs) j)
  | [], _, _, _ => rfl
  | v :: r, i, h, j => by
    simp only [datAL] at h
    cases hv : datA v <;> simp only [hv, cond_true, cond_false] at h
    · cases h
    · simp only [initTm_cons, tget_cons]
      split
      · exact (datA_st3 hv).symm
      · exact datAL_tg h j
/-- a function, by the walk -/
theorem Ev.x {f : Nat} {fn : AFn} {vs : List AV} {r : AV} (hL : L f = some fn) (hp : Nat.beq vs.length fn.pars = true) (hd : datAL vs = true) (h : AKM L [.code fn.body] (initTm 0 vs) [] (RetX fn r)) : Ev L f vs r := by
  refine Ev.fwd hL (beq_iff.1 hp) (AK_mono (h (fun _ _ => (0, 0)) ⟨initTm 0 vs, Own.emp⟩ ⟨fun j => Or.inr ?_, ?_⟩) ?_)
  · rw [tg_eq]; exact datAL_tg hd j
  · exact ⟨(fun _ _ _ e => by cases e), (fun _ _ _ e => by simp [mref, mget] at e), (fun _ _ _ e => by simp [mref, mget] at e), (fun _ _ _ _ _ _ e => by simp [mref, mget] at e)⟩
  · rintro s ⟨σ, tm, M, hr, hq⟩
    exact RetX_sound hr hq

/-! names written anew; loops -/
def rkL : List (Nat × Nat) → Nat → Nat
  | [], k => k
  | (a, b) :: r, k => bif Nat.beq k a then b else rkL r k
def rk1 (τ : List (Nat × Nat)) : AV → AV
  | .row k t z o n => .row (rkL τ k) t z o n
  | .ptr k t i j => .ptr (rkL τ k) t i j
  | v => v
def rkC1 (τ : List (Nat × Nat)) : List AV → List AV
  | [] => []
  | v :: r => rk1 τ v :: rkC1 τ r
def rk2 (τ : List (Nat × Nat)) : AV → AV
  | .agg cs => .agg (rkC1 τ cs)
  | v => rk1 τ v
def rkC2 (τ : List (Nat × Nat)) : List AV → List AV
  | [] => []
  | v :: r => rk2 τ v :: rkC2 τ r
def rk3 (τ : List (Nat × Nat)) : AV → AV
  | .tup cs => .tup (rkC2 τ cs)
  | v => rk2 τ v
def rkCC (τ : List (Nat × Nat)) : List (List AV) → List (List AV)
  | [] => []
  | v :: r => rkC1 τ v :: rkCC τ r
def rkC (τ : List (Nat × Nat)) : Cel → Cel
  | .bx cs => .bx (rkC1 τ cs)
  | .rw z es => .rw z es
  | .bs z es => .bs z (rkCC τ es)
  | .mx rows => .mx rows
variable {τ : List (Nat × Nat)}
theorem rkC1_eq : ∀ l : List AV, rkC1 τ l = l.map (rk1 τ)
  | [] => rfl
  | v :: r => by rw [rkC1, rkC1_eq r]; rfl
theorem rkC2_eq : ∀ l : List AV, rkC2 τ l = l.map (rk2 τ)
  | [] => rfl
  | v :: r => by rw [rkC2, rkC2_eq r]; rfl
theorem st1_rk (v : AV) : st1 (fun k t => σ (rkL τ k) t) v = st1 σ (rk1 τ v) := by cases v <;> rfl
theorem st2_rk (v : AV) : st2 (fun k t => σ (rkL τ k) t) v = st2 σ (rk2 τ v) := by
  cases v with
  | agg cs => simp only [st2, rk2, rkC1_eq, List.map_map]; exact congrArg AV.agg (List.map_congr_left fun v _ => st1_rk v)
  | _ => rfl
theorem st3_rk (v : AV) : st3 (fun k t => σ (rkL τ k) t) v = st3 σ (rk3 τ v) := by
  cases v with
  | tup cs => simp only [st3, rk3, rkC2_eq, List.map_map]; exact congrArg AV.tup (List.map_congr_left fun v _ => st2_rk v)
  | agg cs => exact st2_rk (.agg cs)
  | _ => rfl
theorem rkCC_eq : ∀ l : List (List AV), rkCC τ l = l.map (rkC1 τ)
  | [] => rfl
  | v :: r => by rw [rkCC, rkCC_eq r]; rfl
theorem mxB_rk {k : Nat} : ∀ (rows : List (Option (Nat × List (List AV)))) (i : Nat), mxB (fun k t => σ (rkL τ k) t) k i rows = mxB σ (rkL τ k) i rows
  | [], i => rfl
  | none :: r, i => by rw [mxB, mxB, mxB_rk r]
  | some (z, es) :: r, i => by rw [mxB, mxB, mxB_rk r]
theorem blk_rk (c : Cel) (k : Nat) : c.blk (fun k t => σ (rkL τ k) t) k = (rkC τ c).blk σ (rkL τ k) := by
  cases c with
  | bx cs =>
    simp only [Cel.blk, rkC, rkC1_eq, List.length_map, List.map_map]
    rw [List.map_congr_left fun v _ => st1_rk v]; rfl
  | rw z es => rfl
  | bs z es =>
    simp only [Cel.blk, rkC, rkCC_eq, List.map_map]
    congr 1
    refine List.map_congr_left fun cs _ => ?_
    simp only [Function.comp, rkC1_eq, List.map_map]
    exact List.map_congr_left fun v _ => st1_rk v
  | mx rows => simp only [Cel.blk, rkC, mxB_rk]
/-- each name once -/
def mput (k s : Nat) (c : Cel) : Mem → Mem
  | [] => [(k, s, c)]
  | (j, s', c') :: r => bif Nat.beq k j then (k, s, c) :: r else (j, s', c') :: mput k s c r
def mcan : Mem → Mem
  | [] => []
  | (k, s, c) :: r => mput k s c (mcan r)
theorem mget_mput (k s : Nat) (c : Cel) (j : Nat) : ∀ M : Mem, mget (mput k s c M) j = bif Nat.beq j k then some (s, c) else mget M j
  | [] => rfl
  | (i, s', c') :: r => by
    simp only [mput]
    cases hk : Nat.beq k i
    · simp only [cond_false, mget, mget_mput k s c j r]
      cases hj : Nat.beq j i <;> cases hjk : Nat.beq j k <;> simp only [cond_true, cond_false]
      exact absurd ((beq_iff.1 hjk).symm.trans (beq_iff.1 hj)) (beq_false.1 hk)
    · obtain rfl := beq_iff.1 hk
      simp only [cond_true, mget]
      cases Nat.beq j k <;> rfl
theorem mget_mcan (j : Nat) : ∀ M : Mem, mget (mcan M) j = mget M j
  | [] => rfl
  | (k, s, c) :: r => by simp only [mcan, mget_mput, mget_mcan j r, mget]
theorem mref_mcan (k t : Nat) : mref (mcan M) k t = mref M k t := by simp only [mref, mget_mcan]
def mems (M : Mem) : List (Nat × Nat × Cel) → List (Option (Nat × Cel))
  | [] => []
  | (k, _, _) :: r => mget M k :: mems M r
def memt (τ : List (Nat × Nat)) (M : Mem) : List (Nat × Nat × Cel) → List (Option (Nat × Cel))
  | [] => []
  | (k, _, _) :: r => mget M (rkL τ k) :: memt τ M r
def memw (τ : List (Nat × Nat)) : List (Nat × Nat × Cel) → List (Option (Nat × Cel))
  | [] => []
  | (_, s, c) :: r => some (s, rkC τ c) :: memw τ r
def tmt (tm : Tm) : Tm → List AV
  | [] => []
  | (j, _) :: r => tg tm j :: tmt tm r
def tmw (τ : List (Nat × Nat)) : Tm → List AV
  | [] => []
  | (_, v) :: r => rk3 τ v :: tmw τ r
def nodB : List Nat → Bool
  | [] => true
  | k :: r => bif memN k r then false else nodB r
def keys (τ : List (Nat × Nat)) : Mem → List Nat
  | [] => []
  | (k, _, _) :: r => rkL τ k :: keys τ r
theorem mem_w : ∀ {M' : Mem} {M : Mem}, memt τ M M' = memw τ M' → ∀ k s c, mget M' k = some (s, c) → mget M (rkL τ k) = some (s, rkC τ c)
  | [], _, _, _, _, _, e => by cases e
  | (i, s', c') :: r, M, h, k, s, c, e => by
    simp only [memt, memw, List.cons.injEq] at h
    simp only [mget] at e
    cases hb : Nat.beq k i <;> simp only [hb, cond_true, cond_false] at e
    · exact mem_w h.2 k s c e
    · simp only [Option.some.injEq, Prod.mk.injEq] at e
      obtain ⟨rfl, rfl⟩ := e
      rw [beq_iff.1 hb]; exact h.1
theorem mem_keys : ∀ {M : Mem} {k s : Nat} {c : Cel}, mget M k = some (s, c) → memN (rkL τ k) (keys τ M) = true
  | (i, s', c') :: r, k, s, c, e => by
    simp only [mget] at e
    simp only [keys, memN]
    cases hb : Nat.beq k i <;> simp only [hb, cond_true, cond_false] at e
    · rw [mem_keys e]; cases Nat.beq (rkL τ k) (rkL τ i) <;> rfl
    · rw [beq_iff.1 hb]; simp
theorem nod_inj : ∀ {M : Mem}, nodB (keys τ M) = true → ∀ {k k' s s' : Nat} {c c' : Cel}, mget M k = some (s, c) → mget M k' = some (s', c') → rkL τ k = rkL τ k' → k = k'
  | [], _, _, _, _, _, _, _, e, _, _ => by cases e
  | (i, s0, c0) :: r, h, k, k', s, s', c, c', e, e', hk => by
    simp only [keys, nodB] at h
    cases hm : memN (rkL τ i) (keys τ r) <;> simp only [hm, cond_true, cond_false] at h
    · simp only [mget] at e e'
      cases hb : Nat.beq k i <;> cases hb' : Nat.beq k' i <;> simp only [hb, hb', cond_true, cond_false] at e e'
      · exact nod_inj h e e' hk
      · obtain rfl := beq_iff.1 hb'
        have := mem_keys (τ := τ) e
        rw [hk, hm] at this; cases this
      · obtain rfl := beq_iff.1 hb
        have := mem_keys (τ := τ) e'
        rw [← hk, hm] at this; cases this
      · exact (beq_iff.1 hb).trans (beq_iff.1 hb').symm
    · cases h
theorem tm_w : ∀ {tm' : Tm} {tm : Tm}, tmt tm tm' = tmw τ tm' → ∀ j, tg tm' j = .any ∨ tg tm j = rk3 τ (tg tm' j)
  | [], _, _, _ => Or.inl rfl
  | (i, v) :: r, tm, h, j => by
    simp only [tmt, tmw, List.cons.injEq] at h
    simp only [tg]
    cases hb : Nat.beq j i <;> simp only [cond_true, cond_false]
    · exact tm_w h.2 j
    · rw [beq_iff.1 hb]; exact Or.inr h.1
def tdel (ts : List Nat) (tm : Tm) : Tm := match ts with
  | [] => tm
  | t :: ts => cnm (mask 0 (t :: ts)) tm
/-- the same table, the same memory under other names -/
def EqX (τ : List (Nat × Nat)) (tm : Tm) (M : Mem) (tm' : Tm) (M' : Mem) : Prop :=
  fT (cnm 0 tm') fun l => fM (mcan M') fun m => tmt tm l = tmw τ l ∧ memt τ M m = memw τ m ∧ nodB (keys τ m) = true
/-- a state read with other names -/
theorem AKM.back {k : List It} {tm' : Tm} {M' : Mem} {Q : Tm → Mem → Prop} (τ : List (Nat × Nat)) (he : EqX τ tm M tm' M') (h : AKM L k tm' M' Q) : AKM L k tm M Q := by
  unfold EqX at he
  rw [fT_eq, fM_eq] at he
  obtain ⟨ht, hm, hn⟩ := he
  intro σ st hr
  have hg : ∀ k s c, mget M' k = some (s, c) → mget M (rkL τ k) = some (s, rkC τ c) := fun k s c e => mem_w hm k s c (by rw [mget_mcan]; exact e)
  have hgr : ∀ k t c, mref M' k t = some c → mref M (rkL τ k) t = some (rkC τ c) := by
    intro k t c e
    obtain ⟨s, c0, g1, g2, g3⟩ := mref_some e
    have := hg k s c0 g1
    cases t with
    | zero => rw [g2 rfl]; exact mref_root this
    | succ i =>
      obtain ⟨rows, z, es, rfl, hr, rfl⟩ := g3 i rfl
      simp [mref, this, rkC, hr]
  refine h (fun k t => σ (rkL τ k) t) st ⟨fun j => ?_, ⟨?_, ?_, ?_, ?_⟩⟩
  · have := tm_w ht j
    rw [tg_cnm, bit_zero, cond_false] at this
    rcases this with e | e
    · exact Or.inl e
    · rcases hr.tm j with e' | e'
      · left
        rw [e'] at e
        cases hv : tg tm' j <;> rw [hv] at e <;> first | rfl | cases e
      · right
        rw [e', e, st3_rk]
  · intro k s c e; exact hr.sat.site _ _ _ (hg k s c e)
  · intro k t c e; rw [blk_rk]; exact hr.sat.blk _ _ _ (hgr k t c e)
  · intro k t c e; exact hr.sat.old _ _ _ (hgr k t c e)
  · intro k t k' t' c c' e e' hk
    obtain ⟨q1, q2⟩ := hr.sat.inj _ _ _ _ _ _ (hgr _ _ _ e) (hgr _ _ _ e') hk
    obtain ⟨s, c0, g, _⟩ := mref_some e
    obtain ⟨s', c0', g', _⟩ := mref_some e'
    exact ⟨nod_inj hn (by rw [mget_mcan]; exact g) (by rw [mget_mcan]; exact g') q1, q2⟩
theorem AKM.can {k : List It} {Q : Tm → Mem → Prop} (h : AKM L k (cnm 0 tm) (mcan M) Q) : AKM L k tm M Q := by
  intro σ st hr
  refine h σ st ⟨fun j => ?_, ⟨?_, ?_, ?_, ?_⟩⟩
  · rw [tg_cnm, bit_zero, cond_false]; exact hr.tm j
  · intro k s c e; rw [mget_mcan] at e; exact hr.sat.site _ _ _ e
  · intro k t c e; rw [mref_mcan] at e; exact hr.sat.blk _ _ _ e
  · intro k t c e; rw [mref_mcan] at e; exact hr.sat.old _ _ _ e
  · intro k t k' t' c c' e e' hk
    rw [mref_mcan] at e e'
    exact hr.sat.inj _ _ _ _ _ _ e e' hk
/-- an empty row that is to hold rows -/
def mset (k : Nat) (c : Cel) : Mem → Mem
  | [] => []
  | (j, s, c') :: r => bif Nat.beq k j then (j, s, c) :: r else (j, s, c') :: mset k c r
theorem mget_mset {k j s : Nat} {c c' : Cel} : ∀ {M : Mem}, mget (mset k c M) j = some (s, c') → ∃ c0, mget M j = some (s, c0) ∧ (c0 = c' ∨ (j = k ∧ c' = c))
  | [], e => by cases e
  | (i, s0, c0) :: r, e => by
    simp only [mset] at e
    cases hk : Nat.beq k i <;> simp only [hk, cond_true, cond_false, mget] at e ⊢
    · cases hj : Nat.beq j i <;> simp only [hj, cond_true, cond_false] at e ⊢
      · exact mget_mset e
      · exact ⟨c', e, Or.inl rfl⟩
    · cases hj : Nat.beq j i <;> simp only [hj, cond_true, cond_false] at e ⊢
      · exact ⟨c', e, Or.inl rfl⟩
      · simp only [Option.some.injEq, Prod.mk.injEq] at e
        obtain ⟨rfl, rfl⟩ := e
        exact ⟨c0, rfl, Or.inr ⟨(beq_iff.1 hj).trans (beq_iff.1 hk).symm, rfl⟩⟩
theorem AKM.mx0 {kk : List It} {Q : Tm → Mem → Prop} (k s : Nat) (e : mget M k = some (s, .rw 1 [])) (h : AKM L kk tm (mset k (.mx []) M) Q) : AKM L kk tm M Q := by
  intro σ st hr
  have hg : ∀ j t c, mref (mset k (.mx []) M) j t = some c → ∃ c0, mref M j t = some c0 ∧ c0.blk σ j = c.blk σ j := by
    intro j t c g
    obtain ⟨s1, c1, g1, g2, g3⟩ := mref_some g
    obtain ⟨c0, q1, q2⟩ := mget_mset g1
    cases t with
    | zero =>
      rw [g2 rfl]
      rcases q2 with rfl | ⟨rfl, rfl⟩
      · exact ⟨_, mref_root q1, rfl⟩
      · rw [e] at q1
        simp only [Option.some.injEq, Prod.mk.injEq] at q1
        obtain ⟨rfl, rfl⟩ := q1
        exact ⟨_, mref_root e, rfl⟩
    | succ i =>
      obtain ⟨rows, z, es, rfl, hrr, rfl⟩ := g3 i rfl
      rcases q2 with rfl | ⟨rfl, h0⟩
      · exact ⟨.rw z es, by simp [mref, q1, hrr], rfl⟩
      · obtain rfl : rows = [] := by simpa using h0
        simp at hrr
  refine h σ st ⟨hr.tm, ⟨?_, ?_, ?_, ?_⟩⟩
  · intro j s' c g
    obtain ⟨c0, q1, _⟩ := mget_mset g
    exact hr.sat.site _ _ _ q1
  · intro j t c g
    obtain ⟨c0, q1, q2⟩ := hg j t c g
    rw [← q2]; exact hr.sat.blk _ _ _ q1
  · intro j t c g
    obtain ⟨c0, q1, _⟩ := hg j t c g
    exact hr.sat.old _ _ _ q1
  · intro j t j' t' c c' g g' hj
    obtain ⟨_, q1, _⟩ := hg j t c g
    obtain ⟨_, q2, _⟩ := hg j' t' c' g'
    exact hr.sat.inj _ _ _ _ _ _ q1 q2 hj
theorem AKM.lp {k : List It} {c : ACode} {Q : Tm → Mem → Prop} (h : AKM L (.code c :: .lp c :: k) tm M Q) : AKM L (.lp c :: k) tm M Q := fun σ st hr => AK_lp.2 (h σ st hr)
/-- a loop: 'vs' and 'Ms' are what turns, 'ts' is forgotten -/
theorem AKM.loop {α : Type} {k : List It} {c : ACode} {Q : Tm → Mem → Prop} (m : α → Nat) (P : α → Prop) (vs : α → Tm) (Ms : α → Mem) (ts : List Nat) (τ : List (Nat × Nat)) (a : α)
    (he : EqX τ tm M (vs a ++ tdel ts tm) (Ms a ++ M)) (hp : P a)
    (step : ∀ a, P a → (∀ a', m a' < m a → P a' → AKM L (.lp c :: k) (vs a' ++ tdel ts tm) (Ms a' ++ M) Q) → AKM L (.code c :: .lp c :: k) (vs a ++ tdel ts tm) (Ms a ++ M) Q) : AKM L (.lp c :: k) tm M Q := by
  have key : ∀ n a, m a < n → P a → AKM L (.lp c :: k) (vs a ++ tdel ts tm) (Ms a ++ M) Q := by
    intro n
    induction n with
    | zero => intro a h; omega
    | succ n ih =>
      intro a ha hp
      exact AKM.lp (step a hp fun a' h1 h2 => ih a' (by omega) h2)
  exact AKM.back τ he (key (m a + 1) a (by omega) hp)
end
end Go.Eng
