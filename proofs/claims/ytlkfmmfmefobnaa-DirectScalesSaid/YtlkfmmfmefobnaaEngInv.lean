/-
  What the checker has seen, operation by operation.
-/
import Derived.Test.YtlkfmmfmefobnaaEngTrans
set_option linter.unusedSimpArgs false
set_option linter.unusedVariables false
set_option linter.unnecessarySimpa false
namespace Go.Eng

section
variable {P : Program} {num : Nat → Nat} {op : Op}

theorem inv_mov {y : Opd} (h : okOp P num op (.mov y) = true) : ∃ x, (op = .move x ∨ op = .assign x) ∧ eqOpd x y = true := by
  cases op with
  | move x => exact ⟨x, .inl rfl, h⟩
  | assign x => exact ⟨x, .inr rfl, h⟩
  | _ => exact Bool.noConfusion h
theorem inv_vrow {s z : Nat} (h : okOp P num op (.vrow s z) = true) : (op = .move (.const (.slice none 0 0)) ∨ op = .assign (.const (.slice none 0 0))) ∧ z ≠ 0 := by
  simp only [okOp, Bool.and_eq_true, bne_iff_ne] at h
  refine ⟨?_, h.1⟩
  have h2 := h.2
  split at h2 <;> simp_all
theorem inv_pick {c' a' b' : Opd} (h : okOp P num op (.pick c' a' b') = true) : ∃ c a b, op = .pick c a b ∧ eqOpd c c' = true ∧ eqOpd a a' = true ∧ eqOpd b b' = true := by
  cases op with
  | pick c a b => simp only [okOp, Bool.and_eq_true] at h; exact ⟨c, a, b, rfl, h.1.1, h.1.2, h.2⟩
  | _ => exact Bool.noConfusion h
theorem inv_bin {f : BinOp} {x' y' : Opd} (h : okOp P num op (.bin f x' y') = true) : ∃ t x y u, op = .binOp f t x y u ∧ eqOpd x x' = true ∧ eqOpd y y' = true := by
  cases op with
  | binOp f' t x y u =>
    simp only [okOp, Bool.and_eq_true, beq_iff_eq] at h
    exact ⟨t, x, y, u, by rw [h.1.1], h.1.2, h.2⟩
  | _ => exact Bool.noConfusion h
theorem inv_beq {ne : Bool} {x' y' : Opd} (h : okOp P num op (.beq ne x' y') = true) : ∃ t x y u, op = .binOp (if ne then .neq else .eql) t x y u ∧ P.underlying t = some .bool ∧ eqOpd x x' = true ∧ eqOpd y y' = true := by
  cases op with
  | binOp f' t x y u =>
    simp only [okOp, Bool.and_eq_true] at h
    obtain ⟨⟨⟨h1, h2⟩, h3⟩, h4⟩ := h
    refine ⟨t, x, y, u, ?_, ?_, h3, h4⟩
    · cases ne <;> simp_all
    · split at h2 <;> simp_all
  | _ => exact Bool.noConfusion h
theorem inv_un {f : UnOp} {x' : Opd} (h : okOp P num op (.un f x') = true) : ∃ t x, op = .unOp f t x ∧ eqOpd x x' = true := by
  cases op with
  | unOp f' t x =>
    simp only [okOp, Bool.and_eq_true, beq_iff_eq] at h
    exact ⟨t, x, by rw [h.1], h.2⟩
  | _ => exact Bool.noConfusion h
theorem inv_conv {k : IntKind} {x' : Opd} (h : okOp P num op (.conv k x') = true) : ∃ s d x ds, op = .convert s d x ∧ P.underlying s = some ds ∧ P.underlying d = some (.int k) ∧ eqOpd x x' = true := by
  cases op with
  | convert s d x =>
    simp only [okOp, Bool.and_eq_true] at h
    obtain ⟨⟨h1, h2⟩, h3⟩ := h
    obtain ⟨ds, hds⟩ := Option.isSome_iff_exists.1 h1
    refine ⟨s, d, x, ds, rfl, hds, ?_, h3⟩
    split at h2 <;> simp_all
  | _ => exact Bool.noConfusion h
theorem inv_box {s : Nat} {x' : Opd} (h : okOp P num op (.box s x') = true) : ∃ t x, op = .box t x ∧ eqOpd x x' = true := by
  cases op with
  | box t x => exact ⟨t, x, rfl, h⟩
  | _ => exact Bool.noConfusion h
theorem inv_alloc {s : Nat} {z : List AV} (h : okOp P num op (.alloc s z) = true) : ∃ t, op = .alloc t ∧ zeroIs P t z = true := by
  cases op with
  | alloc t => exact ⟨t, rfl, h⟩
  | _ => exact Bool.noConfusion h
theorem inv_build {z : List AV} {ps' : List (Nat × Nat × Opd)} (h : okOp P num op (.build z ps') = true) : ∃ t ps, op = .build t ps ∧ zeroIs P t z = true ∧ buildIs P t ps.toList ps' = true := by
  cases op with
  | build t ps => simp only [okOp, Bool.and_eq_true] at h; exact ⟨t, ps, rfl, h.1, h.2⟩
  | _ => exact Bool.noConfusion h
theorem sliceIs_inv {t : TypeId} {f : TypeId → Bool} (h : sliceIs P t f = true) : ∃ e, P.underlying t = some (.slice e) ∧ f e = true := by
  unfold sliceIs at h
  split at h
  · rename_i e he; exact ⟨e, he, h⟩
  · cases h
theorem sizeIs_inv {t : TypeId} {n : Nat} (h : sizeIs P t n = true) : ∃ i, P.info? t = some i ∧ i.size = n := by
  unfold sizeIs at h
  split at h
  · rename_i i hi; exact ⟨i, hi, by simpa using h⟩
  · cases h
theorem bytesIs_inv {t : TypeId} {n : Nat} (h : bytesIs P t n = true) : ∃ i, P.info? t = some i ∧ i.bytes = n := by
  unfold bytesIs at h
  split at h
  · rename_i i hi; exact ⟨i, hi, by simpa using h⟩
  · cases h
theorem zeroIs_inv {t : TypeId} {l : List AV} (h : zeroIs P t l = true) : ∃ i z, P.info? t = some i ∧ i.zero = some z ∧ eqVals z.cells.toList l = true := by
  unfold zeroIs at h
  split at h
  · rename_i i hi
    split at h
    · rename_i z hz; exact ⟨i, z, hi, hz, h⟩
    · cases h
  · cases h
theorem aggOf_inv {t : TypeId} {b : Bool} (h : (aggOf P t == some b) = true) : ∀ w, (isAgg t).run P w = .ok b w := by
  intro w
  have h' : aggOf P t = some b := by simpa using h
  unfold aggOf at h'
  unfold isAgg
  cases hu : P.underlying t with
  | none => rw [hu] at h'; cases h'
  | some d =>
    rw [hu] at h'
    rw [Sem.run_bind, run_underlying hu]
    cases d <;> simp_all <;> rfl
theorem zsz_inv {e : TypeId} {n : Nat} (h : (match P.info? e with | some i => (match i.zero with | some z => z.cells.size == n | none => false) | none => false) = true) : ∃ i z, P.info? e = some i ∧ i.zero = some z ∧ z.cells.size = n := by
  split at h
  · rename_i i hi
    split at h
    · rename_i z hz; exact ⟨i, z, hi, hz, by simpa using h⟩
    · cases h
  · cases h
theorem inv_bslice {s esz : Nat} {ps' : List Opd} (h : okOp P num op (.bslice s esz ps') = true) : ∃ t n ps e i, op = .buildSlice t n ps ∧ P.underlying t = some (.slice e) ∧ P.info? e = some i ∧ i.size = esz ∧ esz ≠ 0 ∧ n = ps'.length ∧ n * esz ≤ 16777216 ∧ elemsAre 0 ps.toList ps' = true ∧ (n = 0 ∨ ∃ z, i.zero = some z ∧ z.cells.size = esz) := by
  cases op with
  | buildSlice t n ps =>
    simp only [okOp, Bool.and_eq_true, decide_eq_true_eq, bne_iff_ne, beq_iff_eq, Bool.or_eq_true] at h
    obtain ⟨⟨⟨⟨⟨h1, h2⟩, h3⟩, h4⟩, h5⟩, h6⟩ := h
    obtain ⟨e, he, h1⟩ := sliceIs_inv h1
    obtain ⟨i, hi, hs⟩ := sizeIs_inv h1
    refine ⟨t, n, ps, e, i, rfl, he, hi, hs, h2, h3, h4, h5, h6.imp id fun h6 => ?_⟩
    obtain ⟨e', he', h6⟩ := sliceIs_inv h6
    rw [he] at he'
    obtain rfl : e = e' := by simpa using he'
    obtain ⟨i', z, hi', hz, hs'⟩ := zsz_inv h6
    rw [hi] at hi'
    obtain rfl : i = i' := by simpa using hi'
    exact ⟨z, hz, hs'⟩
  | _ => exact Bool.noConfusion h
theorem inv_fadr {x' : Opd} {off : Nat} (h : okOp P num op (.fadr x' off) = true) : ∃ t x f fs fd i, op = .fieldAddr t x f ∧ eqOpd x x' = true ∧ P.underlying t = some (.struct fs) ∧ fs[f]? = some fd ∧ fd.offset = off ∧ P.info? fd.type = some i ∧ i.size ≠ 0 := by
  cases op with
  | fieldAddr t x f =>
    simp only [okOp, Bool.and_eq_true] at h
    obtain ⟨h1, h2⟩ := h
    split at h2
    · rename_i fs hfs
      split at h2
      · rename_i fd hfd
        simp only [Bool.and_eq_true, beq_iff_eq] at h2
        obtain ⟨h3, h4⟩ := h2
        split at h4
        · rename_i i hi
          exact ⟨t, x, f, fs, fd, i, rfl, h1, hfs, hfd, h3, hi, by simpa using h4⟩
        · cases h4
      · cases h2
    · cases h2
  | _ => exact Bool.noConfusion h
theorem inv_fld {x' : Opd} {off n : Nat} {agg : Bool} (h : okOp P num op (.fld x' off n agg) = true) : ∃ t x f fs fd i, op = .field t x f ∧ eqOpd x x' = true ∧ P.underlying t = some (.struct fs) ∧ fs[f]? = some fd ∧ fd.offset = off ∧ P.info? fd.type = some i ∧ i.size = n ∧ (∀ w, (isAgg fd.type).run P w = .ok agg w) ∧ n ≠ 0 := by
  cases op with
  | field t x f =>
    simp only [okOp, Bool.and_eq_true] at h
    obtain ⟨⟨h1, h2⟩, h3⟩ := h
    unfold fieldIs at h2
    unfold fieldTy at h3
    split at h2
    · rename_i fs hfs
      split at h2
      · rename_i fd hfd
        simp only [Bool.and_eq_true, beq_iff_eq, bne_iff_ne] at h2
        obtain ⟨⟨h4, h5⟩, h6⟩ := h2
        obtain ⟨i, hi, hs⟩ := sizeIs_inv h5
        rw [hfs] at h3
        simp only [hfd] at h3
        exact ⟨t, x, f, fs, fd, i, rfl, h1, hfs, hfd, h4, hi, hs, aggOf_inv h3, h6⟩
      · cases h2
    · cases h2
  | _ => exact Bool.noConfusion h
theorem inv_iadr {arr : Option Nat} {esz : Nat} {x' i' : Opd} (h : okOp P num op (.iadr arr esz x' i') = true) : ∃ t x i e inf, op = .indexAddr t x i ∧ eqOpd x x' = true ∧ eqOpd i i' = true ∧ P.info? e = some inf ∧ inf.size = esz ∧
    ((∃ len, arr = some len ∧ P.underlying t = some (.array len e) ∧ 1 < len) ∨ (arr = none ∧ P.underlying t = some (.slice e) ∧ esz ≠ 0)) := by
  cases op with
  | indexAddr t x i =>
    simp only [okOp, Bool.and_eq_true] at h
    obtain ⟨⟨h1, h2⟩, h3⟩ := h
    split at h3
    · rename_i len e len' hu
      simp only [Bool.and_eq_true, beq_iff_eq, decide_eq_true_eq] at h3
      obtain ⟨⟨h4, h5⟩, h6⟩ := h3
      obtain ⟨inf, hi, hs⟩ := sizeIs_inv h5
      exact ⟨t, x, i, e, inf, rfl, h1, h2, hi, hs, .inl ⟨len, by rw [h4], hu, h6⟩⟩
    · rename_i e hu
      simp only [Bool.and_eq_true, bne_iff_ne] at h3
      obtain ⟨inf, hi, hs⟩ := sizeIs_inv h3.1
      exact ⟨t, x, i, e, inf, rfl, h1, h2, hi, hs, .inr ⟨rfl, hu, h3.2⟩⟩
    · cases h3
  | _ => exact Bool.noConfusion h
theorem inv_idx {len esz : Nat} {agg : Bool} {x' i' : Opd} (h : okOp P num op (.idx len esz agg x' i') = true) : ∃ t x i e inf, op = .index t x i ∧ eqOpd x x' = true ∧ eqOpd i i' = true ∧ P.underlying t = some (.array len e) ∧ P.info? e = some inf ∧ inf.size = esz ∧ (∀ w, (isAgg e).run P w = .ok agg w) := by
  cases op with
  | index t x i =>
    simp only [okOp, Bool.and_eq_true] at h
    obtain ⟨⟨h1, h2⟩, h3⟩ := h
    split at h3
    · rename_i len' e hu
      simp only [Bool.and_eq_true, beq_iff_eq] at h3
      obtain ⟨⟨h4, h5⟩, h6⟩ := h3
      obtain ⟨inf, hi, hs⟩ := sizeIs_inv h5
      exact ⟨t, x, i, e, inf, rfl, h1, h2, by rw [h4]; exact hu, hi, hs, aggOf_inv (by simpa using h6)⟩
    · cases h3
  | _ => exact Bool.noConfusion h
theorem inv_ld {agg : Bool} {n : Nat} {x' : Opd} (h : okOp P num op (.ld agg n x') = true) : ∃ t x, op = .load t x ∧ eqOpd x x' = true ∧ (∀ w, (isAgg t).run P w = .ok agg w) ∧ (if agg then ∃ i, P.info? t = some i ∧ i.size = n else n = 1) := by
  cases op with
  | load t x =>
    simp only [okOp, Bool.and_eq_true] at h
    obtain ⟨⟨h1, h2⟩, h3⟩ := h
    refine ⟨t, x, rfl, h1, aggOf_inv h2, ?_⟩
    cases agg
    · simpa using h3
    · exact sizeIs_inv (by simpa using h3)
  | _ => exact Bool.noConfusion h
theorem inv_st {n : Nat} {x' v' : Opd} (h : okOp P num op (.st n x' v') = true) : ∃ t x v i, op = .store t x v ∧ eqOpd x x' = true ∧ eqOpd v v' = true ∧ P.info? t = some i ∧ i.size = n := by
  cases op with
  | store t x v =>
    simp only [okOp, Bool.and_eq_true] at h
    obtain ⟨⟨h1, h2⟩, h3⟩ := h
    obtain ⟨i, hi, hs⟩ := sizeIs_inv h3
    exact ⟨t, x, v, i, rfl, h1, h2, hi, hs⟩
  | _ => exact Bool.noConfusion h
theorem inv_mk {s esz bytes : Nat} {zero : List AV} {l' c' : Opd} (h : okOp P num op (.mk s esz bytes zero l' c') = true) : ∃ t l c e i z, op = .makeSlice t l c ∧ eqOpd l l' = true ∧ eqOpd c c' = true ∧ P.underlying t = some (.slice e) ∧ P.info? e = some i ∧ i.size = esz ∧ i.bytes = bytes ∧ i.zero = some z ∧ eqVals z.cells.toList zero = true ∧ esz ≠ 0 := by
  cases op with
  | makeSlice t l c =>
    simp only [okOp, Bool.and_eq_true, bne_iff_ne] at h
    obtain ⟨⟨⟨h1, h2⟩, h3⟩, h4⟩ := h
    obtain ⟨e, he, h3⟩ := sliceIs_inv h3
    simp only [Bool.and_eq_true] at h3
    obtain ⟨⟨h5, h6⟩, h7⟩ := h3
    obtain ⟨i, hi, hs⟩ := sizeIs_inv h5
    obtain ⟨i2, hi2, hs2⟩ := bytesIs_inv h6
    obtain ⟨i3, z, hi3, hz, hzz⟩ := zeroIs_inv h7
    rw [hi] at hi2 hi3
    obtain rfl : i = i2 := by simpa using hi2
    obtain rfl : i = i3 := by simpa using hi3
    exact ⟨t, l, c, e, i, z, rfl, h1, h2, he, hi, hs, hs2, hz, hzz, h4⟩
  | _ => exact Bool.noConfusion h
theorem inv_slc {esz : Nat} {x' : Opd} {lo' hi' : Option Opd} (h : okOp P num op (.slc esz x' lo' hi') = true) : ∃ t x lo hi e i, op = .slice t x lo hi none ∧ eqOpd x x' = true ∧ eqOpt lo lo' = true ∧ eqOpt hi hi' = true ∧ P.underlying t = some (.slice e) ∧ P.info? e = some i ∧ i.size = esz ∧ esz ≠ 0 := by
  cases op with
  | slice t x lo hi mx =>
    cases mx with
    | some _ => exact Bool.noConfusion h
    | none =>
      simp only [okOp, Bool.and_eq_true, bne_iff_ne] at h
      obtain ⟨⟨⟨⟨h1, h2⟩, h3⟩, h4⟩, h5⟩ := h
      obtain ⟨e, he, h4⟩ := sliceIs_inv h4
      obtain ⟨i, hi', hs⟩ := sizeIs_inv h4
      exact ⟨t, x, lo, hi, e, i, rfl, h1, h2, h3, he, hi', hs, h5⟩
  | _ => exact Bool.noConfusion h
theorem inv_ext {x' : Opd} {i : Nat} (h : okOp P num op (.ext x' i) = true) : ∃ x, op = .extract x i ∧ eqOpd x x' = true := by
  cases op with
  | extract x j =>
    simp only [okOp, Bool.and_eq_true, beq_iff_eq] at h
    exact ⟨x, by rw [h.2], h.1⟩
  | _ => exact Bool.noConfusion h
theorem toList_two {α : Type} {xs : Array α} {x y : α} (h : xs.toList = [x, y]) : xs = #[x, y] := by cases xs; simp_all
theorem toList_one {α : Type} {xs : Array α} {x : α} (h : xs.toList = [x]) : xs = #[x] := by cases xs; simp_all
theorem inv_len {x' : Opd} (h : okOp P num op (.len x') = true) : ∃ x t e, op = .call ⟨.builtin .len, #[x], #[t]⟩ ∧ eqOpd x x' = true ∧ P.underlying t = some (.slice e) := by
  cases op with
  | call c =>
    obtain ⟨cl, xs, ts⟩ := c
    cases cl with
    | builtin b =>
      cases b <;> first | exact Bool.noConfusion h | skip
      simp only [okOp] at h
      split at h
      · rename_i x t hx ht
        simp only [Bool.and_eq_true] at h
        obtain ⟨e, he, _⟩ := sliceIs_inv h.2
        exact ⟨x, t, e, by rw [toList_one hx, toList_one ht], h.1, he⟩
      · cases h
    | value f => cases f <;> exact Bool.noConfusion h
    | invoke => exact Bool.noConfusion h
  | _ => exact Bool.noConfusion h
theorem inv_mm {mx : Bool} {xs' : List Opd} (h : okOp P num op (.mm mx xs') = true) : ∃ xs ts, op = .call ⟨.builtin (if mx then .max else .min), xs, ts⟩ ∧ eqOpds xs.toList xs' = true := by
  cases op with
  | call c =>
    obtain ⟨cl, xs, ts⟩ := c
    cases cl with
    | builtin b =>
      cases b <;> first | exact Bool.noConfusion h | skip
      all_goals
        simp only [okOp, Bool.and_eq_true] at h
        refine ⟨xs, ts, ?_, h.2⟩
        cases mx <;> simp_all
    | value f => cases f <;> exact Bool.noConfusion h
    | invoke => exact Bool.noConfusion h
  | _ => exact Bool.noConfusion h
theorem inv_app {s esz bytes : Nat} {x' y' : Opd} (h : okOp P num op (.app s esz bytes x' y') = true) : ∃ x y t e i z, op = .call ⟨.builtin .append, #[x, y], #[t, t]⟩ ∧ eqOpd x x' = true ∧ eqOpd y y' = true ∧ P.underlying t = some (.slice e) ∧ P.info? e = some i ∧ i.size = esz ∧ i.bytes = bytes ∧ i.zero = some z ∧ z.cells.size = esz ∧ esz ≠ 0 := by
  cases op with
  | call c =>
    obtain ⟨cl, xs, ts⟩ := c
    cases cl with
    | builtin b =>
      cases b <;> first | exact Bool.noConfusion h | skip
      simp only [okOp] at h
      split at h
      · rename_i x y t u hx ht
        simp only [Bool.and_eq_true, beq_iff_eq, bne_iff_ne] at h
        obtain ⟨⟨⟨⟨h1, h2⟩, h3⟩, h4⟩, h5⟩ := h
        obtain ⟨e, he, h3⟩ := sliceIs_inv h3
        simp only [Bool.and_eq_true] at h3
        obtain ⟨⟨h6, h7⟩, h8⟩ := h3
        obtain ⟨i, hi, hs⟩ := sizeIs_inv h6
        obtain ⟨i2, hi2, hs2⟩ := bytesIs_inv h7
        obtain ⟨i3, z, hi3, hz, hzz⟩ := zsz_inv h8
        rw [hi] at hi2 hi3
        obtain rfl : i = i2 := by simpa using hi2
        obtain rfl : i = i3 := by simpa using hi3
        exact ⟨x, y, t, e, i, z, by rw [toList_two hx, toList_two ht, h5], h1, h2, he, hi, hs, hs2, hz, hzz, h4⟩
      · cases h
    | value f => cases f <;> exact Bool.noConfusion h
    | invoke => exact Bool.noConfusion h
  | _ => exact Bool.noConfusion h
theorem inv_cpy {esz : Nat} {x' y' : Opd} (h : okOp P num op (.cpy esz x' y') = true) : ∃ x y t e i, op = .call ⟨.builtin .copy, #[x, y], #[t, t]⟩ ∧ eqOpd x x' = true ∧ eqOpd y y' = true ∧ P.underlying t = some (.slice e) ∧ P.info? e = some i ∧ i.size = esz ∧ esz ≠ 0 := by
  cases op with
  | call c =>
    obtain ⟨cl, xs, ts⟩ := c
    cases cl with
    | builtin b =>
      cases b <;> first | exact Bool.noConfusion h | skip
      simp only [okOp] at h
      split at h
      · rename_i x y t u hx ht
        simp only [Bool.and_eq_true, beq_iff_eq, bne_iff_ne] at h
        obtain ⟨⟨⟨⟨h1, h2⟩, h3⟩, h4⟩, h5⟩ := h
        obtain ⟨e, he, h3⟩ := sliceIs_inv h3
        obtain ⟨i, hi, hs⟩ := sizeIs_inv h3
        exact ⟨x, y, t, e, i, by rw [toList_two hx, toList_two ht, h5], h1, h2, he, hi, hs, h4⟩
      · cases h
    | value f => cases f <;> exact Bool.noConfusion h
    | invoke => exact Bool.noConfusion h
  | _ => exact Bool.noConfusion h
theorem inv_call {f : Nat} {xs' : List Opd} (h : okOp P num op (.call f xs') = true) : ∃ xs ts, op = .call ⟨.value (.func (num f)), xs, ts⟩ ∧ eqOpds xs.toList xs' = true := by
  cases op with
  | call c =>
    obtain ⟨cl, xs, ts⟩ := c
    cases cl with
    | builtin b => cases b <;> exact Bool.noConfusion h
    | value g =>
      cases g with
      | func g =>
        simp only [okOp, Bool.and_eq_true, beq_iff_eq] at h
        exact ⟨xs, ts, by rw [h.1], h.2⟩
      | _ => exact Bool.noConfusion h
    | invoke => exact Bool.noConfusion h
  | _ => exact Bool.noConfusion h
theorem inv_calli {f : Nat} {xs' : List Opd} (h : okOp P num op (.calli f xs') = true) : ∃ xs ts, op = .call ⟨.value (.func (num f)), xs, ts⟩ ∧ eqOpds xs.toList xs' = true := by
  cases op with
  | call c =>
    obtain ⟨cl, xs, ts⟩ := c
    cases cl with
    | builtin b => cases b <;> exact Bool.noConfusion h
    | value g =>
      cases g with
      | func g =>
        simp only [okOp, Bool.and_eq_true, beq_iff_eq] at h
        exact ⟨xs, ts, by rw [h.1], h.2⟩
      | _ => exact Bool.noConfusion h
    | invoke => exact Bool.noConfusion h
  | _ => exact Bool.noConfusion h
end
end Go.Eng
