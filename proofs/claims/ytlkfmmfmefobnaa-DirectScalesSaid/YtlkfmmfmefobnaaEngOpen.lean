/-
  Arguments of any type of integers, bools, slices and structs, opened: what they hold, as the abstract machine reads it.
-/
import Derived.Test.YtlkfmmfmefobnaaEngFn
import Derived.Test.YtlkfmmfmefobnaaEngAK
import Derived.ProofKit
import Derived.OpenShut
import Derived.ChangeOld
import Derived.WalkKit
import Derived.WideShapes
import Derived.ChangeArms
set_option linter.unusedSimpArgs false
set_option linter.unusedVariables false
set_option linter.unnecessarySimpa false
namespace Go.Eng
open Go.ChangeShapes Go.WideShapes Go.ChangeAt Go.RowKit

inductive Ty where
  | int (k : IntKind)
  | bool
  | sl (e : Ty)
  | nil
  | cons (a r : Ty)
def Ty.cells : Ty → Nat
  | .int _ => 1 | .bool => 1 | .sl _ => 1
  | .nil => 0
  | .cons a r => a.cells + r.cells
/-- cells of a type -/
def HasL : Ty → List AV → Prop
  | .int k, cs => ∃ n, cs = [.int k n] ∧ (Lit.int k n).wf = true
  | .bool, cs => ∃ b, cs = [.bool b]
  | .sl e, cs => ∃ es, cs = [.sl true es] ∧ es.length ≤ maxLen ∧ ∀ x ∈ es, HasL e x
  | .nil, cs => cs = []
  | .cons a r, cs => ∃ x y, cs = x ++ y ∧ HasL a x ∧ HasL r y
theorem HasL.len : ∀ {ty : Ty} {cs : List AV}, HasL ty cs → cs.length = ty.cells
  | .int _, cs, h => by obtain ⟨n, rfl, _⟩ := h; rfl
  | .bool, cs, h => by obtain ⟨n, rfl⟩ := h; rfl
  | .sl _, cs, h => by obtain ⟨n, rfl, _⟩ := h; rfl
  | .nil, cs, h => by rw [show cs = [] from h]; rfl
  | .cons a r, cs, h => by obtain ⟨x, y, rfl, h1, h2⟩ := h; simp [Ty.cells, HasL.len h1, HasL.len h2]

/-- as the program has it -/
def okTy (P : Program) : Nat → TypeId → Ty → Bool
  | 0, _, _ => false
  | n + 1, t, ty => match P.underlying t, ty with
    | some (.int k), .int k' => decide (k = k')
    | some .bool, .bool => true
    | some (.slice e), .sl ty' => okTy P n e ty' && (P.cellsOf e == ty'.cells && decide (0 < ty'.cells))
    | some (.struct fs), ty => go (okTy P n) fs.toList 0 ty && P.cellsOf t == ty.cells
    | _, _ => false
where
  go (ok : TypeId → Ty → Bool) : List Field → Nat → Ty → Bool
    | [], _, .nil => true
    | f :: fs, off, .cons a r => (f.offset == off && (ok f.type a && P.cellsOf f.type == a.cells)) && go ok fs (off + a.cells) r
    | _, _, _ => false

section
variable {H : Type} {enc : TypeId × Value → H} {P : Program} {w : World} {base : Nat} {spare : Nat → Bool} {held : Bool} {R : Bool → Nat → Prop}
def RdL (w : World) (R : Bool → Nat → Prop) (as : List AV) (cs : List Value) : Prop := as.length = cs.length ∧ ∀ (j : Nat) (a : AV) (c : Value), as[j]? = some a → cs[j]? = some c → Rd w R a c
theorem RdL.one {a : AV} {c : Value} (h : Rd w R a c) : RdL w R [a] [c] := by
  refine ⟨rfl, fun j a' c' h1 h2 => ?_⟩
  cases j with
  | zero => simp at h1 h2; subst h1 h2; exact h
  | succ j => simp at h1
theorem RdL.append {as bs : List AV} {cs ds : List Value} (h1 : RdL w R as cs) (h2 : RdL w R bs ds) : RdL w R (as ++ bs) (cs ++ ds) := by
  refine ⟨by simp [h1.1, h2.1], fun j a c ha hc => ?_⟩
  by_cases hj : j < as.length
  · rw [List.getElem?_append_left hj] at ha
    rw [List.getElem?_append_left (by rw [← h1.1]; exact hj)] at hc
    exact h1.2 j a c ha hc
  · rw [List.getElem?_append_right (by omega)] at ha
    rw [List.getElem?_append_right (by rw [← h1.1]; omega), ← h1.1] at hc
    exact h2.2 _ a c ha hc
theorem add_off (a : Addr) (i : Nat) (h : a.spot = none) : a.add i = ⟨a.block, a.off + i, none⟩ := by
  obtain ⟨b, o, s⟩ := a
  simp only at h
  subst h
  exact add_none b o i
theorem open_go (hR : ∀ b, b < w.heap.size → R true b) (m : Nat) (ih : ∀ (ty : Ty) (t : TypeId) (cs : List Value) (fuel : Nat) (x : DataW H × List MemPlace), okTy P m t ty = true → DataW.trod enc P w base spare held fuel t cs = some x → ∃ as, HasL ty as ∧ RdL w R as cs)
    (n : Nat) (cs : List Value) : ∀ (fs : List Field) (off : Nat) (ty : Ty), okTy.go P (okTy P m) fs off ty = true → (∀ f ∈ fs, ∃ y, DataW.trod enc P w base spare held n f.type ((cs.drop f.offset).take (P.cellsOf f.type)) = some y) → off + ty.cells = cs.length → ∃ as, HasL ty as ∧ RdL w R as (cs.drop off)
  | [], off, ty, hok, _, hl => by
    cases ty <;> simp only [okTy.go, Bool.false_eq_true] at hok
    simp only [Ty.cells] at hl
    exact ⟨[], rfl, by rw [List.drop_of_length_le (by omega)]; exact ⟨rfl, fun j a c h => by simp at h⟩⟩
  | f :: fs, off, ty, hok, hf, hl => by
    cases ty <;> simp only [okTy.go, Bool.false_eq_true, Bool.and_eq_true, beq_iff_eq] at hok
    rename_i a r
    obtain ⟨⟨h1, h2, h3⟩, h4⟩ := hok
    simp only [Ty.cells] at hl
    obtain ⟨y, hy⟩ := hf f List.mem_cons_self
    rw [h1, h3] at hy
    obtain ⟨as1, g1, g2⟩ := ih a f.type _ n y h2 hy
    obtain ⟨as2, g3, g4⟩ := open_go hR m ih n cs fs (off + a.cells) r h4 (fun f' h' => hf f' (List.mem_cons_of_mem _ h')) (by omega)
    refine ⟨as1 ++ as2, ⟨as1, as2, rfl, g1, g3⟩, ?_⟩
    have := g2.append g4
    rwa [show (cs.drop off).take a.cells ++ cs.drop (off + a.cells) = cs.drop off by rw [← List.drop_drop, List.take_append_drop]] at this
theorem open_any (hR : ∀ b, b < w.heap.size → R true b) : ∀ (m : Nat) (ty : Ty) (t : TypeId) (cs : List Value) (fuel : Nat) (x : DataW H × List MemPlace), okTy P m t ty = true → DataW.trod enc P w base spare held fuel t cs = some x → ∃ as, HasL ty as ∧ RdL w R as cs
  | 0, _, _, _, _, _, h, _ => by simp [okTy] at h
  | m + 1, ty, t, cs, fuel, x, hok, h => by
    have ih := open_any hR m
    simp only [okTy] at hok
    split at hok
    · rename_i k k' hu
      obtain rfl : k = k' := by simpa using hok
      obtain ⟨n, rfl, _, hw⟩ := DataW.trod_int hu h
      exact ⟨[.int k n], ⟨n, rfl, hw⟩, RdL.one (.int k n)⟩
    · rename_i hu
      cases fuel with
      | zero => simp [DataW.trod] at h
      | succ fuel =>
        unfold DataW.trod at h
        rw [hu] at h
        split at h <;> simp_all
        exact ⟨_, ⟨_, rfl⟩, RdL.one (.bool _)⟩
    · rename_i e ty' hu
      simp only [Bool.and_eq_true, beq_iff_eq, decide_eq_true_eq] at hok
      obtain ⟨h1, h2, h3⟩ := hok
      rcases DataW.trod_slice hu h with ⟨rfl, _⟩ | ⟨a, len, cap, elems, rest, n, _, rfl, _, hb, hl, hm, hlen, hel, _, _⟩
      · exact ⟨[.sl true []], ⟨[], rfl, by simp, by simp⟩, RdL.one (.sl0 true none 0)⟩
      · have each : ∀ i, i < len → ∃ as cs', HasL ty' as ∧ RdL w R as cs' ∧ cs'.length = ty'.cells ∧ ∀ j, j < ty'.cells → w.cell? ((a.add (i * ty'.cells)).add j) = cs'[j]? := by
          intro i hi
          have := hel i hi
          rw [h2, List.getElem?_eq_getElem (by omega), Option.bind_eq_some_iff] at this
          obtain ⟨cs', hc, ht⟩ := this
          obtain ⟨as, g1, g2⟩ := ih ty' e cs' n _ h1 ht
          obtain ⟨_, q1, q2⟩ := World.cells?_some hc
          exact ⟨as, cs', g1, g2, q1, q2⟩
        by_cases h0 : len = 0
        · subst h0
          exact ⟨[.sl true []], ⟨[], rfl, by simp, by simp⟩, RdL.one (.sl0 true (some a) cap)⟩
        · have hspot : a.spot = none := by
            obtain ⟨as, cs', _, _, q1, q2⟩ := each 0 (by omega)
            have := q2 0 h3
            rw [List.getElem?_eq_getElem (by omega)] at this
            simpa [Addr.add] using World.cell?_spot this
          have hblk : a.block < w.heap.size := by
            obtain ⟨as, cs', _, _, q1, q2⟩ := each 0 (by omega)
            have := q2 0 h3
            rw [List.getElem?_eq_getElem (by omega)] at this
            simpa [Addr.add] using cell_lt this
          have pick : ∃ f : Nat → List AV × List Value, ∀ i, i < len → HasL ty' (f i).1 ∧ RdL w R (f i).1 (f i).2 ∧ (f i).2.length = ty'.cells ∧ ∀ j, j < ty'.cells → w.cell? ((a.add (i * ty'.cells)).add j) = (f i).2[j]? := by
            refine ⟨fun i => if hi : i < len then (Classical.choose (each i hi), Classical.choose (Classical.choose_spec (each i hi))) else ([], []), fun i hi => ?_⟩
            simp only [hi, dif_pos]
            exact Classical.choose_spec (Classical.choose_spec (each i hi))
          obtain ⟨f, hf⟩ := pick
          have hget : ∀ i e', ((List.range len).map fun i => (f i).1)[i]? = some e' → i < len ∧ e' = (f i).1 := by
            intro i e' he
            rw [List.getElem?_map] at he
            by_cases hi : i < len
            · rw [List.getElem?_range hi] at he
              simp at he
              exact ⟨hi, he.symm⟩
            · rw [List.getElem?_eq_none (by simpa using hi)] at he
              cases he
          refine ⟨[.sl true ((List.range len).map fun i => (f i).1)], ⟨_, rfl, by simp; omega, fun x hx => ?_⟩, RdL.one ?_⟩
          · obtain ⟨i, hi, rfl⟩ := List.mem_map.1 hx
            exact (hf i (List.mem_range.1 hi)).1
          · obtain ⟨ab, ao, as⟩ := a
            simp only at hspot
            subst hspot
            have hlen' : ((List.range len).map fun i => (f i).1).length = len := by simp
            have := Rd.sl (w := w) (R := R) true ((List.range len).map fun i => (f i).1) ab ao ty'.cells cap (fun i j => ((f i).2[j]?).getD default) (by intro e; have := congrArg List.length e; simp at this; omega) h3 (hR ab hblk) (by rw [hlen']; exact hl)
              (fun e' he => by
                obtain ⟨i, hi, rfl⟩ := List.mem_map.1 he
                exact (hf i (List.mem_range.1 hi)).1.len)
              (fun i e' he j c hc => by
                obtain ⟨hi, rfl⟩ := hget i e' he
                obtain ⟨g1, g2, g3, g4⟩ := hf i hi
                have hj : j < ty'.cells := by
                  have := (List.getElem?_eq_some_iff.1 hc).1
                  rwa [g1.len] at this
                have h5 := g4 j hj
                rw [add_off ⟨ab, ao, none⟩ (i * ty'.cells) rfl, add_off _ _ rfl] at h5
                simp only at h5
                rw [show ao + (i * ty'.cells + j) = ao + i * ty'.cells + j by omega, h5, List.getElem?_eq_getElem (by omega)]
                rfl)
              (fun i e' he j c hc => by
                obtain ⟨hi, rfl⟩ := hget i e' he
                obtain ⟨g1, g2, g3, g4⟩ := hf i hi
                have hj : j < ty'.cells := by
                  have := (List.getElem?_eq_some_iff.1 hc).1
                  rwa [g1.len] at this
                have h6 : (f i).2[j]? = some ((f i).2[j]'(by omega)) := List.getElem?_eq_getElem _
                rw [h6]
                exact g2.2 j c _ hc h6)
            rwa [hlen'] at this
    · rename_i fs hu
      simp only [Bool.and_eq_true, beq_iff_eq] at hok
      obtain ⟨h1, h2⟩ := hok
      obtain ⟨xs, n, _, _, hl, hlen, hf⟩ := DataW.trod_struct hu h
      have := open_go hR m ih n cs fs.toList 0 _ h1 (fun f hf' => by
        obtain ⟨i, hi, rfl⟩ := List.getElem_of_mem hf'
        have h5 := hf i fs.toList[i] (by simp)
        rw [h5, List.getElem?_eq_getElem (by simpa [hlen] using hi)]
        exact ⟨_, rfl⟩) (by rw [hl, h2]; omega)
      simpa using this
    · exact absurd hok (by simp)
/-- one cell: a number, a bool, a slice -/
theorem open_cell {S : Nat → Prop} {ty : Ty} {t : TypeId} {v : Value} {d : DataW H} {ps : List MemPlace} {m : Nat} (hok : okTy P m t ty = true) (hv : v.cells.toList = [v]) (h : DataW.Trod enc P w base spare held t v d ps) :
    ∃ a, HasL ty [a] ∧ CA w.heap.size S ⟨fun _ _ => none, Own.emp, w⟩ a v := by
  obtain ⟨fuel, hf⟩ := h
  rw [hv] at hf
  obtain ⟨as, h1, h2⟩ := open_any (R := safe w.heap.size S ⟨fun _ _ => none, Own.emp, w⟩) (fun b hb => Or.inr (Or.inr ⟨rfl, hb⟩)) m ty t [v] fuel _ hok hf
  obtain ⟨a, rfl⟩ : ∃ a, as = [a] := by
    have := h2.1
    match as, this with
    | [a], _ => exact ⟨a, rfl⟩
  exact ⟨a, h1, .one (.rd (h2.2 0 a v rfl rfl))⟩
/-- a struct -/
theorem open_st {S : Nat → Prop} {ty : Ty} {t : TypeId} {cs : Array Value} {d : DataW H} {ps : List MemPlace} {m : Nat} (hok : okTy P m t ty = true) (h : DataW.Trod enc P w base spare held t (.agg cs) d ps) :
    ∃ as, HasL ty as ∧ CA w.heap.size S ⟨fun _ _ => none, Own.emp, w⟩ (.agg as) (.agg cs) := by
  obtain ⟨fuel, hf⟩ := h
  obtain ⟨as, h1, h2⟩ := open_any (R := safe w.heap.size S ⟨fun _ _ => none, Own.emp, w⟩) (fun b hb => Or.inr (Or.inr ⟨rfl, hb⟩)) m ty t cs.toList fuel _ hok hf
  refine ⟨as, h1, ?_⟩
  have := CA.agg (B := w.heap.size) (S := S) (m := ⟨fun _ _ => none, Own.emp, w⟩) as cs.toList ⟨h2.1, fun j c v hc hv => .rd (h2.2 j c v hc hv)⟩
  simpa using this
end
/-- a list of what is encoded -/
theorem list_of {α : Type} {enc : α → List AV} : ∀ {es : List (List AV)}, (∀ x ∈ es, ∃ y, x = enc y) → ∃ l : List α, es = l.map enc
  | [], _ => ⟨[], rfl⟩
  | e :: r, h => by
    obtain ⟨y, rfl⟩ := h e List.mem_cons_self
    obtain ⟨l, rfl⟩ := list_of fun x hx => h x (List.mem_cons_of_mem _ hx)
    exact ⟨y :: l, rfl⟩
theorem args_nil {B : Nat} {S : Nat → Prop} {m : M} : ∀ (j : Nat) (c : AV) (v : Value), ([] : List AV)[j]? = some c → ([] : List Value)[j]? = some v → CA B S m c v := fun j c v h => by simp at h
theorem args_cons {B : Nat} {S : Nat → Prop} {m : M} {a : AV} {u : Value} {as : List AV} {us : List Value} (h : CA B S m a u) (hr : ∀ (j : Nat) (c : AV) (v : Value), as[j]? = some c → us[j]? = some v → CA B S m c v) :
    ∀ (j : Nat) (c : AV) (v : Value), (a :: as)[j]? = some c → (u :: us)[j]? = some v → CA B S m c v
  | 0, c, v, h1, h2 => by simp at h1 h2; subst h1 h2; exact h
  | j + 1, c, v, h1, h2 => hr j c v (by simpa using h1) (by simpa using h2)
/-! typed data -/
theorem has_int {k : IntKind} {cs : List AV} (h : HasL (.int k) cs) : ∃ n, cs = [.int k n] ∧ (Lit.int k n).wf = true := h
theorem has_bool {cs : List AV} (h : HasL .bool cs) : ∃ b, cs = [.bool b] := h
theorem has_sl {α : Type} {enc : α → List AV} {e : Ty} {cs : List AV} (he : ∀ x, HasL e x → ∃ y, x = enc y) (h : HasL (.sl e) cs) : ∃ l : List α, cs = [.sl true (l.map enc)] ∧ l.length < 9223372036854775808 := by
  obtain ⟨es, rfl, hl, hx⟩ := h
  obtain ⟨l, rfl⟩ := list_of (enc := enc) fun x hm => he x (hx x hm)
  refine ⟨l, rfl, ?_⟩
  have : maxLen = 9223372036854775807 := rfl
  simp at hl
  omega
/-- the law, called -/
theorem law_calls {P : Program} {num : Nat → Nat} {L : Lib} (hP : ProgOK P num L) {f : Nat} {vs : List AV} (h : Ev L f vs (.bool true)) {S : Nat → Prop} {w : World} {us : List Value} (hl : vs.length = us.length)
    (ha : ∀ (j : Nat) (c : AV) (v : Value), vs[j]? = some c → us[j]? = some v → CA w.heap.size S ⟨fun _ _ => none, Own.emp, w⟩ c v) :
    Calls P (num f) us.toArray w fun e w' => e = .returned (.bool true) ∧ Below w.heap.size w w' := by
  obtain ⟨n, hn⟩ := h
  refine ((calls_ok hP n).pure f vs _ hn S w us hl ha).mono ?_
  rintro e w' ⟨u, rfl, hb, hcv, _⟩
  refine ⟨?_, hb⟩
  cases hcv with
  | ca hca => cases hca with
    | one hcc => cases hcc with
      | rd hrd => cases hrd; rfl
end Go.Eng
