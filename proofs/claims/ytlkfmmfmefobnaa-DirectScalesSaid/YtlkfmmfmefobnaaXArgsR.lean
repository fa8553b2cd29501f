/-
  Arguments of the laws, as typed data, with their ranges.
-/
import Derived.Test.YtlkfmmfmefobnaaXArgs
import Derived.Test.YtlkfmmfmefobnaaXRaw
set_option linter.unusedSimpArgs false
set_option linter.unusedVariables false
set_option linter.unnecessarySimpa false
namespace Go.Eng
theorem list_ofP {α : Type} {enc : α → List AV} {p : α → Prop} : ∀ {es : List (List AV)}, (∀ x ∈ es, ∃ y, x = enc y ∧ p y) → ∃ l : List α, es = l.map enc ∧ ∀ y ∈ l, p y
  | [], _ => ⟨[], rfl, by simp⟩
  | e :: es, h => by
    obtain ⟨y, rfl, hy⟩ := h e List.mem_cons_self
    obtain ⟨l, rfl, hl⟩ := list_ofP (enc := enc) (p := p) fun x hx => h x (List.mem_cons_of_mem _ hx)
    exact ⟨y :: l, rfl, by simpa using ⟨hy, hl⟩⟩
theorem has_slP {α : Type} {enc : α → List AV} {p : α → Prop} {e : Ty} {cs : List AV} (he : ∀ x, HasL e x → ∃ y, x = enc y ∧ p y) (h : HasL (.sl e) cs) : ∃ l : List α, cs = [.sl true (l.map enc)] ∧ l.length < 9223372036854775808 ∧ ∀ y ∈ l, p y := by
  obtain ⟨es, rfl, hl, hx⟩ := h
  obtain ⟨l, rfl, hp⟩ := list_ofP (enc := enc) (p := p) fun x hm => he x (hx x hm)
  refine ⟨l, rfl, ?_, hp⟩
  have : maxLen = 9223372036854775807 := rfl
  simp at hl
  omega
theorem wf_InI {n : Int} (h : (Lit.int .i64 n).wf = true) : InI n := by
  simp only [Lit.wf, Bool.and_eq_true, decide_eq_true_eq] at h
  have h1 : IntKind.i64.min = -9223372036854775808 := rfl
  have h2 : IntKind.i64.max = 9223372036854775807 := rfl
  rw [h1, h2] at h
  unfold InI
  constructor <;> omega
theorem has_iI {cs : List AV} (h : HasL tI cs) : ∃ n, cs = encInt n ∧ InI n := by obtain ⟨n, rfl, hw⟩ := h; exact ⟨n, rfl, wf_InI hw⟩
theorem has_intsI {cs : List AV} (h : HasL (.sl tI) cs) : ∃ l : List Int, cs = [.sl true (l.map encInt)] ∧ l.length < 9223372036854775808 ∧ allI l := has_slP (fun _ => has_iI) h
abbrev tWr : Ty := .cons (.sl tI) (.cons (.sl tI) .nil)
theorem has_wr {cs : List AV} (h : HasL tWr cs) : ∃ w, cs = encWr w ∧ (allI w.1.2 ∧ allI w.2.2) := by
  obtain ⟨_, _, rfl, h1, _, _, rfl, h2, rfl⟩ := h
  obtain ⟨l1, rfl, _, a1⟩ := has_intsI h1
  obtain ⟨l2, rfl, _, a2⟩ := has_intsI h2
  exact ⟨((true, l1), (true, l2)), rfl, a1, a2⟩
abbrev tR : Ty := .cons tI (.cons tI (.cons tI (.cons (.sl tWr) (.cons (.sl tI) (.cons tI (.cons .bool .nil))))))
theorem has_raw {cs : List AV} (h : HasL tR cs) : ∃ r : Rw, cs = encR r ∧ InI r.data ∧ InI r.coef ∧ InI r.states ∧ InI r.out ∧ allI r.next ∧ (∀ w ∈ r.nodes, allI w.1.2 ∧ allI w.2.2) ∧ r.nodes.length < 9223372036854775808 := by
  obtain ⟨_, _, rfl, h1, _, _, rfl, h2, _, _, rfl, h3, _, _, rfl, h4, _, _, rfl, h5, _, _, rfl, h6, _, _, rfl, ⟨b, rfl⟩, rfl⟩ := h
  obtain ⟨a, rfl, i1⟩ := has_iI h1
  obtain ⟨c, rfl, i2⟩ := has_iI h2
  obtain ⟨s, rfl, i3⟩ := has_iI h3
  obtain ⟨nodes, rfl, l4, i4⟩ := has_slP (enc := encWr) (fun _ => has_wr) h4
  obtain ⟨next, rfl, l5, i5⟩ := has_intsI h5
  obtain ⟨o, rfl, i6⟩ := has_iI h6
  exact ⟨⟨a, c, s, true, nodes, true, next, o, b⟩, rfl, i1, i2, i3, i6, i5, i4, l4⟩
end Go.Eng
