/-
  Arguments of the laws, as typed data.
-/
import Derived.Test.YtlkfmmfmefobnaaEngOpen
import Derived.Test.YtlkfmmfmefobnaaX22
set_option linter.unusedSimpArgs false
set_option linter.unusedVariables false
set_option linter.unnecessarySimpa false
namespace Go.Eng
abbrev tI : Ty := .int .i64
abbrev tW : Ty := .cons tI (.cons tI (.cons tI (.cons tI .nil)))
abbrev tT : Ty := .cons tI (.cons tI .nil)
abbrev tNd : Ty := .cons (.sl tT) .nil
abbrev tN : Ty := .cons tW (.cons tW (.cons tI (.cons (.sl tNd) (.cons (.sl tI) (.cons tI .nil)))))
theorem has_i {cs : List AV} (h : HasL tI cs) : ∃ n, cs = encInt n := by obtain ⟨n, rfl, _⟩ := h; exact ⟨n, rfl⟩
theorem has_ints {cs : List AV} (h : HasL (.sl tI) cs) : ∃ l : List Int, cs = [.sl true (l.map encInt)] ∧ l.length < 9223372036854775808 := has_sl (fun _ => has_i) h
theorem has_w {cs : List AV} (h : HasL tW cs) : ∃ w : Wd, cs = encW w := by
  obtain ⟨_, _, rfl, ⟨a, rfl, _⟩, _, _, rfl, ⟨b, rfl, _⟩, _, _, rfl, ⟨c, rfl, _⟩, _, _, rfl, ⟨d, rfl, _⟩, rfl⟩ := h
  exact ⟨⟨a, b, c, d⟩, rfl⟩
theorem has_t {cs : List AV} (h : HasL tT cs) : ∃ t : Int × Int, cs = encT t := by
  obtain ⟨_, _, rfl, ⟨a, rfl, _⟩, _, _, rfl, ⟨b, rfl, _⟩, rfl⟩ := h
  exact ⟨(a, b), rfl⟩
theorem has_nd {cs : List AV} (h : HasL tNd cs) : ∃ n : Nd, cs = encNd n := by
  obtain ⟨_, _, rfl, hs, rfl⟩ := h
  obtain ⟨l, rfl, _⟩ := has_sl (enc := encT) (fun _ => has_t) hs
  exact ⟨⟨true, l⟩, rfl⟩
theorem has_net {cs : List AV} (h : HasL tN cs) : ∃ n : Nt, cs = encN n ∧ n.nodes.length < 9223372036854775808 ∧ n.next.length < 9223372036854775808 := by
  obtain ⟨_, _, rfl, h1, _, _, rfl, h2, _, _, rfl, ⟨s, rfl, _⟩, _, _, rfl, h3, _, _, rfl, h4, _, _, rfl, ⟨o, rfl, _⟩, rfl⟩ := h
  obtain ⟨w1, rfl⟩ := has_w h1
  obtain ⟨w2, rfl⟩ := has_w h2
  obtain ⟨nodes, rfl, l1⟩ := has_sl (enc := encNd) (fun _ => has_nd) h3
  obtain ⟨next, rfl, l2⟩ := has_ints h4
  exact ⟨⟨w1, w2, s, true, nodes, true, next, o⟩, rfl, l1, l2⟩
end Go.Eng
