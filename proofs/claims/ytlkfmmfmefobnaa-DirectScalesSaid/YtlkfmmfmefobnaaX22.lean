/-
  Networks: Valid, of the program and of its reference.
-/
import Derived.Test.YtlkfmmfmefobnaaX21
import Derived.Test.YtlkfmmfmefobnaaEngNet
set_option linter.unusedSimpArgs false
set_option linter.unusedVariables false
set_option linter.unnecessarySimpa false
namespace Go.Eng
open F
attribute [local irreducible] AKM CmpP Req OpP UnP ConvP RdP LdR StR MkR LenP AppR AppN CpyR RowP SnR Bds SlS CallP CalP FinP pw LdM GetM SetM PutM MkM AppM SnM
set_option maxHeartbeats 1000000
variable {L : Lib}
theorem drop_cons {α : Type} {l : List α} {i : Nat} {e : α} (h : l[i]? = some e) : l.drop i = e :: l.drop (i + 1) := by
  obtain ⟨h1, h2⟩ := List.getElem?_eq_some_iff.1 h
  rw [List.drop_eq_getElem_cons h1, h2]
theorem drop_len {α : Type} {l : List α} {i : Nat} (h : l.length ≤ i) : l.drop i = [] := List.drop_eq_nil_of_le h

theorem ev_ref21_SameInts (I : FixedLib L) (xs ys : List Int) (q1 q2 : Bool) (hx : xs.length < 9223372036854775808) (hy : ys.length < 9223372036854775808) : Ev L 20 [.sl q1 (xs.map encInt), .sl q2 (ys.map encInt)] (.bool (decide (xs = ys))) := by
  refine Ev.x I.ref21_SameInts rfl rfl ?_
  (repeat' (first | (refine CmpP.go (fun hc => ?_) (fun hc => ?_) <;> first | (exfalso; omega) | (conv => whnf)) | (refine Req.go (by omega) ?_; conv => whnf) | (refine OpP.add (by omega) ?_; conv => whnf) | (refine OpP.sub (by omega) ?_; conv => whnf) | (refine OpP.mul (by omega) ?_; conv => whnf) | (refine OpP.shr (by omega) ?_; conv => whnf) | (refine OpP.shl1 (by omega) (fun _ _ => ?_); conv => whnf) | (refine OpP.andm (by omega) (fun _ _ => ?_); conv => whnf) | (refine OpP.rem (by omega) (fun _ _ _ => ?_) (fun _ _ _ _ => ?_) <;> first | (exfalso; omega) | (conv => whnf)) | (refine OpP.quo (by omega) (by omega) (fun _ => ?_) (fun _ _ => ?_) <;> first | (exfalso; omega) | (conv => whnf)) | (refine OpP.and1 ?_; conv => whnf) | (refine OpP.wadd ?_; conv => whnf) | (refine OpP.wsub ?_; conv => whnf) | (refine OpP.wmul ?_; conv => whnf) | (refine UnP.neg (by omega) ?_; conv => whnf) | (refine ConvP.u64 (by omega) ?_; conv => whnf) | (refine ConvP.i64 (by omega) ?_; conv => whnf) | (refine LenP.go ?_; conv => whnf) | (refine RdP.at (by assumption) (by omega) rfl ?_; conv => whnf) | (refine RdP.nat (by omega) (fun _ => rfl) (fun e he => ?_); conv => whnf) | (refine RdP.go (by omega) (fun _ => rfl) (fun e he => ?_); conv => whnf) | (refine LdR.nat (by omega) (fun _ => rfl) (fun v hv => ?_); conv => whnf) | (refine LdR.int (by omega) (fun _ => rfl) (fun v hv => ?_); conv => whnf) | (refine SnR.all (fun _ => rfl) rfl (by first | rfl | simp) ?_; conv => whnf) | (refine RowP.all rfl (by first | rfl | simp) ?_; conv => whnf) | (refine RowP.e1 ?_; conv => whnf) | (refine LdM.nat (by omega) (fun r hr => ?_); conv => whnf) | (refine GetM.ati (by assumption) ?_; conv => whnf) | (refine SnM.all (fun _ => rfl) rfl (by first | rfl | simp) ?_; conv => whnf) | (refine SnR.e1 rfl ?_; conv => whnf) | (refine AKM.x ?_; conv => whnf) | (refine AKM.y ?_; conv => whnf)))
  · exact FinP.df (by intro e; subst e; omega)
  · have h := hc
    refine AKM.loop1 (fun i => xs.length - i) (fun (i : Nat) => i ≤ xs.length ∧ (xs = ys ↔ xs.drop i = ys.drop i)) (fun i => [(5, .int .i64 i)]) (fun _ => []) [] [] 0 (by (conv => whnf); exact ⟨rfl, rfl, rfl⟩) ⟨by omega, by simp⟩ ?_
    intro i ⟨p1, p2⟩ ih
    (repeat' (first | (refine CmpP.go (fun hc => ?_) (fun hc => ?_) <;> first | (exfalso; omega) | (conv => whnf)) | (refine Req.go (by omega) ?_; conv => whnf) | (refine OpP.add (by omega) ?_; conv => whnf) | (refine OpP.sub (by omega) ?_; conv => whnf) | (refine OpP.mul (by omega) ?_; conv => whnf) | (refine OpP.shr (by omega) ?_; conv => whnf) | (refine OpP.shl1 (by omega) (fun _ _ => ?_); conv => whnf) | (refine OpP.andm (by omega) (fun _ _ => ?_); conv => whnf) | (refine OpP.rem (by omega) (fun _ _ _ => ?_) (fun _ _ _ _ => ?_) <;> first | (exfalso; omega) | (conv => whnf)) | (refine OpP.quo (by omega) (by omega) (fun _ => ?_) (fun _ _ => ?_) <;> first | (exfalso; omega) | (conv => whnf)) | (refine OpP.and1 ?_; conv => whnf) | (refine OpP.wadd ?_; conv => whnf) | (refine OpP.wsub ?_; conv => whnf) | (refine OpP.wmul ?_; conv => whnf) | (refine UnP.neg (by omega) ?_; conv => whnf) | (refine ConvP.u64 (by omega) ?_; conv => whnf) | (refine ConvP.i64 (by omega) ?_; conv => whnf) | (refine LenP.go ?_; conv => whnf) | (refine RdP.at (by assumption) (by omega) rfl ?_; conv => whnf) | (refine RdP.nat (by omega) (fun _ => rfl) (fun e he => ?_); conv => whnf) | (refine RdP.go (by omega) (fun _ => rfl) (fun e he => ?_); conv => whnf) | (refine LdR.nat (by omega) (fun _ => rfl) (fun v hv => ?_); conv => whnf) | (refine LdR.int (by omega) (fun _ => rfl) (fun v hv => ?_); conv => whnf) | (refine SnR.all (fun _ => rfl) rfl (by first | rfl | simp) ?_; conv => whnf) | (refine RowP.all rfl (by first | rfl | simp) ?_; conv => whnf) | (refine RowP.e1 ?_; conv => whnf) | (refine LdM.nat (by omega) (fun r hr => ?_); conv => whnf) | (refine GetM.ati (by assumption) ?_; conv => whnf) | (refine SnM.all (fun _ => rfl) rfl (by first | rfl | simp) ?_; conv => whnf) | (refine SnR.e1 rfl ?_; conv => whnf) | (refine AKM.x ?_; conv => whnf) | (refine AKM.y ?_; conv => whnf)))
    · rename_i e1 h1
      refine FinP.df ?_
      rw [p2, drop_cons h1, drop_cons he]
      intro e; exact hc (List.cons.inj e).1
    · rename_i e1 h1
      refine AKM.back [] (by (conv => whnf); exact ⟨rfl, rfl, rfl⟩) (ih (i + 1) (by omega) ⟨by omega, ?_⟩)
      rw [p2, drop_cons h1, drop_cons he, hc]
      simp
    · refine FinP.dt ?_
      rw [p2, drop_len (by omega), drop_len (by omega)]
theorem ev_ref21_Words (I : FixedLib L) (w : Wd) (xs : List Int) (q : Bool) (hb : xs.length < 9223372036854775808) : Ev L 19 [.agg (encW w), .sl q (xs.map encInt)] (.bool (xs.all fun v => decide (FT w v))) := by
  refine Ev.x I.ref21_Words rfl rfl ?_
  (repeat' (first | (refine CmpP.go (fun hc => ?_) (fun hc => ?_) <;> first | (exfalso; omega) | (conv => whnf)) | (refine Req.go (by omega) ?_; conv => whnf) | (refine OpP.add (by omega) ?_; conv => whnf) | (refine OpP.sub (by omega) ?_; conv => whnf) | (refine OpP.mul (by omega) ?_; conv => whnf) | (refine OpP.shr (by omega) ?_; conv => whnf) | (refine OpP.shl1 (by omega) (fun _ _ => ?_); conv => whnf) | (refine OpP.andm (by omega) (fun _ _ => ?_); conv => whnf) | (refine OpP.rem (by omega) (fun _ _ _ => ?_) (fun _ _ _ _ => ?_) <;> first | (exfalso; omega) | (conv => whnf)) | (refine OpP.quo (by omega) (by omega) (fun _ => ?_) (fun _ _ => ?_) <;> first | (exfalso; omega) | (conv => whnf)) | (refine OpP.and1 ?_; conv => whnf) | (refine OpP.wadd ?_; conv => whnf) | (refine OpP.wsub ?_; conv => whnf) | (refine OpP.wmul ?_; conv => whnf) | (refine UnP.neg (by omega) ?_; conv => whnf) | (refine ConvP.u64 (by omega) ?_; conv => whnf) | (refine ConvP.i64 (by omega) ?_; conv => whnf) | (refine LenP.go ?_; conv => whnf) | (refine RdP.at (by assumption) (by omega) rfl ?_; conv => whnf) | (refine RdP.nat (by omega) (fun _ => rfl) (fun e he => ?_); conv => whnf) | (refine RdP.go (by omega) (fun _ => rfl) (fun e he => ?_); conv => whnf) | (refine LdR.nat (by omega) (fun _ => rfl) (fun v hv => ?_); conv => whnf) | (refine LdR.int (by omega) (fun _ => rfl) (fun v hv => ?_); conv => whnf) | (refine SnR.all (fun _ => rfl) rfl (by first | rfl | simp) ?_; conv => whnf) | (refine RowP.all rfl (by first | rfl | simp) ?_; conv => whnf) | (refine RowP.e1 ?_; conv => whnf) | (refine LdM.nat (by omega) (fun r hr => ?_); conv => whnf) | (refine GetM.ati (by assumption) ?_; conv => whnf) | (refine SnM.all (fun _ => rfl) rfl (by first | rfl | simp) ?_; conv => whnf) | (refine SnR.e1 rfl ?_; conv => whnf) | (refine AKM.x ?_; conv => whnf) | (refine AKM.y ?_; conv => whnf)))
  refine AKM.loop1 (fun i => xs.length - i) (fun (i : Nat) => i ≤ xs.length ∧ (xs.drop i).all (fun v => decide (FT w v)) = xs.all fun v => decide (FT w v)) (fun i => [(5, .int .i64 i)]) (fun _ => []) [] [] 0 (by (conv => whnf); exact ⟨rfl, rfl, rfl⟩) ⟨by omega, rfl⟩ ?_
  intro i ⟨p1, p2⟩ ih
  (repeat' (first | (refine CmpP.go (fun hc => ?_) (fun hc => ?_) <;> first | (exfalso; omega) | (conv => whnf)) | (refine Req.go (by omega) ?_; conv => whnf) | (refine OpP.add (by omega) ?_; conv => whnf) | (refine OpP.sub (by omega) ?_; conv => whnf) | (refine OpP.mul (by omega) ?_; conv => whnf) | (refine OpP.shr (by omega) ?_; conv => whnf) | (refine OpP.shl1 (by omega) (fun _ _ => ?_); conv => whnf) | (refine OpP.andm (by omega) (fun _ _ => ?_); conv => whnf) | (refine OpP.rem (by omega) (fun _ _ _ => ?_) (fun _ _ _ _ => ?_) <;> first | (exfalso; omega) | (conv => whnf)) | (refine OpP.quo (by omega) (by omega) (fun _ => ?_) (fun _ _ => ?_) <;> first | (exfalso; omega) | (conv => whnf)) | (refine OpP.and1 ?_; conv => whnf) | (refine OpP.wadd ?_; conv => whnf) | (refine OpP.wsub ?_; conv => whnf) | (refine OpP.wmul ?_; conv => whnf) | (refine UnP.neg (by omega) ?_; conv => whnf) | (refine ConvP.u64 (by omega) ?_; conv => whnf) | (refine ConvP.i64 (by omega) ?_; conv => whnf) | (refine LenP.go ?_; conv => whnf) | (refine RdP.at (by assumption) (by omega) rfl ?_; conv => whnf) | (refine RdP.nat (by omega) (fun _ => rfl) (fun e he => ?_); conv => whnf) | (refine RdP.go (by omega) (fun _ => rfl) (fun e he => ?_); conv => whnf) | (refine LdR.nat (by omega) (fun _ => rfl) (fun v hv => ?_); conv => whnf) | (refine LdR.int (by omega) (fun _ => rfl) (fun v hv => ?_); conv => whnf) | (refine SnR.all (fun _ => rfl) rfl (by first | rfl | simp) ?_; conv => whnf) | (refine RowP.all rfl (by first | rfl | simp) ?_; conv => whnf) | (refine RowP.e1 ?_; conv => whnf) | (refine LdM.nat (by omega) (fun r hr => ?_); conv => whnf) | (refine GetM.ati (by assumption) ?_; conv => whnf) | (refine SnM.all (fun _ => rfl) rfl (by first | rfl | simp) ?_; conv => whnf) | (refine SnR.e1 rfl ?_; conv => whnf) | (refine AKM.x ?_; conv => whnf) | (refine AKM.y ?_; conv => whnf) | (refine CallP.b (ev_ref21_Fits _ I _) (fun hf => ?_) (fun hf => ?_) <;> (conv => whnf))))
  · rw [drop_cons he, List.all_cons, decide_eq_true hf, Bool.true_and] at p2
    exact AKM.back [] (by (conv => whnf); exact ⟨rfl, rfl, rfl⟩) (ih (i + 1) (by omega) ⟨by omega, p2⟩)
  · rw [drop_cons he, List.all_cons, decide_eq_false hf, Bool.false_and] at p2
    exact FinP.b p2
  · rw [drop_len (by omega)] at p2
    exact FinP.b p2

/-- a node: its terms (from, coefficient) -/
structure Nd where
  q : Bool
  ts : List (Int × Int)
abbrev encT (t : Int × Int) : List AV := [.int .i64 t.1, .int .i64 t.2]
abbrev encNd (n : Nd) : List AV := [.sl n.q (n.ts.map encT)]
/-- a network -/
structure Nt where
  d : Wd
  c : Wd
  s : Int
  qn : Bool
  nodes : List Nd
  qx : Bool
  next : List Int
  out : Int
abbrev encN (n : Nt) : List AV := [.int .i64 n.d.b, .int .i64 n.d.f, .int .i64 n.d.r, .int .i64 n.d.o, .int .i64 n.c.b, .int .i64 n.c.f, .int .i64 n.c.r, .int .i64 n.c.o, .int .i64 n.s, .sl n.qn (n.nodes.map encNd), .sl n.qx (n.next.map encInt), .int .i64 n.out]
/-- is a term one of node k's? -/
def termB (c : Wd) (s : Int) (k : Nat) (t : Int × Int) : Bool := decide (0 ≤ t.1 ∧ t.1 ≤ s + k ∧ (t.2 = pw c.f ∨ FT c t.2))
def nodesB (c : Wd) (s : Int) : Nat → List Nd → Bool
  | _, [] => true
  | k, n :: l => (decide (n.ts.length ≤ 64) && n.ts.all (termB c s k)) && nodesB c s (k + 1) l
def nextB (m : Int) (l : List Int) : Bool := l.all fun k => decide (0 ≤ k ∧ k ≤ m)
def netB (n : Nt) : Bool := decide (WV n.d) && decide (WV n.c) && decide (0 ≤ n.s ∧ n.s ≤ 64 ∧ n.nodes.length ≤ 64 ∧ (n.next.length : Int) = n.s) && nodesB n.c n.s 0 n.nodes && nextB (n.s + n.nodes.length) n.next && decide (0 ≤ n.out ∧ n.out ≤ n.s + n.nodes.length)
variable (n : Nt)
theorem netB_iff : netB n = true ↔ WV n.d ∧ WV n.c ∧ (0 ≤ n.s ∧ n.s ≤ 64 ∧ n.nodes.length ≤ 64 ∧ (n.next.length : Int) = n.s) ∧ nodesB n.c n.s 0 n.nodes = true ∧ nextB (n.s + n.nodes.length) n.next = true ∧ 0 ≤ n.out ∧ n.out ≤ n.s + n.nodes.length := by
  simp only [netB, Bool.and_eq_true, decide_eq_true_eq, and_assoc]
theorem eqF {x : Bool} (h : ¬ x = true) : false = x := by simp at h; rw [h]
theorem eqT {x : Bool} (h : x = true) : true = x := by rw [h]
theorem ev_network_Valid (I : FixedLib L) (J : NetLib L) : Ev L 21 [.agg (encN n)] (.bool (netB n)) := by
  refine Ev.x J.network_Valid rfl rfl ?_
  (repeat' (first | (refine CmpP.go (fun hc => ?_) (fun hc => ?_) <;> first | (exfalso; omega) | (conv => whnf)) | (refine Req.go (by omega) ?_; conv => whnf) | (refine OpP.add (by omega) ?_; conv => whnf) | (refine OpP.sub (by omega) ?_; conv => whnf) | (refine OpP.mul (by omega) ?_; conv => whnf) | (refine OpP.shr (by omega) ?_; conv => whnf) | (refine OpP.shl1 (by omega) (fun _ _ => ?_); conv => whnf) | (refine OpP.andm (by omega) (fun _ _ => ?_); conv => whnf) | (refine OpP.rem (by omega) (fun _ _ _ => ?_) (fun _ _ _ _ => ?_) <;> first | (exfalso; omega) | (conv => whnf)) | (refine OpP.quo (by omega) (by omega) (fun _ => ?_) (fun _ _ => ?_) <;> first | (exfalso; omega) | (conv => whnf)) | (refine OpP.and1 ?_; conv => whnf) | (refine OpP.wadd ?_; conv => whnf) | (refine OpP.wsub ?_; conv => whnf) | (refine OpP.wmul ?_; conv => whnf) | (refine UnP.neg (by omega) ?_; conv => whnf) | (refine ConvP.u64 (by omega) ?_; conv => whnf) | (refine ConvP.i64 (by omega) ?_; conv => whnf) | (refine LenP.go ?_; conv => whnf) | (refine RdP.at (by assumption) (by omega) rfl ?_; conv => whnf) | (refine RdP.nat (by omega) (fun _ => rfl) (fun e he => ?_); conv => whnf) | (refine RdP.go (by omega) (fun _ => rfl) (fun e he => ?_); conv => whnf) | (refine LdR.nat (by omega) (fun _ => rfl) (fun v hv => ?_); conv => whnf) | (refine LdR.int (by omega) (fun _ => rfl) (fun v hv => ?_); conv => whnf) | (refine SnR.all (fun _ => rfl) rfl (by first | rfl | simp) ?_; conv => whnf) | (refine RowP.all rfl (by first | rfl | simp) ?_; conv => whnf) | (refine RowP.e1 ?_; conv => whnf) | (refine LdM.nat (by omega) (fun r hr => ?_); conv => whnf) | (refine GetM.ati (by assumption) ?_; conv => whnf) | (refine SnM.all (fun _ => rfl) rfl (by first | rfl | simp) ?_; conv => whnf) | (refine SnR.e1 rfl ?_; conv => whnf) | (refine AKM.x ?_; conv => whnf) | (refine AKM.y ?_; conv => whnf) | (refine CallP.b (ev_fixed_Valid ⟨_, _, _, _⟩ I) (fun hf => ?_) (fun hf => ?_) <;> (conv => whnf))))
  all_goals try (
    refine FinP.b (eqF ?_)
    rw [netB_iff]
    rintro ⟨x1, x2, x3, _⟩
    first | contradiction | omega)
  rename_i h1 h3 h4 h5
  have h2 := hf
  have h6 := hc
  have h1 : WV n.d := h1
  have h2 : WV n.c := h2
  have hw := h2
  unfold WV at hw
  refine AKM.loop1 (fun i => n.nodes.length - i) (fun (i : Nat) => i ≤ n.nodes.length ∧ nodesB n.c n.s i (n.nodes.drop i) = nodesB n.c n.s 0 n.nodes) (fun i => [(45, .int .i64 i)]) (fun _ => []) [] [] 0 (by (conv => whnf); exact ⟨rfl, rfl, rfl⟩) ⟨by omega, rfl⟩ ?_
  intro i ⟨p1, p2⟩ ih
  (repeat' (first | (refine CmpP.go (fun hc => ?_) (fun hc => ?_) <;> first | (exfalso; omega) | (conv => whnf)) | (refine Req.go (by omega) ?_; conv => whnf) | (refine OpP.add (by omega) ?_; conv => whnf) | (refine OpP.sub (by omega) ?_; conv => whnf) | (refine OpP.mul (by omega) ?_; conv => whnf) | (refine OpP.shr (by omega) ?_; conv => whnf) | (refine OpP.shl1 (by omega) (fun _ _ => ?_); conv => whnf) | (refine OpP.andm (by omega) (fun _ _ => ?_); conv => whnf) | (refine OpP.rem (by omega) (fun _ _ _ => ?_) (fun _ _ _ _ => ?_) <;> first | (exfalso; omega) | (conv => whnf)) | (refine OpP.quo (by omega) (by omega) (fun _ => ?_) (fun _ _ => ?_) <;> first | (exfalso; omega) | (conv => whnf)) | (refine OpP.and1 ?_; conv => whnf) | (refine OpP.wadd ?_; conv => whnf) | (refine OpP.wsub ?_; conv => whnf) | (refine OpP.wmul ?_; conv => whnf) | (refine UnP.neg (by omega) ?_; conv => whnf) | (refine ConvP.u64 (by omega) ?_; conv => whnf) | (refine ConvP.i64 (by omega) ?_; conv => whnf) | (refine LenP.go ?_; conv => whnf) | (refine RdP.at (by assumption) (by omega) rfl ?_; conv => whnf) | (refine RdP.nat (by omega) (fun _ => rfl) (fun e he => ?_); conv => whnf) | (refine RdP.go (by omega) (fun _ => rfl) (fun e he => ?_); conv => whnf) | (refine LdR.nat (by omega) (fun _ => rfl) (fun v hv => ?_); conv => whnf) | (refine LdR.int (by omega) (fun _ => rfl) (fun v hv => ?_); conv => whnf) | (refine SnR.all (fun _ => rfl) rfl (by first | rfl | simp) ?_; conv => whnf) | (refine RowP.all rfl (by first | rfl | simp) ?_; conv => whnf) | (refine RowP.e1 ?_; conv => whnf) | (refine LdM.nat (by omega) (fun r hr => ?_); conv => whnf) | (refine GetM.ati (by assumption) ?_; conv => whnf) | (refine SnM.all (fun _ => rfl) rfl (by first | rfl | simp) ?_; conv => whnf) | (refine SnR.e1 rfl ?_; conv => whnf) | (refine AKM.x ?_; conv => whnf) | (refine AKM.y ?_; conv => whnf)))
  · rename Nd => nd
    have hnd := he
    rw [drop_cons hnd, nodesB, decide_eq_false (by omega)] at p2
    refine FinP.b (eqF ?_)
    rw [netB_iff, ← p2]; simp
  · rename Nd => nd
    have hnd := he
    rw [drop_cons hnd, nodesB, decide_eq_true (by omega), Bool.true_and] at p2
    refine AKM.loop1 (fun j => nd.ts.length - j) (fun (j : Nat) => j ≤ nd.ts.length ∧ (nd.ts.drop j).all (termB n.c n.s i) = nd.ts.all (termB n.c n.s i)) (fun j => [(57, .int .i64 j)]) (fun _ => []) [] [] 0 (by (conv => whnf); exact ⟨rfl, rfl, rfl⟩) ⟨by omega, rfl⟩ ?_
    intro j ⟨r1, r2⟩ ih2
    (repeat' (first | (refine CmpP.go (fun hc => ?_) (fun hc => ?_) <;> first | (exfalso; omega) | (conv => whnf)) | (refine Req.go (by omega) ?_; conv => whnf) | (refine OpP.add (by omega) ?_; conv => whnf) | (refine OpP.sub (by omega) ?_; conv => whnf) | (refine OpP.mul (by omega) ?_; conv => whnf) | (refine OpP.shr (by omega) ?_; conv => whnf) | (refine OpP.shl1 (by omega) (fun _ _ => ?_); conv => whnf) | (refine OpP.andm (by omega) (fun _ _ => ?_); conv => whnf) | (refine OpP.rem (by omega) (fun _ _ _ => ?_) (fun _ _ _ _ => ?_) <;> first | (exfalso; omega) | (conv => whnf)) | (refine OpP.quo (by omega) (by omega) (fun _ => ?_) (fun _ _ => ?_) <;> first | (exfalso; omega) | (conv => whnf)) | (refine OpP.and1 ?_; conv => whnf) | (refine OpP.wadd ?_; conv => whnf) | (refine OpP.wsub ?_; conv => whnf) | (refine OpP.wmul ?_; conv => whnf) | (refine UnP.neg (by omega) ?_; conv => whnf) | (refine ConvP.u64 (by omega) ?_; conv => whnf) | (refine ConvP.i64 (by omega) ?_; conv => whnf) | (refine LenP.go ?_; conv => whnf) | (refine RdP.at (by assumption) (by omega) rfl ?_; conv => whnf) | (refine RdP.nat (by omega) (fun _ => rfl) (fun e he => ?_); conv => whnf) | (refine RdP.go (by omega) (fun _ => rfl) (fun e he => ?_); conv => whnf) | (refine LdR.nat (by omega) (fun _ => rfl) (fun v hv => ?_); conv => whnf) | (refine LdR.int (by omega) (fun _ => rfl) (fun v hv => ?_); conv => whnf) | (refine SnR.all (fun _ => rfl) rfl (by first | rfl | simp) ?_; conv => whnf) | (refine RowP.all rfl (by first | rfl | simp) ?_; conv => whnf) | (refine RowP.e1 ?_; conv => whnf) | (refine LdM.nat (by omega) (fun r hr => ?_); conv => whnf) | (refine GetM.ati (by assumption) ?_; conv => whnf) | (refine SnM.all (fun _ => rfl) rfl (by first | rfl | simp) ?_; conv => whnf) | (refine SnR.e1 rfl ?_; conv => whnf) | (refine AKM.x ?_; conv => whnf) | (refine AKM.y ?_; conv => whnf) | (refine CallP.b (ev_fixed_Fits ⟨_, _, _, _⟩ I _) (fun hf => ?_) (fun hf => ?_) <;> (conv => whnf))))
    all_goals try (
      have hb : termB n.c n.s i e = false := by
        simp only [termB, decide_eq_false_iff_not]; intro hh; first | omega | exact absurd hh.2.2 (fun hx => hx.elim (fun hx => by omega) (fun hx => by contradiction))
      rw [drop_cons he, List.all_cons, hb, Bool.false_and] at r2
      rw [← r2, Bool.false_and] at p2
      refine FinP.b (eqF ?_)
      rw [netB_iff, ← p2]; simp
      done)
    all_goals try (
      have hb : termB n.c n.s i e = true := by
        simp only [termB, decide_eq_true_eq]
        exact ⟨by omega, by omega, by first | exact Or.inr (by assumption) | exact Or.inl (by assumption)⟩
      rw [drop_cons he, List.all_cons, hb, Bool.true_and] at r2
      exact AKM.back [] (by (conv => whnf); exact ⟨rfl, rfl, rfl⟩) (ih2 (j + 1) (by omega) ⟨by omega, r2⟩))
    rw [drop_len (by omega)] at r2
    rw [← r2, List.all_nil, Bool.true_and] at p2
    exact AKM.back [] (by (conv => whnf); exact ⟨rfl, rfl, rfl⟩) (ih (i + 1) (by omega) ⟨by omega, p2⟩)
  · rw [drop_len (by omega), nodesB] at p2
    refine AKM.loop1 (fun i => n.next.length - i) (fun (i : Nat) => i ≤ n.next.length ∧ nextB (n.s + n.nodes.length) (n.next.drop i) = nextB (n.s + n.nodes.length) n.next) (fun i => [(99, .int .i64 i)]) (fun _ => []) [] [] 0 (by (conv => whnf); exact ⟨rfl, rfl, rfl⟩) ⟨by omega, rfl⟩ ?_
    intro k ⟨r1, r2⟩ ih3
    (repeat' (first | (refine CmpP.go (fun hc => ?_) (fun hc => ?_) <;> first | (exfalso; omega) | (conv => whnf)) | (refine Req.go (by omega) ?_; conv => whnf) | (refine OpP.add (by omega) ?_; conv => whnf) | (refine OpP.sub (by omega) ?_; conv => whnf) | (refine OpP.mul (by omega) ?_; conv => whnf) | (refine OpP.shr (by omega) ?_; conv => whnf) | (refine OpP.shl1 (by omega) (fun _ _ => ?_); conv => whnf) | (refine OpP.andm (by omega) (fun _ _ => ?_); conv => whnf) | (refine OpP.rem (by omega) (fun _ _ _ => ?_) (fun _ _ _ _ => ?_) <;> first | (exfalso; omega) | (conv => whnf)) | (refine OpP.quo (by omega) (by omega) (fun _ => ?_) (fun _ _ => ?_) <;> first | (exfalso; omega) | (conv => whnf)) | (refine OpP.and1 ?_; conv => whnf) | (refine OpP.wadd ?_; conv => whnf) | (refine OpP.wsub ?_; conv => whnf) | (refine OpP.wmul ?_; conv => whnf) | (refine UnP.neg (by omega) ?_; conv => whnf) | (refine ConvP.u64 (by omega) ?_; conv => whnf) | (refine ConvP.i64 (by omega) ?_; conv => whnf) | (refine LenP.go ?_; conv => whnf) | (refine RdP.at (by assumption) (by omega) rfl ?_; conv => whnf) | (refine RdP.nat (by omega) (fun _ => rfl) (fun e he => ?_); conv => whnf) | (refine RdP.go (by omega) (fun _ => rfl) (fun e he => ?_); conv => whnf) | (refine LdR.nat (by omega) (fun _ => rfl) (fun v hv => ?_); conv => whnf) | (refine LdR.int (by omega) (fun _ => rfl) (fun v hv => ?_); conv => whnf) | (refine SnR.all (fun _ => rfl) rfl (by first | rfl | simp) ?_; conv => whnf) | (refine RowP.all rfl (by first | rfl | simp) ?_; conv => whnf) | (refine RowP.e1 ?_; conv => whnf) | (refine LdM.nat (by omega) (fun r hr => ?_); conv => whnf) | (refine GetM.ati (by assumption) ?_; conv => whnf) | (refine SnM.all (fun _ => rfl) rfl (by first | rfl | simp) ?_; conv => whnf) | (refine SnR.e1 rfl ?_; conv => whnf) | (refine AKM.x ?_; conv => whnf) | (refine AKM.y ?_; conv => whnf)))
    all_goals try (
      have hb : decide (0 ≤ e ∧ e ≤ n.s + n.nodes.length) = false := by (rw [decide_eq_false_iff_not]; omega)
      rw [drop_cons he, nextB, List.all_cons, hb, Bool.false_and] at r2
      refine FinP.b (eqF ?_)
      rw [netB_iff, ← r2]; simp
      done)
    all_goals try (
      have hb : decide (0 ≤ e ∧ e ≤ n.s + n.nodes.length) = true := by (rw [decide_eq_true_eq]; omega)
      rw [drop_cons he, nextB, List.all_cons, hb, Bool.true_and] at r2
      exact AKM.back [] (by (conv => whnf); exact ⟨rfl, rfl, rfl⟩) (ih3 (k + 1) (by omega) ⟨by omega, r2⟩))
    all_goals (
      rw [drop_len (by omega)] at r2
      first
        | (refine FinP.b (eqT ?_); rw [netB_iff]; exact ⟨h1, h2, by omega, p2.symm, r2.symm, by omega, by omega⟩)
        | (refine FinP.b (eqF ?_); rw [netB_iff]; omega))
end Go.Eng
