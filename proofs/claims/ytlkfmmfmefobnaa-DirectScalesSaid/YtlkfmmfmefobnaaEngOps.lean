/-
  Each operation of the model does what the abstract machine says of it (all but calls).
-/
import Derived.Test.YtlkfmmfmefobnaaEngInv
set_option linter.unusedSimpArgs false
set_option linter.unusedVariables false
set_option linter.unnecessarySimpa false
namespace Go.Eng
open Go.RowKit

def Eff.ownOf : Eff → Own → Own
  | .val _, o => o
  | .new s b _, o => o.put s ((o s).new b)
  | .vir s b _, o => o.put s ((o s).new b)
  | .tur _ o', _ => o'
def Eff.valOf : Eff → Own → AV
  | .val v, _ => v
  | .new s _ v, o => v (o.cnt s)
  | .vir s _ v, o => v (o.cnt s)
  | .tur v _, _ => v

section
variable {B : Nat} {S : Nat → Prop} {w0 : World} {m : M}

theorem cv_int {k : IntKind} {n : Int} {v : Value} (h : CV B S m (.int k n) v) : v = .int k n := by
  cases h with
  | ca h => cases h with
    | one h => cases h with
      | rd h => cases h; rfl
theorem cv_bool {b : Bool} {v : Value} (h : CV B S m (.bool b) v) : v = .bool b := by
  cases h with
  | ca h => cases h with
    | one h => cases h with
      | rd h => cases h; rfl
theorem cv_agg {cs : List AV} {v : Value} (h : CV B S m (.agg cs) v) : ∃ vs : List Value, v = .agg vs.toArray ∧ CL B S m cs vs := by
  cases h with
  | ca h => cases h with
    | one h => cases h with
      | rd h => cases h
    | agg _ vs h => exact ⟨vs, rfl, h⟩
theorem cv_tup {cs : List AV} {v : Value} (h : CV B S m (.tup cs) v) : ∃ vs : List Value, v = .tuple vs.toArray ∧ cs.length = vs.length ∧ ∀ (j : Nat) (c : AV) (u : Value), cs[j]? = some c → vs[j]? = some u → CA B S m c u := by
  cases h with
  | ca h => cases h with
    | one h => cases h with
      | rd h => cases h
  | tup _ vs hl h => exact ⟨vs, rfl, hl, h⟩
theorem mkInt (k : IntKind) (n : Int) : CV B S m (.int k n) (.int k n) := .ca (.one (.rd (.int k n)))
theorem mkBool (b : Bool) : CV B S m (.bool b) (.bool b) := .ca (.one (.rd (.bool b)))
theorem mkUndef : CV B S m (.tup []) undef := .tup [] [] rfl (fun j c v h => by simp at h)

/-- the cells of a value that can be stored -/
theorem cv_cells {a : AV} {cs : List AV} {v : Value} (h : CV B S m a v) (hc : cellsOf a = some cs) : CL B S m cs v.cells.toList := by
  cases h with
  | any v => simp [cellsOf] at hc
  | tup => simp [cellsOf] at hc
  | ca h => cases h with
    | agg cs' vs h =>
      obtain rfl : cs' = cs := by simpa [cellsOf] using hc
      simpa [Value.cells] using h
    | one h =>
      have h1 : v.cells.toList = [v] := by
        cases h with
        | rd h => cases h <;> rfl
        | _ => rfl
      have h2 : cs = [a] := by
        cases h with
        | rd h => cases h <;> simp [cellsOf] at hc <;> exact hc.symm
        | _ => simp [cellsOf] at hc; exact hc.symm
      rw [h1, h2]
      refine ⟨rfl, fun j c u hj hu => ?_⟩
      cases j with
      | zero => simp at hj hu; subst hj hu; exact h
      | succ j => simp at hj

theorem cl_one {cs : List AV} {vs : List Value} (h : CL B S m cs vs) : ∀ v ∈ vs, v.oneCell' = true := by
  intro v hv
  obtain ⟨j, hj, rfl⟩ := List.getElem_of_mem hv
  have hj' : j < cs.length := by rw [h.1]; exact hj
  exact (h.2 j cs[j] vs[j] (List.getElem?_eq_getElem hj') (List.getElem?_eq_getElem hj)).one

theorem cl_part {cs : List AV} {vs : List Value} (h : CL B S m cs vs) (off n : Nat) : CL B S m ((cs.drop off).take n) ((vs.drop off).take n) := by
  refine ⟨by simp [h.1], fun j c v hj hv => ?_⟩
  rw [List.getElem?_take] at hj hv
  split at hj
  · rename_i hlt
    rw [if_pos hlt] at hv
    rw [List.getElem?_drop] at hj hv
    exact h.2 _ c v hj hv
  · cases hj

/-- a constant -/
theorem eqVal_cc {v : Value} {a : AV} (h : eqVal v a = true) : CC B S m a v := by
  unfold eqVal at h
  split at h
  · simp only [Bool.and_eq_true, beq_iff_eq] at h
    obtain ⟨rfl, rfl⟩ := h
    exact .rd (.int _ _)
  · obtain rfl : _ = _ := by simpa using h
    exact .rd (.bool _)
  · exact .nil
  · rename_i s s'
    obtain rfl : s = s' := by
      have h' : s.data.toList = s'.data.toList := by simpa using h
      obtain ⟨⟨l⟩⟩ := s
      obtain ⟨⟨l'⟩⟩ := s'
      simp only at h'
      rw [h']
    exact .rd (.str _)
  · cases h
theorem eqVals_cl : ∀ {vs : List Value} {cs : List AV}, eqVals vs cs = true → CL B S m cs vs
  | [], [], _ => ⟨rfl, fun j c v h => by simp at h⟩
  | v :: r, c :: l, h => by
    simp only [eqVals, Bool.and_eq_true] at h
    have ih := eqVals_cl (vs := r) (cs := l) h.2
    refine ⟨by simp [ih.1], fun j c' v' hj hv => ?_⟩
    cases j with
    | zero => simp at hj hv; subst hj hv; exact eqVal_cc h.1
    | succ j => exact ih.2 j c' v' (by simpa using hj) (by simpa using hv)
  | [], _ :: _, h => by simp [eqVals] at h
  | _ :: _, [], h => by simp [eqVals] at h
theorem eqConst_cv {v : Value} {a : AV} (h : eqConst v a = true) : CV B S m a v := by
  unfold eqConst at h
  split at h
  · rename_i cs l
    have := eqVals_cl (B := B) (S := S) (m := m) h
    exact .ca (by simpa using CA.agg l cs.toList this)
  · exact .ca (.one (eqVal_cc h))

/-- what the operands' abstract values say -/
def Says (B : Nat) (S : Nat → Prop) (m : M) (ρ : Opd → AV) (e : Operand → Value) : Prop := ∀ x y, eqOpd x y = true → CV B S m (ρ y) (e x)

theorem says_of {T : Nat → AV} {a : Act} {ρ : Opd → AV} (hρt : ∀ n, ρ (.t n) = T n) (hρc : ∀ v, ρ (.c v) = v) (h : ∀ i, CV B S m (T i) (a.tmps.getD i undef)) : Says B S m ρ a.eval := by
  intro x y hxy
  unfold eqOpd at hxy
  split at hxy
  · obtain rfl : _ = _ := by simpa using hxy
    rw [hρt]
    exact h _
  · rw [hρc]
    exact eqConst_cv hxy
  · cases hxy

variable {P : Program} {num : Nat → Nat} {o : Oper} {a : Act} {ρ : Opd → AV} {K : Act → World → Prop} {Q : Exit → Act → World → Prop}

theorem wp_of_run {w w' : World} {u : Value} (h : (execOp a.eval o).run P w = .ok (.value u) w') (hk : K (a.put o.dst u) w') : o.wp P a w K Q := by
  unfold Oper.wp
  rw [h]
  exact hk
theorem wp_of_run_skip {w w' : World} (h : (execOp a.eval o).run P w = .ok .skip w') (hk : K (a.put o.dst undef) w') : o.wp P a w K Q := by
  unfold Oper.wp
  rw [h]
  exact hk

/-- the goal of each operation -/
def Does (B : Nat) (S : Nat → Prop) (w0 : World) (P : Program) (o : Oper) (a : Act) (m : M) (E : Eff) : Prop :=
  ∀ (K : Act → World → Prop) (Q : Exit → Act → World → Prop), (∀ u m', m'.own = E.ownOf m.own → MemOK B S w0 m' → Ext B S m m' → CV B S m' (E.valOf m.own) u → K (a.put o.dst u) m'.w) → o.wp P a m.w K Q

/-- a plain value: the world stays -/
theorem does_val (hm : MemOK B S w0 m) {v : AV} {u : Value} (h : (execOp a.eval o).run P m.w = .ok (.value u) m.w) (hc : CV B S m v u) : Does B S w0 P o a m (.val v) :=
  fun K Q hK => wp_of_run h (hK u m rfl hm (Ext.refl m) hc)

theorem do_mov (hm : MemOK B S w0 m) (hs : Says B S m ρ a.eval) {y : Opd} (h : okOp P num o.op (.mov y) = true) : Does B S w0 P o a m (.val (ρ y)) := by
  obtain ⟨x, hx, he⟩ := inv_mov h
  refine does_val hm (u := a.eval x) ?_ (hs x y he)
  rcases hx with hx | hx <;> simp [execOp, hx]

theorem do_vrow (hm : MemOK B S w0 m) {s z : Nat} (h : okOp P num o.op (.vrow s z) = true) : Does B S w0 P o a m (.vir s ⟨z, []⟩ (fun t => .row s t z 0 0)) := by
  obtain ⟨hx, hz⟩ := inv_vrow h
  intro K Q hK
  obtain ⟨h1, h2⟩ := vir_ok hm s z
  refine wp_of_run (u := .slice none 0 0) (w' := m.w) ?_ (hK _ ⟨newν m s none, m.own.put s ((m.own s).new ⟨z, []⟩), m.w⟩ rfl h1 h2 ?_)
  · rcases hx with hx | hx <;> simp [execOp, hx, Act.eval]
  · refine .ca (.one (.row s (m.own.cnt s) z 0 0 none 0 ?_ (by omega) (Nat.le_refl _) (fun h => by omega) fun b hb => ?_))
    · show _ < Own.cnt _ s
      rw [cnt_new]; simp
    · change Own.get _ s _ = some b at hb
      rw [get_new, if_pos ⟨rfl, rfl⟩] at hb
      obtain rfl : (⟨z, []⟩ : Blk) = b := by simpa using hb
      exact ⟨rfl, .inl ⟨rfl, rfl⟩⟩

theorem do_pick (hm : MemOK B S w0 m) (hs : Says B S m ρ a.eval) {c' a' b' : Opd} (h : okOp P num o.op (.pick c' a' b') = true) {t : Bool} (hc : ρ c' = .bool t) :
    Does B S w0 P o a m (.val (if t then ρ a' else ρ b')) := by
  obtain ⟨c, x, y, hop, h1, h2, h3⟩ := inv_pick h
  have hcv := cv_bool (hc ▸ hs c c' h1)
  refine does_val hm (u := if t then a.eval x else a.eval y) ?_ ?_
  · cases t <;> simp [execOp, hop, hcv, asBool]
  · cases t
    · exact hs y b' h3
    · exact hs x a' h2

theorem run_intBin (f : BinOp) (t : TypeId) (k k' : IntKind) (x y : Int) (v : AV) (h : intBin f k x k' y = some v) (w : World) : ∃ u, (binOp f t (.int k x) (.int k' y)).run P w = .ok u w ∧ ((∃ n, v = .int k n ∧ u = .int k n) ∨ ∃ b, v = .bool b ∧ u = .bool b) := by
  cases f <;> simp only [intBin] at h
  case shl =>
    split at h
    · cases h
    · rename_i hy; simp at h; subst h
      exact ⟨_, by simp [binOp, Op.shift, hy], .inl ⟨_, rfl, rfl⟩⟩
  case shr =>
    split at h
    · cases h
    · rename_i hy; simp at h; subst h
      exact ⟨_, by simp [binOp, Op.shift, hy], .inl ⟨_, rfl, rfl⟩⟩
  case quo =>
    split at h
    · rename_i hy; obtain ⟨rfl, hy⟩ := hy; simp at h; subst h
      exact ⟨_, by simp [binOp, Op.intDiv, hy], .inl ⟨_, rfl, rfl⟩⟩
    · cases h
  case rem =>
    split at h
    · rename_i hy; obtain ⟨rfl, hy⟩ := hy; simp at h; subst h
      exact ⟨_, by simp [binOp, Op.intDiv, hy], .inl ⟨_, rfl, rfl⟩⟩
    · cases h
  case and | or | xor | andNot =>
    all_goals
      split at h
      · rename_i hk; subst hk; obtain rfl := Option.some.inj h
        exact ⟨_, by simp only [binOp, ne_eq, not_true_eq_false, if_false]; rfl, .inl ⟨_, rfl, rfl⟩⟩
      · cases h
  case add | sub | mul =>
    all_goals
      split at h
      · rename_i hk; subst hk; obtain rfl := Option.some.inj h
        exact ⟨_, by simp [binOp, Op.intArith], .inl ⟨_, rfl, rfl⟩⟩
      · cases h
  all_goals
    split at h
    · rename_i hk; subst hk; obtain rfl := Option.some.inj h
      exact ⟨_, by simp [binOp, Op.intCmp], .inr ⟨_, rfl, rfl⟩⟩
    · cases h

theorem run_eqGuard (f : BinOp) (t : TypeId) (x y : Operand) (k k' : IntKind) (n n' : Int) (w : World) : (eqGuard f t x y (.int k n) (.int k' n')).run P w = .ok () w := by
  unfold eqGuard
  cases f <;> simp
theorem run_eqGuardB (f : BinOp) (t : TypeId) (x y : Operand) (b b' : Bool) (w : World) : (eqGuard f t x y (.bool b) (.bool b')).run P w = .ok () w := by
  unfold eqGuard
  cases f <;> simp

theorem do_bin (hm : MemOK B S w0 m) (hs : Says B S m ρ a.eval) {f : BinOp} {x' y' : Opd} (h : okOp P num o.op (.bin f x' y') = true) {k k' : IntKind} {n n' : Int} {v : AV} (hx : ρ x' = .int k n) (hy : ρ y' = .int k' n') (hv : intBin f k n k' n' = some v) :
    Does B S w0 P o a m (.val v) := by
  obtain ⟨t, x, y, u, hop, h1, h2⟩ := inv_bin h
  have ex := cv_int (hx ▸ hs x x' h1)
  have ey := cv_int (hy ▸ hs y y' h2)
  obtain ⟨r, hr, hor⟩ := run_intBin (P := P) f t k k' n n' v hv m.w
  refine does_val hm (u := r) ?_ ?_
  · simp [execOp, hop, ex, ey, run_eqGuard, hr]
  · rcases hor with ⟨q, rfl, rfl⟩ | ⟨q, rfl, rfl⟩
    · exact mkInt _ _
    · exact mkBool _

theorem run_equal_bool (t : TypeId) (b b' : Bool) (hu : P.underlying t = some .bool) (w : World) : (Op.equal t (.bool b) (.bool b')).run P w = .ok (b == b') w := by
  have h : ∀ d : Nat, (Op.equalIn (d + 1) t (.bool b) (.bool b')).run P w = .ok (b == b') w := fun d => by
    unfold Op.equalIn
    rw [Sem.run_bind, run_underlying hu]
    rfl
  exact h 9999

theorem do_beq (hm : MemOK B S w0 m) (hs : Says B S m ρ a.eval) {ne : Bool} {x' y' : Opd} (h : okOp P num o.op (.beq ne x' y') = true) {b b' : Bool} (hx : ρ x' = .bool b) (hy : ρ y' = .bool b') :
    Does B S w0 P o a m (.val (.bool (if ne then !(b == b') else b == b'))) := by
  obtain ⟨t, x, y, u, hop, hu, h1, h2⟩ := inv_beq h
  have ex := cv_bool (hx ▸ hs x x' h1)
  have ey := cv_bool (hy ▸ hs y y' h2)
  refine does_val hm (u := .bool (if ne then !(b == b') else b == b')) ?_ (mkBool _)
  cases ne <;> simp [execOp, hop, ex, ey, run_eqGuardB, binOp, run_equal_bool t b b' hu]

theorem do_un (hm : MemOK B S w0 m) (hs : Says B S m ρ a.eval) {f : UnOp} {x' : Opd} (h : okOp P num o.op (.un f x') = true) {v : AV} (hv : unA f (ρ x') = some v) : Does B S w0 P o a m (.val v) := by
  obtain ⟨t, x, hop, h1⟩ := inv_un h
  have hx := hs x x' h1
  unfold unA at hv
  split at hv
  · rename_i k n hk
    have ex := cv_int (hk ▸ hx)
    split at hv
    · obtain rfl : _ = v := by simpa using hv
      exact does_val hm (by simp [execOp, hop, ex, Op.unary, Op.intArith]) (mkInt _ _)
    · obtain rfl : _ = v := by simpa using hv
      exact does_val hm (by simp only [execOp, hop, ex, Op.unary]; rfl) (mkInt _ _)
    · cases hv
  · rename_i b hk
    have ex := cv_bool (hk ▸ hx)
    split at hv
    · obtain rfl : _ = v := by simpa using hv
      exact does_val hm (by simp [execOp, hop, ex, Op.unary]) (mkBool _)
    · cases hv
  · cases hv

theorem do_conv (hm : MemOK B S w0 m) (hs : Says B S m ρ a.eval) {k : IntKind} {x' : Opd} (h : okOp P num o.op (.conv k x') = true) {k' : IntKind} {n : Int} (hx : ρ x' = .int k' n) : Does B S w0 P o a m (.val (.int k (k.wrap n))) := by
  obtain ⟨s, d, x, ds, hop, hds, hd, h1⟩ := inv_conv h
  have ex := cv_int (hx ▸ hs x x' h1)
  refine does_val hm (u := .int k (k.wrap n)) ?_ (mkInt _ _)
  simp [execOp, hop, ex, convert, run_underlying hds, run_underlying hd, Conv.intToInt]
end
end Go.Eng
