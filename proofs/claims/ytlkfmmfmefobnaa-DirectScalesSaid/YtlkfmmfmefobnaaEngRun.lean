/-
  Code, functions, programs: the abstract machine's runs are the model's.
-/
import Derived.Test.YtlkfmmfmefobnaaEngDraw3
set_option linter.unusedSimpArgs false
set_option linter.unusedVariables false
set_option linter.unnecessarySimpa false
namespace Go.Eng
open Go.RowKit

section
variable {B : Nat} {S : Nat → Prop} {w0 : World} {m0 : M} {N : Nat}
variable {P : Program} {num : Nat → Nat} {C : Cl}

theorem tget_drop (m : Tm) (l : List Nat) (j : Nat) : tget (tdrop m l) j = tget m j ∨ tget (tdrop m l) j = .any := by
  induction m with
  | nil => exact .inl rfl
  | cons x r ih =>
    obtain ⟨i, v⟩ := x
    simp only [tdrop]
    split
    · by_cases h : j = i
      · subst h
        rename_i hc
        right
        clear ih
        induction r with
        | nil => rfl
        | cons y q ih =>
          obtain ⟨k, u⟩ := y
          simp only [tdrop]
          split
          · exact ih
          · rename_i hk
            have : ¬ j = k := fun e => by subst e; exact hk hc
            simp only [tget, if_neg this]
            exact ih
      · rcases ih with h1 | h1
        · left; simp only [tget, if_neg h]; exact h1
        · right; exact h1
    · by_cases h : j = i
      · left; simp [tget, h]
      · simp only [tget, if_neg h]
        exact ih

/-- the abstract machine's list of things to do, and the model's -/
inductive Todo (P : Program) (num : Nat → Nat) (N : Nat) : List It → List Item → Prop
  | nil : Todo P num N [] []
  | code {c : Code} {a : ACode} {k : List It} {t : List Item} (h : okCode P num N c a = true) (hk : Todo P num N k t) : Todo P num N (.code a :: k) (.code c :: t)
  | drop {ts ss : List Nat} {k : List It} {t : List Item} (hk : Todo P num N k t) : Todo P num N (.drp ts ss :: k) t
  | blk {id : Nat} {k : List It} {t : List Item} (hk : Todo P num N k t) : Todo P num N (.blk id :: k) (.inBlock id :: t)
  | lp {c : Code} {a : ACode} {k : List It} {t : List Item} (h : okCode P num N c a = true) (hk : Todo P num N k t) : Todo P num N (.lp a :: k) (.inLoop c :: t)
  | scope {c : Code} {k : List It} {t : List Item} (hk : Todo P num N k t) : Todo P num N k (.inScope c :: t)

theorem step_inScope {b : Frame} {a : Act} {k : List Item} {cs : List Frame} {w : World} {c : Code} : step P (lone (b.at a (.inScope c :: k)) cs w) = .next (lone (b.at a k) cs w) :=
  step_lone_go (by simp [stepG, stepG.exec, Frame.at])
theorem step_scope {b : Frame} {a : Act} {k : List Item} {cs : List Frame} {w : World} {c : Code} : step P (lone (b.at a (.code (.scope c) :: k)) cs w) = .next (lone (b.at a (.code c :: .inScope c :: k)) cs w) :=
  step_lone_go (by simp [stepG, stepG.exec, Frame.at])

theorem exit_todo {id : Nat} : ∀ {k : List It} {t : List Item}, Todo P num N k t → ∀ {k' : List It}, exitA id k = some k' → ∃ t', exitTo id t = some t' ∧ Todo P num N k' t'
  | _, _, .nil, k', h => by simp [exitA] at h
  | _, _, .code h0 hk, k', h => by
    simp only [exitA] at h
    obtain ⟨t', h1, h2⟩ := exit_todo hk h
    exact ⟨t', by simpa [exitTo] using h1, h2⟩
  | _, _, .drop hk, k', h => by
    simp only [exitA] at h
    exact exit_todo hk h
  | _, _, .blk (id := id') hk, k', h => by
    simp only [exitA] at h
    split at h
    · rename_i he
      subst he
      simp only [Option.some.injEq] at h
      subst h
      exact ⟨_, by simp [exitTo], hk⟩
    · rename_i he
      obtain ⟨t', h1, h2⟩ := exit_todo hk h
      exact ⟨t', by simpa [exitTo, he] using h1, h2⟩
  | _, _, .lp h0 hk, k', h => by
    simp only [exitA] at h
    obtain ⟨t', h1, h2⟩ := exit_todo hk h
    exact ⟨t', by simpa [exitTo] using h1, h2⟩
  | _, _, .scope hk, k', h => by
    obtain ⟨t', h1, h2⟩ := exit_todo hk h
    exact ⟨t', by simpa [exitTo] using h1, h2⟩

/-- what a run comes to: the frame returns, the state is as the abstract machine has it -/
def Comes' (B : Nat) (S : Nat → Prop) (w0 : World) (m0 : M) (N : Nat) (P : Program) (b : Frame) (cs : List Frame) (mach : Machine) (st' : St) : Prop :=
  ∃ a' m' todo', Steps P mach (lone { b.at a' todo' with mode := .returning } cs m'.w) ∧ m'.own = st'.own ∧ FrOK B S w0 m0 N (tget st'.tm) m' a'

theorem run_sound (hC : CallsOK P num C) (b : Frame) (cs : List Frame) : ∀ (n : Nat) (k : List It) (st st' : St), run C n k st = some st' → ∀ (t : List Item), Todo P num N k t → ∀ (m : M) (a : Act), m.own = st.own → FrOK B S w0 m0 N (tget st.tm) m a →
    Comes' B S w0 m0 N P b cs (lone (b.at a t) cs m.w) st' := by
  intro n
  induction n with
  | zero => intro k st st' h; simp [run] at h
  | succ n ih =>
    intro k st st' h t ht
    have fin : ∀ (t : List Item), Todo P num N [] t → ∀ (m : M) (a : Act), m.own = st.own → FrOK B S w0 m0 N (tget st.tm) m a → st = st' → Comes' B S w0 m0 N P b cs (lone (b.at a t) cs m.w) st' := by
      intro t ht
      generalize hk : ([] : List It) = kk at ht
      induction ht with
      | nil =>
        intro m a hown hf he
        subst he
        exact ⟨a, m, [], .one step_end, hown, hf⟩
      | scope hk' ih2 =>
        intro m a hown hf he
        obtain ⟨a', m', todo', h1, h2⟩ := ih2 hk m a hown hf he
        exact ⟨a', m', todo', .head step_inScope h1, h2⟩
      | code => cases hk
      | drop => cases hk
      | blk => cases hk
      | lp => cases hk
    cases k with
    | nil =>
      intro m a hown hf
      simp only [run, Option.some.injEq] at h
      exact fin t ht m a hown hf h
    | cons it k =>
      generalize hkk : it :: k = kk at ht
      induction ht with
      | nil => cases hkk
      | scope hk' ih2 =>
        intro m a hown hf
        obtain ⟨a', m', todo', h1, h2⟩ := ih2 hkk m a hown hf
        exact ⟨a', m', todo', .head step_inScope h1, h2⟩
      | @blk id k2 t2 hk' ih2 =>
        intro m a hown hf
        obtain ⟨rfl, rfl⟩ : it = .blk id ∧ k = k2 := by simpa using hkk
        simp only [run] at h
        obtain ⟨a', m', todo', h1, h2⟩ := ih k st st' h t2 hk' m a hown hf
        exact ⟨a', m', todo', .head step_inBlock h1, h2⟩
      | @lp c ac k2 t2 hok hk' ih2 =>
        intro m a hown hf
        obtain ⟨rfl, rfl⟩ : it = .lp ac ∧ k = k2 := by simpa using hkk
        simp only [run] at h
        obtain ⟨a', m', todo', h1, h2⟩ := ih _ st st' h (.code c :: .inLoop c :: t2) (.code hok (.lp hok hk')) m a hown hf
        exact ⟨a', m', todo', .head step_inLoop h1, h2⟩
      | @drop ts ss k2 t2 hk' ih2 =>
        intro m a hown hf
        obtain ⟨rfl, rfl⟩ : it = .drp ts ss ∧ k = k2 := by simpa using hkk
        simp only [run] at h
        obtain ⟨hm', he⟩ := drop_ok hf.mem ss
        have hf' : FrOK B S w0 m0 N (tget (tdrop st.tm ts)) ⟨m.ν, m.own.drop ss, m.w⟩ a := ⟨hm', hf.ext.trans he, fun i => by
          rcases tget_drop st.tm ts i with h1 | h1
          · rw [h1]; exact he.cv (hf.tm i)
          · rw [h1]; exact .any _, hf.size, hf.defers⟩
        obtain ⟨a', m', todo', h1, h2, h3⟩ := ih k ⟨tdrop st.tm ts, st.own.drop ss⟩ st' h t2 hk' ⟨m.ν, m.own.drop ss, m.w⟩ a (by simp [hown]) hf'
        exact ⟨a', m', todo', h1, h2, h3⟩
      | @code c ac k2 t2 hok hk' ih2 =>
        obtain ⟨rfl, rfl⟩ : it = .code ac ∧ k = k2 := by simpa using hkk
        clear ih2 hkk
        intro m a hown hf
        cases ac with
        | dr ac ts ss =>
          simp only [okCode] at hok
          simp only [run] at h
          exact ih _ st st' h _ (.code hok (.drop hk')) m a hown hf
        | skip =>
          simp only [run] at h
          cases c with
          | skip =>
            obtain ⟨a', m', todo', h1, h2⟩ := ih _ st st' h _ hk' m a hown hf
            exact ⟨a', m', todo', .head step_skip h1, h2⟩
          | label =>
            obtain ⟨a', m', todo', h1, h2⟩ := ih _ st st' h _ hk' m a hown hf
            exact ⟨a', m', todo', .head step_label h1, h2⟩
          | _ => simp [okCode] at hok
        | scope ac =>
          simp only [run] at h
          cases c with
          | scope c =>
            simp only [okCode] at hok
            obtain ⟨a', m', todo', h1, h2⟩ := ih _ st st' h _ (.code hok (.scope (c := c) hk')) m a hown hf
            exact ⟨a', m', todo', .head step_scope h1, h2⟩
          | _ => simp [okCode] at hok
        | seq a1 a2 =>
          simp only [run] at h
          cases c with
          | seq c1 c2 =>
            simp only [okCode, Bool.and_eq_true] at hok
            obtain ⟨a', m', todo', h1, h2⟩ := ih _ st st' h _ (.code hok.1 (.code hok.2 hk')) m a hown hf
            exact ⟨a', m', todo', .head step_seq h1, h2⟩
          | _ => simp [okCode] at hok
        | cond x a1 a2 =>
          simp only [run] at h
          cases c with
          | cond xc c1 c2 =>
            simp only [okCode, Bool.and_eq_true] at hok
            have hcv : CV B S m (st.ev x) (a.eval xc) := by rw [ev_eq]; exact hf.says xc x hok.1.1
            split at h
            · rename_i hx
              rw [hx] at hcv
              obtain ⟨a', m', todo', h1, h2⟩ := ih _ st st' h _ (.code hok.1.2 hk') m a hown hf
              exact ⟨a', m', todo', .head (step_cond (cv_bool hcv)) h1, h2⟩
            · rename_i hx
              rw [hx] at hcv
              obtain ⟨a', m', todo', h1, h2⟩ := ih _ st st' h _ (.code hok.2 hk') m a hown hf
              exact ⟨a', m', todo', .head (step_cond (cv_bool hcv)) h1, h2⟩
            · cases h
          | _ => simp [okCode] at hok
        | block id ac =>
          simp only [run] at h
          cases c with
          | block id' c =>
            simp only [okCode, Bool.and_eq_true, beq_iff_eq] at hok
            obtain ⟨rfl, hok⟩ := hok
            obtain ⟨a', m', todo', h1, h2⟩ := ih _ st st' h _ (.code hok (.blk hk')) m a hown hf
            exact ⟨a', m', todo', .head step_block h1, h2⟩
          | _ => simp [okCode] at hok
        | loop ac =>
          simp only [run] at h
          cases c with
          | loop c =>
            simp only [okCode] at hok
            obtain ⟨a', m', todo', h1, h2⟩ := ih _ st st' h _ (.code hok (.lp hok hk')) m a hown hf
            exact ⟨a', m', todo', .head step_loop h1, h2⟩
          | _ => simp [okCode] at hok
        | exit id =>
          simp only [run] at h
          cases c with
          | exit id' =>
            simp only [okCode, beq_iff_eq] at hok
            subst hok
            split at h
            · rename_i k' hk2
              obtain ⟨t', e1, e2⟩ := exit_todo hk' hk2
              obtain ⟨a', m', todo', h1, h2⟩ := ih _ st st' h _ e2 m a hown hf
              exact ⟨a', m', todo', .head (step_exit e1) h1, h2⟩
            · cases h
          | _ => simp [okCode] at hok
        | ret =>
          simp only [run, Option.some.injEq] at h
          subst h
          cases c with
          | ret => exact ⟨a, m, .code .ret :: t2, .one step_ret, hown, hf⟩
          | _ => simp [okCode] at hok
        | ops l draw =>
          simp only [run] at h
          split at h
          · rename_i st1 hst1
            cases c with
            | region id ops draw' =>
              simp only [okCode, Bool.and_eq_true, beq_iff_eq] at hok
              obtain ⟨⟨rfl, hokl⟩, hdr⟩ := hok
              have hwp : (Code.region id ops draw').wp P (fun e a' w' => e = .normal ∧ ∃ m', m'.w = w' ∧ m'.own = st1.own ∧ FrOK B S w0 m0 N (tget st1.tm) m' a') a m.w := by
                cases draw' with
                | true => exact wp_draw hC hokl (by simpa using hdr) hst1 hown hf fun m' a' h1 h2 => ⟨rfl, m', rfl, h1, h2⟩
                | false =>
                  refine wp_region ?_
                  rw [List.range_eq_range']
                  exact wp_text hC hokl ops.size 0 st st1 m a (by omega) (by simpa using hst1) hown hf fun m' a' h1 h2 => ⟨rfl, m', rfl, h1, h2⟩
              obtain ⟨e, a1, w1, ⟨rfl, m1, rfl, hown1, hf1⟩, harr⟩ := hwp b t2 cs
              obtain ⟨a', m', todo', h1, h2, h3⟩ := ih _ st1 st' h _ hk' m1 a1 hown1 hf1
              exact ⟨a', m', todo', Steps.trans harr h1, h2, h3⟩
            | _ => simp [okCode] at hok
          · cases h
end
end Go.Eng
