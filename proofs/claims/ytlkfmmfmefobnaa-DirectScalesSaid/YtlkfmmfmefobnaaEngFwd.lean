/-
  The rules of the abstract machine, each as one step forward: its premisses are found by unfolding, comparisons are split at once.
-/
import Derived.Test.YtlkfmmfmefobnaaEngSim
import Derived.IntWalk
set_option linter.unusedSimpArgs false
set_option linter.unusedVariables false
set_option linter.unnecessarySimpa false
namespace Go.Eng

section
variable {L : Lib} {k : List It} {tm : Tm} {own : Own} {st : St} {Q : St → Prop} {l : List AI} {ban : List Nat} {d : Nat} {dst : Option Nat}

theorem K_seq {a b : ACode} (h : AK L (.code a :: .code b :: k) st Q) : AK L (.code (.seq a b) :: k) st Q := AK_seq.2 h
theorem K_dr {c : ACode} {ts ss : List Nat} (h : AK L (.code c :: .drp ts ss :: k) st Q) : AK L (.code (.dr c ts ss) :: k) st Q := AK_dr.2 h
theorem K_ops {b : Bool} (h : AO L l k st Q) : AK L (.code (.ops l b) :: k) st Q := AK_ops.2 h
theorem K_scope {c : ACode} (h : AK L (.code c :: k) st Q) : AK L (.code (.scope c) :: k) st Q := AK_scope.2 h
theorem K_block {id : Nat} {c : ACode} (h : AK L (.code c :: .blk id :: k) st Q) : AK L (.code (.block id c) :: k) st Q := AK_block.2 h
theorem K_blk {id : Nat} (h : AK L k st Q) : AK L (.blk id :: k) st Q := AK_blk.2 h
theorem K_skip (h : AK L k st Q) : AK L (.code .skip :: k) st Q := AK_skip.2 h
theorem K_drp {ts : List Nat} (h : AK L k ⟨tdrop tm ts, own⟩ Q) : AK L (.drp ts [] :: k) ⟨tm, own⟩ Q := AK_drp'.2 h
theorem K_drps {ts ss : List Nat} (h : AK L k ⟨tdrop tm ts, own.drop ss⟩ Q) : AK L (.drp ts ss :: k) ⟨tm, own⟩ Q := AK_drp.2 h
theorem K_condT {x : Opd} {a b : ACode} (hx : St.ev ⟨tm, own⟩ x = .bool true) (h : AK L (.code a :: k) ⟨tm, own⟩ Q) : AK L (.code (.cond x a b) :: k) ⟨tm, own⟩ Q := by rw [AK_cond', hx]; simpa using h
theorem K_condF {x : Opd} {a b : ACode} (hx : St.ev ⟨tm, own⟩ x = .bool false) (h : AK L (.code b :: k) ⟨tm, own⟩ Q) : AK L (.code (.cond x a b) :: k) ⟨tm, own⟩ Q := by rw [AK_cond', hx]; simpa using h
theorem K_exit {id : Nat} {k' : List It} (hk : exitA id k = some k') (h : AK L k' st Q) : AK L (.code (.exit id) :: k) st Q := (AK_exit hk).2 h
theorem K_ret (h : Q st) : AK L (.code .ret :: k) st Q := AK_ret.2 h
theorem K_nil (h : Q st) : AK L [] st Q := AK_nil.2 h
theorem K_lp {c : ACode} (h : AK L (.code c :: .lp c :: k) st Q) : AK L (.lp c :: k) st Q := AK_lp.2 h
theorem K_loop {c : ACode} (h : AK L (.lp c :: k) st Q) : AK L (.code (.loop c) :: k) st Q := AK_loop.2 (AK_lp.1 h)

theorem O_nil (h : AK L k st Q) : AO L [] k st Q := AO_nil.2 h
/-- guards: wanted, not wanted, not even looked at -/
theorem O_gT {op : AOp} {g : Nat} {want : Bool} (hg : tget tm g = .bool want) (h : AO L (⟨dst, op, none, ban⟩ :: l) k ⟨tm, own⟩ Q) : AO L (⟨dst, op, some (g, want), ban⟩ :: l) k ⟨tm, own⟩ Q := by
  rw [AO_guard, hg]; simpa using h
theorem O_gF {op : AOp} {g : Nat} {want : Bool} (hg : tget tm g = .bool (!want)) (h : AO L l k (St.dst ⟨tm, own⟩ dst (.tup [])) Q) : AO L (⟨dst, op, some (g, want), ban⟩ :: l) k ⟨tm, own⟩ Q := by
  rw [AO_guard, hg]; cases want <;> simpa using h
theorem O_gU {op : AOp} {g : Nat} {want : Bool} (hg : tget tm g = .tup []) (h : AO L l k (St.dst ⟨tm, own⟩ dst (.tup [])) Q) : AO L (⟨dst, op, some (g, want), ban⟩ :: l) k ⟨tm, own⟩ Q := by
  rw [AO_guard, hg]; exact h

theorem O_gF1 {op : AOp} {g : Nat} {want : Bool} (hg : tget tm g = .bool (!want)) (h : AO L l k ⟨tput tm d (.tup []), own⟩ Q) : AO L (⟨some d, op, some (g, want), ban⟩ :: l) k ⟨tm, own⟩ Q := O_gF hg h
theorem O_gU1 {op : AOp} {g : Nat} {want : Bool} (hg : tget tm g = .tup []) (h : AO L l k ⟨tput tm d (.tup []), own⟩ Q) : AO L (⟨some d, op, some (g, want), ban⟩ :: l) k ⟨tm, own⟩ Q := O_gU hg h
/-- the table written anew -/
theorem N_O {tm' : Tm} (ht : tm = tm') (h : AO L l k ⟨tm', own⟩ Q) : AO L l k ⟨tm, own⟩ Q := by subst ht; exact h
theorem N_K {tm' : Tm} (ht : tm = tm') (h : AK L k ⟨tm', own⟩ Q) : AK L k ⟨tm, own⟩ Q := by subst ht; exact h

theorem O_mov {x : Opd} (v : AV) (hx : St.ev ⟨tm, own⟩ x = v) (h : AO L l k ⟨tput tm d v, own⟩ Q) : AO L (⟨some d, .mov x, none, ban⟩ :: l) k ⟨tm, own⟩ Q := by rw [AO_mov, hx]; exact h
theorem O_vrow {s z : Nat} (h : AO L l k ⟨tput tm d (.row s (own.cnt s) z 0 0), own.put s ((own s).new ⟨z, []⟩)⟩ Q) : AO L (⟨some d, .vrow s z, none, ban⟩ :: l) k ⟨tm, own⟩ Q := AO_vrow.2 h
theorem O_pickT {c a b : Opd} (v : AV) (hc : St.ev ⟨tm, own⟩ c = .bool true) (hx : St.ev ⟨tm, own⟩ a = v) (h : AO L l k ⟨tput tm d v, own⟩ Q) : AO L (⟨some d, .pick c a b, none, ban⟩ :: l) k ⟨tm, own⟩ Q := by rw [AO_pick, hc, hx]; simpa using h
theorem O_pickF {c a b : Opd} (v : AV) (hc : St.ev ⟨tm, own⟩ c = .bool false) (hx : St.ev ⟨tm, own⟩ b = v) (h : AO L l k ⟨tput tm d v, own⟩ Q) : AO L (⟨some d, .pick c a b, none, ban⟩ :: l) k ⟨tm, own⟩ Q := by rw [AO_pick, hc, hx]; simpa using h

section
variable {x y : Opd} {kd : IntKind} {a b : Int}
theorem O_bin {f : BinOp} {k1 k2 : IntKind} (v : AV) (hx : St.ev ⟨tm, own⟩ x = .int k1 a) (hy : St.ev ⟨tm, own⟩ y = .int k2 b) (hv : intBin f k1 a k2 b = some v) (h : AO L l k ⟨tput tm d v, own⟩ Q) : AO L (⟨some d, .bin f x y, none, ban⟩ :: l) k ⟨tm, own⟩ Q := by
  rw [AO_bin, hx, hy]; simp only [hv]; exact h
theorem O_add (hx : St.ev ⟨tm, own⟩ x = .int .i64 a) (hy : St.ev ⟨tm, own⟩ y = .int .i64 b) (hr : -9223372036854775808 ≤ a + b ∧ a + b ≤ 9223372036854775807) (h : AO L l k ⟨tput tm d (.int .i64 (a + b)), own⟩ Q) : AO L (⟨some d, .bin .add x y, none, ban⟩ :: l) k ⟨tm, own⟩ Q :=
  O_bin _ hx hy (by simp only [intBin, if_true]; rw [IntWalk.i64_in _ hr]) h
theorem O_sub (hx : St.ev ⟨tm, own⟩ x = .int .i64 a) (hy : St.ev ⟨tm, own⟩ y = .int .i64 b) (hr : -9223372036854775808 ≤ a - b ∧ a - b ≤ 9223372036854775807) (h : AO L l k ⟨tput tm d (.int .i64 (a - b)), own⟩ Q) : AO L (⟨some d, .bin .sub x y, none, ban⟩ :: l) k ⟨tm, own⟩ Q :=
  O_bin _ hx hy (by simp only [intBin, if_true]; rw [IntWalk.i64_in _ hr]) h
theorem O_lss (hx : St.ev ⟨tm, own⟩ x = .int kd a) (hy : St.ev ⟨tm, own⟩ y = .int kd b) (h1 : a < b → AO L l k ⟨tput tm d (.bool true), own⟩ Q) (h2 : b ≤ a → AO L l k ⟨tput tm d (.bool false), own⟩ Q) : AO L (⟨some d, .bin .lss x y, none, ban⟩ :: l) k ⟨tm, own⟩ Q := by
  rw [AO_bin, hx, hy]; simp only [intBin, if_true]
  by_cases e : a < b
  · simpa [e] using h1 e
  · simpa [e] using h2 (by omega)
theorem O_leq (hx : St.ev ⟨tm, own⟩ x = .int kd a) (hy : St.ev ⟨tm, own⟩ y = .int kd b) (h1 : a ≤ b → AO L l k ⟨tput tm d (.bool true), own⟩ Q) (h2 : b < a → AO L l k ⟨tput tm d (.bool false), own⟩ Q) : AO L (⟨some d, .bin .leq x y, none, ban⟩ :: l) k ⟨tm, own⟩ Q := by
  rw [AO_bin, hx, hy]; simp only [intBin, if_true]
  by_cases e : a ≤ b
  · simpa [e] using h1 e
  · simpa [e] using h2 (by omega)
theorem O_gtr (hx : St.ev ⟨tm, own⟩ x = .int kd a) (hy : St.ev ⟨tm, own⟩ y = .int kd b) (h1 : b < a → AO L l k ⟨tput tm d (.bool true), own⟩ Q) (h2 : a ≤ b → AO L l k ⟨tput tm d (.bool false), own⟩ Q) : AO L (⟨some d, .bin .gtr x y, none, ban⟩ :: l) k ⟨tm, own⟩ Q := by
  rw [AO_bin, hx, hy]; simp only [intBin, if_true]
  by_cases e : a > b
  · simpa [e] using h1 e
  · simpa [e] using h2 (by omega)
theorem O_geq (hx : St.ev ⟨tm, own⟩ x = .int kd a) (hy : St.ev ⟨tm, own⟩ y = .int kd b) (h1 : b ≤ a → AO L l k ⟨tput tm d (.bool true), own⟩ Q) (h2 : a < b → AO L l k ⟨tput tm d (.bool false), own⟩ Q) : AO L (⟨some d, .bin .geq x y, none, ban⟩ :: l) k ⟨tm, own⟩ Q := by
  rw [AO_bin, hx, hy]; simp only [intBin, if_true]
  by_cases e : a ≥ b
  · simpa [e] using h1 e
  · simpa [e] using h2 (by omega)
theorem O_eql (hx : St.ev ⟨tm, own⟩ x = .int kd a) (hy : St.ev ⟨tm, own⟩ y = .int kd b) (h1 : a = b → AO L l k ⟨tput tm d (.bool true), own⟩ Q) (h2 : a ≠ b → AO L l k ⟨tput tm d (.bool false), own⟩ Q) : AO L (⟨some d, .bin .eql x y, none, ban⟩ :: l) k ⟨tm, own⟩ Q := by
  rw [AO_bin, hx, hy]; simp only [intBin, if_true]
  by_cases e : a = b
  · have : (a == b) = true := by simpa using e
    rw [this]; exact h1 e
  · have : (a == b) = false := by simpa using e
    rw [this]; exact h2 e
theorem O_neq (hx : St.ev ⟨tm, own⟩ x = .int kd a) (hy : St.ev ⟨tm, own⟩ y = .int kd b) (h1 : a ≠ b → AO L l k ⟨tput tm d (.bool true), own⟩ Q) (h2 : a = b → AO L l k ⟨tput tm d (.bool false), own⟩ Q) : AO L (⟨some d, .bin .neq x y, none, ban⟩ :: l) k ⟨tm, own⟩ Q := by
  rw [AO_bin, hx, hy]; simp only [intBin, if_true]
  by_cases e : a = b
  · have : (a != b) = false := by simpa using e
    rw [this]; exact h2 e
  · have : (a != b) = true := by simpa using e
    rw [this]; exact h1 e
end
theorem O_beq {ne : Bool} {x y : Opd} {a b : Bool} (v : Bool) (hx : St.ev ⟨tm, own⟩ x = .bool a) (hy : St.ev ⟨tm, own⟩ y = .bool b) (hv : (if ne then !(a == b) else a == b) = v) (h : AO L l k ⟨tput tm d (.bool v), own⟩ Q) : AO L (⟨some d, .beq ne x y, none, ban⟩ :: l) k ⟨tm, own⟩ Q := by
  rw [AO_beq, hx, hy]; simp only [hv]; exact h
theorem O_un {f : UnOp} {x : Opd} (v : AV) (hv : unA f (St.ev ⟨tm, own⟩ x) = some v) (h : AO L l k ⟨tput tm d v, own⟩ Q) : AO L (⟨some d, .un f x, none, ban⟩ :: l) k ⟨tm, own⟩ Q := by rw [AO_un, hv]; exact h
theorem O_conv {kd k1 : IntKind} {x : Opd} {n : Int} (hx : St.ev ⟨tm, own⟩ x = .int k1 n) (h : AO L l k ⟨tput tm d (.int kd (kd.wrap n)), own⟩ Q) : AO L (⟨some d, .conv kd x, none, ban⟩ :: l) k ⟨tm, own⟩ Q := by rw [AO_conv, hx]; exact h
theorem O_box {s : Nat} {x : Opd} (v : AV) {cs : List AV} (hx : St.ev ⟨tm, own⟩ x = v) (hc : cellsOf v = some cs) (h : AO L l k ⟨tput tm d (.ptr s (own.cnt s) 0 0), own.put s ((own s).new ⟨cs.length, [cs]⟩)⟩ Q) : AO L (⟨some d, .box s x, none, ban⟩ :: l) k ⟨tm, own⟩ Q := by rw [AO_box, hx, hc]; exact h
theorem O_alloc {s : Nat} {z : List AV} (h : AO L l k ⟨tput tm d (.ptr s (own.cnt s) 0 0), own.put s ((own s).new ⟨z.length, [z]⟩)⟩ Q) : AO L (⟨some d, .alloc s z, none, ban⟩ :: l) k ⟨tm, own⟩ Q := AO_alloc.2 h
theorem O_build {z : List AV} {ps : List (Nat × Nat × Opd)} (cs : List AV) (hf : fill z (ps.map fun p => (p.1, p.2.1, St.ev ⟨tm, own⟩ p.2.2)) = some cs) (h : AO L l k ⟨tput tm d (.agg cs), own⟩ Q) : AO L (⟨some d, .build z ps, none, ban⟩ :: l) k ⟨tm, own⟩ Q := by rw [AO_build, hf]; exact h
theorem O_bslice {s z : Nat} {ps : List Opd} (es : List (List AV)) (hf : cellsL z (ps.map (St.ev ⟨tm, own⟩)) = some es) (h : AO L l k ⟨tput tm d (.row s (own.cnt s) z 0 es.length), own.put s ((own s).new ⟨z, es⟩)⟩ Q) : AO L (⟨some d, .bslice s z ps, none, ban⟩ :: l) k ⟨tm, own⟩ Q := by rw [AO_bslice, hf]; exact h
theorem O_fadr {x : Opd} {off s t i j : Nat} (hx : St.ev ⟨tm, own⟩ x = .ptr s t i j) (h : AO L l k ⟨tput tm d (.ptr s t i (j + off)), own⟩ Q) : AO L (⟨some d, .fadr x off, none, ban⟩ :: l) k ⟨tm, own⟩ Q := by rw [AO_fadr, hx]; exact h
theorem O_fadrd {x : Opd} {off : Nat} {cs : List AV} (hx : St.ev ⟨tm, own⟩ x = .dptr cs) (h : AO L l k ⟨tput tm d (.dptr (cs.drop off)), own⟩ Q) : AO L (⟨some d, .fadr x off, none, ban⟩ :: l) k ⟨tm, own⟩ Q := by rw [AO_fadr, hx]; exact h
theorem O_fld {x : Opd} {off n : Nat} {agg : Bool} {cs : List AV} (v : AV) (hx : St.ev ⟨tm, own⟩ x = .agg cs) (hv : ldv agg (part cs off n) = some v) (h : AO L l k ⟨tput tm d v, own⟩ Q) : AO L (⟨some d, .fld x off n agg, none, ban⟩ :: l) k ⟨tm, own⟩ Q := by rw [AO_fld, hx]; simp only [hv]; exact h
theorem O_iadra {n z : Nat} {x i : Opd} {kd : IntKind} {a : Int} {s t i' j : Nat} (hi : St.ev ⟨tm, own⟩ i = .int kd a) (hx : St.ev ⟨tm, own⟩ x = .ptr s t i' j) (h0 : 0 ≤ a ∧ a < n) (h : AO L l k ⟨tput tm d (.ptr s t i' (j + a.toNat * z)), own⟩ Q) : AO L (⟨some d, .iadr (some n) z x i, none, ban⟩ :: l) k ⟨tm, own⟩ Q := by rw [AO_iadr_arr, hi, hx]; exact ⟨h0.1, h0.2, h⟩
theorem O_iadrr {z : Nat} {x i : Opd} {kd : IntKind} {a : Int} {s t off len : Nat} (hi : St.ev ⟨tm, own⟩ i = .int kd a) (hx : St.ev ⟨tm, own⟩ x = .row s t z off len) (h0 : 0 ≤ a ∧ a < len) (h : AO L l k ⟨tput tm d (.ptr s t (off + a.toNat) 0), own⟩ Q) : AO L (⟨some d, .iadr none z x i, none, ban⟩ :: l) k ⟨tm, own⟩ Q := by rw [AO_iadr, hi, hx]; exact ⟨h0.1, h0.2, rfl, h⟩
theorem O_iadrs {z : Nat} {x i : Opd} {kd : IntKind} {a : Int} {q : Bool} {es : List (List AV)} (cs : List AV) (hi : St.ev ⟨tm, own⟩ i = .int kd a) (hx : St.ev ⟨tm, own⟩ x = .sl q es) (h0 : 0 ≤ a) (he : es[a.toNat]? = some cs) (hz : cs.length = z) (h : AO L l k ⟨tput tm d (.dptr cs), own⟩ Q) : AO L (⟨some d, .iadr none z x i, none, ban⟩ :: l) k ⟨tm, own⟩ Q := by rw [AO_iadr, hi, hx]; simp only [he]; exact ⟨h0, hz, h⟩
theorem O_ld {agg : Bool} {n : Nat} {x : Opd} {s t i j : Nat} (v : AV) (hx : St.ev ⟨tm, own⟩ x = .ptr s t i j) (hv : ldv agg ((own.hide ban).ldp s t i j n) = some v) (h : AO L l k ⟨tput tm d v, own⟩ Q) : AO L (⟨some d, .ld agg n x, none, ban⟩ :: l) k ⟨tm, own⟩ Q := by rw [AO_ld, hx]; simp only [hv]; exact h
theorem O_ldd {agg : Bool} {n : Nat} {x : Opd} {cs : List AV} (v : AV) (hx : St.ev ⟨tm, own⟩ x = .dptr cs) (hv : ldv agg (part cs 0 n) = some v) (h : AO L l k ⟨tput tm d v, own⟩ Q) : AO L (⟨some d, .ld agg n x, none, ban⟩ :: l) k ⟨tm, own⟩ Q := by rw [AO_ld, hx]; simp only [hv]; exact h
theorem O_st {n : Nat} {x y : Opd} {s t i j : Nat} {vs : List AV} {o : Own} (hx : St.ev ⟨tm, own⟩ x = .ptr s t i j) (hy : cellsOf (St.ev ⟨tm, own⟩ y) = some vs) (hn : vs.length = n) (ho : own.stp s t i j vs = some o) (h : AO L l k ⟨tm, o⟩ Q) : AO L (⟨none, .st n x y, none, ban⟩ :: l) k ⟨tm, own⟩ Q := by rw [AO_st, hx, hy]; simp only [ho]; exact ⟨hn, h⟩
theorem O_mk {s z bytes : Nat} {zero : List AV} {x y : Opd} {k1 k2 : IntKind} {p q : Int} (hx : St.ev ⟨tm, own⟩ x = .int k1 p) (hy : St.ev ⟨tm, own⟩ y = .int k2 q) (hr : 0 ≤ p ∧ p ≤ q ∧ q * bytes ≤ roomMax ∧ q ≤ 9223372036854775807 ∧ zero.length = z) (h : AO L l k ⟨tput tm d (.row s (own.cnt s) z 0 p.toNat), own.put s ((own s).new ⟨z, List.replicate p.toNat zero⟩)⟩ Q) : AO L (⟨some d, .mk s z bytes zero x y, none, ban⟩ :: l) k ⟨tm, own⟩ Q := by rw [AO_mk, hx, hy]; exact ⟨hr, h⟩
theorem O_ext {x : Opd} {i : Nat} {vs : List AV} (v : AV) (hx : St.ev ⟨tm, own⟩ x = .tup vs) (hv : vs[i]? = some v) (h : AO L l k ⟨tput tm d v, own⟩ Q) : AO L (⟨some d, .ext x i, none, ban⟩ :: l) k ⟨tm, own⟩ Q := by rw [AO_ext, hx]; simp only [hv]; exact h
theorem O_len {x : Opd} {n : Nat} (hx : lenOf (St.ev ⟨tm, own⟩ x) = some n) (h : AO L l k ⟨tput tm d (.int .i64 (n : Int)), own⟩ Q) : AO L (⟨some d, .len x, none, ban⟩ :: l) k ⟨tm, own⟩ Q := by rw [AO_len, hx]; exact h
theorem O_mm {mx : Bool} {x : Opd} {xs : List Opd} (v : AV) (hv : mmL mx (St.ev ⟨tm, own⟩ x) (xs.map (St.ev ⟨tm, own⟩)) = some v) (h : AO L l k ⟨tput tm d v, own⟩ Q) : AO L (⟨some d, .mm mx (x :: xs), none, ban⟩ :: l) k ⟨tm, own⟩ Q := by rw [AO_mm, hv]; exact h
theorem O_call {f : Nat} {xs : List Opd} {vs : List AV} {r : AV} (hr : Ev L f vs r) (hv : (xs.map (St.ev ⟨tm, own⟩)).mapM (snapA (own.hide ban) true) = some vs) (h : AO L l k (St.dst ⟨tm, own⟩ dst r) Q) : AO L (⟨dst, .call f xs, none, ban⟩ :: l) k ⟨tm, own⟩ Q := (AO_call' hv hr).2 h
theorem O_callb {f : Nat} {xs : List Opd} {vs : List AV} {p : Prop} [Decidable p] (hr : Ev L f vs (.bool (decide p))) (hv : (xs.map (St.ev ⟨tm, own⟩)).mapM (snapA (own.hide ban) true) = some vs) (h1 : p → AO L l k (St.dst ⟨tm, own⟩ dst (.bool true)) Q) (h2 : ¬ p → AO L l k (St.dst ⟨tm, own⟩ dst (.bool false)) Q) : AO L (⟨dst, .call f xs, none, ban⟩ :: l) k ⟨tm, own⟩ Q := by
  rw [AO_call' hv hr]
  by_cases e : p
  · simpa [e] using h1 e
  · simpa [e] using h2 e
theorem O_call1 {f : Nat} {xs : List Opd} {vs : List AV} {r : AV} (hr : Ev L f vs r) (hv : (xs.map (St.ev ⟨tm, own⟩)).mapM (snapA (own.hide ban) true) = some vs) (h : AO L l k ⟨tput tm d r, own⟩ Q) : AO L (⟨some d, .call f xs, none, ban⟩ :: l) k ⟨tm, own⟩ Q := O_call hr hv h
theorem O_callb1 {f : Nat} {xs : List Opd} {vs : List AV} {p : Prop} [Decidable p] (hr : Ev L f vs (.bool (decide p))) (hv : (xs.map (St.ev ⟨tm, own⟩)).mapM (snapA (own.hide ban) true) = some vs) (h1 : p → AO L l k ⟨tput tm d (.bool true), own⟩ Q) (h2 : ¬ p → AO L l k ⟨tput tm d (.bool false), own⟩ Q) : AO L (⟨some d, .call f xs, none, ban⟩ :: l) k ⟨tm, own⟩ Q := O_callb hr hv h1 h2
theorem O_calli {f : Nat} {xs : List Opd} {r : AV} {o' : Own} (hr : EvI L f (xs.map (St.ev ⟨tm, own⟩)) own r o') (h : AO L l k { (St.dst ⟨tm, own⟩ dst r) with own := o' } Q) : AO L (⟨dst, .calli f xs, none, ban⟩ :: l) k ⟨tm, own⟩ Q := (AO_calli' hr).2 h

/-- what a body must come to -/
def Res (fn : AFn) (r : AV) (st : St) : Prop := ((fn.res.mapM (resOf st)).map resVal).bind (snapR st.own false) = some r ∧ Clean r
theorem Ev.fwd {f : Nat} {fn : AFn} {vs : List AV} {r : AV} (hL : L f = some fn) (hp : vs.length = fn.pars) (h : AK L [.code fn.body] ⟨initTm 0 vs, Own.emp⟩ (Res fn r)) : Ev L f vs r := Ev.intro hL hp h
theorem Res.bool {fn : AFn} {st : St} (x : Bool) {r : AV} (h : ((fn.res.mapM (resOf st)).map resVal).bind (snapR st.own false) = some (.bool x)) (e : .bool x = r) : Res fn r st := by
  subst e; exact ⟨h, by simp [Clean]⟩
theorem Res.int {fn : AFn} {st : St} (kd : IntKind) (x : Int) {r : AV} (h : ((fn.res.mapM (resOf st)).map resVal).bind (snapR st.own false) = some (.int kd x)) (e : .int kd x = r) : Res fn r st := by
  subst e; exact ⟨h, by simp [Clean]⟩
theorem eT {p : Prop} [Decidable p] (h : p) : AV.bool true = AV.bool (decide p) := by simp [h]
theorem eF {p : Prop} [Decidable p] (h : ¬ p) : AV.bool false = AV.bool (decide p) := by simp [h]
theorem eI {kd : IntKind} {a b : Int} (h : a = b) : AV.int kd a = AV.int kd b := by rw [h]
end
attribute [irreducible] Res
end Go.Eng
