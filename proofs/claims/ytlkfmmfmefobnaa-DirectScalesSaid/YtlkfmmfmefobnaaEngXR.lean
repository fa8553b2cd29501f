/-
  The pauses of the walk, and how each goes on.
-/
import Derived.Test.YtlkfmmfmefobnaaEngXC
set_option linter.unusedSimpArgs false
set_option linter.unusedVariables false
set_option linter.unnecessarySimpa false
namespace Go.Eng
section
variable {α : Type} {enc : α → List AV} {l : List α} {L : Lib}
theorem CmpP.go {p q A B : Prop} (h1 : p → A) (h2 : q → B) : CmpP p q A B := ⟨h1, h2⟩
theorem CmpP.lft {p q A B : Prop} (hq : ¬ q) (h1 : p → A) : CmpP p q A B := ⟨h1, fun h => absurd h hq⟩
theorem CmpP.rgt {p q A B : Prop} (hp : ¬ p) (h2 : q → B) : CmpP p q A B := ⟨fun h => absurd h hp, h2⟩
theorem Req.go {p A : Prop} (h1 : p) (h2 : A) : Req p A := ⟨h1, h2⟩
/-! arithmetic -/
section
variable {K : AV → Prop} {a b : Int} {k k' : IntKind} {op : BinOp}
theorem OpP.go {v : AV} (h : intBin op k a k' b = some v) (hk : K v) : OpP op k a k' b K := ⟨v, h, hk⟩
theorem OpP.add (hr : -9223372036854775808 ≤ a + b ∧ a + b ≤ 9223372036854775807) (hk : K (.int .i64 (a + b))) : OpP .add .i64 a .i64 b K := ⟨_, by simp only [intBin, if_true]; rw [IntWalk.i64_in _ hr], hk⟩
theorem OpP.sub (hr : -9223372036854775808 ≤ a - b ∧ a - b ≤ 9223372036854775807) (hk : K (.int .i64 (a - b))) : OpP .sub .i64 a .i64 b K := ⟨_, by simp only [intBin, if_true]; rw [IntWalk.i64_in _ hr], hk⟩
theorem OpP.mul (hr : -9223372036854775808 ≤ a * b ∧ a * b ≤ 9223372036854775807) (hk : K (.int .i64 (a * b))) : OpP .mul .i64 a .i64 b K := ⟨_, by simp only [intBin, if_true]; rw [IntWalk.i64_in _ hr], hk⟩
theorem OpP.shl1 (h : 0 ≤ b ∧ b ≤ 62) (hk : 1 ≤ pw b → pw b ≤ 4611686018427387904 → K (.int .i64 (pw b))) : OpP .shl .i64 1 k' b K := ⟨_, shl_one h, hk (pw_pos b) (pw_le62 h.2)⟩
theorem OpP.andm (h : 0 ≤ b ∧ b ≤ 62) (hk : 0 ≤ a % pw b → a % pw b < pw b → K (.int .i64 (a % pw b))) : OpP .and .i64 a .i64 (pw b - 1) K := ⟨_, and_mask rfl h, hk (Int.emod_nonneg _ (by have := pw_pos b; omega)) (Int.emod_lt_of_pos _ (by have := pw_pos b; omega))⟩
theorem OpP.rem (hb : 0 < b) (h1 : (0 ≤ a ∨ a % b = 0) → 0 ≤ a % b → a % b < b → K (.int .i64 (a % b))) (h2 : a < 0 → a % b ≠ 0 → 0 ≤ a % b → a % b < b → K (.int .i64 (a % b - b))) : OpP .rem .i64 a .i64 b K := by
  have h5 : 0 ≤ a % b := Int.emod_nonneg _ (by omega)
  have h6 : a % b < b := Int.emod_lt_of_pos _ hb
  have e : intBin .rem .i64 a .i64 b = some (.int .i64 (a.tmod b)) := by simp only [intBin]; rw [if_pos ⟨trivial, by omega⟩]
  by_cases hc : 0 ≤ a ∨ a % b = 0
  · rw [tmod_pos hb, if_pos hc] at e
    exact ⟨_, e, h1 hc h5 h6⟩
  · rw [tmod_pos hb, if_neg hc] at e
    exact ⟨_, e, h2 (by omega) (by omega) h5 h6⟩
theorem OpP.quo (hb : 0 < b) (ha : -9223372036854775808 ≤ a ∧ a ≤ 9223372036854775807) (h1 : (0 ≤ a ∨ a % b = 0) → K (.int .i64 (a / b))) (h2 : a < 0 → a % b ≠ 0 → K (.int .i64 (a / b + 1))) : OpP .quo .i64 a .i64 b K := by
  have hr := ediv_range (m := b) (by omega) ha
  have e : intBin .quo .i64 a .i64 b = some (.int .i64 (IntKind.i64.wrap (a.tdiv b))) := by simp only [intBin]; rw [if_pos ⟨trivial, by omega⟩]
  by_cases hc : 0 ≤ a ∨ a % b = 0
  · rw [tdiv_pos hb, if_pos hc, IntWalk.i64_in _ hr] at e
    exact ⟨_, e, h1 hc⟩
  · have hneg : a / b < 0 := Int.ediv_neg_of_neg_of_pos (by omega) hb
    rw [tdiv_pos hb, if_neg hc, IntWalk.i64_in _ (by omega)] at e
    exact ⟨_, e, h2 (by omega) (by omega)⟩
theorem OpP.shr (h : 0 ≤ b ∧ b ≤ 63) (hk : K (.int .i64 (a / pw b))) : OpP .shr .i64 a k' b K := ⟨_, shr_div h, hk⟩
theorem OpP.and1 (hk : K (.int .i64 (a % 2))) : OpP .and .i64 a .i64 1 K := ⟨_, and_one, hk⟩
theorem OpP.wadd (hk : K (.int k (k.wrap (a + b)))) : OpP .add k a k b K := ⟨_, by simp only [intBin, if_true], hk⟩
theorem OpP.wsub (hk : K (.int k (k.wrap (a - b)))) : OpP .sub k a k b K := ⟨_, by simp only [intBin, if_true], hk⟩
theorem OpP.wmul (hk : K (.int k (k.wrap (a * b)))) : OpP .mul k a k b K := ⟨_, by simp only [intBin, if_true], hk⟩
theorem UnP.neg (hr : -9223372036854775808 ≤ -a ∧ -a ≤ 9223372036854775807) (hk : K (.int .i64 (-a))) : UnP .neg .i64 a K := ⟨_, by simp only [unA]; rw [show (0 : Int) - a = -a by omega, IntWalk.i64_in _ hr], hk⟩
theorem UnP.go {op : UnOp} {v : AV} (h : unA op (.int k a) = some v) (hk : K v) : UnP op k a K := ⟨v, h, hk⟩
end
theorem ConvP.go {k : IntKind} {n : Int} {K : Int → Prop} (h : K (k.wrap n)) : ConvP k n K := h
theorem ConvP.id {k : IntKind} {n : Int} {K : Int → Prop} (e : k.wrap n = n) (h : K n) : ConvP k n K := by unfold ConvP; rw [e]; exact h
theorem ConvP.u64 {n : Int} {K : Int → Prop} (hr : 0 ≤ n ∧ n ≤ 18446744073709551615) (h : K n) : ConvP .u64 n K := ConvP.id (IntWalk.u64_in _ hr) h
theorem ConvP.i64 {n : Int} {K : Int → Prop} (hr : -9223372036854775808 ≤ n ∧ n ≤ 9223372036854775807) (h : K n) : ConvP .i64 n K := ConvP.id (IntWalk.i64_in _ hr) h
/-! rows -/
theorem RdP.at {a : Int} {z : Nat} {K : List AV → Prop} {e : α} (he : l[a.toNat]? = some e) (h0 : 0 ≤ a) (hz : (enc e).length = z) (h : K (enc e)) : RdP (l.map enc) a z K := ⟨h0, enc e, by simp [he], hz, h⟩
theorem RdP.go {a : Int} {z : Nat} {K : List AV → Prop} (h0 : 0 ≤ a ∧ a < l.length) (hz : ∀ e, (enc e).length = z) (h : ∀ e, l[a.toNat]? = some e → K (enc e)) : RdP (l.map enc) a z K := by
  have he : l[a.toNat]? = some (l[a.toNat]'(by omega)) := List.getElem?_eq_getElem _
  exact RdP.at he h0.1 (hz _) (h _ he)
theorem RdP.nat {n z : Nat} {K : List AV → Prop} (hn : n < l.length) (hz : ∀ e, (enc e).length = z) (h : ∀ e, l[n]? = some e → K (enc e)) : RdP (l.map enc) (n : Int) z K :=
  RdP.go ⟨by omega, by omega⟩ hz h
theorem LdR.nat {i j n : Nat} {K : List AV → Prop} {f : α → List AV} (hi : i < l.length) (hp : ∀ e, part (enc e) j n = some (f e)) (h : ∀ e, l[i]? = some e → K (f e)) : LdR (l.map enc) (0 + ((i : Int)).toNat) j n K := by
  have he : l[i]? = some l[i] := List.getElem?_eq_getElem _
  rw [Nat.zero_add, Int.toNat_natCast]
  exact ⟨enc l[i], f l[i], by simp [he], hp _, h _ he⟩
theorem LdR.int {i : Int} {j n : Nat} {K : List AV → Prop} {f : α → List AV} (hi : 0 ≤ i ∧ i < l.length) (hp : ∀ e, part (enc e) j n = some (f e)) (h : ∀ e, l[i.toNat]? = some e → K (f e)) : LdR (l.map enc) (0 + i.toNat) j n K := by
  have hl : i.toNat < l.length := by omega
  have he : l[i.toNat]? = some l[i.toNat] := List.getElem?_eq_getElem _
  rw [Nat.zero_add]
  exact ⟨enc l[i.toNat], f l[i.toNat], by rw [List.getElem?_map, he]; rfl, hp _, h _ he⟩
theorem StR.nat {i : Nat} {vs : List AV} {K : List (List AV) → Prop} (e : α) (he : vs = enc e) (hz : ∀ x, (enc x).length = vs.length) (hi : i < l.length) (h : K ((l.set i e).map enc)) : StR (l.map enc) (0 + ((i : Int)).toNat) 0 vs K := by
  rw [Nat.zero_add, Int.toNat_natCast]
  refine ⟨enc l[i], by simp [List.getElem?_eq_getElem hi], by rw [hz]; omega, ?_⟩
  rw [show splice (enc l[i]) 0 vs = vs by simp [splice, ← hz l[i]], he, ← List.map_set]; exact h
theorem LdR.at {i j n : Nat} {K : List AV → Prop} {e : α} {ds : List AV} (he : l[i]? = some e) (hp : part (enc e) j n = some ds) (h : K ds) : LdR (l.map enc) i j n K := ⟨enc e, ds, by simp [he], hp, h⟩
theorem LdR.go {i j n : Nat} {K : List AV → Prop} (f : α → List AV) (hi : i < l.length) (hp : ∀ e, part (enc e) j n = some (f e)) (h : ∀ e, l[i]? = some e → K (f e)) : LdR (l.map enc) i j n K := by
  have he : l[i]? = some l[i] := List.getElem?_eq_getElem _
  exact LdR.at he (hp _) (h _ he)
theorem splice_all {cs vs : List AV} (h : cs.length = vs.length) : splice cs 0 vs = vs := by
  simp [splice, ← h]
theorem StR.go {i : Nat} {vs : List AV} {K : List (List AV) → Prop} (e : α) (he : vs = enc e) (hz : ∀ x, (enc x).length = vs.length) (hi : i < l.length) (h : K ((l.set i e).map enc)) : StR (l.map enc) i 0 vs K := by
  refine ⟨enc l[i], by simp [List.getElem?_eq_getElem hi], by rw [hz]; omega, ?_⟩
  rw [splice_all (hz _), he, ← List.map_set]; exact h
theorem MkR.go {a b : Int} {bytes : Nat} {zero : List AV} {K : List (List AV) → Nat → Prop} (x : α) (n : Nat) (hx : zero = enc x) (hn : a = n) (hr : a ≤ b ∧ b * bytes ≤ 140737488355328 ∧ b ≤ 9223372036854775807) (h : K ((List.replicate n x).map enc) n) : MkR a b bytes zero K := by
  subst hn hx
  refine ⟨⟨by omega, hr.1, by simpa [roomMax] using hr.2.1, hr.2.2⟩, ?_⟩
  simpa using h
theorem MkR.got {a b : Int} {bytes : Nat} {zero : List AV} {K : List (List AV) → Nat → Prop} (x : α) (hx : zero = enc x) (h0 : 0 ≤ a) (hr : a ≤ b ∧ b * bytes ≤ 140737488355328 ∧ b ≤ 9223372036854775807) (h : K ((List.replicate a.toNat x).map enc) a.toNat) : MkR a b bytes zero K := by
  subst hx
  refine ⟨⟨h0, hr.1, by simpa [roomMax] using hr.2.1, hr.2.2⟩, ?_⟩
  simpa using h
theorem LenP.go {K : Nat → Prop} (h : K l.length) : LenP (l.map enc) K := by unfold LenP; simpa using h
theorem AppR.one {len z bytes : Nat} {vs : List AV} {K : List (List AV) → Nat → Prop} (e : α) (he : vs = enc e) (hl : len = l.length) (hz : vs.length = z) (hr : (l.length + 1) * bytes ≤ 140737488355328) (hr2 : l.length + 1 ≤ 9223372036854775807) (h : K ((l ++ [e]).map enc) (l ++ [e]).length) : AppR (l.map enc) len [vs] z bytes K := by
  subst hl
  refine ⟨by simp, by simpa using hz, by simpa [roomMax] using hr, by simpa using hr2, ?_⟩
  rw [List.take_of_length_le (by simp)]
  simpa [he] using h
theorem AppR.many {len z bytes : Nat} {l' : List α} {K : List (List AV) → Nat → Prop} (hl : len = l.length) (hz : ∀ x, (enc x).length = z) (hr : (l.length + l'.length) * bytes ≤ 140737488355328) (hr2 : l.length + l'.length ≤ 9223372036854775807) (h : K ((l ++ l').map enc) (l ++ l').length) : AppR (l.map enc) len (l'.map enc) z bytes K := by
  subst hl
  refine ⟨by simp, by simp [hz], by simpa [roomMax] using hr, by simpa using hr2, ?_⟩
  rw [List.take_of_length_le (by simp)]
  simpa using h
theorem AppN.one {z bytes : Nat} {vs : List AV} {K : List (List AV) → Nat → Prop} (e : α) (he : vs = enc e) (hz : vs.length = z) (hb : bytes ≤ 140737488355328) (h : K ([e].map enc) 1) : AppN [vs] z bytes K :=
  ⟨by simpa using hz, by simpa [roomMax] using hb, by simp, by simpa [he] using h⟩
theorem AppN.many {z bytes : Nat} {K : List (List AV) → Nat → Prop} (hz : ∀ x, (enc x).length = z) (hr : l.length * bytes ≤ 140737488355328) (hr2 : l.length ≤ 9223372036854775807) (h : K (l.map enc) l.length) : AppN (l.map enc) z bytes K :=
  ⟨by simp [hz], by simpa [roomMax] using hr, by simpa using hr2, by simpa using h⟩
/-- copied over the whole -/
theorem CpyR.all {len z : Nat} {l' : List α} {K : List (List AV) → Nat → Prop} (hl : len = l.length) (hl' : l'.length = l.length) (hz : ∀ x, (enc x).length = z) (h : K (l'.map enc) l'.length) : CpyR (l.map enc) 0 len (l'.map enc) z K := by
  subst hl
  refine ⟨by simp, by simp [hz], ?_⟩
  have e : min (l'.map enc).length l.length = l.length := by simp [hl']
  rw [e, List.take_zero, List.nil_append, List.take_of_length_le (by simp [hl']), List.drop_of_length_le (by simp), List.append_nil, ← hl']
  exact h
theorem RowP.all {off len : Nat} {K : List (List AV) → Prop} (ho : off = 0) (hl : len = l.length) (h : K (l.map enc)) : RowP (l.map enc) off len K := by
  subst hl ho
  exact ⟨by simp, by rw [List.drop_zero, List.take_of_length_le (by simp)]; exact h⟩
theorem RowP.part {off len : Nat} {K : List (List AV) → Prop} (hl : off + len ≤ l.length) (h : K (((l.drop off).take len).map enc)) : RowP (l.map enc) off len K :=
  ⟨by simpa using hl, by rw [← List.map_drop, ← List.map_take]; exact h⟩
theorem SnR.all {off len : Nat} {K : List (List AV) → Prop} (hz : ∀ x, okE (enc x) = true) (ho : off = 0) (hl : len = l.length) (h : K (l.map enc)) : SnR (l.map enc) off len K := by
  subst hl ho
  refine ⟨by simp, fun e he => ?_, by rw [List.drop_zero, List.take_of_length_le (by simp)]; exact h⟩
  obtain ⟨x, _, rfl⟩ := List.mem_map.1 he
  exact hz x
theorem SnR.part {off len : Nat} {K : List (List AV) → Prop} (hz : ∀ x, okE (enc x) = true) (hl : off + len ≤ l.length) (h : K (((l.drop off).take len).map enc)) : SnR (l.map enc) off len K := by
  refine ⟨by simpa using hl, fun e he => ?_, by rw [← List.map_drop, ← List.map_take]; exact h⟩
  obtain ⟨x, _, rfl⟩ := List.mem_map.1 he
  exact hz x
theorem RowP.e0 {K : List (List AV) → Prop} (h : K []) : RowP [] 0 0 K := ⟨by simp, h⟩
theorem RowP.e1 {e : List AV} {K : List (List AV) → Prop} (h : K [e]) : RowP [e] 0 1 K := ⟨by simp, h⟩
theorem RowP.e2 {e e' : List AV} {K : List (List AV) → Prop} (h : K [e, e']) : RowP [e, e'] 0 2 K := ⟨by simp, h⟩
theorem SnR.e0 {K : List (List AV) → Prop} (h : K []) : SnR [] 0 0 K := ⟨by simp, by simp, h⟩
theorem SnR.e1 {e : List AV} {K : List (List AV) → Prop} (h0 : okE e = true) (h : K [e]) : SnR [e] 0 1 K := ⟨by simp, by simpa using h0, h⟩
theorem SnR.e2 {e e' : List AV} {K : List (List AV) → Prop} (h0 : okE e = true) (h1 : okE e' = true) (h : K [e, e']) : SnR [e, e'] 0 2 K := ⟨by simp, by simpa using ⟨h0, h1⟩, h⟩
/-! rows of rows -/
section
variable {β : Type} {z : Nat} {ll : List (List β)} {en : β → List AV}
/-- a row of rows of the element's size z -/
abbrev mxR (z : Nat) (en : β → List AV) (ll : List (List β)) : List (Option (Nat × List (List AV))) := ll.map fun r => some (z, r.map en)
theorem LdM.nat {i : Nat} {K : Option (Nat × List (List AV)) → Prop} (hi : i < ll.length) (h : ∀ r, ll[i]? = some r → K (some (z, r.map en))) : LdM (mxR z en ll) (0 + ((i : Int)).toNat) K := by
  have he : ll[i]? = some ll[i] := List.getElem?_eq_getElem _
  exact ⟨_, by rw [Nat.zero_add, Int.toNat_natCast, List.getElem?_map, he]; rfl, h _ he⟩
theorem LdM.int {i : Int} {K : Option (Nat × List (List AV)) → Prop} (hi : 0 ≤ i ∧ i < ll.length) (h : ∀ r, ll[i.toNat]? = some r → K (some (z, r.map en))) : LdM (mxR z en ll) (0 + i.toNat) K := by
  have hl : i.toNat < ll.length := by omega
  have he : ll[i.toNat]? = some ll[i.toNat] := List.getElem?_eq_getElem _
  exact ⟨_, by rw [Nat.zero_add, List.getElem?_map, he]; rfl, h _ he⟩
theorem GetM.at {i : Nat} {K : Nat → List (List AV) → Prop} {r : List β} (hr : ll[i]? = some r) (h : K z (r.map en)) : GetM (mxR z en ll) i K :=
  ⟨z, r.map en, by rw [List.getElem?_map, hr]; rfl, h⟩
theorem GetM.ati {i : Nat} {K : Nat → List (List AV) → Prop} {r : List β} (hr : ll[i]? = some r) (h : K z (r.map en)) : GetM (mxR z en ll) (0 + ((i : Int)).toNat) K := by
  rw [Nat.zero_add, Int.toNat_natCast]; exact GetM.at hr h
theorem GetM.atn {i : Int} {K : Nat → List (List AV) → Prop} {r : List β} (hr : ll[i.toNat]? = some r) (h : K z (r.map en)) : GetM (mxR z en ll) (0 + i.toNat) K := by
  rw [Nat.zero_add]; exact GetM.at hr h
theorem SetM.nat {i : Nat} {r : List β} {K : List (Option (Nat × List (List AV))) → Prop} (hi : i < ll.length) (h : K (mxR z en (ll.set i r))) : SetM (mxR z en ll) (0 + ((i : Int)).toNat) z (r.map en) K := by
  rw [Nat.zero_add, Int.toNat_natCast]
  exact ⟨by simpa using hi, by simpa [mxR, List.map_set] using h⟩
theorem PutM.nat {i : Nat} {r r' : List β} {K : List (Option (Nat × List (List AV))) → Prop} (hl : r'.length = r.length) (h : K (mxR z en (ll.set i r'))) : PutM (mxR z en ll) (0 + ((i : Int)).toNat) z (r.map en) (r'.map en) K := by
  rw [Nat.zero_add, Int.toNat_natCast]
  exact ⟨by simpa using hl, by simpa [mxR, List.map_set] using h⟩
theorem AppM.go {len bytes : Nat} {r : List β} {K : List (Option (Nat × List (List AV))) → Nat → Prop} (hl : len = ll.length) (hr : (ll.length + 1) * bytes ≤ 140737488355328) (hr2 : ll.length + 1 ≤ 9223372036854775807) (h : K (mxR z en (ll ++ [r])) (ll ++ [r]).length) : AppM (mxR z en ll) len (some (z, r.map en)) bytes K := by
  subst hl
  exact ⟨by simp, by simpa [roomMax] using hr, hr2, by simpa [mxR] using h⟩
theorem AppM.any {rows : List (Option (Nat × List (List AV)))} {len bytes : Nat} {r : Option (Nat × List (List AV))} {K : List (Option (Nat × List (List AV))) → Nat → Prop} (hl : len = rows.length) (hr : (rows.length + 1) * bytes ≤ 140737488355328) (hr2 : rows.length + 1 ≤ 9223372036854775807) (h : K (rows ++ [r]) (rows ++ [r]).length) : AppM rows len r bytes K := by
  subst hl
  exact ⟨rfl, by simpa [roomMax] using hr, hr2, by simpa using h⟩
theorem rowsE_map (q : Bool) : ∀ ll : List (List β), rowsE q (mxR z en ll) = ll.map fun r => [AV.sl q (r.map en)]
  | [] => rfl
  | r :: l => by simp only [mxR, List.map_cons, rowsE]; rw [show rowsE q (l.map fun r => some (z, r.map en)) = _ from rowsE_map q l]
theorem SnM.all {q : Bool} {off len : Nat} {K : List (List AV) → Prop} (hz : ∀ x, okE (en x) = true) (ho : off = 0) (hl : len = ll.length) (h : K (ll.map fun r => [AV.sl q (r.map en)])) : SnM q (mxR z en ll) off len K := by
  refine ⟨ho, by simpa using hl, fun z' es hm e he => ?_, by rw [rowsE_map]; exact h⟩
  obtain ⟨r, _, hr⟩ := List.mem_map.1 hm
  simp only [Option.some.injEq, Prod.mk.injEq] at hr
  obtain ⟨rfl, rfl⟩ := hr
  obtain ⟨x, _, rfl⟩ := List.mem_map.1 he
  exact hz x
end
/-! slices -/
theorem Bds.nn {len : Nat} {K : Nat → Nat → Prop} (h : K 0 len) : Bds none none len K := ⟨0, len, rfl, rfl, by omega, h⟩
theorem Bds.sn {len : Nat} {a : Int} {K : Nat → Nat → Prop} (h0 : 0 ≤ a ∧ a ≤ len) (h : K a.toNat len) : Bds (some a) none len K := ⟨a.toNat, len, ⟨h0.1, rfl⟩, rfl, by omega, h⟩
theorem Bds.ns {len : Nat} {b : Int} {K : Nat → Nat → Prop} (h0 : 0 ≤ b ∧ b ≤ len) (h : K 0 b.toNat) : Bds none (some b) len K := ⟨0, b.toNat, rfl, ⟨h0.1, h0.2, rfl⟩, by omega, h⟩
theorem Bds.ss {len : Nat} {a b : Int} {K : Nat → Nat → Prop} (h0 : 0 ≤ a ∧ a ≤ b ∧ b ≤ len) (h : K a.toNat b.toNat) : Bds (some a) (some b) len K := ⟨a.toNat, b.toNat, ⟨h0.1, rfl⟩, ⟨by omega, by omega, rfl⟩, by omega, h⟩
theorem SlS.go {z : Nat} {lo hi : Option Int} {K : List (List AV) → Prop} (hz : ∀ x, (enc x).length = z) (h : Bds lo hi l.length fun a h => K (((l.take h).drop a).map enc)) : SlS z (l.map enc) lo hi K := by
  refine ⟨by simp [hz], ?_⟩
  rw [List.length_map]
  obtain ⟨a, b, h1, h2, h3, h4⟩ := h
  refine ⟨a, b, h1, h2, h3, ?_⟩
  show K _
  rw [← List.map_take, ← List.map_drop]; exact h4
theorem SlS.to {z k : Nat} {K : List (List AV) → Prop} (hz : ∀ x, (enc x).length = z) (hk : k ≤ l.length) (h : K ((l.take k).map enc)) : SlS z (l.map enc) none (some (k : Int)) K :=
  SlS.go hz (Bds.ns (by omega) (by simpa using h))
theorem SlS.off {z k : Nat} {K : List (List AV) → Prop} (hz : ∀ x, (enc x).length = z) (hk : k ≤ l.length) (h : K ((l.drop k).map enc)) : SlS z (l.map enc) (some (k : Int)) none K :=
  SlS.go hz (Bds.sn (by omega) (by simpa using h))
/-! calls -/
theorem CallP.go {f : Nat} {vs : List AV} {K : AV → Prop} {r : AV} (h : Ev L f vs r) (hk : K r) : CallP L f vs K := ⟨r, h, hk⟩
theorem CallP.b {f : Nat} {vs : List AV} {K : AV → Prop} {p : Prop} [Decidable p] (h : Ev L f vs (.bool (decide p))) (h1 : p → K (.bool true)) (h2 : ¬ p → K (.bool false)) : CallP L f vs K := by
  refine ⟨_, h, ?_⟩; by_cases e : p
  · rw [decide_eq_true e]; exact h1 e
  · rw [decide_eq_false e]; exact h2 e
theorem CallP.B {f : Nat} {vs : List AV} {K : AV → Prop} {b : Bool} (h : Ev L f vs (.bool b)) (h1 : b = true → K (.bool true)) (h2 : b = false → K (.bool false)) : CallP L f vs K := by
  refine ⟨_, h, ?_⟩; cases b
  · exact h2 rfl
  · exact h1 rfl
/-! ends -/
theorem FinP.go {a r : AV} (h : a = r) (hc : Clean r) : FinP a r := ⟨h, hc⟩
theorem FinP.b {a r : Bool} (h : a = r) : FinP (.bool a) (.bool r) := ⟨by rw [h], by simp [Clean]⟩
theorem FinP.dt {p : Prop} [Decidable p] (h : p) : FinP (.bool true) (.bool (decide p)) := ⟨by simp [h], by simp [Clean]⟩
theorem FinP.df {p : Prop} [Decidable p] (h : ¬ p) : FinP (.bool false) (.bool (decide p)) := ⟨by simp [h], by simp [Clean]⟩
theorem FinP.i {k : IntKind} {a b : Int} (h : a = b) : FinP (.int k a) (.int k b) := ⟨by rw [h], by simp [Clean]⟩
theorem cleanLL_map (h : ∀ x, CleanL (enc x)) : ∀ l : List α, CleanLL (l.map enc)
  | [] => by simp [CleanLL]
  | x :: r => by rw [List.map_cons, CleanLL]; exact ⟨h x, cleanLL_map h r⟩
end
theorem cl_ints (l : List Int) : CleanLL (l.map encInt) := cleanLL_map (fun _ => by simp [CleanL, Clean]) l
theorem AKM.loop1 {α : Type} {L : Lib} {k : List It} {cd : ACode} {tm : Tm} {M : Mem} {Q : Tm → Mem → Prop} (m : α → Nat) (P : α → Prop) (vs : α → Tm) (Ms : α → Mem) (ts : List Nat) (τ : List (Nat × Nat)) (a : α)
    (he : EqX τ tm M (vs a ++ tdel ts tm) (Ms a ++ M)) (hp : P a)
    (step : ∀ a, P a → (∀ a', m a' < m a → P a' → AKM L (.lp cd :: k) (vs a' ++ tdel ts tm) (Ms a' ++ M) Q) → AKM L (.code cd :: .lp cd :: k) (vs a ++ tdel ts tm) (Ms a ++ M) Q) : AKM L (.lp cd :: k) tm M Q :=
  AKM.loop (α := α) (fun x => m x) (fun x => P x) (fun x => vs x) (fun x => Ms x) ts τ a he hp fun a h ih => step a h fun a' h1 h2 => ih a' h1 h2
theorem AKM.loop2 {α β : Type} {L : Lib} {k : List It} {cd : ACode} {tm : Tm} {M : Mem} {Q : Tm → Mem → Prop} (m : α → β → Nat) (P : α → β → Prop) (vs : α → β → Tm) (Ms : α → β → Mem) (ts : List Nat) (τ : List (Nat × Nat)) (a : α) (b : β)
    (he : EqX τ tm M (vs a b ++ tdel ts tm) (Ms a b ++ M)) (hp : P a b)
    (step : ∀ a b, P a b → (∀ a' b', m a' b' < m a b → P a' b' → AKM L (.lp cd :: k) (vs a' b' ++ tdel ts tm) (Ms a' b' ++ M) Q) → AKM L (.code cd :: .lp cd :: k) (vs a b ++ tdel ts tm) (Ms a b ++ M) Q) : AKM L (.lp cd :: k) tm M Q :=
  AKM.loop (α := α × β) (fun x => m x.1 x.2) (fun x => P x.1 x.2) (fun x => vs x.1 x.2) (fun x => Ms x.1 x.2) ts τ (a, b) he hp fun ⟨a, b⟩ h ih => step a b h fun a' b' h1 h2 => ih (a', b') h1 h2
theorem AKM.loop3 {α β γ : Type} {L : Lib} {k : List It} {cd : ACode} {tm : Tm} {M : Mem} {Q : Tm → Mem → Prop} (m : α → β → γ → Nat) (P : α → β → γ → Prop) (vs : α → β → γ → Tm) (Ms : α → β → γ → Mem) (ts : List Nat) (τ : List (Nat × Nat)) (a : α) (b : β) (c : γ)
    (he : EqX τ tm M (vs a b c ++ tdel ts tm) (Ms a b c ++ M)) (hp : P a b c)
    (step : ∀ a b c, P a b c → (∀ a' b' c', m a' b' c' < m a b c → P a' b' c' → AKM L (.lp cd :: k) (vs a' b' c' ++ tdel ts tm) (Ms a' b' c' ++ M) Q) → AKM L (.code cd :: .lp cd :: k) (vs a b c ++ tdel ts tm) (Ms a b c ++ M) Q) : AKM L (.lp cd :: k) tm M Q :=
  AKM.loop (α := α × β × γ) (fun x => m x.1 x.2.1 x.2.2) (fun x => P x.1 x.2.1 x.2.2) (fun x => vs x.1 x.2.1 x.2.2) (fun x => Ms x.1 x.2.1 x.2.2) ts τ (a, b, c) he hp fun ⟨a, b, c⟩ h ih => step a b c h fun a' b' c' h1 h2 => ih (a', b', c') h1 h2
theorem AKM.loop4 {α β γ δ : Type} {L : Lib} {k : List It} {cd : ACode} {tm : Tm} {M : Mem} {Q : Tm → Mem → Prop} (m : α → β → γ → δ → Nat) (P : α → β → γ → δ → Prop) (vs : α → β → γ → δ → Tm) (Ms : α → β → γ → δ → Mem) (ts : List Nat) (τ : List (Nat × Nat)) (a : α) (b : β) (c : γ) (d : δ)
    (he : EqX τ tm M (vs a b c d ++ tdel ts tm) (Ms a b c d ++ M)) (hp : P a b c d)
    (step : ∀ a b c d, P a b c d → (∀ a' b' c' d', m a' b' c' d' < m a b c d → P a' b' c' d' → AKM L (.lp cd :: k) (vs a' b' c' d' ++ tdel ts tm) (Ms a' b' c' d' ++ M) Q) → AKM L (.code cd :: .lp cd :: k) (vs a b c d ++ tdel ts tm) (Ms a b c d ++ M) Q) : AKM L (.lp cd :: k) tm M Q :=
  AKM.loop (α := α × β × γ × δ) (fun x => m x.1 x.2.1 x.2.2.1 x.2.2.2) (fun x => P x.1 x.2.1 x.2.2.1 x.2.2.2) (fun x => vs x.1 x.2.1 x.2.2.1 x.2.2.2) (fun x => Ms x.1 x.2.1 x.2.2.1 x.2.2.2) ts τ (a, b, c, d) he hp fun ⟨a, b, c, d⟩ h ih => step a b c d h fun a' b' c' d' h1 h2 => ih (a', b', c', d') h1 h2
theorem AKM.loop5 {α β γ δ ε : Type} {L : Lib} {k : List It} {cd : ACode} {tm : Tm} {M : Mem} {Q : Tm → Mem → Prop} (m : α → β → γ → δ → ε → Nat) (P : α → β → γ → δ → ε → Prop) (vs : α → β → γ → δ → ε → Tm) (Ms : α → β → γ → δ → ε → Mem) (ts : List Nat) (τ : List (Nat × Nat)) (a : α) (b : β) (c : γ) (d : δ) (e : ε)
    (he : EqX τ tm M (vs a b c d e ++ tdel ts tm) (Ms a b c d e ++ M)) (hp : P a b c d e)
    (step : ∀ a b c d e, P a b c d e → (∀ a' b' c' d' e', m a' b' c' d' e' < m a b c d e → P a' b' c' d' e' → AKM L (.lp cd :: k) (vs a' b' c' d' e' ++ tdel ts tm) (Ms a' b' c' d' e' ++ M) Q) → AKM L (.code cd :: .lp cd :: k) (vs a b c d e ++ tdel ts tm) (Ms a b c d e ++ M) Q) : AKM L (.lp cd :: k) tm M Q :=
  AKM.loop (α := α × β × γ × δ × ε) (fun x => m x.1 x.2.1 x.2.2.1 x.2.2.2.1 x.2.2.2.2) (fun x => P x.1 x.2.1 x.2.2.1 x.2.2.2.1 x.2.2.2.2) (fun x => vs x.1 x.2.1 x.2.2.1 x.2.2.2.1 x.2.2.2.2) (fun x => Ms x.1 x.2.1 x.2.2.1 x.2.2.2.1 x.2.2.2.2) ts τ (a, b, c, d, e) he hp fun ⟨a, b, c, d, e⟩ h ih => step a b c d e h fun a' b' c' d' e' h1 h2 => ih (a', b', c', d', e') h1 h2
theorem AKM.loop6 {α β γ δ ε ζ : Type} {L : Lib} {k : List It} {cd : ACode} {tm : Tm} {M : Mem} {Q : Tm → Mem → Prop} (m : α → β → γ → δ → ε → ζ → Nat) (P : α → β → γ → δ → ε → ζ → Prop) (vs : α → β → γ → δ → ε → ζ → Tm) (Ms : α → β → γ → δ → ε → ζ → Mem) (ts : List Nat) (τ : List (Nat × Nat)) (a : α) (b : β) (c : γ) (d : δ) (e : ε) (f : ζ)
    (he : EqX τ tm M (vs a b c d e f ++ tdel ts tm) (Ms a b c d e f ++ M)) (hp : P a b c d e f)
    (step : ∀ a b c d e f, P a b c d e f → (∀ a' b' c' d' e' f', m a' b' c' d' e' f' < m a b c d e f → P a' b' c' d' e' f' → AKM L (.lp cd :: k) (vs a' b' c' d' e' f' ++ tdel ts tm) (Ms a' b' c' d' e' f' ++ M) Q) → AKM L (.code cd :: .lp cd :: k) (vs a b c d e f ++ tdel ts tm) (Ms a b c d e f ++ M) Q) : AKM L (.lp cd :: k) tm M Q :=
  AKM.loop (α := α × β × γ × δ × ε × ζ) (fun x => m x.1 x.2.1 x.2.2.1 x.2.2.2.1 x.2.2.2.2.1 x.2.2.2.2.2) (fun x => P x.1 x.2.1 x.2.2.1 x.2.2.2.1 x.2.2.2.2.1 x.2.2.2.2.2) (fun x => vs x.1 x.2.1 x.2.2.1 x.2.2.2.1 x.2.2.2.2.1 x.2.2.2.2.2) (fun x => Ms x.1 x.2.1 x.2.2.1 x.2.2.2.1 x.2.2.2.2.1 x.2.2.2.2.2) ts τ (a, b, c, d, e, f) he hp fun ⟨a, b, c, d, e, f⟩ h ih => step a b c d e f h fun a' b' c' d' e' f' h1 h2 => ih (a', b', c', d', e', f') h1 h2
theorem AKM.x {L : Lib} {Q : Tm → Mem → Prop} {c : ACode} {k : List It} {tm : Tm} {M : Mem} (h : fT (cnm 0 tm) fun tm => fM (mcan M) fun M => XK L Q 500 (.code c :: k) tm M) : AKM L (.code c :: k) tm M Q := by
  rw [fT_eq, fM_eq] at h
  exact AKM.can (XK_sound h)
theorem AKM.y {L : Lib} {Q : Tm → Mem → Prop} {i : Nat} {k : List It} {tm : Tm} {M : Mem} (h : XK L Q 500 (.blk i :: k) tm M) : AKM L (.blk i :: k) tm M Q := XK_sound h
end Go.Eng
