/-
  One digit of a long division, plain: the product taken away, a part of it given back; a window of a row.
-/
import Derived.Test.YtdehnieflanifaaGreatB8
import Derived.Test.YtdehnieflanifaaGreatB7
import Derived.Test.YtdehnieflanifaaGreatB4
set_option linter.unusedSimpArgs false
set_option linter.unusedVariables false
set_option linter.unnecessarySimpa false
namespace Go.Eng
theorem win_get {A w C : List Nat} {i n : Nat} (hi : i = A.length + n) (hn : n < w.length) : (A ++ w ++ C)[i]? = w[n]? := by
 subst hi
 rw [List.append_assoc, List.getElem?_append_right (by omega), Nat.add_sub_cancel_left, List.getElem?_append_left hn]
theorem win_set {A w C : List Nat} {i n v : Nat} (hi : i = A.length + n) (hn : n < w.length) : (A ++ w ++ C).set i v = A ++ w.set n v ++ C := by
 subst hi
 rw [List.append_assoc, List.set_append_right _ _ (by omega), Nat.add_sub_cancel_left, List.set_append_left _ _ hn, List.append_assoc]
theorem LdR.win {A w C : List Nat} {i : Nat} {K : List AV → Prop} (n : Nat) (hi : i = A.length + n) (hD : Dig w) (hn : n < w.length) (h : ∀ e, w[n]? = some e → e < 4294967296 → K (e32 e)) : LdR ((A ++ w ++ C).map e32) i 0 1 K := by
 obtain ⟨e, he⟩ : ∃ e, w[n]? = some e := ⟨_, List.getElem?_eq_getElem hn⟩
 refine LdR.at (e := e) (by rw [win_get hi hn]; exact he) rfl (h e he (hD.at he))
theorem StR.win {A w C : List Nat} {i v : Nat} {KK : List (List AV) → Prop} (n : Nat) (hi : i = A.length + n) (hn : n < w.length) (h : KK ((A ++ w.set n v ++ C).map e32)) : StR ((A ++ w ++ C).map e32) i 0 [.int .u32 (v : Int)] KK := by
 have hl : i < (A ++ w ++ C).length := by simp; omega
 refine StR.at (enc := e32) i v rfl rfl (fun _ => rfl) hl ?_
 rw [win_set hi hn]
 exact h
theorem ms_step {W X Vi p q u d c b pr t : Nat} (h : W + q * Vi = X + p * (c + b)) (hpr : pr = q * d + c) (ht : t = w64s (w64s u (pr % 4294967296)) b) (hu : u < 4294967296) (hb : b ≤ 1) :
  W + p * (t % 4294967296) + q * (Vi + p * d) = X + p * u + p * 4294967296 * (pr / 4294967296 + t / 9223372036854775808) := by
 obtain ⟨h1, _⟩ := sub_step hu (show pr % 4294967296 < 4294967296 by omega) hb
 rw [← ht] at h1
 have h2 := Nat.mod_add_div pr 4294967296
 generalize t % 4294967296 = w at *
 generalize t / 9223372036854775808 = b' at *
 generalize pr % 4294967296 = pl at *
 generalize pr / 4294967296 = ph at *
 have e1 : p * (w + pl + b) = p * (u + 4294967296 * b') := by rw [h1]
 have e2 : p * (pl + 4294967296 * ph) = p * (q * d + c) := by rw [h2, hpr]
 grind
theorem ms_carry {q d c pr : Nat} (hq : q < 4294967296) (hd : d < 4294967296) (hc : c < 4294967296) (hpr : pr = q * d + c) : pr / 4294967296 < 4294967296 ∧ pr ≤ 18446744073709551615 ∧ q * d ≤ 18446744065119617025 := by
 have := mul_le_dig hq hd
 omega
theorem ms_last {W X V p q u c b t : Nat} (h : W + q * V = X + p * (c + b)) (ht : t = w64s (w64s u c) b) (hu : u < 4294967296) (hc : c < 4294967296) (hb : b ≤ 1) :
  W + p * (t % 4294967296) + q * V = X + p * u + p * 4294967296 * (t / 9223372036854775808) := by
 obtain ⟨h1, _⟩ := sub_step hu hc hb
 rw [← ht] at h1
 generalize t % 4294967296 = w at *
 generalize t / 9223372036854775808 = b' at *
 have e1 : p * (w + c + b) = p * (u + 4294967296 * b') := by rw [h1]
 grind
theorem ms_step2 {W X Vi p q u d c b pr w take have' bw' : Nat} (h : W + q * Vi = X + p * (c + b)) (hpr : pr = c + q * d) (h1 : take = pr % 4294967296 + b) (h2 : (have' = u ∧ bw' = 0 ∧ take ≤ u) ∨ (have' = u + 4294967296 ∧ bw' = 1 ∧ u < take)) (h3 : w + take = have') :
  W + p * w + q * (Vi + p * d) = X + p * u + p * 4294967296 * (pr / 4294967296 + bw') := by
 have h4 := Nat.mod_add_div pr 4294967296
 have h5 : w + pr % 4294967296 + b = u + 4294967296 * bw' := by omega
 generalize pr % 4294967296 = pl at *
 generalize pr / 4294967296 = ph at *
 have e1 : p * (w + pl + b) = p * (u + 4294967296 * bw') := by rw [h5]
 have e2 : p * (pl + 4294967296 * ph) = p * (c + q * d) := by rw [h4, hpr]
 grind
theorem ms_last2 {W X V p q u c b w take have' bw' : Nat} (h : W + q * V = X + p * (c + b)) (h1 : take = c + b) (h2 : (have' = u ∧ bw' = 0 ∧ take ≤ u) ∨ (have' = u + 4294967296 ∧ bw' = 1 ∧ u < take)) (h3 : w + take = have') :
  W + p * w + q * V = X + p * u + p * 4294967296 * bw' := by
 have h5 : w + c + b = u + 4294967296 * bw' := by omega
 have e1 : p * (w + c + b) = p * (u + 4294967296 * bw') := by rw [h5]
 grind
theorem ab_step {W X Vi p w d c t : Nat} (h : W + p * c = X + Vi) (ht : t = w + d + c) : W + p * (t % 4294967296) + p * 4294967296 * (t / 4294967296) = X + p * w + (Vi + p * d) := by
 have h1 := carry_step W p t
 have e : p * t = p * w + p * d + p * c := by rw [ht]; grind
 omega
theorem ab_last {W X V R p w c : Nat} (h : W + p * c = X + V) (hX : X + p * w + V = R + p * 4294967296) (hR : R < p * 4294967296) (hW : W < p) : W + p * ((w + c) % 4294967296) = R := by
 have h1 : W + p * (w + c) = R + p * 4294967296 := by
  rw [Nat.mul_add]; omega
 have h2 := Nat.mod_add_div (w + c) 4294967296
 have h3 : p * (w + c) = p * ((w + c) % 4294967296) + p * 4294967296 * ((w + c) / 4294967296) := by
  rw [Nat.mul_assoc, ← Nat.mul_add, h2]
 have h4 : (w + c) % 4294967296 < 4294967296 := Nat.mod_lt _ (by omega)
 generalize (w + c) % 4294967296 = m at *
 generalize (w + c) / 4294967296 = k at *
 have h5 : W + p * m < p * 4294967296 := by
  have : p * m + p ≤ p * 4294967296 := by rw [← Nat.mul_succ]; exact Nat.mul_le_mul_left p (by omega)
  omega
 have h6 : k = 1 := by
  rcases Nat.lt_trichotomy k 1 with hk | hk | hk
  ·have : k = 0 := by omega
   subst this
   omega
  ·exact hk
  ·have : p * 4294967296 * 2 ≤ p * 4294967296 * k := Nat.mul_le_mul_left _ (by omega)
   omega
 subst h6
 omega
theorem top_small {U V UL VL p u2 v2 v1 top : Nat} (hU : U = UL + p * (u2 + 4294967296 * top)) (hV : V = VL + p * (v2 + 4294967296 * v1)) (hVl : VL < p) (h2 : v2 < 4294967296) (h : U < 4294967296 * V) : top < 4294967296 * (v1 + 1) := by
 have h3 : V < p * (4294967296 * (v1 + 1)) := by
  have : p * (v2 + 4294967296 * v1) + p ≤ p * (4294967296 * (v1 + 1)) := by
   rw [← Nat.mul_succ]; exact Nat.mul_le_mul_left p (by omega)
  omega
 have h4 : p * (4294967296 * top) ≤ U := by
  have : p * (4294967296 * top) ≤ p * (u2 + 4294967296 * top) := Nat.mul_le_mul_left p (by omega)
  omega
 have h5 : p * (4294967296 * top) < p * (4294967296 * (4294967296 * (v1 + 1))) := by
  have : p * (4294967296 * (4294967296 * (v1 + 1))) = 4294967296 * (p * (4294967296 * (v1 + 1))) := by grind
  omega
 have := Nat.lt_of_mul_lt_mul_left h5
 omega
structure Gs (U V v1 v2 u2 top q r : Nat) : Prop where
 hq : q * v1 + r = top
 hr : r < 4294967296
 ge : U / V ≤ q
theorem Gs.next {U V UL VL p v1 v2 u2 top q r : Nat} (g : Gs U V v1 v2 u2 top q r) (hU : U = UL + p * (u2 + 4294967296 * top)) (hV : V = VL + p * (v2 + 4294967296 * v1)) (hUl : UL < p) (hV0 : 0 < V) (hUV : U < 4294967296 * V)
  (h : 4294967296 ≤ q ∨ r * 4294967296 + u2 < q * v2) : 1 ≤ q ∧ (q - 1) * v1 + (r + v1) = top ∧ U / V ≤ q - 1 := by
 have h1 : U / V < q := by
  rcases h with h | h
  ·exact guess_big hUV h hV0
  ·exact guess_dec hU hV hUl g.hq h hV0
 have hq := g.hq
 clear h g hU hV hUV
 generalize U / V = Q at *
 obtain ⟨k, rfl⟩ : ∃ k, q = k + 1 := ⟨q - 1, by omega⟩
 refine ⟨by omega, ?_, by omega⟩
 rw [Nat.add_sub_cancel, ← hq, Nat.add_mul]
 omega
theorem Gs.start {U V UL VL p v1 v2 u2 top : Nat} (hU : U = UL + p * (u2 + 4294967296 * top)) (hV : V = VL + p * (v2 + 4294967296 * v1)) (hUl : UL < p) (h2 : u2 < 4294967296) (hV0 : 0 < V) (h1 : 0 < v1) (h1b : v1 < 4294967296) : Gs U V v1 v2 u2 top (top / v1) (top % v1) := by
 refine ⟨by rw [Nat.mul_comm]; exact Nat.div_add_mod _ _, ?_, ?_⟩
 ·have := Nat.mod_lt top h1
  omega
 ·rw [Nat.le_div_iff_mul_le h1]
  exact guess_top hU hV hUl h2 hV0
theorem guess_stop {U V UL VL p v1 v2 u2 top q r : Nat} (hU : U = UL + p * (u2 + 4294967296 * top)) (hV : V = VL + p * (v2 + 4294967296 * v1)) (hVl : VL < p) (hv1 : 2147483648 ≤ v1) (hv2 : v2 < 4294967296) (hUV : U < 4294967296 * V) (hq : q * v1 + r = top)
  (h : (q < 4294967296 ∧ q * v2 ≤ r * 4294967296 + u2) ∨ 4294967296 ≤ r) : q < 4294967296 ∧ q ≤ U / V + 1 := by
 rcases h with ⟨h1, h2⟩ | h
 ·exact ⟨h1, guess_end hU hV hVl hv1 hq h2 h1⟩
 ·have ht := top_small hU hV hVl hv2 hUV
  have hqb : q < 4294967296 := by
   have h3 : q * v1 < 4294967296 * v1 := by omega
   exact Nat.lt_of_mul_lt_mul_right h3
  refine ⟨hqb, guess_end hU hV hVl hv1 hq ?_ hqb⟩
  have := mul_le_dig hqb hv2
  omega
theorem val_splitD (a : List Nat) (k : Nat) : val a = val (a.take k) + 4294967296 ^ k * val (a.drop k) := by
 rcases Nat.lt_or_ge a.length k with h | h
 ·rw [List.take_of_length_le (by omega), List.drop_of_length_le (by omega), val_nil]; omega
 ·exact val_split a k h
theorem val_dropD (a : List Nat) (k : Nat) : val (a.drop k) = a.getD k 0 + 4294967296 * val (a.drop (k + 1)) := by
 rcases Nat.lt_or_ge k a.length with h | h
 ·rw [val_getD_drop (List.getElem?_eq_getElem h), List.getD_eq_getElem?_getD, List.getElem?_eq_getElem h]; rfl
 ·rw [List.drop_of_length_le h, List.drop_of_length_le (by omega), List.getD_eq_getElem?_getD, List.getElem?_eq_none h]; rfl
theorem getD_lt {a : List Nat} (h : Dig a) (k : Nat) : a.getD k 0 < 4294967296 := by
 rw [List.getD_eq_getElem?_getD]
 cases e : a[k]? with
 | none => simp
 | some d => simpa using h.at e
theorem getD_some {a : List Nat} {k d : Nat} (h : a[k]? = some d) : d = a.getD k 0 := by rw [List.getD_eq_getElem?_getD, h]; rfl
theorem getD_none {a : List Nat} {k : Nat} (h : a.length ≤ k) : 0 = a.getD k 0 := by rw [List.getD_eq_getElem?_getD, List.getElem?_eq_none h]; rfl
theorem val_top3 {a : List Nat} (hD : Dig a) {n : Nat} (hn : 3 ≤ n) (hl : a.length ≤ n) : ∃ r, r < 4294967296 ^ (n - 3) ∧ val a = r + 4294967296 ^ (n - 3) * (a.getD (n - 3) 0 + 4294967296 * (a.getD (n - 2) 0 + 4294967296 * a.getD (n - 1) 0)) := by
 refine ⟨val (a.take (n - 3)), ?_, ?_⟩
 ·refine Nat.lt_of_lt_of_le (val_lt (hD.take _)) (Nat.pow_le_pow_right (by omega) ?_)
  rw [List.length_take]; omega
 ·have h1 := val_splitD a (n - 3)
  have h2 := val_dropD a (n - 3)
  have h3 := val_dropD a (n - 3 + 1)
  have h4 := val_dropD a (n - 3 + 1 + 1)
  rw [List.drop_of_length_le (show a.length ≤ n - 3 + 1 + 1 + 1 by omega), val_nil] at h4
  rw [show n - 3 + 1 = n - 2 by omega] at *
  rw [show n - 2 + 1 = n - 1 by omega] at *
  rw [h4, Nat.mul_zero, Nat.add_zero] at h3
  rw [h3] at h2
  rw [h2] at h1
  exact h1
theorem val_top2 {a : List Nat} (hD : Dig a) {n : Nat} (hn : 2 ≤ n) (hl : a.length ≤ n) : ∃ r, r < 4294967296 ^ (n - 2) ∧ val a = r + 4294967296 ^ (n - 2) * (a.getD (n - 2) 0 + 4294967296 * a.getD (n - 1) 0) := by
 refine ⟨val (a.take (n - 2)), ?_, ?_⟩
 ·refine Nat.lt_of_lt_of_le (val_lt (hD.take _)) (Nat.pow_le_pow_right (by omega) ?_)
  rw [List.length_take]; omega
 ·have h1 := val_splitD a (n - 2)
  have h2 := val_dropD a (n - 2)
  have h3 := val_dropD a (n - 2 + 1)
  rw [List.drop_of_length_le (show a.length ≤ n - 2 + 1 + 1 by omega), val_nil] at h3
  rw [show n - 2 + 1 = n - 1 by omega] at *
  rw [h3, Nat.mul_zero, Nat.add_zero] at h2
  rw [h2] at h1
  exact h1
theorem dg_len_mono {a b : Nat} (h : a ≤ b) : (dg a).length ≤ (dg b).length := by
 rcases Nat.lt_or_ge (dg b).length (dg a).length with h1 | h1
 ·have := val_lt_of_len h1; omega
 ·exact h1
theorem dg2 {p : Nat} (h : p < 18446744073709551616) : val [p % 4294967296, p / 4294967296] = p ∧ Dig [p % 4294967296, p / 4294967296] := by
 refine ⟨by simp [val]; omega, fun x hx => ?_⟩
 simp at hx
 omega
theorem getD_is {a : List Nat} {k d : Nat} (h : a[k]? = some d) : a.getD k 0 = d := (getD_some h).symm
theorem lift_norm {y : List Nat} {s yt : Nat} (hD : Dig y) (hyt : y[y.length - 1]? = some yt) (hl : 1 ≤ y.length) (hs : s ≤ 31) (b3 : 2147483648 ≤ yt * 2 ^ s) (b4 : yt * 2 ^ s < 4294967296) : val y * 2 ^ s < 4294967296 ^ y.length ∧ 4294967296 ^ (y.length - 1) * 2147483648 ≤ val y * 2 ^ s := by
 have h1 := val_split y (y.length - 1) (by omega)
 have h2 := val_getD_drop hyt
 rw [List.drop_of_length_le (show y.length ≤ y.length - 1 + 1 by omega), val_nil, Nat.mul_zero, Nat.add_zero] at h2
 rw [h2] at h1
 have h3 := val_lt (hD.take (y.length - 1))
 rw [List.length_take, Nat.min_eq_left (by omega)] at h3
 have e : 4294967296 ^ y.length = 4294967296 ^ (y.length - 1) * 4294967296 := by rw [← Nat.pow_succ, Nat.succ_eq_add_one, show y.length - 1 + 1 = y.length by omega]
 rw [e]
 generalize 4294967296 ^ (y.length - 1) = p at *
 have hk : (yt + 1) * 2 ^ s ≤ 4294967296 := by
  have e2 : 4294967296 = 2 ^ s * 2 ^ (32 - s) := by rw [← Nat.pow_add, show s + (32 - s) = 32 by omega]
  rw [e2, Nat.mul_comm] at b4
  have := Nat.lt_of_mul_lt_mul_left b4
  rw [e2, Nat.mul_comm]
  exact Nat.mul_le_mul_left _ this
 have h4 : val y + 1 ≤ p * (yt + 1) := by rw [Nat.mul_add]; omega
 have h5 := Nat.mul_le_mul_right (2 ^ s) h4
 have h6 : p * ((yt + 1) * 2 ^ s) ≤ p * 4294967296 := Nat.mul_le_mul_left p hk
 rw [← Nat.mul_assoc] at h6
 have h7 : p * 2147483648 ≤ p * (yt * 2 ^ s) := Nat.mul_le_mul_left p b3
 have h8 : p * (yt * 2 ^ s) ≤ val y * 2 ^ s := by rw [← Nat.mul_assoc]; exact Nat.mul_le_mul_right _ (by omega)
 have h9 := Nat.two_pow_pos s
 rw [Nat.add_mul] at h5
 exact ⟨by omega, by omega⟩
theorem top_ge {v : List Nat} {k c d : Nat} (hD : Dig v) (hl : v.length = k + 1) (h : 4294967296 ^ k * c ≤ val v) (hd : v[k]? = some d) : c ≤ d := by
 have h1 := val_split v k (by omega)
 have h2 := val_getD_drop hd
 rw [List.drop_of_length_le (show v.length ≤ k + 1 by omega), val_nil, Nat.mul_zero, Nat.add_zero] at h2
 rw [h2] at h1
 have h3 := val_lt (hD.take k)
 rw [List.length_take, Nat.min_eq_left (by omega)] at h3
 generalize 4294967296 ^ k = p at *
 have h4 : p * c < p * (d + 1) := by rw [Nat.mul_add]; omega
 have := Nat.lt_of_mul_lt_mul_left h4
 omega
theorem dv_cut (o : List Nat) (j n : Nat) (h : j + n ≤ o.length) : ∃ A W C, A.length = j ∧ W.length = n ∧ o = A ++ W ++ C := by
 refine ⟨o.take j, (o.drop j).take n, (o.drop j).drop n, by simp; omega, by simp; omega, ?_⟩
 rw [List.append_assoc, List.take_append_drop, List.take_append_drop]
theorem dig_win {A W C : List Nat} (h : Dig (A ++ W ++ C)) : Dig A ∧ Dig W ∧ Dig C := by
 refine ⟨fun x hx => h x (by simp [hx]), fun x hx => h x (by simp [hx]), fun x hx => h x (by simp [hx])⟩
theorem dv_pre {A W C : List Nat} {j l V : Nat} (hA : A.length = j) (hW : W.length = l + 1) (hD : Dig (A ++ W ++ C)) (h : val ((A ++ W ++ C).drop (j + 1)) < V) (hV : V < 4294967296 ^ l) :
  val C = 0 ∧ val W < 4294967296 * V ∧ val ((A ++ W ++ C).take (j + 1)) + 4294967296 ^ (j + 1) * val ((A ++ W ++ C).drop (j + 1)) = val A + 4294967296 ^ j * val W := by
 have h1 := val_splitD (A ++ W ++ C) (j + 1)
 have h2 : val (A ++ W ++ C) = val A + 4294967296 ^ j * (val W + 4294967296 ^ (l + 1) * val C) := by
  rw [List.append_assoc, val_append, val_append, hA, hW]
 have h3 := val_dropD (A ++ W ++ C) j
 have h4 : (A ++ W ++ C).drop j = W ++ C := by
  rw [List.append_assoc, List.drop_append_of_le_length (by omega), List.drop_of_length_le (by omega)]; rfl
 have h5 := getD_lt hD j
 rw [h4, val_append, hW] at h3
 rw [Nat.pow_succ] at h3
 have h6 : val C = 0 := by
  rcases Nat.eq_zero_or_pos (val C) with h0 | h0
  ·exact h0
  ·have : 4294967296 ^ l * 4294967296 * 1 ≤ 4294967296 ^ l * 4294967296 * val C := Nat.mul_le_mul_left _ h0
   omega
 rw [h6, Nat.mul_zero, Nat.add_zero] at h3
 refine ⟨h6, by omega, ?_⟩
 rw [← h1, h2, h6, Nat.mul_zero, Nat.add_zero]
theorem dv_post {A W C : List Nat} {j : Nat} (hA : A.length = j) (hC : val C = 0) : val ((A ++ W ++ C).drop j) = val W ∧ val ((A ++ W ++ C).take j) = val A := by
 rw [List.append_assoc, List.drop_append_of_le_length (by omega), List.drop_of_length_le (by omega), List.take_append_of_le_length (by omega), List.take_of_length_le (by omega), List.nil_append, val_append, hC]
 simp
theorem dv_next {U VA P Q q V W R : Nat} (h : U = VA + P * W + P * 4294967296 * (Q * V)) (h2 : W = q * V + R) : U = VA + P * ((q + 4294967296 * Q) * V + R) := by
 rw [h, h2]; grind
section
variable {a b : Nat} {K : AV → Prop}
theorem OpP.nor8 (n : Nat) (hx : a % 2 ^ n = 0) (hy : b < 2 ^ n) (h : a + b ≤ 18446744073709551615) (hk : K (.int .u64 ((a + b : Nat) : Int))) : OpP .or .u64 (a : Int) .u64 (b : Int) K :=
 OpP.norv n hx hy (show a + b < 18446744073709551616 by omega) (IntWalk.u64_in _ (by omega)) hk
theorem OpP.nor8r (n : Nat) (hx : b % 2 ^ n = 0) (hy : a < 2 ^ n) (h : a + b ≤ 18446744073709551615) (hk : K (.int .u64 ((a + b : Nat) : Int))) : OpP .or .u64 (a : Int) .u64 (b : Int) K := by
 have e : intBin .or .u64 (a : Int) .u64 (b : Int) = intBin .or .u64 (b : Int) .u64 (a : Int) := by
  simp only [intBin, if_true, BitVec.or_comm]
 rw [Nat.add_comm] at hk h
 have hh := OpP.nor8 (K := K) n hx hy h hk
 unfold OpP at hh ⊢
 rw [e]
 exact hh
end
theorem OpP.naddB {a : Nat} {K : AV → Prop} (h : a ≤ 18446744069414584319) (hk : K (.int .u64 ((a + 4294967296 : Nat) : Int))) : OpP .add .u64 (a : Int) .u64 4294967296 K :=
 OpP.nadd (b := 4294967296) (by omega) hk
theorem LdR.dat {l : List Nat} {i e : Nat} {K : List AV → Prop} (he : l[i]? = some e) (h : K (e32 e)) : LdR (l.map e32) (0 + ((i : Int)).toNat) 0 1 K :=
 LdR.at (e := e) (by rw [Nat.zero_add, Int.toNat_natCast]; exact he) rfl h
theorem LdR.dai {l : List Nat} {i : Int} {e : Nat} {K : List AV → Prop} (he : l[i.toNat]? = some e) (h : K (e32 e)) : LdR (l.map e32) (0 + i.toNat) 0 1 K :=
 LdR.at (e := e) (by rw [Nat.zero_add]; exact he) rfl h
theorem LdR.winat {A w C : List Nat} {i e : Nat} {K : List AV → Prop} (n : Nat) (he : w[n]? = some e) (hi : i = A.length + n) (h : K (e32 e)) : LdR ((A ++ w ++ C).map e32) i 0 1 K := by
 have hn := (List.getElem?_eq_some_iff.1 he).1
 exact LdR.at (e := e) (by rw [win_get hi hn]; exact he) rfl h
end Go.Eng
namespace Go.Eng
open F
attribute [local irreducible] AKM CmpP Req OpP UnP ConvP RdP LdR StR MkR LenP AppR AppN CpyR RowP SnR Bds SlS CallP CalP FinP pw LdM GetM SetM PutM MkM AppM SnM FlP CallR
set_option maxHeartbeats 4000000
variable {L : Lib}
abbrev dvTM (v : List Nat) (j m s xl : Nat) : Tm := [(102, AV.sl false (List.map e32 v)), (101, AV.row 71012 0 1 j (v.length + 1)),
           (100, AV.int IntKind.i64 (↑j + ↑v.length + 1)), (99, AV.int IntKind.i64 (↑j + ↑v.length)),
           (98, AV.int IntKind.i64 ↑v.length), (97, AV.int IntKind.i64 ↑j), (96, AV.int IntKind.i64 ↑j),
           (95, AV.row 71012 0 1 0 (xl + 1)), (94, AV.int IntKind.i64 ↑j), (93, AV.row 28 0 1 0 m),
           (90, AV.bool true), (14, AV.int IntKind.i64 ↑j), (13, AV.sl false (List.map e32 v)),
           (12, AV.row 71012 0 1 0 (xl + 1)), (11, AV.int IntKind.u64 ↑s), (7, AV.row 28 0 1 0 m),
           (6, AV.int IntKind.i64 ↑v.length)]
abbrev dvK2 : List It := [It.lp nat_digit.l2, It.blk 2, It.code
      (((ACode.ops nat_digit.r18 false).dr [9, 10, 84, 85, 86, 87, 118, 119, 120, 121, 122, 123, 124, 125, 126]
         []).seq
       (((ACode.ops nat_digit.r19 false).dr [127, 128, 129, 130, 131] []).seq
        ((((ACode.ops nat_digit.r20 false).dr [15, 132, 133] []).seq
           (ACode.cond 134
            (((ACode.ops nat_digit.r21 false).dr [0, 1, 5, 7, 134, 135, 136] []).seq ACode.ret)
            ACode.skip)).seq
         (((ACode.ops nat_digit.r22 false).dr [134] []).seq
          ((((ACode.ops nat_digit.r23 false).dr [1] []).seq (ACode.block 4 nat_digit.l3.loop)).seq
           (((ACode.ops nat_digit.r30 false).dr
              [0, 5, 9, 137, 138, 139, 140, 162, 163, 164, 165, 166, 167, 168, 169] []).seq
            (((ACode.ops nat_digit.r31 false).dr [7, 170, 171, 172] []).seq ACode.ret)))))))]
section
variable {A W C w v : List Nat} {j m s xl q : Nat} {K : AV → Mem → Prop}
theorem digit_rest (hA : A.length = j) (hW : W.length = v.length + 1) (D2 : Dig W) (hVD : Dig v) (hv2l : 2 ≤ v.length) (hvL : v.length ≤ 549755813888) (hV0 : 0 < val v)
  (r1 : q < 4294967296) (r2 : val W / val v ≤ q) (r3 : q ≤ val W / val v + 1)
  (hk : ∀ (W' : List Nat) (o' : List (List AV)) (q' : Nat), W'.length = v.length + 1 → Dig W' → val W' = val W % val v → q' = val W / val v → K (.int .u32 (q' : Int)) [(71012, 71012, .rw 1 ((A ++ W' ++ C).map e32)), (28, 28, .rw 1 (w.map e32)), (71012, 71012, .rw 1 o')])
  (hk2 : ∀ (W' : List Nat) (o' : List (List AV)) (q' : Nat), W'.length = v.length + 1 → Dig W' → val W' = val W % val v → q' = val W / val v → K (.int .u32 (q' : Int)) [(71012, 71012, .rw 1 ((A ++ W' ++ C).map e32)), (71012, 71012, .rw 1 o'), (28, 28, .rw 1 (w.map e32))]) :
  AKM L dvK2 ([(86, .int .i64 0), (85, .int .i64 v.length), (84, .sl false (v.map e32)), (10, .int .u64 0), (9, .int .u64 0), (7, .int .u64 (q : Int)), (5, .int .i64 v.length), (0, AV.row 71012 0 1 j (v.length + 1)), (1, AV.sl false (List.map e32 v))] ++ shT 1000 (dvTM v j m s xl))
   [(71012, 71012, Cel.rw 1 (List.map e32 (A ++ W ++ C))), (28, 28, Cel.rw 1 (List.map e32 w))] (RetI 1000 nat_digit (dvTM v j m s xl) K) := by
 refine AKM.loop4 (fun i _ _ _ => v.length - i) (fun (i : Nat) (Z : List Nat) (c b : Nat) => i ≤ v.length ∧ Z.length = v.length + 1 ∧ Dig Z ∧ c < 4294967296 ∧ b ≤ 1 ∧ Z.drop i = W.drop i ∧ val (Z.take i) + q * val (v.take i) = val (W.take i) + 4294967296 ^ i * (c + b)) (fun i Z c b => [(86, .int .i64 i), (10, .int .u64 (b : Int)), (9, .int .u64 (c : Int))]) (fun i Z c b => [(71012, 71012, .rw 1 ((A ++ Z ++ C).map e32))]) [] [] 0 W 0 0 (by (conv => whnf); exact ⟨rfl, rfl, rfl⟩) ⟨by omega, hW, D2, by omega, by omega, rfl, by simp [val]⟩ ?_
 intro i Z c b ⟨p1, p2, p3, p4, p5, p6, p7⟩ ih
 by_cases hi : i < v.length
 ·obtain ⟨d, hd⟩ : ∃ d, v[i]? = some d := ⟨_, List.getElem?_eq_getElem hi⟩
  obtain ⟨u, hu⟩ : ∃ u, Z[i]? = some u := ⟨_, List.getElem?_eq_getElem (by omega)⟩
  have hdb := hVD.at hd
  have hub := p3.at hu
  obtain ⟨pr, hpr⟩ : ∃ pr, pr = q * d + c := ⟨_, rfl⟩
  obtain ⟨m1, m2, m3⟩ := ms_carry r1 hdb p4 hpr
  have hWi : W[i]? = some u := by
   have e1 : (Z.drop i)[0]? = (W.drop i)[0]? := by rw [p6]
   simpa [hu] using e1.symm
  (repeat' (first | (refine CmpP.go (fun hc => ?_) (fun hc => ?_) <;> first | (exfalso; omega) | (conv => whnf)) | (refine Req.go (by omega) ?_; conv => whnf) | (refine OpP.nadd (by omega) ?_; conv => whnf) | (refine OpP.nmul (by omega) ?_; conv => whnf) | (refine OpP.nshr32 ?_; conv => whnf) | (refine ConvP.u64 (by omega) ?_; conv => whnf) | (refine RdP.at (by assumption) (by omega) rfl ?_; conv => whnf) | (refine AKM.x ?_; conv => whnf)))
  rw [← hpr]
  refine LdR.winat i hu (by omega) ?_
  (conv => whnf)
  (repeat' (first | (refine Req.go (by omega) ?_; conv => whnf) | (refine OpP.nsubw (by omega) ?_; conv => whnf) | (refine ConvP.u64 (by omega) ?_; conv => whnf) | (refine ConvP.n32 ?_; conv => whnf)))
  obtain ⟨s1, s2⟩ := sub_step hub (show pr % 4294967296 < 4294967296 by omega) p5
  have hst := ms_step p7 hpr rfl hub p5
  generalize w64s (w64s u (pr % 4294967296)) b = t at *
  refine StR.win i (by omega) (by omega) ?_
  (conv => whnf)
  (repeat' (first | (refine OpP.add (by omega) ?_; conv => whnf) | (refine OpP.nshr63 ?_; conv => whnf)))
  refine AKM.back [] (by (conv => whnf); exact ⟨rfl, rfl, rfl⟩) (ih (i + 1) _ _ _ (by omega) ⟨by omega, by simpa using p2, p3.set _ (by omega), m1, s2, ?_, ?_⟩)
  ·rw [List.drop_set_of_lt (by omega)]
   have e1 : (Z.drop i).drop 1 = (W.drop i).drop 1 := by rw [p6]
   simpa using e1
  ·rw [val_set_take (by omega), val_take_succ hd, val_take_succ hWi, Nat.pow_succ]
   exact hst
 ·obtain rfl : i = v.length := by omega
  clear ih
  obtain ⟨u, hu⟩ : ∃ u, Z[v.length]? = some u := ⟨_, List.getElem?_eq_getElem (by omega)⟩
  have hub := p3.at hu
  have hWi : W[v.length]? = some u := by
   have e1 : (Z.drop v.length)[0]? = (W.drop v.length)[0]? := by rw [p6]
   simpa [hu] using e1.symm
  rw [val_take_all (Nat.le_refl v.length)] at p7
  obtain ⟨s1, s2⟩ := sub_step hub p4 p5
  have hst := ms_last p7 rfl hub p4 p5
  have eW : val W = val (W.take v.length) + 4294967296 ^ v.length * u := by
   rw [← val_take_succ hWi, val_take_all (by omega)]
  rw [← eW, ← val_set_take (show v.length < Z.length by omega), val_take_all (by simp; omega)] at hst
  (repeat' (first | (refine CmpP.go (fun hc => ?_) (fun hc => ?_) <;> first | (exfalso; omega) | (conv => whnf)) | (refine Req.go (by omega) ?_; conv => whnf) | (refine AKM.x ?_; conv => whnf)))
  refine LdR.winat v.length hu (by omega) ?_
  (conv => whnf)
  (repeat' (first | (refine Req.go (by omega) ?_; conv => whnf) | (refine OpP.nsubw (by omega) ?_; conv => whnf) | (refine ConvP.u64 (by omega) ?_; conv => whnf) | (refine ConvP.n32 ?_; conv => whnf)))
  generalize w64s (w64s u c) b = t at *
  refine StR.win v.length (by omega) (by omega) ?_
  (conv => whnf)
  (repeat' (first | (refine CmpP.go (fun hc => ?_) (fun hc => ?_) <;> first | (exfalso; omega) | (conv => whnf)) | (refine OpP.nshr63 ?_; conv => whnf) | (refine ConvP.n32i (by omega) ?_; conv => whnf) | (refine LenP.go ?_; conv => whnf)))
  ·have ht0 : t / 9223372036854775808 = 0 := by omega
   rw [ht0, Nat.mul_zero, Nat.add_zero] at hst
   obtain ⟨y1, y2⟩ := digit_ok hV0 r2 hst
   exact ⟨rfl, _, rfl, hk _ _ _ (by simpa using p2) (p3.set _ (by omega)) y2 y1⟩
  ·have ht1 : t / 9223372036854775808 = 1 := by omega
   rw [ht1, Nat.mul_one] at hst
   have hXD : Dig (Z.set v.length (t % 4294967296)) := p3.set _ (by omega)
   have hXl : (Z.set v.length (t % 4294967296)).length = v.length + 1 := by simpa using p2
   clear p7 p6 p4 p5 s1 s2 eW ht1 hu hWi hub p1 p2 p3
   generalize Z.set v.length (t % 4294967296) = X at *
   have hU' := val_lt hXD
   rw [hXl, Nat.pow_succ] at hU'
   obtain ⟨y1, y2, y3⟩ := digit_back hV0 r3 hU' hst
   have hRV : val W % val v < val v := Nat.mod_lt _ hV0
   have hVl := val_lt hVD
   obtain ⟨xw, hxw⟩ : ∃ xw, X[v.length]? = some xw := ⟨_, List.getElem?_eq_getElem (by omega)⟩
   have eX : val X = val (X.take v.length) + 4294967296 ^ v.length * xw := by
    rw [← val_take_succ hxw, val_take_all (by omega)]
   refine AKM.loop3 (fun i _ _ => v.length - i) (fun (i : Nat) (Z : List Nat) (c : Nat) => i ≤ v.length ∧ Z.length = v.length + 1 ∧ Dig Z ∧ c ≤ 1 ∧ Z.drop i = X.drop i ∧ val (Z.take i) + 4294967296 ^ i * c = val (X.take i) + val (v.take i)) (fun i Z c => [(139, .int .i64 i), (9, .int .u64 (c : Int))]) (fun i Z c => [(71012, 71012, .rw 1 ((A ++ Z ++ C).map e32))]) [] [] 0 X 0 (by (conv => whnf); exact ⟨rfl, rfl, rfl⟩) ⟨by omega, hXl, hXD, by omega, rfl, by simp [val]⟩ ?_
   intro i Z c ⟨p1, p2, p3, p4, p6, p7⟩ ih
   by_cases hi : i < v.length
   ·obtain ⟨d, hd⟩ : ∃ d, v[i]? = some d := ⟨_, List.getElem?_eq_getElem hi⟩
    obtain ⟨u, hu⟩ : ∃ u, Z[i]? = some u := ⟨_, List.getElem?_eq_getElem (by omega)⟩
    have hdb := hVD.at hd
    have hub := p3.at hu
    have hXi : X[i]? = some u := by
     have e1 : (Z.drop i)[0]? = (X.drop i)[0]? := by rw [p6]
     simpa [hu] using e1.symm
    have hab := ab_step (d := d) (w := u) p7 rfl
    (repeat' (first | (refine CmpP.go (fun hc => ?_) (fun hc => ?_) <;> first | (exfalso; omega) | (conv => whnf)) | (refine Req.go (by omega) ?_; conv => whnf) | (refine RdP.at (by assumption) (by omega) rfl ?_; conv => whnf) | (refine AKM.x ?_; conv => whnf)))
    refine LdR.winat i hu (by omega) ?_
    (conv => whnf)
    (repeat' (first | (refine Req.go (by omega) ?_; conv => whnf) | (refine OpP.nadd (by omega) ?_; conv => whnf) | (refine ConvP.u64 (by omega) ?_; conv => whnf) | (refine ConvP.n32 ?_; conv => whnf)))
    generalize ht2 : u + d + c = t2 at *
    refine StR.win i (by omega) (by omega) ?_
    (conv => whnf)
    (repeat' (first | (refine OpP.add (by omega) ?_; conv => whnf) | (refine OpP.nshr32 ?_; conv => whnf)))
    refine AKM.back [] (by (conv => whnf); exact ⟨rfl, rfl, rfl⟩) (ih (i + 1) _ _ (by omega) ⟨by omega, by simpa using p2, p3.set _ (by omega), by omega, ?_, ?_⟩)
    ·rw [List.drop_set_of_lt (by omega)]
     have e1 : (Z.drop i).drop 1 = (X.drop i).drop 1 := by rw [p6]
     simpa using e1
    ·rw [val_set_take (by omega), val_take_succ hd, val_take_succ hXi, Nat.pow_succ]
     exact hab
   ·obtain rfl : i = v.length := by omega
    clear ih
    obtain ⟨u, hu⟩ : ∃ u, Z[v.length]? = some u := ⟨_, List.getElem?_eq_getElem (by omega)⟩
    have hub := p3.at hu
    have hXi : X[v.length]? = some u := by
     have e1 : (Z.drop v.length)[0]? = (X.drop v.length)[0]? := by rw [p6]
     simpa [hu] using e1.symm
    rw [hXi] at hxw
    obtain rfl : u = xw := by simpa using hxw
    rw [val_take_all (Nat.le_refl v.length)] at p7
    have hZl := val_lt (p3.take v.length)
    rw [List.length_take, Nat.min_eq_left (by omega)] at hZl
    rw [eX] at y3
    have hend := ab_last p7 y3 (by omega) hZl
    rw [← val_set_take (show v.length < Z.length by omega), val_take_all (by simp; omega)] at hend
    (repeat' (first | (refine CmpP.go (fun hc => ?_) (fun hc => ?_) <;> first | (exfalso; omega) | (conv => whnf)) | (refine Req.go (by omega) ?_; conv => whnf) | (refine AKM.x ?_; conv => whnf)))
    refine LdR.winat v.length hu (by omega) ?_
    (conv => whnf)
    (repeat' (first | (refine Req.go (by omega) ?_; conv => whnf) | (refine OpP.nadd4 ?_; conv => whnf) | (refine ConvP.n32i (by omega) ?_; conv => whnf)))
    refine StR.win v.length (by omega) (by omega) ?_
    (conv => whnf)
    (repeat' (first | (refine OpP.nsub (by omega) (by omega) ?_; conv => whnf) | (refine ConvP.n32i (by omega) ?_; conv => whnf)))
    exact ⟨rfl, _, rfl, hk2 _ _ _ (by simpa using p2) (p3.set _ (by omega)) hend y1⟩
theorem digit_walk (N : NatGLib L) (hA : A.length = j) (hW : W.length = v.length + 1) (D2 : Dig W) (hVD : Dig v) (hv2l : 2 ≤ v.length) (hvL : v.length ≤ 549755813888) (hV0 : 0 < val v)
  (n2 : 4294967296 ^ (v.length - 1) * 2147483648 ≤ val v) (g2 : val W < 4294967296 * val v)
  (hk : ∀ (W' : List Nat) (o' : List (List AV)) (q' : Nat), W'.length = v.length + 1 → Dig W' → val W' = val W % val v → q' = val W / val v → K (.int .u32 (q' : Int)) [(71012, 71012, .rw 1 ((A ++ W' ++ C).map e32)), (28, 28, .rw 1 (w.map e32)), (71012, 71012, .rw 1 o')])
  (hk2 : ∀ (W' : List Nat) (o' : List (List AV)) (q' : Nat), W'.length = v.length + 1 → Dig W' → val W' = val W % val v → q' = val W / val v → K (.int .u32 (q' : Int)) [(71012, 71012, .rw 1 ((A ++ W' ++ C).map e32)), (71012, 71012, .rw 1 o'), (28, 28, .rw 1 (w.map e32))]) :
  CalP L 73 [AV.row 71012 0 1 j (v.length + 1), AV.sl false (List.map e32 v)] (dvTM v j m s xl) [(71012, 71012, Cel.rw 1 (List.map e32 (A ++ W ++ C))), (28, 28, Cel.rw 1 (List.map e32 w))] K := by
 obtain ⟨UL, a1, a2⟩ := val_top3 D2 (n := v.length + 1) (by omega) (by omega)
 obtain ⟨VL, b5, b6⟩ := val_top2 hVD (n := v.length) hv2l (by omega)
 obtain ⟨u0, w0⟩ : ∃ d, W[v.length]? = some d := ⟨_, List.getElem?_eq_getElem (by omega)⟩
 obtain ⟨u1, w1⟩ : ∃ d, W[v.length - 1]? = some d := ⟨_, List.getElem?_eq_getElem (by omega)⟩
 obtain ⟨u2, w2⟩ : ∃ d, W[v.length - 2]? = some d := ⟨_, List.getElem?_eq_getElem (by omega)⟩
 obtain ⟨f1, x1⟩ : ∃ d, v[v.length - 1]? = some d := ⟨_, List.getElem?_eq_getElem (by omega)⟩
 obtain ⟨f2, x2⟩ : ∃ d, v[v.length - 2]? = some d := ⟨_, List.getElem?_eq_getElem (by omega)⟩
 rw [show v.length + 1 - 3 = v.length - 2 by omega, show v.length + 1 - 2 = v.length - 1 by omega, show v.length + 1 - 1 = v.length by omega, getD_is w0, getD_is w1, getD_is w2] at a2
 rw [show v.length + 1 - 3 = v.length - 2 by omega] at a1
 rw [getD_is x1, getD_is x2] at b6
 have hf1 := top_ge hVD (k := v.length - 1) (by omega) n2 x1
 have k0 := D2.at w0
 have k1 := D2.at w1
 have k2 := D2.at w2
 have k3 := hVD.at x1
 have k4 := hVD.at x2
 have z1 : v[((v.length : Int) - 1).toNat]? = some f1 := by rw [show ((v.length : Int) - 1).toNat = v.length - 1 by omega]; exact x1
 have z2 : v[((v.length : Int) - 2).toNat]? = some f2 := by rw [show ((v.length : Int) - 2).toNat = v.length - 2 by omega]; exact x2
 refine CalP.walk 1000 N.nat_digit rfl rfl ?_
 (repeat' (first | (refine Req.go (by omega) ?_; conv => whnf) | (refine LenP.go ?_; conv => whnf) | (refine AKM.x ?_; conv => whnf)))
 refine LdR.winat v.length w0 (by omega) ?_
 (conv => whnf)
 (repeat' (first | (refine Req.go (by omega) ?_; conv => whnf) | (refine OpP.sub (by omega) ?_; conv => whnf) | (refine OpP.nshl32 (by omega) ?_; conv => whnf) | (refine ConvP.u64 (by omega) ?_; conv => whnf)))
 refine LdR.winat (v.length - 1) w1 (by omega) ?_
 (conv => whnf)
 refine ConvP.n64 (by omega) ?_
 (conv => whnf)
 refine OpP.nor (by omega) ?_
 (conv => whnf)
 generalize htop : u0 * 4294967296 + u1 = top at *
 have htb : top ≤ 18446744073709551615 := by omega
 have hU : val W = UL + 4294967296 ^ (v.length - 2) * (u2 + 4294967296 * top) := by rw [a2, show u1 + 4294967296 * u0 = top by omega]
 (repeat' (first | (refine OpP.sub (by omega) ?_; conv => whnf) | (refine OpP.nrem (by omega) ?_; conv => whnf) | (refine OpP.nquo (by omega) (by omega) ?_; conv => whnf) | (refine ConvP.u64 (by omega) ?_; conv => whnf) | (refine RdP.at (by assumption) (by omega) rfl ?_; conv => whnf)))
 refine AKM.loop2 (fun q _ => q) (fun (q r : Nat) => Gs (val W) (val v) f1 f2 u2 top q r) (fun q r => [(7, .int .u64 (q : Int)), (8, .int .u64 (r : Int))]) (fun _ _ => []) [] [] (top / f1) (top % f1) (by (conv => whnf); exact ⟨rfl, rfl, rfl⟩) (Gs.start hU b6 a1 k2 hV0 (by omega) k3) ?_
 intro q r g ih2
 have hqt : q ≤ top := by
  have h3 := g.hq
  have h4 : q * 1 ≤ q * f1 := Nat.mul_le_mul_left q (by omega)
  omega
 have hr := g.hr
 have hge := g.ge
 by_cases hb : 4294967296 ≤ q
 ·obtain ⟨y1, y2, y3⟩ := g.next hU b6 a1 hV0 g2 (Or.inl hb)
  (repeat' (first | (refine CmpP.go (fun hc => ?_) (fun hc => ?_) <;> first | (exfalso; omega) | (conv => whnf)) | (refine OpP.sub (by omega) ?_; conv => whnf) | (refine OpP.nadd (by omega) ?_; conv => whnf) | (refine OpP.nsub (by omega) (by omega) ?_; conv => whnf) | (refine ConvP.u64 (by omega) ?_; conv => whnf) | (refine LenP.go ?_; conv => whnf) | (refine RdP.at (by assumption) (by omega) rfl ?_; conv => whnf) | (refine AKM.x ?_; conv => whnf)))
  ·obtain ⟨t1, t2⟩ := guess_stop hU b6 b5 hf1 k4 g2 y2 (Or.inr (by omega))
   exact AKM.back [] (by (conv => whnf); exact ⟨rfl, rfl, rfl⟩) (digit_rest (w := w) (C := C) hA hW D2 hVD hv2l hvL hV0 t1 y3 t2 hk hk2)
  ·exact AKM.back [] (by (conv => whnf); exact ⟨rfl, rfl, rfl⟩) (ih2 (q - 1) (r + f1) (by omega) ⟨y2, by omega, y3⟩)
 ·have hmq := mul_le_dig (show q < 4294967296 by omega) k4
  by_cases hb2 : r * 4294967296 + u2 < q * f2
  ·obtain ⟨y1, y2, y3⟩ := g.next hU b6 a1 hV0 g2 (Or.inr hb2)
   (repeat' (first | (refine CmpP.go (fun hc => ?_) (fun hc => ?_) <;> first | (exfalso; omega) | (conv => whnf)) | (refine Req.go (by omega) ?_; conv => whnf) | (refine OpP.sub (by omega) ?_; conv => whnf) | (refine OpP.nmul (by omega) ?_; conv => whnf) | (refine OpP.nshl32 (by omega) ?_; conv => whnf) | (refine ConvP.u64 (by omega) ?_; conv => whnf) | (refine RdP.at (by assumption) (by omega) rfl ?_; conv => whnf) | (refine AKM.x ?_; conv => whnf)))
   refine LdR.winat (v.length - 2) w2 (by omega) ?_
   (conv => whnf)
   (repeat' (first | (refine CmpP.go (fun hc => ?_) (fun hc => ?_) <;> first | (exfalso; omega) | (conv => whnf)) | (refine OpP.sub (by omega) ?_; conv => whnf) | (refine OpP.nadd (by omega) ?_; conv => whnf) | (refine OpP.nor (by omega) ?_; conv => whnf) | (refine OpP.nsub (by omega) (by omega) ?_; conv => whnf) | (refine ConvP.u64 (by omega) ?_; conv => whnf) | (refine LenP.go ?_; conv => whnf) | (refine RdP.at (by assumption) (by omega) rfl ?_; conv => whnf)))
   ·obtain ⟨t1, t2⟩ := guess_stop hU b6 b5 hf1 k4 g2 y2 (Or.inr (by omega))
    exact AKM.back [] (by (conv => whnf); exact ⟨rfl, rfl, rfl⟩) (digit_rest (w := w) (C := C) hA hW D2 hVD hv2l hvL hV0 t1 y3 t2 hk hk2)
   ·exact AKM.back [] (by (conv => whnf); exact ⟨rfl, rfl, rfl⟩) (ih2 (q - 1) (r + f1) (by omega) ⟨y2, by omega, y3⟩)
  ·obtain ⟨t1, t2⟩ := guess_stop hU b6 b5 hf1 k4 g2 g.hq (Or.inl ⟨by omega, by omega⟩)
   (repeat' (first | (refine CmpP.go (fun hc => ?_) (fun hc => ?_) <;> first | (exfalso; omega) | (conv => whnf)) | (refine Req.go (by omega) ?_; conv => whnf) | (refine OpP.sub (by omega) ?_; conv => whnf) | (refine OpP.nmul (by omega) ?_; conv => whnf) | (refine OpP.nshl32 (by omega) ?_; conv => whnf) | (refine ConvP.u64 (by omega) ?_; conv => whnf) | (refine RdP.at (by assumption) (by omega) rfl ?_; conv => whnf) | (refine AKM.x ?_; conv => whnf)))
   refine LdR.winat (v.length - 2) w2 (by omega) ?_
   (conv => whnf)
   (repeat' (first | (refine CmpP.go (fun hc => ?_) (fun hc => ?_) <;> first | (exfalso; omega) | (conv => whnf)) | (refine OpP.nor (by omega) ?_; conv => whnf) | (refine ConvP.u64 (by omega) ?_; conv => whnf) | (refine LenP.go ?_; conv => whnf)))
   exact AKM.back [] (by (conv => whnf); exact ⟨rfl, rfl, rfl⟩) (digit_rest (w := w) (C := C) hA hW D2 hVD hv2l hvL hV0 t1 hge t2 hk hk2)
end
end Go.Eng

namespace Go.Eng
open F
attribute [local irreducible] AKM CmpP Req OpP UnP ConvP RdP LdR StR MkR LenP AppR AppN CpyR RowP SnR Bds SlS CallP CalP FinP pw LdM GetM SetM PutM MkM AppM SnM FlP CallR
set_option maxHeartbeats 4000000
variable {L : Lib}
theorem small_step {V R y d t Q : Nat} (h : Q * y + R = V) (ht : t = R * 4294967296 + d) : (t / y + 4294967296 * Q) * y + t % y = d + 4294967296 * V := by
 have := Nat.div_add_mod t y
 rw [← h, Nat.add_mul]
 have e : t / y * y = y * (t / y) := Nat.mul_comm _ _
 grind
theorem cl_pair (a b : List Nat) : Clean (.tup [.sl false (a.map e32), .sl false (b.map e32)]) := by
 simp only [Clean, CleanL, and_true, true_and]
 exact ⟨cl_dig a, cl_dig b⟩
set_option maxHeartbeats 4000000 in
theorem ev_nat_divide (N : NatGLib L) (X Y : Nat) (q1 q2 : Bool) (hY : Y ≠ 0) (lx : (dg X).length ≤ 549755813888) (ly : (dg Y).length ≤ 549755813888) : Ev L 74 [.sl q1 ((dg X).map e32), .sl q2 ((dg Y).map e32)] (.tup [.sl false ((dg (X / Y)).map e32), .sl false ((dg (X % Y)).map e32)]) := by
 have hcmp := fun q q' => ev_nat_Compare N (dg X) (dg Y) q q' (dig_dg X) (dig_dg Y) (by omega) (by omega)
 rw [val_dg, val_dg] at hcmp
 have d1 := dig_dg X
 have d2 := dig_dg Y
 have v1 := val_dg X
 have v2 := val_dg Y
 have hy1 := dg_len_pos hY
 refine Ev.x N.nat_divide rfl rfl ?_
 by_cases hlt : X < Y
 ·have hn : cmpS X Y = -1 := (cmpS_lt (by omega)).symm
  rw [hn] at hcmp
  (repeat' (first | (refine CmpP.go (fun hc => ?_) (fun hc => ?_) <;> first | (exfalso; omega) | (conv => whnf)) | (refine AKM.x ?_; conv => whnf) | (refine CallP.go (hcmp _ _) ?_; conv => whnf) | (refine CallP.go (ev_Clone N (dg X) _ (by omega)) ?_; conv => whnf)))
  refine FinP.go ?_ (cl_pair _ _)
  rw [Nat.div_eq_of_lt hlt, Nat.mod_eq_of_lt hlt, dg_zero]; rfl
 have hge : 0 ≤ cmpS X Y := by unfold cmpS; split <;> (try split) <;> omega
 have hll := dg_len_mono (show Y ≤ X by omega)
 generalize cmpS X Y = cm at *
 by_cases h1 : (dg Y).length = 1
 ·-- one digit
  obtain ⟨y0, hy0⟩ : ∃ y0, dg Y = [y0] := List.length_eq_one_iff.1 h1
  have hyv : Y = y0 := by rw [← v2, hy0]; simp [val]
  subst hyv
  have hyb : Y < 4294967296 := d2 Y (by rw [hy0]; simp)
  have hyg : (dg Y)[0]? = some Y := by rw [hy0]; rfl
  clear hy0 v2
  generalize dg Y = y at *
  generalize hx : dg X = x at *
  (repeat' (first | (refine CmpP.go (fun hc => ?_) (fun hc => ?_) <;> first | (exfalso; omega) | (conv => whnf)) | (refine OpP.add (by omega) ?_; conv => whnf) | (refine OpP.sub (by omega) ?_; conv => whnf) | (refine LenP.go ?_; conv => whnf) | (refine AKM.x ?_; conv => whnf) | (refine CallP.go (hcmp _ _) ?_; conv => whnf)))
  refine MkR.go (enc := e32) 0 x.length rfl (by omega) (by omega) ?_
  (conv => whnf)
  (repeat' (first | (refine CmpP.go (fun hc => ?_) (fun hc => ?_) <;> first | (exfalso; omega) | (conv => whnf)) | (refine OpP.sub (by omega) ?_; conv => whnf) | (refine LenP.go ?_; conv => whnf)))
  refine AKM.loop3 (fun n _ _ => n) (fun (n : Nat) (o : List Nat) (r : Nat) => n ≤ x.length ∧ o.length = x.length ∧ Dig o ∧ r < Y ∧ val (o.drop n) * Y + r = val (x.drop n)) (fun n o r => [(8, .int .u64 (r : Int)), (9, .int .i64 ((n : Int) - 1))]) (fun n o r => [(28, 28, .rw 1 (o.map e32))]) [] [] x.length (List.replicate x.length 0) 0 (by (conv => whnf); exact ⟨rfl, rfl, rfl⟩) ⟨by omega, by simp, dig_zeros _, by omega, by rw [List.drop_of_length_le (Nat.le_refl _), List.drop_of_length_le (by simp)]; simp [val]⟩ ?_
  intro n o r ⟨p1, p2, p3, p4, p5⟩ ih
  rcases n with _ | n
  ·rw [List.drop_zero, List.drop_zero] at p5
   have hq : X / Y = val o ∧ X % Y = r := by
    rw [← v1, ← p5]
    have e1 : (val o * Y + r) / Y = val o := by
     rw [Nat.mul_comm, Nat.mul_add_div (by omega), Nat.div_eq_of_lt p4, Nat.add_zero]
    have e2 : (val o * Y + r) % Y = r := by
     rw [Nat.mul_comm, Nat.mul_add_mod, Nat.mod_eq_of_lt p4]
    exact ⟨e1, e2⟩
   rw [hq.1, hq.2, ← p2]
   clear ih hq p5
   have hl1 := dg_len_val p3
   have hr1 : Dig [r] := dig_one (by omega)
   have hl2 := dg_len_val hr1
   have hv1 : val [r] = r := by simp [val]
   have hl3 : [r].length = 1 := rfl
   (repeat' (first | (refine CmpP.go (fun hc => ?_) (fun hc => ?_) <;> first | (exfalso; omega) | (conv => whnf)) | (refine ConvP.n32i (by omega) ?_; conv => whnf) | (refine AKM.x ?_; conv => whnf) | (refine CalP.cutR N (by assumption) (by omega) rfl (by first | rfl | omega | assumption) ?_; conv => whnf)))
   refine SnR.part (enc := e32) (fun _ => rfl) (by omega) ?_
   (conv => whnf)
   refine SnR.part (enc := e32) (l := [r]) (fun _ => rfl) (by omega) ?_
   (conv => whnf)
   refine FinP.go ?_ (cl_pair _ _)
   rw [List.drop_zero, List.drop_zero, take_dg p3, take_dg hr1, hv1]
  ·have e1 : ((n + 1 : Nat) : Int) - 1 = n := by omega
   rw [e1]
   obtain ⟨d, hd⟩ : ∃ d, x[n]? = some d := ⟨_, List.getElem?_eq_getElem (by omega)⟩
   have hdb := d1.at hd
   have hYb : Y < 4294967296 := hyb
   have hR : r * 4294967296 + d < Y * 4294967296 := by omega
   have hq0 : (r * 4294967296 + d) / Y < 4294967296 := (Nat.div_lt_iff_lt_mul (by omega)).2 (by omega)
   (repeat' (first | (refine CmpP.go (fun hc => ?_) (fun hc => ?_) <;> first | (exfalso; omega) | (conv => whnf)) | (refine Req.go (by omega) ?_; conv => whnf) | (refine OpP.nshl32 (by omega) ?_; conv => whnf) | (refine OpP.nor (by omega) ?_; conv => whnf) | (refine OpP.nquo (by omega) (by omega) ?_; conv => whnf) | (refine ConvP.u64 (by omega) ?_; conv => whnf) | (refine ConvP.n32i (by omega) ?_; conv => whnf) | (refine RdP.at (by assumption) (by omega) rfl ?_; conv => whnf) | (refine AKM.x ?_; conv => whnf)))
   obtain ⟨t, ht⟩ : ∃ t, t = r * 4294967296 + d := ⟨_, rfl⟩
   rw [← ht] at hR hq0 ⊢
   have hm : t % Y < Y := Nat.mod_lt _ (by omega)
   have hst := small_step p5 ht
   rw [← val_getD_drop hd] at hst
   clear ht
   skip
   refine StR.dig (by omega) ?_
   (conv => whnf)
   (repeat' (first | (refine OpP.sub (by omega) ?_; conv => whnf) | (refine OpP.nrem (by omega) ?_; conv => whnf) | (refine ConvP.u64 (by omega) ?_; conv => whnf) | (refine RdP.at (by assumption) (by omega) rfl ?_; conv => whnf)))
   generalize t / Y = tq at *
   generalize t % Y = tr at *
   refine AKM.back [] (by (conv => whnf); exact ⟨rfl, rfl, rfl⟩) (ih n _ _ (by omega) ⟨by omega, by simpa using p2, p3.set _ (by omega), hm, ?_⟩)
   rw [val_getD_drop (l := o.set n tq) (d := tq) (by rw [List.getElem?_set_self (by omega)]), List.drop_set_of_lt (by omega)]
   exact hst
 ·-- two digits or more
  have hn2 : 2 ≤ (dg Y).length := by omega
  obtain ⟨yt, hyt, hyt0⟩ := dg_top hY
  have hytb := d2.at hyt
  obtain ⟨b1, b2, b3, b4⟩ := lz_top hyt0 hytb
  have hlz := ev_LZ32 N yt hytb
  generalize hs : 32 - blen yt = s at *
  have hs31 : s ≤ 31 := by omega
  generalize dg Y = y at *
  generalize hx : dg X = x at *
  have e1 : ((y.length : Int) - 1).toNat = y.length - 1 := by omega
  rw [← e1] at hyt
  obtain ⟨rv, hrv, v, hV, hvl, hrve⟩ := ev_nat_lift N y q2 s y.length d2 hs31 (by omega) (by omega)
  subst hrve
  (repeat' (first | (refine CmpP.go (fun hc => ?_) (fun hc => ?_) <;> first | (exfalso; omega) | (conv => whnf)) | (refine OpP.add (by omega) ?_; conv => whnf) | (refine OpP.sub (by omega) ?_; conv => whnf) | (refine LenP.go ?_; conv => whnf) | (refine AKM.x ?_; conv => whnf) | (refine CallP.go (hcmp _ _) ?_; conv => whnf)))
  refine MkR.go (enc := e32) 0 (x.length - y.length + 1) rfl (by omega) (by omega) ?_
  (conv => whnf)
  (repeat' (first | (refine CmpP.go (fun hc => ?_) (fun hc => ?_) <;> first | (exfalso; omega) | (conv => whnf)) | (refine OpP.add (by omega) ?_; conv => whnf) | (refine OpP.sub (by omega) ?_; conv => whnf) | (refine ConvP.u64 (by omega) ?_; conv => whnf) | (refine LenP.go ?_; conv => whnf) | (refine RdP.at (by assumption) (by omega) rfl ?_; conv => whnf) | (refine CallP.go (hlz) ?_; conv => whnf)))
  refine CalP.walk 1000 N.nat_lift rfl rfl ?_
  (repeat' (refine AKM.x ?_; conv => whnf))
  refine MkR.go (enc := e32) 0 (x.length + 1) rfl (by omega) (by omega) ?_
  (conv => whnf)
  (repeat' (refine LenP.go ?_; conv => whnf))
  have hps := pow_s_le (s := s) (by omega)
  refine AKM.loop3 (fun i _ _ => x.length - i) (fun (i : Nat) (o : List Nat) (lo : Nat) => i ≤ x.length ∧ o.length = x.length + 1 ∧ Dig o ∧ lo < 2 ^ s ∧ val (o.take i) + 4294967296 ^ i * lo = val (x.take i) * 2 ^ s) (fun i o lo => [(8, .int .u32 (lo : Int)), (15, .int .i64 i)]) (fun i o lo => [(71012, 71012, .rw 1 (o.map e32))]) [] [] 0 (List.replicate (x.length + 1) 0) 0 (by (conv => whnf); exact ⟨rfl, rfl, rfl⟩) ⟨by omega, by simp, dig_zeros _, Nat.two_pow_pos s, by simp [val]⟩ ?_
  intro i o lo ⟨p1, p2, p3, p4, p5⟩ ih
  by_cases hi : i < x.length
  ·obtain ⟨d, hd⟩ : ∃ d, x[i]? = some d := ⟨_, List.getElem?_eq_getElem hi⟩
   have hdb := d1.at hd
   obtain ⟨f1, f2, f3, f4⟩ := sh_facts (s := s) hdb (by omega)
   (repeat' (first | (refine CmpP.go (fun hc => ?_) (fun hc => ?_) <;> first | (exfalso; omega) | (conv => whnf)) | (refine RdP.at (by assumption) (by omega) rfl ?_; conv => whnf) | (refine AKM.x ?_; conv => whnf)))
   refine OpP.sh4 (by omega) ?_
   (conv => whnf)
   skip
   refine OpP.or4 s f1 p4 (by omega) ?_
   (conv => whnf)
   (repeat' (first | (refine Req.go (by omega) ?_; conv => whnf) | fail))
   refine StR.dig (by omega) ?_
   (conv => whnf)
   (repeat' (refine ConvP.u64 (by omega) ?_; conv => whnf))
   refine OpP.sh8 (by omega) f4 ?_
   (conv => whnf)
   (repeat' (first | (refine OpP.add (by omega) ?_; conv => whnf) | (refine OpP.nshr32 ?_; conv => whnf) | (refine ConvP.n32i (by omega) ?_; conv => whnf)))
   rw [← shHi_def]
   refine AKM.back [] (by (conv => whnf); exact ⟨rfl, rfl, rfl⟩) (ih (i + 1) _ _ (by omega) ⟨by omega, by simpa using p2, p3.set _ (by omega), f2, ?_⟩)
   rw [val_set_take (by omega), val_take_succ hd, Nat.pow_succ]
   exact lift_step p5
  obtain rfl : i = x.length := by omega
  clear ih
  (repeat' (first | (refine CmpP.go (fun hc => ?_) (fun hc => ?_) <;> first | (exfalso; omega) | (conv => whnf)) | (refine Req.go (by omega) ?_; conv => whnf) | (refine LenP.go ?_; conv => whnf) | (refine AKM.x ?_; conv => whnf)))
  refine StR.dig (by omega) ?_
  (conv => whnf)
  skip
  have hU := lift_end2 p3 (by omega) p2 p5
  have hUl : (o.set x.length lo).length = x.length + 1 := by simpa using p2
  clear p3 p4 p5 p2
  generalize o.set x.length lo = u at *
  refine ⟨rfl, _, rfl, ?_⟩
  (conv => whnf)
  (repeat' (first | (refine OpP.sub (by omega) ?_; conv => whnf) | (refine LenP.go ?_; conv => whnf) | (refine CallP.go (hrv) ?_; conv => whnf)))
  have hyt' : y[y.length - 1]? = some yt := by rw [← e1]; exact hyt
  obtain ⟨n1, n2⟩ := lift_norm d2 hyt' (by omega) hs31 b3 b4
  have hVv : val v = Y * 2 ^ s := by rw [← v2]; exact hV.2.2 (by rw [hvl]; exact n1)
  have hUu : val u = X * 2 ^ s := by
   rw [← v1]
   refine hU.2.2 ?_
   have h3 := val_lt d1
   rw [hUl, Nat.pow_succ]
   exact Nat.lt_of_lt_of_le (Nat.mul_lt_mul_of_pos_right h3 (Nat.two_pow_pos s)) (Nat.mul_le_mul_left _ hps)
  have hVD := hV.1
  have hUD := hU.1
  have hVlt := val_lt hVD
  rw [v2, ← hVv] at n2
  rw [← hvl] at n2
  clear hV hU hcmp hrv hlz
  have hv2l : 2 ≤ v.length := by omega
  have hvx : v.length ≤ x.length := by omega
  have hvL : v.length ≤ 549755813888 := by omega
  have hxL : x.length ≤ 549755813888 := by omega
  have hX : X < 4294967296 ^ x.length := by rw [← v1]; exact val_lt d1
  rw [← hvl]
  generalize hm : x.length - v.length + 1 = m at *
  have hV0 : 0 < val v := by
   have := pow_pos' (v.length - 1)
   omega
  have hi0 : val (u.drop m) < val v := by
   have h1 := val_split u m (by omega)
   rw [hUu] at h1
   have h2 : X * 2 ^ s < 4294967296 ^ x.length * 2147483648 := Nat.lt_of_lt_of_le (Nat.mul_lt_mul_of_pos_right hX (Nat.two_pow_pos s)) (Nat.mul_le_mul_left _ (Nat.pow_le_pow_right (by omega) hs31))
   have h3 : 4294967296 ^ x.length = 4294967296 ^ m * 4294967296 ^ (v.length - 1) := by rw [← Nat.pow_add]; congr 1; omega
   rw [h3, Nat.mul_assoc] at h2
   refine Nat.lt_of_lt_of_le ?_ n2
   refine Nat.lt_of_mul_lt_mul_left (a := 4294967296 ^ m) ?_
   omega
  have e2 : (x.length : Int) - v.length = ((m : Nat) : Int) - 1 := by omega
  rw [e2]
  refine AKM.loop3 (fun n _ _ => n) (fun (n : Nat) (o w : List Nat) => n ≤ m ∧ o.length = x.length + 1 ∧ Dig o ∧ w.length = m ∧ Dig w ∧ val (o.drop n) < val v ∧ X * 2 ^ s = val (o.take n) + 4294967296 ^ n * (val (w.drop n) * val v + val (o.drop n))) (fun n o w => [(14, .int .i64 ((n : Int) - 1))]) (fun n o w => [(71012, 71012, .rw 1 (o.map e32)), (28, 28, .rw 1 (w.map e32))]) [] [] m u (List.replicate m 0) (by (conv => whnf); exact ⟨rfl, rfl, rfl⟩) ⟨by omega, hUl, hUD, by simp, dig_zeros _, hi0, by rw [← hUu, List.drop_of_length_le (show (List.replicate m 0).length ≤ m by simp), val_nil, Nat.zero_mul, Nat.zero_add]; exact val_split u m (by omega)⟩ ?_
  intro n o w ⟨p1, p2, p3, p4, p5, p6, p7⟩ ih
  rcases n with _ | j
  ·clear ih
   rw [List.drop_zero] at p6
   rw [List.take_zero, List.drop_zero, List.drop_zero, val_nil, Nat.zero_add, Nat.pow_zero, Nat.one_mul] at p7
   have hdr : val o = val (o.take v.length) := by
    have h1 := val_splitD o v.length
    rcases Nat.eq_zero_or_pos (val (o.drop v.length)) with h2 | h2
    ·rw [h2, Nat.mul_zero, Nat.add_zero] at h1; exact h1
    ·have h3 : 4294967296 ^ v.length * 1 ≤ 4294967296 ^ v.length * val (o.drop v.length) := Nat.mul_le_mul_left _ h2
     omega
   have hX0 : X / Y = val w ∧ X % Y = val o / 2 ^ s := by
    obtain ⟨z1, z2⟩ := div_scale (X := X) (Y := Y) (Nat.two_pow_pos s)
    rw [← z1, ← z2, ← hVv, p7]
    have e1 : (val w * val v + val o) / val v = val w := by
     rw [Nat.mul_comm, Nat.mul_add_div hV0, Nat.div_eq_of_lt p6, Nat.add_zero]
    have e2 : (val w * val v + val o) % val v = val o := by
     rw [Nat.mul_comm, Nat.mul_add_mod, Nat.mod_eq_of_lt p6]
    rw [e1, e2]
    exact ⟨rfl, rfl⟩
   rw [hX0.1, hX0.2]
   have hl1 := dg_len_val p5
   obtain ⟨ro, hro, o2, k1, k2, k3, k4⟩ := ev_nat_lower N (o.take v.length) true s (p3.take _) hs31 (by rw [List.length_take]; omega)
   subst k4
   rw [hdr, ← k3]
   have hl2 := dg_len_val k1
   rw [List.length_take] at k2
   clear p7 hX0 hi0
   (repeat' (first | (refine CmpP.go (fun hc => ?_) (fun hc => ?_) <;> first | (exfalso; omega) | (conv => whnf)) | (refine AKM.x ?_; conv => whnf) | (refine CalP.cutR N (by assumption) (by omega) rfl (by first | rfl | omega | assumption) ?_; conv => whnf)))
   refine Bds.up v.length rfl (by omega) ?_
   (conv => whnf)
   refine SnR.part (enc := e32) (fun _ => rfl) (by omega) ?_
   (conv => whnf)
   rw [List.drop_zero, Nat.sub_zero]
   (repeat' (first | (refine CallP.go (hro) ?_; conv => whnf) | (refine CalP.ro (ro_cut N o2 _ k1 (by omega)) ?_; conv => whnf)))
   refine SnR.part (enc := e32) (fun _ => rfl) (by omega) ?_
   (conv => whnf)
   refine FinP.go ?_ (cl_pair _ _)
   rw [List.drop_zero, take_dg p5]
  ·have e3 : ((j + 1 : Nat) : Int) - 1 = j := by omega
   rw [e3]
   have e4 : (v.length : Int).toNat = v.length := by omega
   obtain ⟨A, W, C, hA, hW, rfl⟩ := dv_cut o j (v.length + 1) (by omega)
   obtain ⟨g1, g2, g3⟩ := dv_pre hA hW p3 p6 hVlt
   obtain ⟨D1, D2, D3⟩ := dig_win p3
   have hqb : val W / val v < 4294967296 := (Nat.div_lt_iff_lt_mul hV0).2 g2
   have hWV : val W = val W / val v * val v + val W % val v := by rw [Nat.mul_comm]; exact (Nat.div_add_mod _ _).symm
   have hWl : val W % val v < val v := Nat.mod_lt _ hV0
   have hTot : X * 2 ^ s = val A + 4294967296 ^ j * val W + 4294967296 ^ j * 4294967296 * (val (w.drop (j + 1)) * val v) := by
    rw [p7, Nat.mul_add, ← g3, Nat.pow_succ]; omega
   have hTot2 := dv_next hTot hWV
   have hset : ∀ q', q' = val W / val v → val ((w.set j q').drop j) = val W / val v + 4294967296 * val (w.drop (j + 1)) := fun q' h => by
    rw [val_getD_drop (l := w.set j q') (d := q') (by rw [List.getElem?_set_self (by omega)]), List.drop_set_of_lt (by omega), h]
   have hlen : ∀ W' : List Nat, W'.length = v.length + 1 → (A ++ W' ++ C).length = x.length + 1 := fun W' h => by
    rw [← p2]; simp [h, hW]
   (repeat' (first | (refine CmpP.go (fun hc => ?_) (fun hc => ?_) <;> first | (exfalso; omega) | (conv => whnf)) | (refine OpP.add (by omega) ?_; conv => whnf) | (refine Bds.ss (by omega) ?_; conv => whnf) | (refine AKM.x ?_; conv => whnf)))
   rw [show ((j : Int) + v.length + 1).toNat - (j : Int).toNat = v.length + 1 by omega, show 0 + (j : Int).toNat = j by omega]
   refine digit_walk N hA hW D2 hVD hv2l hvL hV0 n2 g2 (fun W' o' q' z1 z2 z3 z4 => ?_) (fun W' o' q' z1 z2 z3 z4 => ?_)
   ·(conv => whnf)
    (repeat' (first | (refine Req.go (by omega) ?_; conv => whnf) | fail))
    refine StR.dig (by omega) ?_
    (conv => whnf)
    (repeat' (refine OpP.sub (by omega) ?_; conv => whnf))
    obtain ⟨t1, t2⟩ := dv_post (A := A) (W := W') (C := C) (j := j) hA g1
    refine AKM.back [] (by (conv => whnf); exact ⟨rfl, rfl, rfl⟩) (ih j (A ++ W' ++ C) (w.set j q') (by omega) ⟨by omega, hlen W' z1, (D1.append z2).append D3, by simpa using p4, p5.set _ (by omega), by omega, ?_⟩)
    rw [t1, t2, hset q' z4, z3]
    exact hTot2
   ·(conv => whnf)
    (repeat' (first | (refine Req.go (by omega) ?_; conv => whnf) | fail))
    refine StR.dig (by omega) ?_
    (conv => whnf)
    (repeat' (refine OpP.sub (by omega) ?_; conv => whnf))
    obtain ⟨t1, t2⟩ := dv_post (A := A) (W := W') (C := C) (j := j) hA g1
    refine AKM.back [] (by (conv => whnf); exact ⟨rfl, rfl, rfl⟩) (ih j (A ++ W' ++ C) (w.set j q') (by omega) ⟨by omega, hlen W' z1, (D1.append z2).append D3, by simpa using p4, p5.set _ (by omega), by omega, ?_⟩)
    rw [t1, t2, hset q' z4, z3]
    exact hTot2
end Go.Eng

namespace Go.Eng
def LSg (a b c d : Int) : Prop := (0 ≤ a ∧ b ≤ 0 ∧ c ≤ 0 ∧ 0 ≤ d) ∨ (a ≤ 0 ∧ 0 ≤ b ∧ 0 ≤ c ∧ d ≤ 0)
structure LInv (P Q a b c d p q : Int) : Prop where
 hp : p = a * P + b * Q
 hq : q = c * P + d * Q
 sg : LSg a b c d
 pa : 0 ≤ p + a
 pb : 0 ≤ p + b
 qc : 0 ≤ q + c
 qd : 0 ≤ q + d
theorem LInv.start {P Q : Int} (hP : 0 ≤ P) (hQ : 0 ≤ Q) : LInv P Q 1 0 0 1 P Q :=
 ⟨by omega, by omega, Or.inl (by omega), by omega, by omega, by omega, by omega⟩
def LGood (P Q a b c d : Int) : Prop := ∀ x y K e1 e2 : Int, 0 < K → x = K * P + e1 → y = K * Q + e2 → 0 ≤ e1 → e1 ≤ K → 0 ≤ e2 → e2 ≤ K →
 0 ≤ c * x + d * y ∧ c * x + d * y < a * x + b * y ∧ a * x + b * y ≤ y ∧ Int.gcd (a * x + b * y) (c * x + d * y) = Int.gcd x y
def LHalf (P Q a b c d : Int) : Prop := ∀ x y K e1 e2 : Int, 0 < K → x = K * P + e1 → y = K * Q + e2 → 0 ≤ e1 → e1 ≤ K → 0 ≤ e2 → e2 ≤ K →
 c * x + d * y ≤ y ∧ Int.gcd (a * x + b * y) (c * x + d * y) = Int.gcd x y
theorem LHalf.start (P Q : Int) : LHalf P Q 1 0 0 1 := by
 intro x y K e1 e2 _ _ _ _ _ _ _
 simp
theorem LGood.half {P Q a b c d : Int} (h : LGood P Q a b c d) : LHalf P Q a b c d := fun x y K e1 e2 h1 h2 h3 h4 h5 h6 h7 => by
 obtain ⟨g1, g2, g3, g4⟩ := h x y K e1 e2 h1 h2 h3 h4 h5 h6 h7
 exact ⟨by omega, g4⟩
theorem gcd_step (X Y f : Int) : Int.gcd Y (X - f * Y) = Int.gcd X Y := by
 rw [Int.gcd_comm X Y]
 exact Int.gcd_sub_mul_right_right Y X f
theorem LInv.step {P Q a b c d p q f : Int} (h : LInv P Q a b c d p q) (hc : q + c ≠ 0) (hd : q + d ≠ 0) (h1 : f = (p + a) / (q + c)) (h2 : f = (p + b) / (q + d)) :
  LInv P Q c d (a - f * c) (b - f * d) q (p - f * q) ∧ 0 ≤ f ∧ p - f * q < q ∧ (LHalf P Q a b c d → LGood P Q c d (a - f * c) (b - f * d)) := by
 have c0 : 0 < q + c := by have := h.qc; omega
 have d0 : 0 < q + d := by have := h.qd; omega
 have f0 : 0 ≤ f := by rw [h1]; exact Int.ediv_nonneg h.pa h.qc
 have m1 : p - f * q + (a - f * c) = (p + a) % (q + c) := by
  have := Int.emod_add_mul_ediv (p + a) (q + c)
  rw [← h1] at this
  grind
 have m2 : p - f * q + (b - f * d) = (p + b) % (q + d) := by
  have := Int.emod_add_mul_ediv (p + b) (q + d)
  rw [← h2] at this
  grind
 have n1 : 0 ≤ p - f * q + (a - f * c) := by rw [m1]; exact Int.emod_nonneg _ hc
 have n2 : 0 ≤ p - f * q + (b - f * d) := by rw [m2]; exact Int.emod_nonneg _ hd
 have n3 : p - f * q + (a - f * c) < q + c := by rw [m1]; exact Int.emod_lt_of_pos _ c0
 have n4 : p - f * q + (b - f * d) < q + d := by rw [m2]; exact Int.emod_lt_of_pos _ d0
 have hq' : p - f * q = (a - f * c) * P + (b - f * d) * Q := by rw [h.hp, h.hq]; grind
 have hsg : LSg c d (a - f * c) (b - f * d) := by
  rcases h.sg with ⟨s1, s2, s3, s4⟩ | ⟨s1, s2, s3, s4⟩
  ·have t1 : f * c ≤ 0 := Int.mul_nonpos_of_nonneg_of_nonpos f0 s3
   have t2 : 0 ≤ f * d := Int.mul_nonneg f0 s4
   exact Or.inr (by omega)
  ·have t1 : 0 ≤ f * c := Int.mul_nonneg f0 s3
   have t2 : f * d ≤ 0 := Int.mul_nonpos_of_nonneg_of_nonpos f0 s4
   exact Or.inl (by omega)
 have hlt : p - f * q < q := by
  rcases hsg with ⟨s1, s2, s3, s4⟩ | ⟨s1, s2, s3, s4⟩
  ·omega
  ·omega
 refine ⟨⟨h.hq, hq', hsg, h.qc, h.qd, n1, n2⟩, f0, hlt, fun hh => ?_⟩
 intro x y K e1 e2 hK hx hy a1 a2 b1 b2
 obtain ⟨k1, k2⟩ := hh x y K e1 e2 hK hx hy a1 a2 b1 b2
 have eY : c * x + d * y = K * q + c * e1 + d * e2 := by rw [hx, hy, h.hq]; grind
 have eX : (a - f * c) * x + (b - f * d) * y = K * (p - f * q) + (a - f * c) * e1 + (b - f * d) * e2 := by rw [hx, hy, hq']; grind
 have eS : (a - f * c) * x + (b - f * d) * y = (a * x + b * y) - f * (c * x + d * y) := by grind
 generalize hE : a - f * c = E at *
 generalize hG : b - f * d = G at *
 generalize hq2 : p - f * q = q2 at *
 have key : 0 ≤ E * x + G * y ∧ E * x + G * y < c * x + d * y := by
  rw [eX, eY]
  rcases hsg with ⟨s1, s2, s3, s4⟩ | ⟨s1, s2, s3, s4⟩
  ·-- c ≥ 0, d ≤ 0, E ≤ 0, G ≥ 0
   have t1 : E * K ≤ E * e1 := Int.mul_le_mul_of_nonpos_left s3 a2
   have t2 : 0 ≤ G * e2 := Int.mul_nonneg s4 b1
   have t3 : 0 ≤ K * (q2 + E) := Int.mul_nonneg (by omega) n1
   have t4 : (G - d) * e2 ≤ (G - d) * K := Int.mul_le_mul_of_nonneg_left b2 (by omega)
   have t5 : (E - c) * e1 ≤ 0 := Int.mul_nonpos_of_nonpos_of_nonneg (by omega) a1
   have t6 : 0 < K * ((q + d) - (q2 + G)) := Int.mul_pos hK (by omega)
   constructor
   ·grind
   ·grind
  ·have t1 : G * K ≤ G * e2 := Int.mul_le_mul_of_nonpos_left s4 b2
   have t2 : 0 ≤ E * e1 := Int.mul_nonneg s3 a1
   have t3 : 0 ≤ K * (q2 + G) := Int.mul_nonneg (by omega) n2
   have t4 : (E - c) * e1 ≤ (E - c) * K := Int.mul_le_mul_of_nonneg_left a2 (by omega)
   have t5 : (G - d) * e2 ≤ 0 := Int.mul_nonpos_of_nonpos_of_nonneg (by omega) b1
   have t6 : 0 < K * ((q + c) - (q2 + E)) := Int.mul_pos hK (by omega)
   constructor
   ·grind
   ·grind
 refine ⟨key.1, key.2, k1, ?_⟩
 rw [← k2, eS]
 exact gcd_step _ _ _
end Go.Eng

namespace Go.Eng
def leadK (n s : Nat) : Nat := 4294967296 ^ (n - 3) * (2 ^ (32 - s) * 4)
theorem leadK_pos (n s : Nat) : 0 < leadK n s := Nat.mul_pos (Nat.pow_pos (by omega)) (Nat.mul_pos (Nat.two_pow_pos _) (by omega))
theorem lead_eq {a : List Nat} (hD : Dig a) {n s d1 d2 d3 : Nat} (hn : 3 ≤ n) (hl : a.length ≤ n) (hs : s ≤ 31) (h1 : d1 = a.getD (n - 1) 0) (h2 : d2 = a.getD (n - 2) 0) (h3 : d3 = a.getD (n - 3) 0) :
  ((d1 * 4294967296 + d2) * 2 ^ s + d3 * 2 ^ s / 4294967296) / 4 = val a / leadK n s := by
 obtain ⟨r, hr, hv⟩ := val_top3 hD hn hl
 rw [← h1, ← h2, ← h3] at hv
 unfold leadK
 rw [hv, ← Nat.div_div_eq_div_mul, Nat.add_mul_div_left _ _ (Nat.pow_pos (by omega)), Nat.div_eq_of_lt hr, Nat.zero_add, ← Nat.div_div_eq_div_mul]
 congr 1
 have e : d3 + 4294967296 * (d2 + 4294967296 * d1) = d3 + 2 ^ (32 - s) * (2 ^ s * (d1 * 4294967296 + d2)) := by
  rw [← Nat.mul_assoc, ← Nat.pow_add, show 32 - s + s = 32 by omega]; omega
 rw [e, Nat.add_mul_div_left _ _ (Nat.two_pow_pos _)]
 have := shHi_eq (d := d3) (s := s) (by omega)
 rw [shHi_def] at this
 rw [this, Nat.mul_comm (2 ^ s)]
 omega
theorem lead_fits {a : List Nat} (hD : Dig a) {n s d1 d2 : Nat} (hn : 3 ≤ n) (hl : a.length ≤ n) (h1 : d1 = a.getD (n - 1) 0) (h2 : d2 = a.getD (n - 2) 0) (hlt : val a * 2 ^ s < 4294967296 ^ n) :
  (d1 * 4294967296 + d2) * 2 ^ s ≤ 18446744073709551615 := by
 obtain ⟨r, hr, hv⟩ := val_top3 hD hn hl
 rw [← h1, ← h2] at hv
 generalize a.getD (n - 3) 0 = d3 at *
 have e : 4294967296 ^ n = 4294967296 ^ (n - 3) * (4294967296 * 18446744073709551616) := by
  rw [show n = n - 3 + 3 by omega, Nat.pow_add, show n - 3 + 3 - 3 = n - 3 by omega]
 rw [e, hv] at hlt
 generalize 4294967296 ^ (n - 3) = p at *
 have h3 : p * (4294967296 * ((d1 * 4294967296 + d2) * 2 ^ s)) < p * (4294967296 * 18446744073709551616) := by
  refine Nat.lt_of_le_of_lt ?_ hlt
  rw [← Nat.mul_assoc, ← Nat.mul_assoc]
  refine Nat.mul_le_mul_right _ ?_
  have h5 : p * (4294967296 * (d2 + 4294967296 * d1)) ≤ p * (d3 + 4294967296 * (d2 + 4294967296 * d1)) := Nat.mul_le_mul_left p (by omega)
  rw [Nat.mul_assoc, show d1 * 4294967296 + d2 = d2 + 4294967296 * d1 by omega]
  omega
 have := Nat.lt_of_mul_lt_mul_left (Nat.lt_of_mul_lt_mul_left h3)
 omega
theorem mul_room {k s : Nat} (hs : s ≤ 64) (h : k * 2 ^ s ≤ 18446744073709551615) : k * 2 ^ s + 2 ^ s ≤ 18446744073709551616 := by
 have e : 18446744073709551616 = 2 ^ (64 - s) * 2 ^ s := by rw [← Nat.pow_add, show 64 - s + s = 64 by omega]
 have h1 : k < 2 ^ (64 - s) := by
  refine Nat.lt_of_mul_lt_mul_right (a := 2 ^ s) ?_
  rw [← e]; omega
 have h2 := Nat.mul_le_mul_right (2 ^ s) h1
 rw [Nat.succ_mul, ← e] at h2
 exact h2
theorem lead_le {a : List Nat} (hD : Dig a) {n s : Nat} (hn : 3 ≤ n) (hl : a.length ≤ n) (hs : s ≤ 31) (hlt : val a * 2 ^ s < 4294967296 ^ n) : val a / leadK n s ≤ 4611686018427387904 := by
 rw [← lead_eq hD hn hl hs rfl rfl rfl]
 have h1 := lead_fits hD hn hl rfl rfl hlt
 have b3 := getD_lt hD (n - 3)
 have h2 := mul_room (show s ≤ 64 by omega) h1
 obtain ⟨_, h3, _, _⟩ := sh_facts (s := s) b3 (by omega)
 rw [shHi_def] at h3
 generalize (a.getD (n - 1) 0 * 4294967296 + a.getD (n - 2) 0) * 2 ^ s = T at *
 generalize a.getD (n - 3) 0 * 2 ^ s = U at *
 omega
theorem lead_part {V K : Nat} (hK : 0 < K) : ∃ e : Int, (V : Int) = (K : Int) * ((V / K : Nat) : Int) + e ∧ 0 ≤ e ∧ e ≤ K := by
 refine ⟨((V % K : Nat) : Int), ?_, by omega, ?_⟩
 ·have := Nat.div_add_mod V K
  have h2 : ((K * (V / K) + V % K : Nat) : Int) = (V : Int) := by rw [this]
  rw [← h2]; simp
 ·have := Nat.mod_lt V hK
  omega
def cmD (t : Int) : Nat := (t % 4294967296).toNat
theorem cmD_lt (t : Int) : cmD t < 4294967296 := by unfold cmD; omega
theorem cmD_eq (t : Int) : (cmD t : Int) = t % 4294967296 := by unfold cmD; omega
def CSg (f g : Int) : Prop := (0 ≤ f ∧ f ≤ 2147483647 ∧ -2147483647 ≤ g ∧ g ≤ 0) ∨ (-2147483647 ≤ f ∧ f ≤ 0 ∧ 0 ≤ g ∧ g ≤ 2147483647)
theorem sgn_mul {f : Int} {d : Nat} (hd : d < 4294967296) : (0 ≤ f → f ≤ 2147483647 → 0 ≤ f * d ∧ f * d ≤ 9223372030412324865) ∧ (f ≤ 0 → -2147483647 ≤ f → f * d ≤ 0 ∧ -9223372030412324865 ≤ f * d) := by
 constructor
 ·intro h0 h1
  refine ⟨Int.mul_nonneg h0 (by omega), ?_⟩
  have : f * d ≤ 2147483647 * 4294967295 := Int.mul_le_mul h1 (by omega) (by omega) (by omega)
  omega
 ·intro h0 h1
  have a1 : 0 ≤ (-f) * d := Int.mul_nonneg (by omega) (by omega)
  have a2 : (-f) * d ≤ 2147483647 * 4294967295 := Int.mul_le_mul (by omega) (by omega) (by omega) (by omega)
  rw [Int.neg_mul] at a1 a2
  omega
theorem CSg.rng {f g : Int} (h : CSg f g) {d e : Nat} (hd : d < 4294967296) (he : e < 4294967296) : (-9223372030412324865 ≤ f * d ∧ f * d ≤ 9223372030412324865) ∧ (-9223372030412324865 ≤ g * e ∧ g * e ≤ 9223372030412324865) ∧ -9223372030412324865 ≤ f * d + g * e ∧ f * d + g * e ≤ 9223372030412324865 := by
 obtain ⟨a1, a2⟩ := sgn_mul (f := f) hd
 obtain ⟨b1, b2⟩ := sgn_mul (f := g) he
 rcases h with ⟨h1, h2, h3, h4⟩ | ⟨h1, h2, h3, h4⟩
 ·have := a1 h1 h2; have := b2 h4 h3; omega
 ·have := a2 h2 h1; have := b1 h3 h4; omega
theorem cm_step {V X Y p c f g d e t : Int} (h : V + p * c = f * X + g * Y) (ht : t = f * d + c + g * e) : V + p * (t % 4294967296) + p * 4294967296 * (t / 4294967296) = f * (X + p * d) + g * (Y + p * e) := by
 have h1 := Int.emod_add_mul_ediv t 4294967296
 have h2 : p * (t % 4294967296) + p * 4294967296 * (t / 4294967296) = p * t := by
  rw [Int.mul_assoc, ← Int.mul_add, h1]
 have h3 : p * t = f * (p * d) + p * c + g * (p * e) := by rw [ht]; grind
 have h4 : f * (X + p * d) = f * X + f * (p * d) := by rw [Int.mul_add]
 have h5 : g * (Y + p * e) = g * Y + g * (p * e) := by rw [Int.mul_add]
 omega
theorem cm_end {V P : Nat} {c R : Int} (hV : V < P) (h : (V : Int) + P * c = R) (h0 : 0 ≤ R) (h1 : R < P) : (V : Int) = R := by
 have hc : c = 0 := by
  rcases Int.lt_trichotomy c 0 with hc | hc | hc
  ·have : (P : Int) * c ≤ P * (-1) := Int.mul_le_mul_of_nonneg_left (by omega) (by omega)
   omega
  ·exact hc
  ·have : (P : Int) * 1 ≤ P * c := Int.mul_le_mul_of_nonneg_left (by omega) (by omega)
   omega
 subst hc
 omega
theorem gcd_mod_step (x y : Nat) : Nat.gcd y (x % y) = Nat.gcd x y := by
 rw [Nat.gcd_comm x y, Nat.gcd_rec y x]; exact Nat.gcd_comm _ _
end Go.Eng

namespace Go.Eng
open F
attribute [local irreducible] AKM CmpP Req OpP UnP ConvP RdP LdR StR MkR LenP AppR AppN CpyR RowP SnR Bds SlS CallP CalP FinP pw LdM GetM SetM PutM MkM AppM SnM FlP CallR
set_option maxHeartbeats 4000000
variable {L : Lib}
theorem OpP.shr32 {k' : IntKind} {a : Int} {K : AV → Prop} (hk : K (.int .i64 (a / 4294967296))) : OpP .shr .i64 a k' 32 K := by
 refine OpP.shr (by omega) ?_
 have : pw 32 = 4294967296 := by decide +kernel
 rw [this]; exact hk
theorem ConvP.i32 {t : Int} {K : Int → Prop} (hk : K (cmD t : Int)) : ConvP .u32 t K := by
 unfold ConvP
 rw [IntKind.wrap_u32, ← cmD_eq]; exact hk
section
variable {k' : IntKind} {a b : Nat} {K : AV → Prop}
theorem OpP.shlm {i : Nat} (hi : i < 2) (ha : a < 4294967296) (hk : K (.int .u64 ((a * 4294967296 ^ i : Nat) : Int))) : OpP .shl .u64 (a : Int) k' (32 * (i : Int)) K := by
 rcases i with _ | _ | i
 ·exact OpP.sh8 (s := 0) (by omega) (by omega) hk
 ·exact OpP.sh8 (s := 32) (by omega) (by omega) hk
 ·omega
end
theorem int_mul_bd {x y M N : Int} (hx : -M ≤ x ∧ x ≤ M) (hy : -N ≤ y ∧ y ≤ N) : -(M * N) ≤ x * y ∧ x * y ≤ M * N := by
 have h1 : x.natAbs ≤ M.natAbs := by omega
 have h2 : y.natAbs ≤ N.natAbs := by omega
 have h3 := Nat.mul_le_mul h1 h2
 rw [← Int.natAbs_mul, ← Int.natAbs_mul] at h3
 have h4 : 0 ≤ M * N := Int.mul_nonneg (by omega) (by omega)
 omega
theorem ev_nat_DivMod (N : NatGLib L) (a b : List Nat) (q1 q2 : Bool) (hA : Dig a) (hB : Dig b) (la : a.length ≤ 549755813888) (lb : b.length ≤ 549755813888) (h0 : val b ≠ 0) :
  Ev L 75 [.sl q1 (a.map e32), .sl q2 (b.map e32)] (.tup [.sl false ((dg (val a / val b)).map e32), .sl false ((dg (val a % val b)).map e32), .int .i64 0]) := by
 have l1 := dg_len_val hA
 have l2 := dg_len_val hB
 have hp := dg_len_pos h0
 refine Ev.x N.nat_DivMod rfl rfl ?_
 (repeat' (first | (refine CmpP.go (fun hc => ?_) (fun hc => ?_) <;> first | (exfalso; omega) | (conv => whnf)) | (refine LenP.go ?_; conv => whnf) | (refine AKM.x ?_; conv => whnf) | (refine CalP.ro (ro_cut N a _ hA (by omega)) ?_; conv => whnf) | (refine CalP.ro (ro_cut N b _ hB (by omega)) ?_; conv => whnf) | (refine CallP.go (ev_nat_divide N _ _ _ _ h0 (by omega) (by omega)) ?_; conv => whnf)))
 refine FinP.go rfl ?_
 simp only [Clean, CleanL, and_true, true_and]
 exact ⟨cl_dig _, cl_dig _⟩
theorem ev_nat_small (N : NatGLib L) (V : Nat) (q : Bool) (hl : (dg V).length ≤ 2) : Ev L 76 [.sl q ((dg V).map e32)] (.int .u64 (V : Int)) := by
 have hV := dg_len_le.1 hl
 have hD := dig_dg V
 have hv := val_dg V
 refine Ev.x N.nat_small rfl rfl ?_
 generalize dg V = l at *
 (repeat' (first | (refine LenP.go ?_; conv => whnf) | (refine AKM.x ?_; conv => whnf)))
 refine AKM.loop2 (fun i _ => l.length - i) (fun (i : Nat) (a : Nat) => i ≤ l.length ∧ a = val (l.take i)) (fun i a => [(3, .int .u64 (a : Int)), (8, .int .i64 i)]) (fun _ _ => []) [] [] 0 0 (by (conv => whnf); exact ⟨rfl, rfl, rfl⟩) ⟨by omega, rfl⟩ ?_
 intro i a ⟨p1, p2⟩ ih
 by_cases hi : i < l.length
 ·obtain ⟨d, hd⟩ : ∃ d, l[i]? = some d := ⟨_, List.getElem?_eq_getElem hi⟩
  have hdb := hD.at hd
  have h1 := val_take_succ hd
  have h2 := val_lt (hD.take i)
  have h3 := val_lt (hD.take (i + 1))
  rw [List.length_take, Nat.min_eq_left (by omega)] at h2 h3
  have h4 : 4294967296 ^ (i + 1) ≤ 4294967296 ^ 2 := Nat.pow_le_pow_right (by omega) (by omega)
  (repeat' (first | (refine CmpP.go (fun hc => ?_) (fun hc => ?_) <;> first | (exfalso; omega) | (conv => whnf)) | (refine OpP.mul (by omega) ?_; conv => whnf) | (refine ConvP.u64 (by omega) ?_; conv => whnf) | (refine RdP.at (by assumption) (by omega) rfl ?_; conv => whnf) | (refine AKM.x ?_; conv => whnf)))
  refine OpP.shlm (by omega) hdb ?_
  (conv => whnf)
  rw [Nat.mul_comm d]
  refine OpP.nor8r (32 * i) (by rw [Nat.pow_mul]; exact Nat.mul_mod_right _ _) (by rw [Nat.pow_mul, p2]; exact h2) (by omega) ?_
  (conv => whnf)
  (repeat' (refine OpP.add (by omega) ?_; conv => whnf))
  exact AKM.back [] (by (conv => whnf); exact ⟨rfl, rfl, rfl⟩) (ih (i + 1) _ (by omega) ⟨by omega, by rw [h1, p2]⟩)
 ·obtain rfl : i = l.length := by omega
  clear ih
  (repeat' (first | (refine CmpP.go (fun hc => ?_) (fun hc => ?_) <;> first | (exfalso; omega) | (conv => whnf)) | (refine AKM.x ?_; conv => whnf)))
  rw [val_take_all (Nat.le_refl _)] at p2
  exact FinP.i (by omega)
theorem CalP.fix {f : Nat} {vs : List AV} {tm : Tm} {M : Mem} {K : AV → Mem → Prop} {v : AV} (h : CalP L f vs tm M (fun r M' => r = v ∧ M' = M)) (hk : K v M) : CalP L f vs tm M K := by
 unfold CalP at h ⊢
 intro σ own hs
 obtain ⟨r, own', σ', M', h1, h2, h3, rfl, rfl⟩ := h σ own hs
 exact ⟨_, own', σ', _, h1, h2, h3, hk⟩
theorem ev_nat_leading (N : NatGLib L) (a : List Nat) (q : Bool) (n s : Nat) (hD : Dig a) (hn : 3 ≤ n) (hl : a.length ≤ n) (hn2 : n ≤ 549755813888) (hs : s ≤ 31) (hlt : val a * 2 ^ s < 4294967296 ^ n) :
  Ev L 78 [.sl q (a.map e32), .int .i64 (n : Int), .int .u64 (s : Int)] (.int .i64 ((val a / leadK n s : Nat) : Int)) := by
 have b1 := getD_lt hD (n - 1)
 have b2 := getD_lt hD (n - 2)
 have b3 := getD_lt hD (n - 3)
 have hfit := lead_fits hD hn hl rfl rfl hlt
 have heq := lead_eq (s := s) hD hn hl hs rfl rfl rfl
 obtain ⟨f1, f2, f3, f4⟩ := sh_facts (s := s) b3 (by omega)
 refine Ev.x N.nat_leading rfl rfl ?_
 (repeat' (first | (refine Req.go (by omega) ?_; conv => whnf) | (refine OpP.sub (by omega) ?_; conv => whnf) | (refine AKM.x ?_; conv => whnf)))
 refine CalP.fix (v := .int .u64 ((a.getD (n - 1) 0 : Nat) : Int)) ?_ ?_
 ·refine CalP.walk 1000 N.nat_leading_1 rfl rfl ?_
  (repeat' (first | (refine CmpP.go (fun hc => ?_) (fun hc => ?_) <;> first | (exfalso; omega) | (conv => whnf)) | (refine ConvP.u64 (by omega) ?_; conv => whnf) | (refine LenP.go ?_; conv => whnf) | (refine RdP.digi (by assumption) (by omega) (fun e he hb => ?_); conv => whnf) | (refine AKM.x ?_; conv => whnf)))
  ·refine ⟨rfl, _, rfl, ?_, rfl⟩
   rw [show ((n : Int) - 1).toNat = n - 1 by omega] at he
   rw [getD_is he]; rfl
  ·refine ⟨rfl, _, rfl, ?_, rfl⟩
   rw [← getD_none (show a.length ≤ n - 1 by omega)]; rfl
 (conv => whnf)
 (repeat' (first | (refine Req.go (by omega) ?_; conv => whnf) | (refine OpP.sub (by omega) ?_; conv => whnf) | (refine OpP.nshl32 (by omega) ?_; conv => whnf)))
 refine CalP.fix (v := .int .u64 ((a.getD (n - 2) 0 : Nat) : Int)) ?_ ?_
 ·refine CalP.walk 1000 N.nat_leading_1 rfl rfl ?_
  (repeat' (first | (refine CmpP.go (fun hc => ?_) (fun hc => ?_) <;> first | (exfalso; omega) | (conv => whnf)) | (refine ConvP.u64 (by omega) ?_; conv => whnf) | (refine LenP.go ?_; conv => whnf) | (refine RdP.digi (by assumption) (by omega) (fun e he hb => ?_); conv => whnf) | (refine AKM.x ?_; conv => whnf)))
  ·refine ⟨rfl, _, rfl, ?_, rfl⟩
   rw [show ((n : Int) - 2).toNat = n - 2 by omega] at he
   rw [getD_is he]; rfl
  ·refine ⟨rfl, _, rfl, ?_, rfl⟩
   rw [← getD_none (show a.length ≤ n - 2 by omega)]; rfl
 (conv => whnf)
 generalize a.getD (n - 1) 0 = d1 at *
 generalize a.getD (n - 2) 0 = d2 at *
 (repeat' (refine OpP.nor (by omega) ?_; conv => whnf))
 refine OpP.sh8 (by omega) hfit ?_
 (conv => whnf)
 generalize hT : (d1 * 4294967296 + d2) * 2 ^ s = T at *
 (repeat' (first | (refine Req.go (by omega) ?_; conv => whnf) | (refine OpP.sub (by omega) ?_; conv => whnf)))
 refine CalP.fix (v := .int .u64 ((a.getD (n - 3) 0 : Nat) : Int)) ?_ ?_
 ·refine CalP.walk 1000 N.nat_leading_1 rfl rfl ?_
  (repeat' (first | (refine CmpP.go (fun hc => ?_) (fun hc => ?_) <;> first | (exfalso; omega) | (conv => whnf)) | (refine ConvP.u64 (by omega) ?_; conv => whnf) | (refine LenP.go ?_; conv => whnf) | (refine RdP.digi (by assumption) (by omega) (fun e he hb => ?_); conv => whnf) | (refine AKM.x ?_; conv => whnf)))
  ·refine ⟨rfl, _, rfl, ?_, rfl⟩
   rw [show ((n : Int) - 3).toNat = n - 3 by omega] at he
   rw [getD_is he]; rfl
  ·refine ⟨rfl, _, rfl, ?_, rfl⟩
   rw [← getD_none (show a.length ≤ n - 3 by omega)]; rfl
 (conv => whnf)
 generalize a.getD (n - 3) 0 = d3 at *
 skip
 refine OpP.sh8 (by omega) f4 ?_
 (conv => whnf)
 (repeat' (refine OpP.nshr32 ?_; conv => whnf))
 rw [shHi_def] at f2
 refine OpP.nor8 s (by rw [← hT]; exact Nat.mul_mod_left _ _) f2 (by have := mul_room (k := d1 * 4294967296 + d2) (show s ≤ 64 by omega) (by omega); omega) ?_
 (conv => whnf)
 (repeat' (first | (refine OpP.nshr2 ?_; conv => whnf) | (refine ConvP.i64 (by omega) ?_; conv => whnf)))
 rw [heq]
 exact FinP.i rfl
theorem ev_nat_cofactors (N : NatGLib L) (P Q : Int) (hP : 0 ≤ P ∧ P ≤ 4611686018427387904) (hQ : 0 ≤ Q ∧ Q ≤ 4611686018427387904) : ∃ r, Ev L 79 [.int .i64 P, .int .i64 Q] r ∧ ∃ a b c d : Int, (LSg a b c d ∧ (-2147483647 ≤ a ∧ a ≤ 2147483647) ∧ (-2147483647 ≤ b ∧ b ≤ 2147483647) ∧ (-2147483647 ≤ c ∧ c ≤ 2147483647) ∧ (-2147483647 ≤ d ∧ d ≤ 2147483647)) ∧ (b ≠ 0 → LGood P Q a b c d) ∧ r = .tup [.int .i64 a, .int .i64 b, .int .i64 c, .int .i64 d] := by
 refine Ev.xE N.nat_cofactors rfl rfl ?_
 (repeat' (refine AKM.x ?_; conv => whnf))
 refine AKM.loop6 (fun _ _ _ _ _ q => (q + 2147483648).toNat) (fun (a b c d p q : Int) => LInv P Q a b c d p q ∧ ((-2147483647 ≤ a ∧ a ≤ 2147483647) ∧ (-2147483647 ≤ b ∧ b ≤ 2147483647) ∧ (-2147483647 ≤ c ∧ c ≤ 2147483647) ∧ (-2147483647 ≤ d ∧ d ≤ 2147483647)) ∧ (p ≤ 4611686018427387904 ∧ q ≤ 4611686018427387904) ∧ LHalf P Q a b c d ∧ (b ≠ 0 → LGood P Q a b c d)) (fun a b c d p q => [(0, .int .i64 p), (1, .int .i64 q), (4, .int .i64 a), (5, .int .i64 b), (6, .int .i64 c), (7, .int .i64 d)]) (fun _ _ _ _ _ _ => []) [] [] 1 0 0 1 P Q (by (conv => whnf); exact ⟨rfl, rfl, rfl⟩) ⟨LInv.start hP.1 hQ.1, by omega, by omega, LHalf.start P Q, fun h => absurd rfl h⟩ ?_
 intro a b c d p q ⟨p1, ⟨⟨p2, p2'⟩, ⟨p3, p3'⟩, ⟨p4, p4'⟩, ⟨p5, p5'⟩⟩, ⟨p6, p7⟩, p8, p9⟩ ih
 have g1 := p1.pa
 have g2 := p1.pb
 have g3 := p1.qc
 have g4 := p1.qd
 by_cases hc0 : q + c = 0
 ·(repeat' (first | (refine CmpP.go (fun hc => ?_) (fun hc => ?_) <;> first | (exfalso; omega) | (conv => whnf)) | (refine OpP.add (by omega) ?_; conv => whnf) | (refine AKM.x ?_; conv => whnf)))
  refine ⟨.tup [.int .i64 a, .int .i64 b, .int .i64 c, .int .i64 d], ?_, a, b, c, d, ⟨p1.sg, by omega⟩, p9, rfl⟩
  (conv => whnf)
  exact FinP.go rfl (by simp [Clean, CleanL])
 by_cases hd0 : q + d = 0
 ·(repeat' (first | (refine CmpP.go (fun hc => ?_) (fun hc => ?_) <;> first | (exfalso; omega) | (conv => whnf)) | (refine OpP.add (by omega) ?_; conv => whnf) | (refine AKM.x ?_; conv => whnf)))
  refine ⟨.tup [.int .i64 a, .int .i64 b, .int .i64 c, .int .i64 d], ?_, a, b, c, d, ⟨p1.sg, by omega⟩, p9, rfl⟩
  (conv => whnf)
  exact FinP.go rfl (by simp [Clean, CleanL])
 by_cases hff : (p + a) / (q + c) = (p + b) / (q + d)
 ·obtain ⟨s1, s2, s3, s4⟩ := p1.step hc0 hd0 rfl hff
  have s5 := s4 p8
  have s6 := s5.half
  have s7 := s1.qc
  by_cases hfl : 2147483647 < (p + a) / (q + c)
  ·(repeat' (first | (refine CmpP.go (fun hc => ?_) (fun hc => ?_) <;> first | (exfalso; omega) | (conv => whnf)) | (refine OpP.add (by omega) ?_; conv => whnf) | (refine OpP.quo (by omega) (by omega) (fun _ => ?_) (fun _ _ => ?_) <;> first | (exfalso; omega) | (conv => whnf)) | (refine AKM.x ?_; conv => whnf)))
   refine ⟨.tup [.int .i64 a, .int .i64 b, .int .i64 c, .int .i64 d], ?_, a, b, c, d, ⟨p1.sg, by omega⟩, p9, rfl⟩
   (conv => whnf)
   exact FinP.go rfl (by simp [Clean, CleanL])
  ·have t1 := int_mul_bd (x := (p + a) / (q + c)) (y := c) (M := 2147483647) (N := 2147483647) (by omega) (by omega)
   have t2 := int_mul_bd (x := (p + a) / (q + c)) (y := d) (M := 2147483647) (N := 2147483647) (by omega) (by omega)
   (repeat' (first | (refine CmpP.go (fun hc => ?_) (fun hc => ?_) <;> first | (exfalso; omega) | (conv => whnf)) | (refine OpP.add (by omega) ?_; conv => whnf) | (refine OpP.sub (by omega) ?_; conv => whnf) | (refine OpP.mul (by omega) ?_; conv => whnf) | (refine OpP.quo (by omega) (by omega) (fun _ => ?_) (fun _ _ => ?_) <;> first | (exfalso; omega) | (conv => whnf)) | (refine UnP.neg (by omega) ?_; conv => whnf) | (refine AKM.x ?_; conv => whnf)))
   all_goals first
    | exact AKM.back [] (by (conv => whnf); exact ⟨rfl, rfl, rfl⟩) (ih _ _ _ _ _ _ (by omega) ⟨s1, by omega, by omega, s6, fun _ => s5⟩)
    |(refine ⟨.tup [.int .i64 a, .int .i64 b, .int .i64 c, .int .i64 d], ?_, a, b, c, d, ⟨p1.sg, by omega⟩, p9, rfl⟩
      (conv => whnf)
      exact FinP.go rfl (by simp [Clean, CleanL]))
 ·(repeat' (first | (refine CmpP.go (fun hc => ?_) (fun hc => ?_) <;> first | (exfalso; omega) | (conv => whnf)) | (refine OpP.add (by omega) ?_; conv => whnf) | (refine OpP.quo (by omega) (by omega) (fun _ => ?_) (fun _ _ => ?_) <;> first | (exfalso; omega) | (conv => whnf)) | (refine AKM.x ?_; conv => whnf)))
  refine ⟨.tup [.int .i64 a, .int .i64 b, .int .i64 c, .int .i64 d], ?_, a, b, c, d, ⟨p1.sg, by omega⟩, p9, rfl⟩
  (conv => whnf)
  exact FinP.go rfl (by simp [Clean, CleanL])
theorem ev_nat_combine (N : NatGLib L) (x y : List Nat) (q1 q2 : Bool) (f g : Int) (hX : Dig x) (hY : Dig y) (hl : y.length ≤ x.length) (lx : x.length ≤ 549755813888) (hs : CSg f g) (R : Nat) (hR : (R : Int) = f * val x + g * val y) (hR2 : R ≤ val x) :
  Ev L 80 [.sl q1 (x.map e32), .sl q2 (y.map e32), .int .i64 f, .int .i64 g] (.sl false ((dg R).map e32)) := by
 refine Ev.x N.nat_combine rfl rfl ?_
 (repeat' (first | (refine LenP.go ?_; conv => whnf) | (refine AKM.x ?_; conv => whnf)))
 refine MkR.go (enc := e32) 0 x.length rfl rfl (by omega) ?_
 (conv => whnf)
 (repeat' (refine LenP.go ?_; conv => whnf))
 refine AKM.loop3 (fun i _ _ => x.length - i) (fun (i : Nat) (o : List Nat) (c : Int) => i ≤ x.length ∧ o.length = x.length ∧ Dig o ∧ -2147483648 ≤ c ∧ c ≤ 2147483648 ∧ (val (o.take i) : Int) + ((4294967296 ^ i : Nat) : Int) * c = f * val (x.take i) + g * val (y.take i)) (fun i o c => [(10, .int .i64 c), (19, .int .i64 i)]) (fun i o c => [(16, 16, .rw 1 (o.map e32))]) [] [] 0 (List.replicate x.length 0) 0 (by (conv => whnf); exact ⟨rfl, rfl, rfl⟩) ⟨by omega, by simp, dig_zeros _, by omega, by omega, by simp [val]⟩ ?_
 intro i o c ⟨p1, p2, p3, p4, p5, p6⟩ ih
 by_cases hi : i < x.length
 ·obtain ⟨d, hd⟩ : ∃ d, x[i]? = some d := ⟨_, List.getElem?_eq_getElem hi⟩
  have hdb := hX.at hd
  have h1 := val_take_succ hd
  by_cases hy : i < y.length
  ·obtain ⟨e, he⟩ : ∃ e, y[i]? = some e := ⟨_, List.getElem?_eq_getElem hy⟩
   have heb := hY.at he
   have h2 := val_take_succ he
   obtain ⟨r1, r2, r3⟩ := hs.rng hdb heb
   have hst := cm_step (d := d) (e := e) p6 rfl
   (repeat' (first | (refine CmpP.go (fun hc => ?_) (fun hc => ?_) <;> first | (exfalso; omega) | (conv => whnf)) | (refine OpP.add (by omega) ?_; conv => whnf) | (refine OpP.mul (by omega) ?_; conv => whnf) | (refine ConvP.i64 (by omega) ?_; conv => whnf) | (refine LenP.go ?_; conv => whnf) | (refine RdP.at (by assumption) (by omega) rfl ?_; conv => whnf) | (refine AKM.x ?_; conv => whnf)))
   generalize htt : f * ↑d + c + g * ↑e = t at *
   refine ConvP.i32 ?_
   (conv => whnf)
   (repeat' (first | (refine Req.go (by omega) ?_; conv => whnf) | fail))
   refine StR.dig (by omega) ?_
   (conv => whnf)
   refine OpP.shr32 ?_
   (conv => whnf)
   (repeat' (refine OpP.add (by omega) ?_; conv => whnf))
   refine AKM.back [] (by (conv => whnf); exact ⟨rfl, rfl, rfl⟩) (ih (i + 1) _ _ (by omega) ⟨by omega, by simpa using p2, p3.set _ (cmD_lt t), by omega, by omega, ?_⟩)
   rw [val_set_take (by omega), h1, h2, Nat.pow_succ]
   simp only [Int.natCast_add, Int.natCast_mul, cmD_eq]
   exact hst
  ·have h2 := val_take_end (y := y) (i := i) (by omega)
   obtain ⟨r1, r2, r3⟩ := hs.rng (e := 0) hdb (by omega)
   have hst := cm_step (d := d) (e := 0) p6 rfl
   rw [Int.mul_zero, Int.add_zero] at hst
   have r4 : -9223372030412324865 ≤ f * (d : Int) ∧ f * (d : Int) ≤ 9223372030412324865 := r1
   (repeat' (first | (refine CmpP.go (fun hc => ?_) (fun hc => ?_) <;> first | (exfalso; omega) | (conv => whnf)) | (refine OpP.add (by omega) ?_; conv => whnf) | (refine OpP.mul (by omega) ?_; conv => whnf) | (refine ConvP.i64 (by omega) ?_; conv => whnf) | (refine LenP.go ?_; conv => whnf) | (refine RdP.at (by assumption) (by omega) rfl ?_; conv => whnf) | (refine AKM.x ?_; conv => whnf)))
   generalize htt : f * ↑d + c = t at *
   refine ConvP.i32 ?_
   (conv => whnf)
   (repeat' (first | (refine Req.go (by omega) ?_; conv => whnf) | fail))
   refine StR.dig (by omega) ?_
   (conv => whnf)
   refine OpP.shr32 ?_
   (conv => whnf)
   (repeat' (refine OpP.add (by omega) ?_; conv => whnf))
   refine AKM.back [] (by (conv => whnf); exact ⟨rfl, rfl, rfl⟩) (ih (i + 1) _ _ (by omega) ⟨by omega, by simpa using p2, p3.set _ (cmD_lt t), by omega, by omega, ?_⟩)
   rw [val_set_take (by omega), h1, h2, Nat.pow_succ]
   simp only [Int.natCast_add, Int.natCast_mul, cmD_eq]
   rw [Int.mul_zero, Int.add_zero] at hst
   exact hst
 ·obtain rfl : i = x.length := by omega
  clear ih
  rw [val_take_all (by omega), val_take_all (Nat.le_refl _), val_take_all (by omega)] at p6
  have hov := val_lt p3
  have hxv := val_lt hX
  rw [p2] at hov
  have hVR : val o = R := by
   have := cm_end hov p6 (by omega) (by omega)
   omega
  have hl1 := dg_len_val p3
  rw [← p2, ← hVR]
  (repeat' (first | (refine CmpP.go (fun hc => ?_) (fun hc => ?_) <;> first | (exfalso; omega) | (conv => whnf)) | (refine AKM.x ?_; conv => whnf) | (refine CalP.cutR N (by assumption) (by omega) rfl (by first | rfl | omega | assumption) ?_; conv => whnf)))
  refine SnR.part (enc := e32) (fun _ => rfl) (by omega) ?_
  (conv => whnf)
  refine FinP.go ?_ (by simp only [Clean, true_and]; exact cl_dig _)
  rw [List.drop_zero, take_dg p3]
theorem ev_nat_shorten (N : NatGLib L) (X Y : Nat) (hXY : Y ≤ X) (hy : 3 ≤ (dg Y).length) (lx : (dg X).length ≤ 549755813888) : ∃ r, Ev L 81 [.sl false ((dg X).map e32), .sl false ((dg Y).map e32)] r ∧ ∃ A B : Nat, (B < Y ∧ B ≤ A ∧ A ≤ X ∧ Nat.gcd A B = Nat.gcd X Y) ∧ r = .tup [.sl false ((dg A).map e32), .sl false ((dg B).map e32)] := by
 have hY0 : Y ≠ 0 := fun h => by rw [h, dg_zero] at hy; simp at hy
 have hX0 : X ≠ 0 := by omega
 have hlen := dg_len_mono hXY
 have hdv := fun q q' => ev_nat_divide N X Y q q' hY0 lx (by omega)
 have d1 := dig_dg X
 have d2 := dig_dg Y
 have v1 := val_dg X
 have v2 := val_dg Y
 obtain ⟨xt, hxt, hxt0⟩ := dg_top hX0
 have hxtb := d1.at hxt
 obtain ⟨b1, b2, b3, b4⟩ := lz_top hxt0 hxtb
 have hlz := ev_LZ32 N xt hxtb
 generalize hs : 32 - blen xt = s at *
 have hs31 : s ≤ 31 := by omega
 obtain ⟨n1, n2⟩ := lift_norm d1 hxt (by omega) hs31 b3 b4
 have hcb := fun (f g : Int) (R : Nat) (hs : CSg f g) (h1 : (R : Int) = f * val (dg X) + g * val (dg Y)) (h2 : R ≤ val (dg X)) (q q' : Bool) => ev_nat_combine N (dg X) (dg Y) q q' f g d1 d2 (by omega) lx hs R h1 h2
 have n3 : val (dg Y) * 2 ^ s < 4294967296 ^ (dg X).length := Nat.lt_of_le_of_lt (Nat.mul_le_mul_right _ (by omega)) n1
 have hl1 := fun q => ev_nat_leading N (dg X) q (dg X).length s d1 (by omega) (by omega) lx hs31 n1
 have hl2 := fun q => ev_nat_leading N (dg Y) q (dg X).length s d2 (by omega) (by omega) lx hs31 n3
 have hK := leadK_pos (dg X).length s
 obtain ⟨e1, x1, x2, x3⟩ := lead_part (V := X) hK
 obtain ⟨e2, y1, y2, y3⟩ := lead_part (V := Y) hK
 rw [v1] at hl1
 rw [v2] at hl2
 have hq1 := lead_le d1 (n := (dg X).length) (by omega) (by omega) hs31 n1
 have hq2 := lead_le d2 (n := (dg X).length) (by omega) (by omega) hs31 n3
 rw [v1] at hq1
 rw [v2] at hq2
 generalize leadK (dg X).length s = K at *
 generalize X / K = P at *
 generalize Y / K = Q at *
 rw [v1, v2] at hcb
 obtain ⟨rc, hrc, a, b, c, d, ⟨z1, z2, z3, z4, z5⟩, z6, rfl⟩ := ev_nat_cofactors N (P : Int) (Q : Int) (by omega) (by omega)
 have e1 : (((dg X).length : Int) - 1).toNat = (dg X).length - 1 := by omega
 rw [← e1] at hxt
 refine Ev.xE N.nat_shorten rfl rfl ?_
 by_cases hb : b = 0
 ·(repeat' (first | (refine CmpP.go (fun hc => ?_) (fun hc => ?_) <;> first | (exfalso; omega) | (conv => whnf)) | (refine OpP.sub (by omega) ?_; conv => whnf) | (refine ConvP.u64 (by omega) ?_; conv => whnf) | (refine LenP.go ?_; conv => whnf) | (refine RdP.at (by assumption) (by omega) rfl ?_; conv => whnf) | (refine AKM.x ?_; conv => whnf) | (refine CallP.go (hlz) ?_; conv => whnf) | (refine CallP.go (hl1 _) ?_; conv => whnf) | (refine CallP.go (hl2 _) ?_; conv => whnf) | (refine CallP.go (hrc) ?_; conv => whnf) | (refine CallP.go (hdv _ _) ?_; conv => whnf)))
  refine ⟨_, ?_, Y, X % Y, ⟨Nat.mod_lt _ (by omega), Nat.le_of_lt (Nat.mod_lt _ (by omega)), hXY, gcd_mod_step X Y⟩, rfl⟩
  (conv => whnf)
  exact FinP.go rfl (cl_pair _ _)
 ·obtain ⟨g1, g2, g3, g4⟩ := z6 hb (X : Int) (Y : Int) (K : Int) _ _ (by omega) x1 y1 x2 x3 y2 y3
  obtain ⟨A, hA⟩ := Int.eq_ofNat_of_zero_le (show 0 ≤ a * X + b * Y by omega)
  obtain ⟨B, hB⟩ := Int.eq_ofNat_of_zero_le g1
  have s1 : CSg a b := by rcases z1 with ⟨h1, h2, h3, h4⟩ | ⟨h1, h2, h3, h4⟩ <;> unfold CSg <;> omega
  have s2 : CSg c d := by rcases z1 with ⟨h1, h2, h3, h4⟩ | ⟨h1, h2, h3, h4⟩ <;> unfold CSg <;> omega
  (repeat' (first | (refine CmpP.go (fun hc => ?_) (fun hc => ?_) <;> first | (exfalso; omega) | (conv => whnf)) | (refine OpP.sub (by omega) ?_; conv => whnf) | (refine ConvP.u64 (by omega) ?_; conv => whnf) | (refine LenP.go ?_; conv => whnf) | (refine RdP.at (by assumption) (by omega) rfl ?_; conv => whnf) | (refine AKM.x ?_; conv => whnf) | (refine CallP.go (hlz) ?_; conv => whnf) | (refine CallP.go (hl1 _) ?_; conv => whnf) | (refine CallP.go (hl2 _) ?_; conv => whnf) | (refine CallP.go (hrc) ?_; conv => whnf) | (refine CallP.go (hcb a b A s1 hA.symm (by omega) _ _) ?_; conv => whnf) | (refine CallP.go (hcb c d B s2 hB.symm (by omega) _ _) ?_; conv => whnf)))
  rw [hA, hB] at g4
  rw [hA, hB] at g2
  refine ⟨_, ?_, A, B, ⟨by omega, by omega, by omega, by simpa using g4⟩, rfl⟩
  (conv => whnf)
  exact FinP.go rfl (cl_pair _ _)
theorem gcd_main (N : NatGLib L) (X Y : Nat) (hXY : Y ≤ X) (lx : (dg X).length ≤ 549755813888) :
 AKM L [It.lp nat_Gcd.l1, It.blk 0,
   It.code
    ((((ACode.ops nat_Gcd.r6 false).dr [23, 30, 31] []).seq
       (ACode.cond 32 (((ACode.ops nat_Gcd.r7 false).dr [5, 6, 32, 33] []).seq ACode.ret) ACode.skip)).seq
     (((ACode.ops nat_Gcd.r8 false).dr [5, 7, 32, 34, 35, 36, 37, 38, 39] []).seq
      (((ACode.ops nat_Gcd.r9 false).dr [6, 8, 40, 41, 42, 43] []).seq
       ((ACode.block 2 nat_Gcd.l2.loop).seq
        (((ACode.ops nat_Gcd.r12 false).dr [9, 10, 45, 50, 51, 52, 53, 54, 55, 56] []).seq ACode.ret)))))]
  [(6, AV.sl false (List.map e32 (dg Y))), (5, AV.sl false (List.map e32 (dg X)))] []
  (RetX nat_Gcd (AV.sl false (List.map e32 (dg (X.gcd Y))))) := by
 refine AKM.loop2 (fun _ y => y) (fun (x y : Nat) => y ≤ x ∧ (dg x).length ≤ 549755813888 ∧ Nat.gcd x y = Nat.gcd X Y) (fun x y => [(6, AV.sl false (List.map e32 (dg y))), (5, AV.sl false (List.map e32 (dg x)))]) (fun _ _ => []) [] [] X Y (by (conv => whnf); exact ⟨rfl, rfl, rfl⟩) ⟨hXY, lx, rfl⟩ ?_
 intro x y ⟨p1, p2, p3⟩ ih
 rw [← p3] at ih ⊢
 generalize Nat.gcd X Y = G at *
 clear hXY lx
 subst p3
 have hlen := dg_len_mono p1
 by_cases h3 : 3 ≤ (dg y).length
 ·obtain ⟨r, hr, A, B, ⟨k1, k2, k3, k4⟩, rfl⟩ := ev_nat_shorten N x y p1 h3 p2
  have k5 := dg_len_mono k3
  (repeat' (first | (refine CmpP.go (fun hc => ?_) (fun hc => ?_) <;> first | (exfalso; omega) | (conv => whnf)) | (refine LenP.go ?_; conv => whnf) | (refine AKM.x ?_; conv => whnf) | (refine CallP.go (hr) ?_; conv => whnf)))
  exact AKM.back [] (by (conv => whnf); exact ⟨rfl, rfl, rfl⟩) (ih A B k1 ⟨k2, by omega, k4⟩)
 ·clear ih
  by_cases h0 : y = 0
  ·subst h0
   have hl0 : (dg 0).length = 0 := by rw [dg_zero]; rfl
   (repeat' (first | (refine CmpP.go (fun hc => ?_) (fun hc => ?_) <;> first | (exfalso; omega) | (conv => whnf)) | (refine LenP.go ?_; conv => whnf) | (refine AKM.x ?_; conv => whnf)))
   rw [Nat.gcd_zero_right]
   exact FinP.go rfl (by simp only [Clean, true_and]; exact cl_dig _)
  ·have hp := dg_len_pos h0
   have hm := dg_len_mono (Nat.le_of_lt (Nat.mod_lt x (show y > 0 by omega)))
   have hd := fun q q' => ev_nat_divide N x y q q' h0 p2 (by omega)
   have hs1 := fun q => ev_nat_small N y q (by omega)
   have hs2 := fun q => ev_nat_small N (x % y) q (by omega)
   have hb : y < 18446744073709551616 := dg_len_le.1 (show (dg y).length ≤ 2 by omega)
   have hml : x % y < y := Nat.mod_lt _ (by omega)
   rw [← gcd_mod_step x y]
   (repeat' (first | (refine CmpP.go (fun hc => ?_) (fun hc => ?_) <;> first | (exfalso; omega) | (conv => whnf)) | (refine LenP.go ?_; conv => whnf) | (refine AKM.x ?_; conv => whnf) | (refine CallP.go (hd _ _) ?_; conv => whnf) | (refine CallP.go (hs1 _) ?_; conv => whnf) | (refine CallP.go (hs2 _) ?_; conv => whnf)))
   refine AKM.loop2 (fun _ q => q) (fun (p q : Nat) => p < 18446744073709551616 ∧ q < 18446744073709551616 ∧ Nat.gcd p q = Nat.gcd y (x % y)) (fun p q => [(9, .int .u64 (p : Int)), (10, .int .u64 (q : Int))]) (fun _ _ => []) [] [] y (x % y) (by (conv => whnf); exact ⟨rfl, rfl, rfl⟩) ⟨hb, by omega, rfl⟩ ?_
   intro p q ⟨g1, g2, g3⟩ ih
   rw [← g3] at ih ⊢
   by_cases hq : q = 0
   ·subst hq
    clear ih
    obtain ⟨v1, v2⟩ := dg2 g1
    rw [Nat.gcd_zero_right]
    have hl1 := dg_len_val v2
    have ht := take_dg v2
    rw [v1] at hl1 ht
    (repeat' (first | (refine CmpP.go (fun hc => ?_) (fun hc => ?_) <;> first | (exfalso; omega) | (conv => whnf)) | (refine OpP.nshr32 ?_; conv => whnf) | (refine ConvP.n32i (by omega) ?_; conv => whnf) | (refine ConvP.n32 ?_; conv => whnf) | (refine AKM.x ?_; conv => whnf)))
    generalize p % 4294967296 = lo at *
    generalize p / 4294967296 = hi at *
    refine CalP.cutR N v2 (by simp) rfl rfl ?_
    rw [v1]
    (conv => whnf)
    skip
    refine SnR.part (enc := e32) (l := [lo, hi]) (fun _ => rfl) (by omega) ?_
    (conv => whnf)
    refine FinP.go ?_ (by simp only [Clean, true_and]; exact cl_dig _)
    rw [List.drop_zero, ht]
   ·have hpq : p % q < q := Nat.mod_lt _ (by omega)
    (repeat' (first | (refine CmpP.go (fun hc => ?_) (fun hc => ?_) <;> first | (exfalso; omega) | (conv => whnf)) | (refine OpP.nrem (by omega) ?_; conv => whnf) | (refine AKM.x ?_; conv => whnf)))
    exact AKM.back [] (by (conv => whnf); exact ⟨rfl, rfl, rfl⟩) (ih q (p % q) hpq ⟨g2, by omega, gcd_mod_step p q⟩)
theorem ev_nat_Gcd (N : NatGLib L) (a b : List Nat) (q1 q2 : Bool) (hA : Dig a) (hB : Dig b) (la : a.length ≤ 549755813888) (lb : b.length ≤ 549755813888) :
  Ev L 82 [.sl q1 (a.map e32), .sl q2 (b.map e32)] (.sl false ((dg (Nat.gcd (val a) (val b))).map e32)) := by
 have t1 := fun q => ev_Trim N a q hA (by omega)
 have t2 := fun q => ev_Trim N b q hB (by omega)
 have l1 := dg_len_val hA
 have l2 := dg_len_val hB
 have hcmp := fun q q' => ev_nat_Compare N (dg (val a)) (dg (val b)) q q' (dig_dg _) (dig_dg _) (by omega) (by omega)
 rw [val_dg, val_dg] at hcmp
 generalize val a = X at *
 generalize val b = Y at *
 refine Ev.x N.nat_Gcd rfl rfl ?_
 by_cases hlt : X < Y
 ·have hn : cmpS X Y = -1 := (cmpS_lt (by omega)).symm
  rw [hn] at hcmp
  (repeat' (first | (refine CmpP.go (fun hc => ?_) (fun hc => ?_) <;> first | (exfalso; omega) | (conv => whnf)) | (refine AKM.x ?_; conv => whnf) | (refine CallP.go (t1 _) ?_; conv => whnf) | (refine CallP.go (t2 _) ?_; conv => whnf) | (refine CallP.go (hcmp _ _) ?_; conv => whnf)))
  rw [Nat.gcd_comm]
  exact AKM.back [] (by (conv => whnf); exact ⟨rfl, rfl, rfl⟩) (gcd_main N Y X (by omega) (by omega))
 ·have hge : 0 ≤ cmpS X Y := by unfold cmpS; split <;> (try split) <;> omega
  generalize cmpS X Y = cm at *
  (repeat' (first | (refine CmpP.go (fun hc => ?_) (fun hc => ?_) <;> first | (exfalso; omega) | (conv => whnf)) | (refine AKM.x ?_; conv => whnf) | (refine CallP.go (t1 _) ?_; conv => whnf) | (refine CallP.go (t2 _) ?_; conv => whnf) | (refine CallP.go (hcmp _ _) ?_; conv => whnf)))
  exact AKM.back [] (by (conv => whnf); exact ⟨rfl, rfl, rfl⟩) (gcd_main N X Y (by omega) (by omega))
end Go.Eng

namespace Go.Eng
def resLtC (N : Nat) : List ARes → Bool
 | [] => true
 | .tmp t :: r => Nat.blt t N && resLtC N r
 | .cell t _ _ :: r => Nat.blt t N && resLtC N r
theorem resOf_lo {N : Nat} {s s' : St} (ho : s.own = s'.own) (hlo : ∀ j, j < N → tget s'.tm j = tget s.tm j) : ∀ {res : List ARes}, resLtC N res = true → res.mapM (resOf s) = res.mapM (resOf s')
 | [], _ => rfl
 | .tmp t :: r, h => by
  simp only [resLtC, Bool.and_eq_true] at h
  have := resOf_lo ho hlo h.2
  simp only [List.mapM_cons, resOf, hlo t (blt_iff.1 h.1), this]
 | .cell t agg n :: r, h => by
  simp only [resLtC, Bool.and_eq_true] at h
  have := resOf_lo ho hlo h.2
  simp only [List.mapM_cons, resOf, hlo t (blt_iff.1 h.1), this, ho]
def RetC (N : Nat) (fn : AFn) (tm : Tm) (K : AV → Mem → Prop) (tm' : Tm) (M' : Mem) : Prop := gh N tm' = tm ∧ resLX tm' M' fn.res (fun rs => rsv rs fun v => K v M')
theorem CalP.walkC {L : Lib} {f : Nat} {fn : AFn} {vs : List AV} {tm : Tm} {M : Mem} {K : AV → Mem → Prop} (N : Nat) (hL : L f = some fn) (hp : Nat.beq vs.length fn.pars = true) (hN : (Nat.ble fn.pars N && (cLt N fn.body && resLtC N fn.res)) = true)
  (h : AKM L [.code fn.body] (initTm 0 vs ++ shT N tm) M (RetC N fn tm K)) : CalP L f vs tm M K := by
 intro σ own hs
 simp only [Bool.and_eq_true] at hN
 obtain ⟨n1, n2, n3⟩ := hN
 have n1 := Nat.le_of_ble_eq_true n1
 have hp : vs.length = fn.pars := Nat.eq_of_beq_eq_true hp
 have hrx : RX σ (initTm 0 vs ++ shT N tm) M ⟨mapT (st3 σ) (initTm 0 vs ++ shT N tm), own⟩ := ⟨fun j => Or.inr (by rw [tg_eq]; exact tget_mapT (st3_any σ) j _), hs⟩
 obtain ⟨n, c, s', hr, σ', tm', M', hR, hg, hres⟩ := h σ _ hrx
 have hgh : Gh N (mapT (st3 σ) (shT N tm)) (initTm 0 (vs.map (st3 σ))) (mapT (st3 σ) (initTm 0 vs ++ shT N tm)) := by
  constructor
  ·intro j hj
   rw [initTm_map, tget_mapT (st3_any σ), tget_mapT (st3_any σ)]
   rcases tget_append j (shT N tm) (initTm 0 vs) with ⟨_, e⟩ | ⟨hn, e⟩
   ·rw [e]
   ·rw [e, tget_shT_lt hj, tget_initTm_hi j 0 vs hn]
  ·intro j hj
   rw [tget_mapT (st3_any σ), tget_mapT (st3_any σ)]
   rcases tget_append j (shT N tm) (initTm 0 vs) with ⟨hn, e⟩ | ⟨_, e⟩
   ·have := initTm_any j 0 vs hn
    omega
   ·rw [e]
 obtain ⟨s, r1, r2, r3⟩ := run_gh n (by simp [iLt, n2]) hgh hr
 obtain ⟨rs, i1, i2, i3⟩ := resLX_sound hR hres
 rw [← resOf_lo (s := s) r2.symm r3.lo n3, i3] at i1
 have key : ∃ r, resVal (rs.map (st2 σ')) = st3 σ' r ∧ K r M' := by
  match rs, i2, i3 with
  | [], h, _ => exact ⟨.tup [], rfl, h⟩
  | [v], h, e =>
   simp only [List.map_cons, List.map_nil, List.cons.injEq, and_true] at e
   exact ⟨v, by simp only [List.map_cons, List.map_nil, resVal]; exact e.symm, h⟩
  | a :: b :: l, h, _ => exact ⟨.tup (a :: b :: l), rfl, h⟩
 obtain ⟨r, k1, k2⟩ := key
 refine ⟨r, s.own, σ', M', EvI.intro hL (by simpa using hp) ⟨n, c, s, r1, ?_, rfl⟩, ?_, ?_, k2⟩
 ·rw [i1, Option.map_some, k1]
 ·rw [← r2]; exact hR.sat
 ·intro j
  have e1 : tg tm j = tg tm' (N + j) := by rw [tg_eq, tg_eq, ← hg, tget_gh]
  rcases hR.tm (N + j) with e | e
  ·rw [e1, e]; rfl
  ·rw [e1, ← e, r3.hi (N + j) (by omega), tget_mapT (st3_any σ), tget_shT, ← tg_eq, e1]
end Go.Eng

namespace Go.Eng
def zv (neg : Bool) (m : List Nat) : Int := bif neg then -(val m : Int) else (val m : Int)
abbrev rZ (q neg : Bool) (m : List Nat) : List AV := [.bool neg, .sl q (m.map e32)]
abbrev eZ (z : Int) : List AV := rZ false (decide (z < 0)) (dg z.natAbs)
theorem zv_abs (neg : Bool) (m : List Nat) : (zv neg m).natAbs = val m := by cases neg <;> simp [zv]
theorem zv_of (z : Int) : zv (decide (z < 0)) (dg z.natAbs) = z := by
 unfold zv
 rw [val_dg]
 by_cases h : z < 0
 ·simp [h]; omega
 ·simp [h]; omega
def Sm (n : Nat) (m : List Nat) : Prop := Dig m ∧ m.length ≤ n
theorem Sm.dg {n V : Nat} (h : V < 4294967296 ^ n) : Sm n (dg V) := ⟨dig_dg V, dg_len_le.2 h⟩
theorem Sm.le {n n' : Nat} {m : List Nat} (h : Sm n m) (hn : n ≤ n') : Sm n' m := ⟨h.1, by have := h.2; omega⟩
theorem Sm.val {n : Nat} {m : List Nat} (h : Sm n m) : val m < 4294967296 ^ n := Nat.lt_of_lt_of_le (val_lt h.1) (Nat.pow_le_pow_right (by omega) h.2)
theorem Sm.nrm {n : Nat} {m : List Nat} (h : Sm n m) : Sm n (Go.Eng.dg (Go.Eng.val m)) := Sm.dg h.val
theorem agg_eZ {z : Int} {b : Bool} {n : Nat} (h1 : n = z.natAbs) (h2 : b = decide (z < 0)) : AV.agg [.bool b, .sl false ((dg n).map e32)] = .agg (eZ z) := by rw [h1, h2]
theorem cl_eZ (z : Int) : Clean (.agg (eZ z)) := by
 simp only [Clean, CleanL, and_true, true_and]
 exact cl_dig _
theorem sgn_T {z : Int} (h : z < 0) : true = decide (z < 0) := by simp [h]
theorem sgn_F {z : Int} (h : 0 ≤ z) : false = decide (z < 0) := by simp; omega
theorem sm_nil (n : Nat) : Sm n [] := ⟨dig_nil, Nat.zero_le _⟩
theorem sm_one {n d : Nat} (hn : 1 ≤ n) (hd : d < 4294967296) : Sm n [d] := ⟨dig_one hd, hn⟩
theorem zv_nil (b : Bool) : zv b [] = 0 := by cases b <;> rfl
theorem Sm.low {n V : Nat} {m : List Nat} (h : Sm n m) (hV : V ≤ Go.Eng.val m) : Sm n (Go.Eng.dg V) := Sm.dg (Nat.lt_of_le_of_lt hV h.val)
theorem Sm.mul {n k : Nat} {a b : List Nat} (ha : Sm n a) (hb : Sm k b) {V : Nat} (hV : V = Go.Eng.val a * Go.Eng.val b) : Sm (n + k) (Go.Eng.dg V) := by
 refine Sm.dg ?_
 rw [hV, Nat.pow_add]
 exact Nat.mul_lt_mul_of_le_of_lt (Nat.le_of_lt ha.val) hb.val (Nat.pow_pos (by omega))
theorem Sm.add {n : Nat} {a b : List Nat} (ha : Sm n a) (hb : Sm n b) {V : Nat} (hV : V ≤ Go.Eng.val a + Go.Eng.val b) : Sm (n + 1) (Go.Eng.dg V) := by
 refine Sm.dg ?_
 have h1 := ha.val
 have h2 := hb.val
 rw [Nat.pow_succ]
 omega
theorem dg_len0 (V : Nat) : (dg V).length = 0 ↔ V = 0 := by rw [List.length_eq_zero_iff, dg_eq_nil]
theorem zv_F (m : List Nat) : zv false m = (val m : Int) := rfl
theorem zv_T (m : List Nat) : zv true m = -(val m : Int) := rfl
def sgn (z : Int) : Int := if z < 0 then -1 else if 0 < z then 1 else 0
theorem sgn_neg {z : Int} (h : z < 0) : -1 = sgn z := by unfold sgn; rw [if_pos h]
theorem sgn_pos {z : Int} (h : 0 < z) : 1 = sgn z := by unfold sgn; rw [if_neg (by omega), if_pos h]
theorem sgn_zero {z : Int} (h : z = 0) : 0 = sgn z := by unfold sgn; rw [if_neg (by omega), if_neg (by omega)]
theorem val_two {n : Nat} (h : n < 18446744073709551616) : val [n % 4294967296, n / 4294967296] = n := (by simp [val]; omega)
end Go.Eng

namespace Go.Eng
open F
attribute [local irreducible] AKM CmpP Req OpP UnP ConvP RdP LdR StR MkR LenP AppR AppN CpyR RowP SnR Bds SlS CallP CalP FinP pw LdM GetM SetM PutM MkM AppM SnM FlP CallR
set_option maxHeartbeats 4000000
variable {L : Lib}
theorem ConvP.u64neg {k : Nat} {K : Int → Prop} (h : 0 < k ∧ k ≤ 9223372036854775808) (hk : K ((18446744073709551616 - k : Nat) : Int)) : ConvP .u64 (-(k : Int)) K := by
 unfold ConvP
 have e : IntKind.u64.wrap (-(k : Int)) = ((18446744073709551616 - k : Nat) : Int) := by
  simp [IntKind.wrap, IntKind.bits, IntKind.signed]; omega
 rw [e]; exact hk
theorem UnP.neg64 {k : Nat} {K : AV → Prop} (h : 0 < k ∧ k ≤ 9223372036854775808) (hk : K (.int .u64 (k : Int))) : UnP .neg .u64 ((18446744073709551616 - k : Nat) : Int) K := by
 refine UnP.go (v := .int .u64 (IntKind.u64.wrap (0 - ((18446744073709551616 - k : Nat) : Int)))) rfl ?_
 have e : IntKind.u64.wrap (0 - ((18446744073709551616 - k : Nat) : Int)) = (k : Int) := by
  simp [IntKind.wrap, IntKind.bits, IntKind.signed]; omega
 rw [e]; exact hk
theorem ev_integer_Of (N : RatGLib L) (z : Int) (hz : -9223372036854775808 ≤ z ∧ z ≤ 9223372036854775807) : Ev L 85 [.int .i64 z] (.agg (eZ z)) := by
 have two : ∀ k : Nat, k < 18446744073709551616 → ∀ q, Ev L 66 [.sl q [[.int .u32 ((k % 4294967296 : Nat) : Int)], [.int .u32 ((k / 4294967296 : Nat) : Int)]]] (.sl false ((dg k).map e32)) := fun k hk q => by
  have := ev_Trim N.toNatGLib [k % 4294967296, k / 4294967296] q (dg2 hk).2 (by simp)
  rw [val_two hk] at this
  exact this
 refine Ev.x N.integer_Of rfl rfl ?_
 by_cases h0 : 0 ≤ z
 ·obtain ⟨k, rfl⟩ := Int.eq_ofNat_of_zero_le h0
  have hT := two k (by omega)
  have z1 := dg_len0 k
  (repeat' (first | (refine CmpP.go (fun hc => ?_) (fun hc => ?_) <;> first | (exfalso; omega) | (conv => whnf)) | (refine OpP.nshr32 ?_; conv => whnf) | (refine ConvP.u64 (by omega) ?_; conv => whnf) | (refine ConvP.n32i (by omega) ?_; conv => whnf) | (refine ConvP.n32 ?_; conv => whnf) | (refine SnR.e2 rfl rfl ?_; conv => whnf) | (refine AKM.x ?_; conv => whnf)))
  generalize k % 4294967296 = lo at *
  generalize k / 4294967296 = hi at *
  (repeat' (refine CallP.go (hT _) ?_; conv => whnf))
  refine CalP.walkC 1000 N.integer_signed rfl rfl ?_
  (repeat' (refine AKM.x ?_; conv => whnf))
  all_goals (refine ⟨rfl, ?_⟩; (conv => whnf); skip)
  exact FinP.go (agg_eZ (by omega) (sgn_F (by omega))) (cl_eZ _)
 ·obtain ⟨k, hk⟩ := Int.eq_ofNat_of_zero_le (show 0 ≤ -z by omega)
  obtain rfl : z = -(k : Int) := by omega
  have hT := two k (by omega)
  have z1 := dg_len0 k
  (repeat' (refine AKM.x ?_; conv => whnf))
  refine ConvP.u64neg (by omega) ?_
  (conv => whnf)
  (repeat' (refine CmpP.go (fun hc => ?_) (fun hc => ?_) <;> first | (exfalso; omega) | (conv => whnf)))
  refine UnP.neg64 (by omega) ?_
  (conv => whnf)
  (repeat' (first | (refine CmpP.go (fun hc => ?_) (fun hc => ?_) <;> first | (exfalso; omega) | (conv => whnf)) | (refine OpP.nshr32 ?_; conv => whnf) | (refine ConvP.n32i (by omega) ?_; conv => whnf) | (refine ConvP.n32 ?_; conv => whnf) | (refine SnR.e2 rfl rfl ?_; conv => whnf)))
  generalize k % 4294967296 = lo at *
  generalize k / 4294967296 = hi at *
  (repeat' (refine CallP.go (hT _) ?_; conv => whnf))
  refine CalP.walkC 1000 N.integer_signed rfl rfl ?_
  (repeat' (first | (refine CmpP.go (fun hc => ?_) (fun hc => ?_) <;> first | (exfalso; omega) | (conv => whnf)) | (refine LenP.go ?_; conv => whnf) | (refine AKM.x ?_; conv => whnf)))
  all_goals (refine ⟨rfl, ?_⟩; (conv => whnf); skip)
  exact FinP.go (agg_eZ (by omega) (sgn_T (by omega))) (cl_eZ _)
theorem ev_integer_Trim (N : RatGLib L) (n q : Bool) (m : List Nat) (hm : Sm 549755813888 m) : Ev L 84 [.agg (rZ q n m)] (.agg (eZ (zv n m))) := by
 have hT := fun q => ev_Trim N.toNatGLib m q hm.1 (by have := hm.2; omega)
 have hz := dg_len0 (val m)
 have ha := zv_abs n m
 refine Ev.x N.integer_Trim rfl rfl ?_
 cases n
 ·rw [zv_F] at *
  (repeat' (first | (refine AKM.x ?_; conv => whnf) | (refine CallP.go (hT _) ?_; conv => whnf)))
  refine CalP.walkC 1000 N.integer_signed rfl rfl ?_
  (repeat' (refine AKM.x ?_; conv => whnf))
  all_goals (refine ⟨rfl, ?_⟩; (conv => whnf); skip)
  exact FinP.go (agg_eZ ha.symm (sgn_F (by omega))) (cl_eZ _)
 ·rw [zv_T] at *
  (repeat' (first | (refine AKM.x ?_; conv => whnf) | (refine CallP.go (hT _) ?_; conv => whnf)))
  refine CalP.walkC 1000 N.integer_signed rfl rfl ?_
  (repeat' (first | (refine CmpP.go (fun hc => ?_) (fun hc => ?_) <;> first | (exfalso; omega) | (conv => whnf)) | (refine LenP.go ?_; conv => whnf) | (refine AKM.x ?_; conv => whnf)))
  all_goals (refine ⟨rfl, ?_⟩; (conv => whnf); skip)
  ·exact FinP.go (agg_eZ ha.symm (sgn_T (by omega))) (cl_eZ _)
  ·exact FinP.go (agg_eZ ha.symm (sgn_F (by omega))) (cl_eZ _)
theorem ev_integer_Sign (N : RatGLib L) (n q : Bool) (m : List Nat) (hm : Sm 549755813888 m) : Ev L 86 [.agg (rZ q n m)] (.int .i64 (sgn (zv n m))) := by
 have hcmp := fun q q' => ev_nat_Compare N.toNatGLib m [] q q' hm.1 dig_nil (by have := hm.2; omega) (by simp)
 rw [val_nil] at hcmp
 refine Ev.x N.integer_Sign rfl rfl ?_
 by_cases h0 : val m = 0
 ·have hn : cmpS (val m) (0 : Nat) = 0 := (cmpS_eq (by omega)).symm
  rw [hn] at hcmp
  (repeat' (first | (refine CmpP.go (fun hc => ?_) (fun hc => ?_) <;> first | (exfalso; omega) | (conv => whnf)) | (refine AKM.x ?_; conv => whnf) | (refine CallP.go (hcmp _ _) ?_; conv => whnf)))
  exact FinP.i (sgn_zero (by have := zv_abs n m; omega))
 ·have hn : cmpS (val m) (0 : Nat) = 1 := (cmpS_gt (by omega)).symm
  rw [hn] at hcmp
  cases n
  ·(repeat' (first | (refine CmpP.go (fun hc => ?_) (fun hc => ?_) <;> first | (exfalso; omega) | (conv => whnf)) | (refine AKM.x ?_; conv => whnf) | (refine CallP.go (hcmp _ _) ?_; conv => whnf)))
   exact FinP.i (sgn_pos (by rw [zv_F]; omega))
  ·(repeat' (first | (refine CmpP.go (fun hc => ?_) (fun hc => ?_) <;> first | (exfalso; omega) | (conv => whnf)) | (refine AKM.x ?_; conv => whnf) | (refine CallP.go (hcmp _ _) ?_; conv => whnf)))
   exact FinP.i (sgn_neg (by rw [zv_T]; omega))
theorem ev_integer_Add (N : RatGLib L) (n1 n2 q1 q2 : Bool) (a b : List Nat) (ha : Sm 549755813888 a) (hb : Sm 549755813888 b) : Ev L 87 [.agg (rZ q1 n1 a), .agg (rZ q2 n2 b)] (.agg (eZ (zv n1 a + zv n2 b))) := by
 have la := ha.2
 have lb := hb.2
 have h1 := fun q q' => ev_nat_Add N.toNatGLib a b q q' ha.1 hb.1 (by omega) (by omega)
 have h2 := fun q q' => ev_nat_Sub N.toNatGLib a b q q' ha.1 hb.1 (by omega) (by omega)
 have h3 := fun q q' => ev_nat_Sub N.toNatGLib b a q q' hb.1 ha.1 (by omega) (by omega)
 have hcmp := fun q q' => ev_nat_Compare N.toNatGLib a b q q' ha.1 hb.1 (by omega) (by omega)
 have z1 := dg_len0 (val a + val b)
 have z2 := dg_len0 (val a - val b)
 have z3 := dg_len0 (val b - val a)
 refine Ev.x N.integer_Add rfl rfl ?_
 by_cases hlt : val a < val b
 ·have hn : cmpS (val a) (val b) = -1 := (cmpS_lt (by omega)).symm
  rw [hn] at hcmp
  cases n1 <;> cases n2 <;> simp only [zv_F, zv_T]
  ·(repeat' (first | (refine AKM.x ?_; conv => whnf) | (refine CallP.go (h1 _ _) ?_; conv => whnf)))
   refine CalP.walkC 1000 N.integer_signed rfl rfl ?_
   (repeat' (refine AKM.x ?_; conv => whnf))
   all_goals (refine ⟨rfl, ?_⟩; (conv => whnf); skip)
   exact FinP.go (agg_eZ (by omega) (sgn_F (by omega))) (cl_eZ _)
  ·(repeat' (first | (refine CmpP.go (fun hc => ?_) (fun hc => ?_) <;> first | (exfalso; omega) | (conv => whnf)) | (refine AKM.x ?_; conv => whnf) | (refine CallP.go (h3 _ _) ?_; conv => whnf) | (refine CallP.go (hcmp _ _) ?_; conv => whnf)))
   refine CalP.walkC 1000 N.integer_signed rfl rfl ?_
   (repeat' (first | (refine CmpP.go (fun hc => ?_) (fun hc => ?_) <;> first | (exfalso; omega) | (conv => whnf)) | (refine LenP.go ?_; conv => whnf) | (refine AKM.x ?_; conv => whnf)))
   all_goals (refine ⟨rfl, ?_⟩; (conv => whnf); skip)
   ·exact FinP.go (agg_eZ (by omega) (sgn_T (by omega))) (cl_eZ _)
  ·(repeat' (first | (refine CmpP.go (fun hc => ?_) (fun hc => ?_) <;> first | (exfalso; omega) | (conv => whnf)) | (refine AKM.x ?_; conv => whnf) | (refine CallP.go (h3 _ _) ?_; conv => whnf) | (refine CallP.go (hcmp _ _) ?_; conv => whnf)))
   refine CalP.walkC 1000 N.integer_signed rfl rfl ?_
   (repeat' (refine AKM.x ?_; conv => whnf))
   all_goals (refine ⟨rfl, ?_⟩; (conv => whnf); skip)
   ·exact FinP.go (agg_eZ (by omega) (sgn_F (by omega))) (cl_eZ _)
  ·(repeat' (first | (refine AKM.x ?_; conv => whnf) | (refine CallP.go (h1 _ _) ?_; conv => whnf)))
   refine CalP.walkC 1000 N.integer_signed rfl rfl ?_
   (repeat' (first | (refine CmpP.go (fun hc => ?_) (fun hc => ?_) <;> first | (exfalso; omega) | (conv => whnf)) | (refine LenP.go ?_; conv => whnf) | (refine AKM.x ?_; conv => whnf)))
   all_goals (refine ⟨rfl, ?_⟩; (conv => whnf); skip)
   ·exact FinP.go (agg_eZ (by omega) (sgn_T (by omega))) (cl_eZ _)
 ·have hn : cmpS (val a) (val b) ≠ -1 := by unfold cmpS; split <;> (try split) <;> omega
  generalize cmpS (val a) (val b) = cm at *
  cases n1 <;> cases n2 <;> simp only [zv_F, zv_T]
  ·(repeat' (first | (refine AKM.x ?_; conv => whnf) | (refine CallP.go (h1 _ _) ?_; conv => whnf)))
   refine CalP.walkC 1000 N.integer_signed rfl rfl ?_
   (repeat' (refine AKM.x ?_; conv => whnf))
   all_goals (refine ⟨rfl, ?_⟩; (conv => whnf); skip)
   exact FinP.go (agg_eZ (by omega) (sgn_F (by omega))) (cl_eZ _)
  ·(repeat' (first | (refine CmpP.go (fun hc => ?_) (fun hc => ?_) <;> first | (exfalso; omega) | (conv => whnf)) | (refine AKM.x ?_; conv => whnf) | (refine CallP.go (h2 _ _) ?_; conv => whnf) | (refine CallP.go (hcmp _ _) ?_; conv => whnf)))
   refine CalP.walkC 1000 N.integer_signed rfl rfl ?_
   (repeat' (refine AKM.x ?_; conv => whnf))
   all_goals (refine ⟨rfl, ?_⟩; (conv => whnf); skip)
   exact FinP.go (agg_eZ (by omega) (sgn_F (by omega))) (cl_eZ _)
  ·(repeat' (first | (refine CmpP.go (fun hc => ?_) (fun hc => ?_) <;> first | (exfalso; omega) | (conv => whnf)) | (refine AKM.x ?_; conv => whnf) | (refine CallP.go (h2 _ _) ?_; conv => whnf) | (refine CallP.go (hcmp _ _) ?_; conv => whnf)))
   refine CalP.walkC 1000 N.integer_signed rfl rfl ?_
   (repeat' (first | (refine CmpP.go (fun hc => ?_) (fun hc => ?_) <;> first | (exfalso; omega) | (conv => whnf)) | (refine LenP.go ?_; conv => whnf) | (refine AKM.x ?_; conv => whnf)))
   all_goals (refine ⟨rfl, ?_⟩; (conv => whnf); skip)
   ·exact FinP.go (agg_eZ (by omega) (sgn_T (by omega))) (cl_eZ _)
   ·exact FinP.go (agg_eZ (by omega) (sgn_F (by omega))) (cl_eZ _)
  ·(repeat' (first | (refine AKM.x ?_; conv => whnf) | (refine CallP.go (h1 _ _) ?_; conv => whnf)))
   refine CalP.walkC 1000 N.integer_signed rfl rfl ?_
   (repeat' (first | (refine CmpP.go (fun hc => ?_) (fun hc => ?_) <;> first | (exfalso; omega) | (conv => whnf)) | (refine LenP.go ?_; conv => whnf) | (refine AKM.x ?_; conv => whnf)))
   all_goals (refine ⟨rfl, ?_⟩; (conv => whnf); skip)
   ·exact FinP.go (agg_eZ (by omega) (sgn_T (by omega))) (cl_eZ _)
   ·exact FinP.go (agg_eZ (by omega) (sgn_F (by omega))) (cl_eZ _)
theorem ev_integer_Mul (N : RatGLib L) (n1 n2 q1 q2 : Bool) (a b : List Nat) (ha : Dig a) (hb : Dig b) (hl : a.length + b.length ≤ 1099511627776) : Ev L 88 [.agg (rZ q1 n1 a), .agg (rZ q2 n2 b)] (.agg (eZ (zv n1 a * zv n2 b))) := by
 have h1 := fun q q' => ev_nat_Mul N.toNatGLib a b q q' ha hb hl
 have z1 := dg_len0 (val a * val b)
 have habs : (zv n1 a * zv n2 b).natAbs = val a * val b := by rw [Int.natAbs_mul, zv_abs, zv_abs]
 refine Ev.x N.integer_Mul rfl rfl ?_
 have e : zv n1 a * zv n2 b = bif n1 == n2 then ((val a * val b : Nat) : Int) else -((val a * val b : Nat) : Int) := by
  cases n1 <;> cases n2 <;> simp [zv_F, zv_T, Int.mul_neg, Int.neg_mul]
 rw [e] at habs ⊢
 generalize val a * val b = V at *
 cases n1 <;> cases n2 <;> simp only [beq_self_eq_true, cond_true, show (false == true) = false from rfl, show (true == false) = false from rfl, cond_false]
 ·(repeat' (first | (refine AKM.x ?_; conv => whnf) | (refine CallP.go (h1 _ _) ?_; conv => whnf)))
  refine CalP.walkC 1000 N.integer_signed rfl rfl ?_
  (repeat' (refine AKM.x ?_; conv => whnf))
  all_goals (refine ⟨rfl, ?_⟩; (conv => whnf); skip)
  exact FinP.go (agg_eZ (by omega) (sgn_F (by omega))) (cl_eZ _)
 ·(repeat' (first | (refine AKM.x ?_; conv => whnf) | (refine CallP.go (h1 _ _) ?_; conv => whnf)))
  refine CalP.walkC 1000 N.integer_signed rfl rfl ?_
  (repeat' (first | (refine CmpP.go (fun hc => ?_) (fun hc => ?_) <;> first | (exfalso; omega) | (conv => whnf)) | (refine LenP.go ?_; conv => whnf) | (refine AKM.x ?_; conv => whnf)))
  all_goals (refine ⟨rfl, ?_⟩; (conv => whnf); skip)
  ·exact FinP.go (agg_eZ (by omega) (sgn_T (by omega))) (cl_eZ _)
  ·exact FinP.go (agg_eZ (by omega) (sgn_F (by omega))) (cl_eZ _)
 ·(repeat' (first | (refine AKM.x ?_; conv => whnf) | (refine CallP.go (h1 _ _) ?_; conv => whnf)))
  refine CalP.walkC 1000 N.integer_signed rfl rfl ?_
  (repeat' (first | (refine CmpP.go (fun hc => ?_) (fun hc => ?_) <;> first | (exfalso; omega) | (conv => whnf)) | (refine LenP.go ?_; conv => whnf) | (refine AKM.x ?_; conv => whnf)))
  all_goals (refine ⟨rfl, ?_⟩; (conv => whnf); skip)
  ·exact FinP.go (agg_eZ (by omega) (sgn_T (by omega))) (cl_eZ _)
  ·exact FinP.go (agg_eZ (by omega) (sgn_F (by omega))) (cl_eZ _)
 ·(repeat' (first | (refine AKM.x ?_; conv => whnf) | (refine CallP.go (h1 _ _) ?_; conv => whnf)))
  refine CalP.walkC 1000 N.integer_signed rfl rfl ?_
  (repeat' (refine AKM.x ?_; conv => whnf))
  all_goals (refine ⟨rfl, ?_⟩; (conv => whnf); skip)
  exact FinP.go (agg_eZ (by omega) (sgn_F (by omega))) (cl_eZ _)
end Go.Eng

namespace Go.Eng
abbrev rQ (q1 q2 n : Bool) (m d : List Nat) : List AV := [.bool n, .sl q1 (m.map e32), .sl q2 (d.map e32)]
abbrev eQ (x : Rat) : List AV := rQ false false (decide (x.num < 0)) (dg x.num.natAbs) (dg x.den)
def qv (n : Bool) (m d : List Nat) : Rat := mkRat (zv n m) (val d)
theorem qv_of (x : Rat) : qv (decide (x.num < 0)) (dg x.num.natAbs) (dg x.den) = x := by
 unfold qv
 rw [zv_of, val_dg, Rat.mkRat_self]
theorem gcd_pos' {d : Nat} (z : Nat) (hd : d ≠ 0) : 0 < Nat.gcd d z := Nat.gcd_pos_of_pos_left z (by omega)
theorem mk_parts {z : Int} {d : Nat} (hd : d ≠ 0) : (mkRat z d).num.natAbs = z.natAbs / Nat.gcd d z.natAbs ∧ (mkRat z d).den = d / Nat.gcd d z.natAbs ∧ decide ((mkRat z d).num < 0) = decide (z < 0) := by
 have hg := gcd_pos' z.natAbs hd
 have h1 := Rat.num_mkRat z d
 have h2 := Rat.den_mkRat z d
 rw [if_neg hd] at h1 h2
 rw [h1, h2]
 obtain ⟨k, hk⟩ := Nat.gcd_dvd_right d z.natAbs
 generalize hG : Nat.gcd d z.natAbs = g at *
 have hz : z = (g : Int) * (z.sign * k) := by
  rw [← Int.mul_assoc, Int.mul_comm (g : Int), Int.mul_assoc, ← Int.natCast_mul, ← hk, Int.sign_mul_natAbs]
 have e1 : z / (g : Int) = z.sign * k := by
  rw [hz, Int.mul_ediv_cancel_left _ (by omega), ← hz]
 refine ⟨?_, rfl, ?_⟩
 ·rw [e1, Int.natAbs_mul, hk, Nat.mul_div_cancel_left _ hg]
  by_cases h0 : z = 0
  ·subst h0
   have : k = 0 := by
    have h5 : g * k = 0 := hk.symm
    rcases Nat.mul_eq_zero.1 h5 with h | h
    ·omega
    ·exact h
   subst this; simp
  ·rw [Int.natAbs_sign_of_ne_zero h0, Nat.one_mul]; simp
 ·congr 1
  rw [eq_iff_iff]
  rw [Int.ediv_lt_iff_lt_mul (by omega), Int.zero_mul]
theorem cl_eQ (x : Rat) : Clean (.agg (eQ x)) := by
 simp only [Clean, CleanL, and_true, true_and]
 exact ⟨cl_dig _, cl_dig _⟩
theorem cl_agg4 (b w : Bool) (m d : List Nat) : Clean (.agg [.bool b, .sl false (m.map e32), .sl false (d.map e32), .bool w]) := by
 simp only [Clean, CleanL, and_true, true_and]
 exact ⟨cl_dig _, cl_dig _⟩
theorem cl_agg2 (b : Bool) (m : List Nat) : Clean (.agg [.bool b, .sl false (m.map e32)]) := by
 simp only [Clean, CleanL, and_true, true_and]
 exact cl_dig _
theorem cl_agg3 (b : Bool) (m d : List Nat) : Clean (.agg [.bool b, .sl false (m.map e32), .sl false (d.map e32)]) := by
 simp only [Clean, CleanL, and_true, true_and]
 exact ⟨cl_dig _, cl_dig _⟩
theorem flat_dig (q : Bool) (l : List Nat) : Flat1 (.sl q (l.map e32)) := by
 intro e he c hc
 obtain ⟨x, _, rfl⟩ := List.mem_map.1 he
 simp at hc
 subst hc
 rfl
theorem FlP.n4 {b w q1 q2 : Bool} {m d : List Nat} {K : AV → Prop} (hk : K (.agg [.bool b, .sl true (m.map e32), .sl true (d.map e32), .bool w])) : FlP (.agg [.bool b, .sl q1 (m.map e32), .sl q2 (d.map e32), .bool w]) K := by
 refine ⟨fun c hc => ?_, hk⟩
 simp only [List.mem_cons, List.not_mem_nil, or_false] at hc
 rcases hc with rfl | rfl | rfl | rfl
 ·trivial
 ·exact flat_dig _ _
 ·exact flat_dig _ _
 ·trivial
theorem FlP.n3 {b q1 q2 : Bool} {m d : List Nat} {K : AV → Prop} (hk : K (.agg [.bool b, .sl true (m.map e32), .sl true (d.map e32)])) : FlP (.agg [.bool b, .sl q1 (m.map e32), .sl q2 (d.map e32)]) K := by
 refine ⟨fun c hc => ?_, hk⟩
 simp only [List.mem_cons, List.not_mem_nil, or_false] at hc
 rcases hc with rfl | rfl | rfl
 ·trivial
 ·exact flat_dig _ _
 ·exact flat_dig _ _
theorem FlP.n2 {b q1 : Bool} {m : List Nat} {K : AV → Prop} (hk : K (.agg [.bool b, .sl true (m.map e32)])) : FlP (.agg [.bool b, .sl q1 (m.map e32)]) K := by
 refine ⟨fun c hc => ?_, hk⟩
 simp only [List.mem_cons, List.not_mem_nil, or_false] at hc
 rcases hc with rfl | rfl
 ·trivial
 ·exact flat_dig _ _
theorem mk_add {a b : Int} {d e : Nat} (hd : d ≠ 0) (he : e ≠ 0) : mkRat a d + mkRat b e = mkRat (a * e + b * d) (d * e) := Rat.mkRat_add_mkRat a b hd he
theorem mk_add_same {a b : Int} {d : Nat} (hd : d ≠ 0) : mkRat a d + mkRat b d = mkRat (a + b) d := by
 rw [mk_add hd hd, ← Int.add_mul, Rat.mkRat_mul_right hd]
theorem mk_mul (a b : Int) (d e : Nat) : mkRat a d * mkRat b e = mkRat (a * b) (d * e) := Rat.mkRat_mul_mkRat a b d e
theorem mk_one (a : Int) : mkRat a 1 = (a : Rat) := by
 have h := Rat.mkRat_self (a : Rat)
 rw [Rat.num_intCast, Rat.den_intCast] at h
 exact h
theorem mk_num_zero {z : Int} {d : Nat} (hd : d ≠ 0) : mkRat z d = 0 ↔ z = 0 := Rat.mkRat_eq_zero hd
theorem mk_sgn {z : Int} {d : Nat} (hd : d ≠ 0) : sgn (mkRat z d).num = sgn z := by
 obtain ⟨_, _, h⟩ := mk_parts (z := z) hd
 have h0 : (mkRat z d).num = 0 ↔ z = 0 := by rw [Rat.num_eq_zero, mk_num_zero hd]
 have h1 : (mkRat z d).num < 0 ↔ z < 0 := by simpa using h
 unfold sgn
 by_cases a : z < 0
 ·rw [if_pos a, if_pos (h1.2 a)]
 ·rw [if_neg a, if_neg (fun h => a (h1.1 h))]
  by_cases b : z = 0
  ·rw [if_neg (by omega), if_neg (by have := h0.2 b; omega)]
  ·rw [if_pos (by omega), if_pos (by have := mt h0.1 b; have := mt h1.1 a; omega)]
theorem mk_div {a b : Int} {d e : Nat} (hd : d ≠ 0) (he : e ≠ 0) (hb : b ≠ 0) : mkRat a d / mkRat b e = mkRat (b.sign * (a * e)) (d * b.natAbs) := by
 have hbn : b.natAbs ≠ 0 := by omega
 have h1 : mkRat b e ≠ 0 := fun h => hb ((mk_num_zero he).1 h)
 have key : mkRat (b.sign * (a * e)) (d * b.natAbs) * mkRat b e = mkRat a d := by
  rw [mk_mul]
  have e1 : b.sign * (a * e) * b = a * ((b.natAbs * e : Nat) : Int) := by
   have := Int.sign_mul_self b
   rw [Int.natCast_mul, ← this]
   grind
  rw [e1, show d * b.natAbs * e = d * (b.natAbs * e) by rw [Nat.mul_assoc]]
  exact Rat.mkRat_mul_right (Nat.mul_ne_zero hbn he)
 rw [← key, Rat.mul_div_cancel h1]
theorem zv_quot {x y : Int} (hy : y ≠ 0) : zv (decide (x < 0) != decide (y < 0)) (dg x.natAbs) = y.sign * x := by
 unfold zv
 rw [val_dg]
 rcases Int.lt_or_gt_of_ne hy with h | h
 ·rw [Int.sign_eq_neg_one_of_neg h]
  by_cases hx : x < 0
  ·simp [hx, h]; omega
  ·simp [hx, h]; omega
 ·rw [Int.sign_eq_one_of_pos h]
  by_cases hx : x < 0
  ·simp [hx, show ¬ y < 0 by omega]; omega
  ·simp [hx, show ¬ y < 0 by omega]; omega
end Go.Eng
