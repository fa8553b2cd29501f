/-
  Steps of arithmetic: powers of 2, shifts, masks, divisions.
-/
import Derived.Test.YtlkfmmfmefobnaaEngFwd
set_option linter.unusedSimpArgs false
set_option linter.unusedVariables false
set_option linter.unnecessarySimpa false
namespace Go.Eng

/-- 2^n -/
def pw (n : Int) : Int := 2 ^ n.toNat
theorem pw_pos (n : Int) : 1 ≤ pw n := by
  have : 0 < pw n := Int.pow_pos (by decide)
  omega
theorem pw_le {n m : Int} (h : n ≤ m) : pw n ≤ pw m := by
  unfold pw
  have h' : n.toNat ≤ m.toNat := by omega
  have h2 := Nat.pow_le_pow_right (n := 2) (by decide) h'
  have h3 : ((2 ^ n.toNat : Nat) : Int) ≤ ((2 ^ m.toNat : Nat) : Int) := by exact_mod_cast h2
  simpa using h3
theorem pw_le62 {n : Int} (h : n ≤ 62) : pw n ≤ 4611686018427387904 := pw_le (m := 62) h
theorem pw_succ {n : Int} (h : 1 ≤ n) : pw n = 2 * pw (n - 1) := by
  unfold pw
  have e : n.toNat = (n - 1).toNat + 1 := by omega
  rw [e, Int.pow_succ, Int.mul_comm]
theorem pw_zero : pw 0 = 1 := rfl

theorem wrap_pos {a : Int} (h : 0 ≤ a) (h' : a ≤ 9223372036854775807) : IntKind.i64.wrap a = a := IntWalk.i64_in _ ⟨by omega, h'⟩

theorem shl_one {k2 : IntKind} {n : Int} (h : 0 ≤ n ∧ n ≤ 62) : intBin .shl .i64 1 k2 n = some (.int .i64 (pw n)) := by
  have h1 := pw_le62 h.2
  have h2 := pw_pos n
  have e : (1 : Int) * 2 ^ (min n.toNat IntKind.i64.bits) = pw n := by
    have : min n.toNat IntKind.i64.bits = n.toNat := by simp only [IntKind.bits]; omega
    rw [this, Int.one_mul]; rfl
  simp only [intBin]
  rw [if_neg (by omega), e, wrap_pos (by omega) (by omega)]
theorem shr_div {k2 : IntKind} {a n : Int} (h : 0 ≤ n ∧ n ≤ 63) : intBin .shr .i64 a k2 n = some (.int .i64 (a / pw n)) := by
  have h2 := pw_pos n
  have e : (2 : Int) ^ (min n.toNat IntKind.i64.bits) = pw n := by
    have : min n.toNat IntKind.i64.bits = n.toNat := by simp only [IntKind.bits]; omega
    rw [this]; rfl
  simp only [intBin]
  rw [if_neg (by omega), e, Int.fdiv_eq_ediv_of_nonneg _ (by omega)]
theorem and_mask {a p n : Int} (hp : p = pw n) (h : 0 ≤ n ∧ n ≤ 62) : intBin .and .i64 a .i64 (p - 1) = some (.int .i64 (a % p)) := by
  have h1 := pw_le62 h.2
  have h2 := pw_pos n
  simp only [intBin, if_true]
  have hn : n.toNat ≤ 64 := by omega
  have e0 : pw n = ((2 ^ n.toNat : Nat) : Int) := by simp [pw]
  have e1 : (BitVec.ofInt IntKind.i64.bits (p - 1)).toNat = 2 ^ n.toNat - 1 := by
    have hq : (2 : Nat) ^ n.toNat ≤ 4611686018427387904 := by
      have : ((2 ^ n.toNat : Nat) : Int) ≤ 4611686018427387904 := by rw [← e0]; exact h1
      omega
    rw [BitVec.toNat_ofInt]
    simp only [IntKind.bits]
    rw [hp, e0]
    have hz : 1 ≤ 2 ^ n.toNat := Nat.one_le_two_pow
    omega
  have e2 : (BitVec.ofInt IntKind.i64.bits a).toNat = (a % 18446744073709551616).toNat := by
    rw [BitVec.toNat_ofInt]; rfl
  have e3 : ((a % 18446744073709551616).toNat % 2 ^ n.toNat : Nat) = (a % pw n).toNat := by
    have hd : (pw n) ∣ 18446744073709551616 := by
      refine ⟨2 ^ (64 - n.toNat), ?_⟩
      unfold pw
      rw [← Int.pow_add, show n.toNat + (64 - n.toNat) = 64 by omega]; rfl
    have h3 : (a % 18446744073709551616) % pw n = a % pw n := Int.emod_emod_of_dvd a hd
    have h4 : (((a % 18446744073709551616).toNat % 2 ^ n.toNat : Nat) : Int) = (a % 18446744073709551616) % pw n := by
      rw [Int.natCast_emod, ← e0, Int.toNat_of_nonneg (by omega)]
    have h5 : 0 ≤ a % pw n := Int.emod_nonneg _ (by omega)
    omega
  have h5 : 0 ≤ a % pw n := Int.emod_nonneg _ (by omega)
  have h6 : a % pw n < pw n := Int.emod_lt_of_pos _ (by omega)
  rw [BitVec.toNat_and, e1, Nat.and_two_pow_sub_one_eq_mod, e2, e3, hp, Int.toNat_of_nonneg h5, wrap_pos h5 (by omega)]
theorem and_one {a : Int} : intBin .and .i64 a .i64 1 = some (.int .i64 (a % 2)) := and_mask (p := 2) (n := 1) rfl ⟨by decide, by decide⟩
theorem tmod_pos {a m : Int} (hm : 0 < m) : a.tmod m = if 0 ≤ a ∨ a % m = 0 then a % m else a % m - m := by
  have h := Int.tmod_eq_emod (a := a) (b := m)
  rw [h]
  have hd : m ∣ a ↔ a % m = 0 := Int.dvd_iff_emod_eq_zero
  by_cases h0 : 0 ≤ a ∨ a % m = 0
  · rw [if_pos h0, if_pos (by rcases h0 with h0 | h0; exact Or.inl h0; exact Or.inr (hd.2 h0))]; omega
  · rw [if_neg h0, if_neg (fun h => h0 (h.imp id hd.1))]
    have : (m.natAbs : Int) = m := by omega
    omega
theorem tdiv_pos {a m : Int} (hm : 0 < m) : a.tdiv m = if 0 ≤ a ∨ a % m = 0 then a / m else a / m + 1 := by
  have h := Int.tdiv_eq_ediv (a := a) (b := m)
  rw [h]
  have hd : m ∣ a ↔ a % m = 0 := Int.dvd_iff_emod_eq_zero
  by_cases h0 : 0 ≤ a ∨ a % m = 0
  · rw [if_pos h0, if_pos (by rcases h0 with h0 | h0; exact Or.inl h0; exact Or.inr (hd.2 h0))]; omega
  · rw [if_neg h0, if_neg (fun h => h0 (h.imp id hd.1)), Int.sign_eq_one_of_pos hm]
theorem ediv_range {a m : Int} (hm : 1 ≤ m) (h : -9223372036854775808 ≤ a ∧ a ≤ 9223372036854775807) : -9223372036854775808 ≤ a / m ∧ a / m ≤ 9223372036854775807 := by
  constructor
  · rw [Int.le_ediv_iff_mul_le (by omega)]
    have := Int.mul_le_mul_of_nonpos_left (a := -9223372036854775808) (b := m) (c := 1) (by omega) hm
    omega
  · have : a / m < 9223372036854775808 := by
      rw [Int.ediv_lt_iff_lt_mul (by omega)]
      have := Int.mul_le_mul_of_nonneg_left (c := 9223372036854775808) (a := 1) (b := m) hm (by omega)
      omega
    omega
theorem ediv_half {a m : Int} (hm : 2 ≤ m) (h : -9223372036854775808 ≤ a ∧ a ≤ 9223372036854775807) : -4611686018427387904 ≤ a / m ∧ a / m ≤ 4611686018427387904 := by
  constructor
  · rw [Int.le_ediv_iff_mul_le (by omega)]
    have := Int.mul_le_mul_of_nonpos_left (a := -4611686018427387904) (b := m) (c := 2) (by omega) hm
    omega
  · have : a / m < 4611686018427387904 + 1 := by
      rw [Int.ediv_lt_iff_lt_mul (by omega)]
      have := Int.mul_le_mul_of_nonneg_left (c := 4611686018427387905) (a := 2) (b := m) hm (by omega)
      omega
    omega
/-- the bit below the point -/
theorem half_bit {v h : Int} (hh : 1 ≤ h) : (v / h) % 2 = if h ≤ v % (2 * h) then 1 else 0 := by
  have e : v / h = v % (2 * h) / h + 2 * (v / (2 * h)) := by
    conv => lhs; rw [← Int.emod_add_mul_ediv v (2 * h)]
    rw [show 2 * h * (v / (2 * h)) = h * (2 * (v / (2 * h))) by rw [Int.mul_comm 2 h, Int.mul_assoc], Int.add_mul_ediv_left _ _ (by omega)]
  have h0 : 0 ≤ v % (2 * h) := Int.emod_nonneg _ (by omega)
  have h1 : v % (2 * h) < 2 * h := Int.emod_lt_of_pos _ (by omega)
  rw [e]
  by_cases hc : h ≤ v % (2 * h)
  · have : v % (2 * h) / h = 1 := by
      have a1 : 1 ≤ v % (2 * h) / h := by rw [Int.le_ediv_iff_mul_le (by omega)]; omega
      have a2 : v % (2 * h) / h < 2 := by rw [Int.ediv_lt_iff_lt_mul (by omega)]; omega
      omega
    rw [if_pos hc, this]; omega
  · have : v % (2 * h) / h = 0 := Int.ediv_eq_zero_of_lt h0 (by omega)
    rw [if_neg hc, this]; omega

section
variable {L : Lib} {k : List It} {tm : Tm} {own : Own} {Q : St → Prop} {l : List AI} {ban : List Nat} {d : Nat} {x y : Opd} {a b n p : Int} {k2 : IntKind}
theorem O_shl1 (hx : St.ev ⟨tm, own⟩ x = .int .i64 1) (hy : St.ev ⟨tm, own⟩ y = .int k2 n) (hr : 0 ≤ n ∧ n ≤ 62) (h : 1 ≤ pw n → pw n ≤ 4611686018427387904 → AO L l k ⟨tput tm d (.int .i64 (pw n)), own⟩ Q) : AO L (⟨some d, .bin .shl x y, none, ban⟩ :: l) k ⟨tm, own⟩ Q :=
  O_bin _ hx hy (shl_one hr) (h (pw_pos n) (pw_le62 hr.2))
theorem O_shr (hx : St.ev ⟨tm, own⟩ x = .int .i64 a) (hy : St.ev ⟨tm, own⟩ y = .int k2 n) (hr : 0 ≤ n ∧ n ≤ 63) (h : AO L l k ⟨tput tm d (.int .i64 (a / pw n)), own⟩ Q) : AO L (⟨some d, .bin .shr x y, none, ban⟩ :: l) k ⟨tm, own⟩ Q :=
  O_bin _ hx hy (shr_div hr) h
theorem O_andm (hx : St.ev ⟨tm, own⟩ x = .int .i64 a) (hy : St.ev ⟨tm, own⟩ y = .int .i64 (pw n - 1)) (hr : 0 ≤ n ∧ n ≤ 62) (h : 0 ≤ a % pw n → a % pw n < pw n → AO L l k ⟨tput tm d (.int .i64 (a % pw n)), own⟩ Q) : AO L (⟨some d, .bin .and x y, none, ban⟩ :: l) k ⟨tm, own⟩ Q :=
  O_bin _ hx hy (and_mask rfl hr) (h (Int.emod_nonneg _ (by have := pw_pos n; omega)) (Int.emod_lt_of_pos _ (by have := pw_pos n; omega)))
theorem O_and1 (hx : St.ev ⟨tm, own⟩ x = .int .i64 a) (hy : St.ev ⟨tm, own⟩ y = .int .i64 1) (h : AO L l k ⟨tput tm d (.int .i64 (a % 2)), own⟩ Q) : AO L (⟨some d, .bin .and x y, none, ban⟩ :: l) k ⟨tm, own⟩ Q :=
  O_bin _ hx hy and_one h
theorem O_rem (hx : St.ev ⟨tm, own⟩ x = .int .i64 a) (hy : St.ev ⟨tm, own⟩ y = .int .i64 b) (hb : 0 < b) (h1 : (0 ≤ a ∨ a % b = 0) → 0 ≤ a % b → a % b < b → AO L l k ⟨tput tm d (.int .i64 (a % b)), own⟩ Q) (h2 : a < 0 → a % b ≠ 0 → 0 ≤ a % b → a % b < b → AO L l k ⟨tput tm d (.int .i64 (a % b - b)), own⟩ Q) : AO L (⟨some d, .bin .rem x y, none, ban⟩ :: l) k ⟨tm, own⟩ Q := by
  have h5 : 0 ≤ a % b := Int.emod_nonneg _ (by omega)
  have h6 : a % b < b := Int.emod_lt_of_pos _ hb
  have e : intBin .rem .i64 a .i64 b = some (.int .i64 (a.tmod b)) := by simp only [intBin]; rw [if_pos ⟨trivial, by omega⟩]
  by_cases hc : 0 ≤ a ∨ a % b = 0
  · rw [tmod_pos hb, if_pos hc] at e
    exact O_bin _ hx hy e (h1 hc h5 h6)
  · rw [tmod_pos hb, if_neg hc] at e
    exact O_bin _ hx hy e (h2 (by omega) (by omega) h5 h6)
theorem O_quo (hx : St.ev ⟨tm, own⟩ x = .int .i64 a) (hy : St.ev ⟨tm, own⟩ y = .int .i64 b) (hb : 0 < b) (ha : -9223372036854775808 ≤ a ∧ a ≤ 9223372036854775807) (h1 : (0 ≤ a ∨ a % b = 0) → AO L l k ⟨tput tm d (.int .i64 (a / b)), own⟩ Q) (h2 : a < 0 → a % b ≠ 0 → AO L l k ⟨tput tm d (.int .i64 (a / b + 1)), own⟩ Q) : AO L (⟨some d, .bin .quo x y, none, ban⟩ :: l) k ⟨tm, own⟩ Q := by
  have hr := ediv_range (m := b) (by omega) ha
  have e : intBin .quo .i64 a .i64 b = some (.int .i64 (IntKind.i64.wrap (a.tdiv b))) := by simp only [intBin]; rw [if_pos ⟨trivial, by omega⟩]
  by_cases hc : 0 ≤ a ∨ a % b = 0
  · rw [tdiv_pos hb, if_pos hc, IntWalk.i64_in _ hr] at e
    exact O_bin _ hx hy e (h1 hc)
  · have hneg : a / b < 0 := Int.ediv_neg_of_neg_of_pos (by omega) hb
    rw [tdiv_pos hb, if_neg hc, IntWalk.i64_in _ (by omega)] at e
    exact O_bin _ hx hy e (h2 (by omega) (by omega))
theorem O_neg (hx : St.ev ⟨tm, own⟩ x = .int .i64 a) (hr : -9223372036854775807 ≤ a ∧ a ≤ 9223372036854775807) (h : AO L l k ⟨tput tm d (.int .i64 (-a)), own⟩ Q) : AO L (⟨some d, .un .neg x, none, ban⟩ :: l) k ⟨tm, own⟩ Q :=
  O_un _ (by rw [hx]; simp only [unA]; rw [IntWalk.i64_in _ (by omega), Int.zero_sub]) h
theorem O_convu (hx : St.ev ⟨tm, own⟩ x = .int .i64 a) (hr : 0 ≤ a ∧ a ≤ 9223372036854775807) (h : AO L l k ⟨tput tm d (.int .u64 a), own⟩ Q) : AO L (⟨some d, .conv .u64 x, none, ban⟩ :: l) k ⟨tm, own⟩ Q :=
  O_conv hx (by rw [IntWalk.u64_in _ (by omega)]; exact h)
end
end Go.Eng
