/- Doubles by their bits: signs, fractions. -/
import Derived.Test.YtpgdpoloipifeaaNFlt
import Derived.Test.YtpgdpoloipifeaaNRegs2
namespace Go.Ev
open Go
set_option linter.unusedVariables false
set_option linter.unusedSimpArgs false
theorem not_sign {x : Int} (h0 : 0 ≤ x) (h1 : x < 18446744073709551616) : bits .andNot .u64 x 9223372036854775808 = x % 9223372036854775808 := by
  rw [u64_andNot _ _ h0 h1 (by omega) (by omega)]
  have : x.toNat &&& (18446744073709551615 - (9223372036854775808 : Int).toNat) = x.toNat % 2 ^ 63 := Nat.and_two_pow_sub_one_eq_mod x.toNat 63
  rw [this]; omega
theorem and_2047 {x : Int} (h0 : 0 ≤ x) (h1 : x < 18446744073709551616) : bits .and .u64 x 2047 = x % 2048 := by
  rw [u64_and _ _ h0 h1 (by omega) (by omega)]
  have : x.toNat &&& (2047 : Int).toNat = x.toNat % 2 ^ 11 := Nat.and_two_pow_sub_one_eq_mod x.toNat 11
  rw [this]; omega
theorem and_frac {x : Int} (h0 : 0 ≤ x) (h1 : x < 18446744073709551616) : bits .and .u64 x 4503599627370495 = x % 4503599627370496 := by
  rw [u64_and _ _ h0 h1 (by omega) (by omega)]
  have : x.toNat &&& (4503599627370495 : Int).toNat = x.toNat % 2 ^ 52 := Nat.and_two_pow_sub_one_eq_mod x.toNat 52
  rw [this]; omega
theorem and_sign {x : Int} (h0 : 0 ≤ x) (h1 : x < 18446744073709551616) : bits .and .u64 x 9223372036854775808 = x - x % 9223372036854775808 := by
  rw [u64_and _ _ h0 h1 (by omega) (by omega)]
  have := nat_and_hi64 63 (by decide) x.toNat (by omega)
  rw [show (2 ^ (64 - 63) - 1) <<< 63 = (9223372036854775808 : Int).toNat from rfl] at this
  rw [this]; omega
/-- A number by its sign, its exponent, its fraction. -/
theorem nan_parts {x : Int} (h0 : 0 ≤ x) (h1 : x < 18446744073709551616) : (decide (bits .andNot .u64 x 9223372036854775808 > 9218868437227405312)) = nanI x := by rw [not_sign h0 h1]; rfl
theorem nan_parts2 {x : Int} (h0 : 0 ≤ x) (h1 : x < 18446744073709551616) {R : Type} (a b : R) :
    (bif bits .and .u64 (Int.fdiv x 4503599627370496) 2047 == 2047 then (bif bits .and .u64 x 4503599627370495 != 0 then a else b) else b) = bif nanI x then a else b := by
  rw [Int.fdiv_eq_ediv_of_nonneg _ (by omega), and_2047 (by omega) (by omega), and_frac h0 h1]
  have : nanI x = ((x / 4503599627370496 % 2048 == 2047) && (x % 4503599627370496 != 0)) := by
    rw [Bool.eq_iff_iff]
    simp [nanI]
    omega
  rw [this]
  cases (x / 4503599627370496 % 2048 == 2047) <;> cases (x % 4503599627370496 != 0) <;> rfl
theorem or_lt64 {x y : Int} (h0 : 0 ≤ x) (h1 : x < 18446744073709551616) (h2 : 0 ≤ y) (h3 : y < 18446744073709551616) : 0 ≤ bits .or .u64 x y ∧ bits .or .u64 x y < 18446744073709551616 := by
  rw [u64_or _ _ h0 h1 h2 h3]
  have : x.toNat ||| y.toNat < 2 ^ 64 := Nat.or_lt_two_pow (by omega) (by omega)
  omega
theorem qI_eq {x : Int} (h0 : 0 ≤ x) (h1 : x < 18446744073709551616) : qI x = bif decide (x / 2251799813685248 % 2 = 1) then x else x + 2251799813685248 := by
  unfold qI
  rw [u64_or _ _ h0 h1 (by omega) (by omega)]
  obtain ⟨n, rfl⟩ := Int.eq_ofNat_of_zero_le h0
  simp only [Int.toNat_natCast]
  have hd : (2251799813685248 : Int).toNat = 2 ^ 51 := rfl
  rw [hd]
  have key : n ||| 2 ^ 51 = n / 2 ^ 52 * 2 ^ 52 + 2 ^ 51 + n % 2 ^ 51 := by
    apply Nat.eq_of_testBit_eq
    intro i
    have e1 : n / 2 ^ 52 * 2 ^ 52 + 2 ^ 51 + n % 2 ^ 51 = 2 ^ 51 * (2 * (n / 2 ^ 52) + 1) + n % 2 ^ 51 := by omega
    rw [e1, Nat.testBit_two_pow_mul_add _ (Nat.mod_lt _ (by decide)), Nat.testBit_or, Nat.testBit_two_pow, Nat.testBit_mod_two_pow]
    by_cases hi : i < 51
    · simp [hi, show ¬ 51 = i by omega]
    · simp only [hi, if_false, decide_false, Bool.false_and]
      by_cases h2 : i = 51
      · subst h2; simp
      · have e2 : i - 51 = (i - 52) + 1 := by omega
        rw [e2, Nat.testBit_add_one, show (2 * (n / 2 ^ 52) + 1) / 2 = n / 2 ^ 52 by omega, Nat.testBit_div_two_pow, show i - 52 + 52 = i by omega]
        simp [show ¬ 51 = i by omega]
  rw [key]
  by_cases hb : (n : Int) / 2251799813685248 % 2 = 1
  · simp only [hb, decide_true, cond_true]; omega
  · simp only [hb, decide_false, cond_false]; omega
theorem qI_in {x : Int} (h0 : 0 ≤ x) (h1 : x < 18446744073709551616) : 0 ≤ qI x ∧ qI x < 18446744073709551616 := or_lt64 h0 h1 (by omega) (by omega)
theorem qI_nan {x : Int} (h0 : 0 ≤ x) (h1 : x < 18446744073709551616) (h : nanI x = true) : nanI (qI x) = true := by
  rw [qI_eq h0 h1]
  simp only [nanI, decide_eq_true_eq] at h ⊢
  by_cases hb : x / 2251799813685248 % 2 = 1
  · simp only [hb, decide_true, cond_true]; omega
  · simp only [hb, decide_false, cond_false]; omega
theorem nan_cmp {a b : Int} (ha : 0 ≤ a) (hb : 0 ≤ b) (h : nanI a = true ∨ nanI b = true) : flt a.toNat b.toNat = false ∧ feq a.toNat b.toNat = false ∧ fgt a.toNat b.toNat = false := by
  rw [← fnan_nanI ha, ← fnan_nanI hb] at h
  rcases cmp_cases a.toNat b.toNat with ⟨_, h1, h2, h3⟩ | ⟨h1, h2, _⟩
  · exact ⟨h1, h2, h3⟩
  · rcases h with h | h <;> simp_all
theorem cmp_num {a b : Int} (ha : 0 ≤ a) (hb : 0 ≤ b) (h : nanI a = false) (h' : nanI b = false) : (flt a.toNat b.toNat = true ∧ feq a.toNat b.toNat = false ∧ fgt a.toNat b.toNat = false) ∨
    (flt a.toNat b.toNat = false ∧ feq a.toNat b.toNat = true ∧ fgt a.toNat b.toNat = false) ∨ (flt a.toNat b.toNat = false ∧ feq a.toNat b.toNat = false ∧ fgt a.toNat b.toNat = true) := by
  rw [← fnan_nanI ha] at h
  rw [← fnan_nanI hb] at h'
  rcases cmp_cases a.toNat b.toNat with ⟨h1, _⟩ | ⟨_, _, h3⟩
  · rcases h1 with h1 | h1 <;> simp_all
  · exact h3
theorem zero_cmp {a b : Int} (ha : 0 ≤ a) (ha' : a < 18446744073709551616) (hb : 0 ≤ b) (hb' : b < 18446744073709551616) (h : (IntKind.wrap .u64 (a * 2) == 0) = true) (h' : (IntKind.wrap .u64 (b * 2) == 0) = true) : flt a.toNat b.toNat = false ∧ fgt a.toNat b.toNat = false := by
  rw [wr_u64] at h h'
  simp at h h'
  exact flt_zeros (by omega) (by omega)
theorem sq_lt {b : Int} (h : 0 ≤ b) (hn : nanI b = false) {R : Type} (x y : R) : (bif flt b.toNat 0 then x else y) = bif fsqok b.toNat then y else x := by
  rw [fsqok_eq (by rw [fnan_nanI h]; exact hn)]
  cases flt b.toNat 0 <;> rfl
end Go.Ev
