/- Registers: what is set is got. -/
import Derived.Test.YtpgdpoloipifeaaNRegs
namespace Go.Ev
open Go
set_option linter.unusedVariables false
set_option linter.unusedSimpArgs false
theorem nat_and_hi64 (k : Nat) (hk : k ≤ 64) (x : Nat) (hx : x < 2 ^ 64) : x &&& (2 ^ (64 - k) - 1) <<< k = x / 2 ^ k * 2 ^ k := by
  apply Nat.eq_of_testBit_eq
  intro i
  rw [Nat.testBit_and, Nat.testBit_shiftLeft, Nat.testBit_two_pow_sub_one, ← Nat.shiftLeft_eq, Nat.testBit_shiftLeft, Nat.testBit_div_two_pow]
  by_cases h : k ≤ i
  · have e : i - k + k = i := by omega
    simp only [h, decide_true, Bool.true_and, ge_iff_le, e]
    by_cases h2 : i - k < 64 - k
    · simp [h2]
    · have : x.testBit i = false := Nat.testBit_lt_two_pow (Nat.lt_of_lt_of_le hx (Nat.pow_le_pow_right (by decide) (by omega)))
      simp [h2, this]
  · simp [h]
theorem not_65535_64 {x : Int} (h0 : 0 ≤ x) (h1 : x < 18446744073709551616) : bits .andNot .u64 x 65535 = x - x % 65536 := by
  rw [u64_andNot _ _ h0 h1 (by omega) (by omega)]
  have := nat_and_hi64 16 (by decide) x.toNat (by omega)
  rw [show (2 ^ (64 - 16) - 1) <<< 16 = 18446744073709551615 - (65535 : Int).toNat from rfl] at this
  rw [this]; omega
theorem and_65535_64 {x : Int} (h0 : 0 ≤ x) (h1 : x < 18446744073709551616) : bits .and .u64 x 65535 = x % 65536 := by
  rw [u64_and _ _ h0 h1 (by omega) (by omega)]
  have : x.toNat &&& (65535 : Int).toNat = x.toNat % 2 ^ 16 := Nat.and_two_pow_sub_one_eq_mod x.toNat 16
  rw [this]; omega
theorem and_max_64 {x : Int} (h0 : 0 ≤ x) (h1 : x < 18446744073709551616) : bits .and .u64 x 4294967295 = x % 4294967296 := by
  rw [u64_and _ _ h0 h1 (by omega) (by omega)]
  have : x.toNat &&& (4294967295 : Int).toNat = x.toNat % 2 ^ 32 := Nat.and_two_pow_sub_one_eq_mod x.toNat 32
  rw [this]; omega
theorem or_64 (k : Nat) {h l : Int} (l0 : 0 ≤ l) (l1 : l < 2 ^ k) (h0 : 0 ≤ h) (hb : h * 2 ^ k + l < 18446744073709551616) : bits .or .u64 (h * 2 ^ k) l = h * 2 ^ k + l := by
  have hp : (0 : Int) < 2 ^ k := Int.pow_pos (by decide)
  have hm : 0 ≤ h * 2 ^ k := Int.mul_nonneg h0 (by omega)
  rw [u64_or _ _ hm (by omega) l0 (by omega)]
  obtain ⟨l, rfl⟩ := Int.eq_ofNat_of_zero_le l0
  obtain ⟨h, rfl⟩ := Int.eq_ofNat_of_zero_le h0
  have e1 : (((h : Int) * 2 ^ k)).toNat = h * 2 ^ k := by
    have : ((h : Int) * 2 ^ k) = ((h * 2 ^ k : Nat) : Int) := by simp
    rw [this, Int.toNat_natCast]
  have hl : l < 2 ^ k := by
    have : ((2 : Int) ^ k) = ((2 ^ k : Nat) : Int) := by simp
    omega
  rw [e1, Int.toNat_natCast, nat_join k _ _ (Nat.mul_mod_left _ _) hl]
  simp
/-- The two lowest bytes. -/
theorem lows_get {x : Int} (h : in32 x = true) : bits .and .u64 x 65535 = bits .or .u64 (IntKind.wrap .u64 (x / 256 % 256 * 256)) (x % 256) := by
  have hx := in32_iff.1 h
  have j := or_64 8 (l := x % 256) (h := x / 256 % 256) (by omega) (by show x % 256 < 256; omega) (by omega) (by show x / 256 % 256 * 256 + x % 256 < _; omega)
  rw [show (2 : Int) ^ 8 = 256 from rfl] at j
  rw [wr_u64_id (by omega) (by omega), j, and_65535_64 (by omega) (by omega)]; omega
theorem lows_set {x v : Int} (h : in32 x = true) (hv : in64 v = true) :
    IntKind.wrap .u64 ((x - x % 256 + v % 256) - (x - x % 256 + v % 256) / 256 % 256 * 256 + v / 256 % 256 * 256) = bits .or .u64 (bits .andNot .u64 x 65535) (bits .and .u64 v 65535) := by
  have hx := in32_iff.1 h
  have hv := in64_iff.1 hv
  rw [not_65535_64 (by omega) (by omega), and_65535_64 hv.1 hv.2]
  have j := or_64 16 (l := v % 65536) (h := x / 65536) (by omega) (by show v % 65536 < 65536; omega) (by omega) (by show x / 65536 * 65536 + v % 65536 < _; omega)
  rw [show (2 : Int) ^ 16 = 65536 from rfl] at j
  have e : x - x % 65536 = x / 65536 * 65536 := by omega
  rw [e, j, wr_u64_id (by omega) (by omega)]; omega

theorem getA {r d v x0 x1 x2 x3 x4 x5 x6 x7 y0 y1 y2 y3 y4 y5 y6 y7 : Int} (hr : isV r = true) (h0 : in32 x0 = true) (h1 : in32 x1 = true) (h2 : in32 x2 = true) (h3 : in32 x3 = true) :
    getV 2 r d (setA 2 r 0 x0 v) (setA 2 r 1 x1 v) (setA 2 r 2 x2 v) (setA 2 r 3 x3 v) x4 x5 x6 x7 y0 y1 y2 y3 y4 y5 y6 y7 = v % 256 := by
  have b0 := in32_iff.1 h0; have b1 := in32_iff.1 h1; have b2 := in32_iff.1 h2; have b3 := in32_iff.1 h3
  rcases isV_cases hr with rfl | rfl | rfl | rfl | rfl | rfl | rfl | rfl <;> simp [getV, sel8, setA, isV] <;> omega
theorem getB {r q d v x0 x1 x2 x3 x4 x5 x6 x7 y0 y1 y2 y3 y4 y5 y6 y7 : Int} (hr : isV r = true) (hq : isV q = true) (hne : r ≠ q) (h0 : in32 x0 = true) (h1 : in32 x1 = true) (h2 : in32 x2 = true) (h3 : in32 x3 = true) :
    getV 2 q d (setA 2 r 0 x0 v) (setA 2 r 1 x1 v) (setA 2 r 2 x2 v) (setA 2 r 3 x3 v) x4 x5 x6 x7 y0 y1 y2 y3 y4 y5 y6 y7 = getV 2 q d x0 x1 x2 x3 x4 x5 x6 x7 y0 y1 y2 y3 y4 y5 y6 y7 := by
  have b0 := in32_iff.1 h0; have b1 := in32_iff.1 h1; have b2 := in32_iff.1 h2; have b3 := in32_iff.1 h3
  rcases isV_cases hr with rfl | rfl | rfl | rfl | rfl | rfl | rfl | rfl <;> rcases isV_cases hq with rfl | rfl | rfl | rfl | rfl | rfl | rfl | rfl <;> first
    | exact absurd rfl hne
    | (simp [getV, sel8, setA, isV]; done)
    | (simp [getV, sel8, setA, isV]; omega)
theorem getD {r d v x0 x1 x2 x3 x4 x5 x6 x7 y0 y1 y2 y3 y4 y5 y6 y7 : Int} (hr : isV r = true) :
    getV 5 r d x0 x1 x2 x3 x4 x5 x6 x7 (setX 5 r 0 y0 v) (setX 5 r 1 y1 v) (setX 5 r 2 y2 v) (setX 5 r 3 y3 v) (setX 5 r 4 y4 v) (setX 5 r 5 y5 v) (setX 5 r 6 y6 v) (setX 5 r 7 y7 v) = v := by
  rcases isV_cases hr with rfl | rfl | rfl | rfl | rfl | rfl | rfl | rfl <;> simp [getV, sel8, setX, isV]
theorem getR {r d v x0 x1 x2 x3 x4 x5 x6 x7 y0 y1 y2 y3 y4 y5 y6 y7 : Int} (hr : isV r = true) :
    getV 1 r d (setA 1 r 0 x0 v) (setA 1 r 1 x1 v) (setA 1 r 2 x2 v) (setA 1 r 3 x3 v) (setB 1 r 4 x4 v) (setB 1 r 5 x5 v) (setB 1 r 6 x6 v) (setB 1 r 7 x7 v) y0 y1 y2 y3 y4 y5 y6 y7 = v % 4294967296 := by
  rcases isV_cases hr with rfl | rfl | rfl | rfl | rfl | rfl | rfl | rfl <;> simp [getV, sel8, setA, setB, isV]
theorem setX_2 (r i y v : Int) : setX 2 r i y v = y := rfl
theorem setX_1 (r i y v : Int) : setX 1 r i y v = y := rfl
theorem setB_2 (r i y v : Int) : setB 2 r i y v = y := rfl
theorem setB_5 (r i y v : Int) : setB 5 r i y v = y := rfl
theorem setA_5 (r i y v : Int) : setA 5 r i y v = y := rfl
end Go.Ev
