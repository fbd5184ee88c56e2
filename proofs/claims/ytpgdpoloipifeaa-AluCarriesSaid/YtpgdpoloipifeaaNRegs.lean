/- The word of flags, in plain numbers. -/
import Derived.Test.YtpgdpoloipifeaaNArith
namespace Go.Ev
open Go
set_option linter.unusedVariables false
set_option linter.unusedSimpArgs false

def wv (c p z s o d : Bool) : Int := 2 + b2i c + b2i p * 4 + b2i z * 64 + b2i s * 128 + b2i d * 1024 + b2i o * 2048
/-- A bit of a number, told by its worth. -/
def fb (x k : Int) : Bool := bits .and .u32 (Int.fdiv x k) 1 == 1
theorem or_wv0 (p z s o d : Bool) : bits .or .u32 (wv false p z s o d) 1 = wv true p z s o d := by cases p <;> cases z <;> cases s <;> cases o <;> cases d <;> rfl
theorem or_wv2 (c z s o d : Bool) : bits .or .u32 (wv c false z s o d) 4 = wv c true z s o d := by cases c <;> cases z <;> cases s <;> cases o <;> cases d <;> rfl
theorem or_wv6 (c p s o d : Bool) : bits .or .u32 (wv c p false s o d) 64 = wv c p true s o d := by cases c <;> cases p <;> cases s <;> cases o <;> cases d <;> rfl
theorem or_wv7 (c p z o d : Bool) : bits .or .u32 (wv c p z false o d) 128 = wv c p z true o d := by cases c <;> cases p <;> cases z <;> cases o <;> cases d <;> rfl
theorem or_wv10 (c p z s o : Bool) : bits .or .u32 (wv c p z s o false) 1024 = wv c p z s o true := by cases c <;> cases p <;> cases z <;> cases s <;> cases o <;> rfl
theorem or_wv11 (c p z s d : Bool) : bits .or .u32 (wv c p z s false d) 2048 = wv c p z s true d := by cases c <;> cases p <;> cases z <;> cases s <;> cases d <;> rfl
/-! ### Registers -/
def isV (n : Int) : Bool := decide (0 ≤ n) && decide (n ≤ 7)
def sel8 (r x0 x1 x2 x3 x4 x5 x6 x7 : Int) : Int :=
  bif r == 0 then x0 else bif r == 1 then x1 else bif r == 2 then x2 else bif r == 3 then x3 else bif r == 4 then x4 else bif r == 5 then x5 else bif r == 6 then x6 else x7
/-- What an operand's register holds. -/
def getV (k r d x0 x1 x2 x3 x4 x5 x6 x7 y0 y1 y2 y3 y4 y5 y6 y7 : Int) : Int :=
  bif k == 4 then d else bif !isV r then 0 else bif k == 1 then sel8 r x0 x1 x2 x3 x4 x5 x6 x7 else
  bif k == 2 then sel8 r (x0 % 256) (x1 % 256) (x2 % 256) (x3 % 256) (x0 / 256 % 256) (x1 / 256 % 256) (x2 / 256 % 256) (x3 / 256 % 256) else
  bif k == 5 then sel8 r y0 y1 y2 y3 y4 y5 y6 y7 else 0
/-- A register of the first four, once an operand is set. -/
def setA (k r i x v : Int) : Int :=
  bif k == 1 && r == i then v % 4294967296 else bif k == 2 && r == i then x - x % 256 + v % 256 else bif k == 2 && r == i + 4 then x - x / 256 % 256 * 256 + v % 256 * 256 else x
def setB (k r i x v : Int) : Int := bif k == 1 && r == i then v % 4294967296 else x
def setX (k r i x v : Int) : Int := bif k == 5 && r == i then v else x
theorem isV_cases {n : Int} (h : isV n = true) : n = 0 ∨ n = 1 ∨ n = 2 ∨ n = 3 ∨ n = 4 ∨ n = 5 ∨ n = 6 ∨ n = 7 := by
  unfold isV at h; simp at h; omega
theorem fdiv256 (x : Int) : Int.fdiv x 256 = x / 256 := Int.fdiv_eq_ediv_of_nonneg _ (by decide)
theorem fdivOne (x : Int) : Int.fdiv x 1 = x := by rw [Int.fdiv_eq_ediv_of_nonneg _ (by decide), Int.ediv_one]
theorem nat_and_hi (k : Nat) (hk : k ≤ 32) (x : Nat) (hx : x < 2 ^ 32) : x &&& (2 ^ (32 - k) - 1) <<< k = x / 2 ^ k * 2 ^ k := by
  apply Nat.eq_of_testBit_eq
  intro i
  rw [Nat.testBit_and, Nat.testBit_shiftLeft, Nat.testBit_two_pow_sub_one, ← Nat.shiftLeft_eq, Nat.testBit_shiftLeft, Nat.testBit_div_two_pow]
  by_cases h : k ≤ i
  · have e : i - k + k = i := by omega
    simp only [h, decide_true, Bool.true_and, ge_iff_le, e]
    by_cases h2 : i - k < 32 - k
    · simp [h2]
    · have : x.testBit i = false := Nat.testBit_lt_two_pow (Nat.lt_of_lt_of_le hx (Nat.pow_le_pow_right (by decide) (by omega)))
      simp [h2, this]
  · simp [h]
theorem not_255 {x : Int} (h0 : 0 ≤ x) (h1 : x < 4294967296) : bits .andNot .u32 x 255 = x - x % 256 := by
  rw [u32_andNot _ _ h0 h1 (by omega) (by omega)]
  have := nat_and_hi 8 (by decide) x.toNat (by omega)
  rw [show (2 ^ (32 - 8) - 1) <<< 8 = 4294967295 - (255 : Int).toNat from rfl] at this
  rw [this]; omega
theorem not_65280 {x : Int} (h0 : 0 ≤ x) (h1 : x < 4294967296) : bits .andNot .u32 x 65280 = x - x / 256 % 256 * 256 := by
  rw [u32_andNot _ _ h0 h1 (by omega) (by omega)]
  have e1 := nat_and_hi 16 (by decide) x.toNat (by omega)
  have e2 : x.toNat &&& 255 = x.toNat % 256 := Nat.and_two_pow_sub_one_eq_mod x.toNat 8
  rw [show (2 ^ (32 - 16) - 1) <<< 16 = 4294901760 from rfl] at e1
  rw [show 4294967295 - (65280 : Int).toNat = 4294901760 ||| 255 from rfl, Nat.and_or_distrib_left, e1, e2, nat_join 16 _ _ (Nat.mul_mod_left _ _) (by omega)]
  omega
theorem and_255' {x : Int} (h0 : 0 ≤ x) (h1 : x < 4294967296) : bits .and .u32 x 255 = x % 256 := and_255 h0 h1
theorem set_lo {x v : Int} (h0 : 0 ≤ x) (h1 : x < 4294967296) : bits .or .u32 (x - x % 256) (v % 256) = x - x % 256 + v % 256 := by
  have h := or_join 8 (l := v % 256) (h := x / 256) (by omega) (by show v % 256 < 256; omega) (by omega) (by show v % 256 + x / 256 * 256 < _; omega)
  rw [show (2 : Int) ^ 8 = 256 from rfl] at h
  have e : x - x % 256 = x / 256 * 256 := by omega
  rw [e, u32_or _ _ (by omega) (by omega) (by omega) (by omega), Nat.or_comm, ← u32_or _ _ (by omega) (by omega) (by omega) (by omega), h]; omega
theorem set_hi {x v : Int} (h0 : 0 ≤ x) (h1 : x < 4294967296) : bits .or .u32 (x - x / 256 % 256 * 256) (v % 256 * 256) = x - x / 256 % 256 * 256 + v % 256 * 256 := by
  obtain ⟨a, ha⟩ : ∃ a, a = x / 65536 := ⟨_, rfl⟩
  have e : x - x / 256 % 256 * 256 = x % 256 + a * 65536 := by omega
  have j1 := or_join 16 (l := x % 256) (h := a) (by omega) (by show x % 256 < 65536; omega) (by omega) (by show x % 256 + a * 65536 < _; omega)
  have j2 := or_join 8 (l := x % 256) (h := v % 256) (by omega) (by show x % 256 < 256; omega) (by omega) (by show x % 256 + v % 256 * 256 < _; omega)
  have j3 := or_join 16 (l := x % 256 + v % 256 * 256) (h := a) (by omega) (by show x % 256 + v % 256 * 256 < 65536; omega) (by omega) (by show x % 256 + v % 256 * 256 + a * 65536 < _; omega)
  rw [show (2 : Int) ^ 16 = 65536 from rfl] at j1 j3
  rw [show (2 : Int) ^ 8 = 256 from rfl] at j2
  rw [e, ← j1, u32_or (bits .or .u32 (x % 256) (a * 65536)) _ (by rw [j1]; omega) (by rw [j1]; omega) (by omega) (by omega), u32_or _ _ (by omega) (by omega) (by omega) (by omega), Int.toNat_natCast, Nat.or_assoc, Nat.or_comm (a * 65536).toNat, ← Nat.or_assoc]
  have t2 : ((x % 256).toNat ||| (v % 256 * 256).toNat : Nat) = (x % 256 + v % 256 * 256).toNat := by
    have := u32_or (x % 256) (v % 256 * 256) (by omega) (by omega) (by omega) (by omega)
    rw [j2] at this; omega
  have t3 : (((x % 256 + v % 256 * 256).toNat ||| (a * 65536).toNat : Nat) : Int) = x % 256 + v % 256 * 256 + a * 65536 := by
    rw [← u32_or _ _ (by omega) (by omega) (by omega) (by omega), j3]
  have t1 : ((x % 256).toNat ||| (a * 65536).toNat : Nat) = (x % 256 + a * 65536).toNat := by
    have := u32_or (x % 256) (a * 65536) (by omega) (by omega) (by omega) (by omega)
    rw [j1] at this; omega
  rw [t2, t3]
  omega
theorem w64_32 {x : Int} (h : in32 x = true) : IntKind.wrap .u64 x = x := by
  have := in32_iff.1 h; exact wr_u64_id (by omega) (by omega)
theorem w64_b (x : Int) : IntKind.wrap .u64 (x % 256) = x % 256 := wr_u64_id (by omega) (by omega)
theorem w32_b1 (x : Int) : IntKind.wrap .u32 (IntKind.wrap .u32 (x % 256) * 1) = x % 256 := by rw [wr_u32_id (n := x % 256) (by omega) (by omega), Int.mul_one, wr_u32_id (by omega) (by omega)]
theorem w32_b0 (x : Int) : IntKind.wrap .u32 (IntKind.wrap .u32 (x % 256)) = x % 256 := by rw [wr_u32_id (n := x % 256) (by omega) (by omega), wr_u32_id (by omega) (by omega)]
theorem w32_b8 (x : Int) : IntKind.wrap .u32 (IntKind.wrap .u32 (x % 256) * 256) = x % 256 * 256 := by rw [wr_u32_id (n := x % 256) (by omega) (by omega), wr_u32_id (by omega) (by omega)]
theorem and_255_64 {x : Int} (h : in64 x = true) : bits .and .u64 x 255 = x % 256 := by
  have := in64_iff.1 h
  rw [u64_and _ _ this.1 this.2 (by omega) (by omega)]
  have : x.toNat &&& (255 : Int).toNat = x.toNat % 2 ^ 8 := Nat.and_two_pow_sub_one_eq_mod x.toNat 8
  rw [this]; omega
theorem and_255_32 {x : Int} (h : in32 x = true) : bits .and .u32 x 255 = x % 256 := and_255 (in32_iff.1 h).1 (in32_iff.1 h).2
theorem and_255_hi {x : Int} (h : in32 x = true) : bits .and .u32 (x / 256) 255 = x / 256 % 256 := by
  have := in32_iff.1 h; exact and_255 (by omega) (by omega)
theorem lo_set {x : Int} (h : in32 x = true) (v : Int) : bits .or .u32 (bits .andNot .u32 x 255) (v % 256) = x - x % 256 + v % 256 := by
  have := in32_iff.1 h; rw [not_255 this.1 this.2, set_lo this.1 this.2]
theorem hi_set {x : Int} (h : in32 x = true) (v : Int) : bits .or .u32 (bits .andNot .u32 x 65280) (v % 256 * 256) = x - x / 256 % 256 * 256 + v % 256 * 256 := by
  have := in32_iff.1 h; rw [not_65280 this.1 this.2, set_hi this.1 this.2]
/-! ### What is set is got -/
theorem setA_in {k r i x v : Int} (h : in32 x = true) : in32 (setA k r i x v) = true := by
  have hx := in32_iff.1 h
  rw [in32_iff]; unfold setA
  cases (k == 1 && r == i) <;> cases (k == 2 && r == i) <;> cases (k == 2 && r == i + 4) <;> simp only [cond_true, cond_false] <;> omega
theorem setB_in {k r i x v : Int} (h : in32 x = true) : in32 (setB k r i x v) = true := by
  have hx := in32_iff.1 h
  rw [in32_iff]; unfold setB
  cases (k == 1 && r == i) <;> simp only [cond_true, cond_false] <;> omega
end Go.Ev
