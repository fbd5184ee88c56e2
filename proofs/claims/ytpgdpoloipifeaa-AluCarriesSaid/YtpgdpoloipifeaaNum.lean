/- Numbers: wraps, bits, shifts, as plain arithmetic. -/
import Derived.Test.YtpgdpoloipifeaaEv7
import Derived.Laws.BitsAllLaws
import Derived.Laws.BitsLemmas
import Derived.Laws.Bits64
namespace Go.Ev
open Go

theorem wf_u8 {n : Int} (h : (Lit.int .u8 n).wf = true) : 0 ≤ n ∧ n < 256 := by
  simp [Lit.wf, IntKind.min, IntKind.max, IntKind.signed, IntKind.bits] at h; omega
theorem wf_u16 {n : Int} (h : (Lit.int .u16 n).wf = true) : 0 ≤ n ∧ n < 65536 := by
  simp [Lit.wf, IntKind.min, IntKind.max, IntKind.signed, IntKind.bits] at h; omega
theorem wf_u32 {n : Int} (h : (Lit.int .u32 n).wf = true) : 0 ≤ n ∧ n < 4294967296 := by
  simp [Lit.wf, IntKind.min, IntKind.max, IntKind.signed, IntKind.bits] at h; omega
theorem wf_u64 {n : Int} (h : (Lit.int .u64 n).wf = true) : 0 ≤ n ∧ n < 18446744073709551616 := by
  simp [Lit.wf, IntKind.min, IntKind.max, IntKind.signed, IntKind.bits] at h; omega
theorem wf_i32 {n : Int} (h : (Lit.int .i32 n).wf = true) : -2147483648 ≤ n ∧ n < 2147483648 := by
  simp [Lit.wf, IntKind.min, IntKind.max, IntKind.signed, IntKind.bits] at h; omega
theorem wf_i64 {n : Int} (h : (Lit.int .i64 n).wf = true) : -9223372036854775808 ≤ n ∧ n < 9223372036854775808 := by
  simp [Lit.wf, IntKind.min, IntKind.max, IntKind.signed, IntKind.bits] at h; omega

theorem wr_u8 (n : Int) : IntKind.u8.wrap n = n % 256 := IntKind.wrap_u8 n
theorem wr_u16 (n : Int) : IntKind.u16.wrap n = n % 65536 := IntKind.wrap_u16 n
theorem wr_u32 (n : Int) : IntKind.u32.wrap n = n % 4294967296 := IntKind.wrap_u32 n
theorem wr_u64 (n : Int) : IntKind.u64.wrap n = n % 18446744073709551616 := IntKind.wrap_u64 n
theorem wr_i32 (n : Int) : IntKind.i32.wrap n = (n + 2147483648) % 4294967296 - 2147483648 := IntKind.wrap_i32 n
theorem wr_i64 (n : Int) : IntKind.i64.wrap n = (n + 9223372036854775808) % 18446744073709551616 - 9223372036854775808 := IntKind.wrap_i64 n

theorem wr_u8_id {n : Int} (h : 0 ≤ n) (h' : n < 256) : IntKind.u8.wrap n = n := by rw [wr_u8]; omega
theorem wr_u32_id {n : Int} (h : 0 ≤ n) (h' : n < 4294967296) : IntKind.u32.wrap n = n := by rw [wr_u32]; omega
theorem wr_u64_id {n : Int} (h : 0 ≤ n) (h' : n < 18446744073709551616) : IntKind.u64.wrap n = n := by rw [wr_u64]; omega
theorem wr_i32_id {n : Int} (h : -2147483648 ≤ n) (h' : n < 2147483648) : IntKind.i32.wrap n = n := by rw [wr_i32]; omega
theorem wr_i64_id {n : Int} (h : -9223372036854775808 ≤ n) (h' : n < 9223372036854775808) : IntKind.i64.wrap n = n := by rw [wr_i64]; omega

theorem bits_u8 : IntKind.u8.bits = 8 := rfl
theorem bits_u16 : IntKind.u16.bits = 16 := rfl
theorem bits_u32 : IntKind.u32.bits = 32 := rfl
theorem bits_u64 : IntKind.u64.bits = 64 := rfl
theorem bits_i32 : IntKind.i32.bits = 32 := rfl
theorem bits_i64 : IntKind.i64.bits = 64 := rfl

theorem fdiv_pow (x : Int) (n : Nat) : x.fdiv (2 ^ n) = x / 2 ^ n := Int.fdiv_eq_ediv_of_nonneg _ (Int.pow_nonneg (by decide))

/-- Two halves are one number. -/
theorem or_halves {h l : Int} (h0 : 0 ≤ h) (h1 : h < 4294967296) (l0 : 0 ≤ l) (l1 : l < 4294967296) : bits .or .u64 (h * 4294967296) l = h * 4294967296 + l := by
  rw [u64_or _ _ (by omega) (by omega) (by omega) (by omega)]
  have e1 : (h * 4294967296).toNat = h.toNat * 2 ^ 32 := by omega
  rw [e1, nat_join 32 _ _ (by simp) (by omega)]
  omega
theorem and_mask31 {x : Int} (h0 : 0 ≤ x) (h1 : x < 4294967296) : bits .and .u32 x 31 = x % 32 := by
  rw [u32_and _ _ h0 h1 (by omega) (by omega)]
  have : x.toNat &&& (31 : Int).toNat = x.toNat % 2 ^ 5 := Nat.and_two_pow_sub_one_eq_mod x.toNat 5
  rw [this]; omega
theorem and_mask15 {x : Int} (h0 : 0 ≤ x) (h1 : x < 4294967296) : bits .and .u32 x 15 = x % 16 := by
  rw [u32_and _ _ h0 h1 (by omega) (by omega)]
  have : x.toNat &&& (15 : Int).toNat = x.toNat % 2 ^ 4 := Nat.and_two_pow_sub_one_eq_mod x.toNat 4
  rw [this]; omega
end Go.Ev
