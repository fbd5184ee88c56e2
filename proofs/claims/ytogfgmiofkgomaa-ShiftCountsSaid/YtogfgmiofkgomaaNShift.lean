/- Shifts and turns, in plain numbers. -/
import Derived.Test.YtogfgmiofkgomaaNArith
import Derived.Test.YtogfgmiofkgomaaEv9
namespace Go.Ev
open Go
set_option linter.unusedVariables false
set_option linter.unusedSimpArgs false
set_option maxRecDepth 100000

def knownV (op : Int) : Bool := decide (26 ≤ op) && decide (op ≤ 30)
def b31 (x : Int) : Bool := decide (2147483648 ≤ x)
/-- So many bits on. -/
def shW (op v : Int) (k : Nat) : Int :=
  bif op == 28 then v * 2 ^ k % 4294967296 else bif op == 29 then v / 2 ^ k else bif op == 30 then s32 v / 2 ^ k % 4294967296 else
  bif op == 26 then v * 2 ^ k % 4294967296 + v / 2 ^ (32 - k) else v / 2 ^ k + v * 2 ^ (32 - k) % 4294967296
/-- The bit that went out last. -/
def shC (op v : Int) (k : Nat) : Bool :=
  bif k == 0 then false else bif op == 28 then v / 2 ^ (32 - k) % 2 == 1 else bif op == 29 then v / 2 ^ (k - 1) % 2 == 1 else bif op == 30 then v / 2 ^ (k - 1) % 2 == 1 else
  bif op == 26 then shW 26 v k % 2 == 1 else b31 (shW 27 v k)
def shO (op v : Int) (k : Nat) : Bool :=
  bif op == 28 then b31 (shW 28 v k) != shC 28 v k else bif op == 29 then b31 v else bif op == 30 then false else
  bif op == 26 then b31 (shW 26 v k) != shC 26 v k else b31 (shW 27 v k) != (shW 27 v k / 1073741824 % 2 == 1)
/-- One bit on. -/
def stW (op w : Int) : Int :=
  bif op == 28 then w * 2 % 4294967296 else bif op == 29 then w / 2 else bif op == 30 then w / 2 + w / 2147483648 * 2147483648 else
  bif op == 26 then w * 2 % 4294967296 + w / 2147483648 else w / 2 + w % 2 * 2147483648
def stC (op w : Int) : Bool :=
  bif op == 28 then w / 2147483648 == 1 else bif op == 29 then w % 2 == 1 else bif op == 30 then w % 2 == 1 else
  bif op == 26 then stW 26 w % 2 == 1 else stW 27 w / 2147483648 == 1
theorem knownV_cases {op : Int} (h : knownV op = true) : op = 28 ∨ op = 29 ∨ op = 30 ∨ op = 26 ∨ op = 27 := by
  unfold knownV at h; simp at h; omega
theorem fdiv2 (x : Int) : Int.fdiv x 2 = x / 2 := Int.fdiv_eq_ediv_of_nonneg _ (by decide)
theorem fdiv31 (x : Int) : Int.fdiv x 2147483648 = x / 2147483648 := Int.fdiv_eq_ediv_of_nonneg _ (by decide)
theorem fdiv30 (x : Int) : Int.fdiv x 1073741824 = x / 1073741824 := Int.fdiv_eq_ediv_of_nonneg _ (by decide)
theorem fdiv1 (x : Int) : Int.fdiv x 1 = x := by rw [Int.fdiv_eq_ediv_of_nonneg _ (by decide), Int.ediv_one]
theorem or_comm32 {x y : Int} (hx : 0 ≤ x ∧ x < 4294967296) (hy : 0 ≤ y ∧ y < 4294967296) : bits .or .u32 x y = bits .or .u32 y x := by
  rw [u32_or _ _ hx.1 hx.2 hy.1 hy.2, u32_or _ _ hy.1 hy.2 hx.1 hx.2, Nat.or_comm]
theorem or_sar {w : Int} (h0 : 0 ≤ w) (h1 : w < 4294967296) : bits .or .u32 (w / 2) (IntKind.u32.wrap (w / 2147483648 * 2147483648)) = w / 2 + w / 2147483648 * 2147483648 := by
  have h := or_join 31 (l := w / 2) (h := w / 2147483648) (by omega) (by show w / 2 < 2147483648; omega) (by omega) (by show w / 2 + w / 2147483648 * 2147483648 < _; omega)
  rw [show (2 : Int) ^ 31 = 2147483648 from rfl] at h
  rw [wr_u32_id (by omega) (by omega), h]
theorem or_ror {w : Int} (h0 : 0 ≤ w) (h1 : w < 4294967296) : bits .or .u32 (w / 2) (IntKind.u32.wrap (w % 2 * 2147483648)) = w / 2 + w % 2 * 2147483648 := by
  have h := or_join 31 (l := w / 2) (h := w % 2) (by omega) (by show w / 2 < 2147483648; omega) (by omega) (by show w / 2 + w % 2 * 2147483648 < _; omega)
  rw [show (2 : Int) ^ 31 = 2147483648 from rfl] at h
  rw [wr_u32_id (by omega) (by omega), h]
theorem or_rol {w : Int} (h0 : 0 ≤ w) (h1 : w < 4294967296) : bits .or .u32 (IntKind.u32.wrap (w * 2)) (w / 2147483648) = w * 2 % 4294967296 + w / 2147483648 := by
  have h := or_join 1 (l := w / 2147483648) (h := w % 2147483648) (by omega) (by show w / 2147483648 < 2; omega) (by omega) (by show w / 2147483648 + w % 2147483648 * 2 < _; omega)
  rw [show (2 : Int) ^ 1 = 2 from rfl] at h
  have e : IntKind.u32.wrap (w * 2) = w % 2147483648 * 2 := by rw [wr_u32]; omega
  rw [e, or_comm32 (by omega) (by omega), h]; omega
theorem sh0 {op v : Int} (h0 : 0 ≤ v) (h1 : v < 4294967296) : shW op v 0 = v := by
  unfold shW s32
  rw [show (2 : Int) ^ 0 = 1 from rfl, show (2 : Int) ^ (32 - 0) = 4294967296 from rfl]
  cases (op == 28) <;> cases (op == 29) <;> cases (op == 30) <;> cases (op == 26) <;> simp only [cond_true, cond_false] <;> (try split) <;> omega
theorem shC0 (op v : Int) : shC op v 0 = false := rfl
theorem beq_iff' {a b c d : Int} (h : a = b ↔ c = d) : (a == b) = (c == d) := by rw [Bool.eq_iff_iff, beq_iff_eq, beq_iff_eq]; exact h
theorem beq_dec {a b c d : Int} (h : a = b ↔ c ≤ d) : (a == b) = decide (c ≤ d) := by rw [Bool.eq_iff_iff, beq_iff_eq, decide_eq_true_eq]; exact h

theorem w28_0 (v : Int) : shW 28 v 0 = v * 1 % 4294967296 := rfl
theorem w28_1 (v : Int) : shW 28 v 1 = v * 2 % 4294967296 := rfl
theorem w28_2 (v : Int) : shW 28 v 2 = v * 4 % 4294967296 := rfl
theorem w28_3 (v : Int) : shW 28 v 3 = v * 8 % 4294967296 := rfl
theorem w28_4 (v : Int) : shW 28 v 4 = v * 16 % 4294967296 := rfl
theorem w28_5 (v : Int) : shW 28 v 5 = v * 32 % 4294967296 := rfl
theorem w28_6 (v : Int) : shW 28 v 6 = v * 64 % 4294967296 := rfl
theorem w28_7 (v : Int) : shW 28 v 7 = v * 128 % 4294967296 := rfl
theorem w28_8 (v : Int) : shW 28 v 8 = v * 256 % 4294967296 := rfl
theorem w28_9 (v : Int) : shW 28 v 9 = v * 512 % 4294967296 := rfl
theorem w28_10 (v : Int) : shW 28 v 10 = v * 1024 % 4294967296 := rfl
theorem w28_11 (v : Int) : shW 28 v 11 = v * 2048 % 4294967296 := rfl
theorem w28_12 (v : Int) : shW 28 v 12 = v * 4096 % 4294967296 := rfl
theorem w28_13 (v : Int) : shW 28 v 13 = v * 8192 % 4294967296 := rfl
theorem w28_14 (v : Int) : shW 28 v 14 = v * 16384 % 4294967296 := rfl
theorem w28_15 (v : Int) : shW 28 v 15 = v * 32768 % 4294967296 := rfl
theorem w28_16 (v : Int) : shW 28 v 16 = v * 65536 % 4294967296 := rfl
theorem w28_17 (v : Int) : shW 28 v 17 = v * 131072 % 4294967296 := rfl
theorem w28_18 (v : Int) : shW 28 v 18 = v * 262144 % 4294967296 := rfl
theorem w28_19 (v : Int) : shW 28 v 19 = v * 524288 % 4294967296 := rfl
theorem w28_20 (v : Int) : shW 28 v 20 = v * 1048576 % 4294967296 := rfl
theorem w28_21 (v : Int) : shW 28 v 21 = v * 2097152 % 4294967296 := rfl
theorem w28_22 (v : Int) : shW 28 v 22 = v * 4194304 % 4294967296 := rfl
theorem w28_23 (v : Int) : shW 28 v 23 = v * 8388608 % 4294967296 := rfl
theorem w28_24 (v : Int) : shW 28 v 24 = v * 16777216 % 4294967296 := rfl
theorem w28_25 (v : Int) : shW 28 v 25 = v * 33554432 % 4294967296 := rfl
theorem w28_26 (v : Int) : shW 28 v 26 = v * 67108864 % 4294967296 := rfl
theorem w28_27 (v : Int) : shW 28 v 27 = v * 134217728 % 4294967296 := rfl
theorem w28_28 (v : Int) : shW 28 v 28 = v * 268435456 % 4294967296 := rfl
theorem w28_29 (v : Int) : shW 28 v 29 = v * 536870912 % 4294967296 := rfl
theorem w28_30 (v : Int) : shW 28 v 30 = v * 1073741824 % 4294967296 := rfl
theorem w28_31 (v : Int) : shW 28 v 31 = v * 2147483648 % 4294967296 := rfl
theorem w29_0 (v : Int) : shW 29 v 0 = v / 1 := rfl
theorem w29_1 (v : Int) : shW 29 v 1 = v / 2 := rfl
theorem w29_2 (v : Int) : shW 29 v 2 = v / 4 := rfl
theorem w29_3 (v : Int) : shW 29 v 3 = v / 8 := rfl
theorem w29_4 (v : Int) : shW 29 v 4 = v / 16 := rfl
theorem w29_5 (v : Int) : shW 29 v 5 = v / 32 := rfl
theorem w29_6 (v : Int) : shW 29 v 6 = v / 64 := rfl
theorem w29_7 (v : Int) : shW 29 v 7 = v / 128 := rfl
theorem w29_8 (v : Int) : shW 29 v 8 = v / 256 := rfl
theorem w29_9 (v : Int) : shW 29 v 9 = v / 512 := rfl
theorem w29_10 (v : Int) : shW 29 v 10 = v / 1024 := rfl
theorem w29_11 (v : Int) : shW 29 v 11 = v / 2048 := rfl
theorem w29_12 (v : Int) : shW 29 v 12 = v / 4096 := rfl
theorem w29_13 (v : Int) : shW 29 v 13 = v / 8192 := rfl
theorem w29_14 (v : Int) : shW 29 v 14 = v / 16384 := rfl
theorem w29_15 (v : Int) : shW 29 v 15 = v / 32768 := rfl
theorem w29_16 (v : Int) : shW 29 v 16 = v / 65536 := rfl
theorem w29_17 (v : Int) : shW 29 v 17 = v / 131072 := rfl
theorem w29_18 (v : Int) : shW 29 v 18 = v / 262144 := rfl
theorem w29_19 (v : Int) : shW 29 v 19 = v / 524288 := rfl
theorem w29_20 (v : Int) : shW 29 v 20 = v / 1048576 := rfl
theorem w29_21 (v : Int) : shW 29 v 21 = v / 2097152 := rfl
theorem w29_22 (v : Int) : shW 29 v 22 = v / 4194304 := rfl
theorem w29_23 (v : Int) : shW 29 v 23 = v / 8388608 := rfl
theorem w29_24 (v : Int) : shW 29 v 24 = v / 16777216 := rfl
theorem w29_25 (v : Int) : shW 29 v 25 = v / 33554432 := rfl
theorem w29_26 (v : Int) : shW 29 v 26 = v / 67108864 := rfl
theorem w29_27 (v : Int) : shW 29 v 27 = v / 134217728 := rfl
theorem w29_28 (v : Int) : shW 29 v 28 = v / 268435456 := rfl
theorem w29_29 (v : Int) : shW 29 v 29 = v / 536870912 := rfl
theorem w29_30 (v : Int) : shW 29 v 30 = v / 1073741824 := rfl
theorem w29_31 (v : Int) : shW 29 v 31 = v / 2147483648 := rfl
theorem w30_0 (v : Int) : shW 30 v 0 = s32 v / 1 % 4294967296 := rfl
theorem w30_1 (v : Int) : shW 30 v 1 = s32 v / 2 % 4294967296 := rfl
theorem w30_2 (v : Int) : shW 30 v 2 = s32 v / 4 % 4294967296 := rfl
theorem w30_3 (v : Int) : shW 30 v 3 = s32 v / 8 % 4294967296 := rfl
theorem w30_4 (v : Int) : shW 30 v 4 = s32 v / 16 % 4294967296 := rfl
theorem w30_5 (v : Int) : shW 30 v 5 = s32 v / 32 % 4294967296 := rfl
theorem w30_6 (v : Int) : shW 30 v 6 = s32 v / 64 % 4294967296 := rfl
theorem w30_7 (v : Int) : shW 30 v 7 = s32 v / 128 % 4294967296 := rfl
theorem w30_8 (v : Int) : shW 30 v 8 = s32 v / 256 % 4294967296 := rfl
theorem w30_9 (v : Int) : shW 30 v 9 = s32 v / 512 % 4294967296 := rfl
theorem w30_10 (v : Int) : shW 30 v 10 = s32 v / 1024 % 4294967296 := rfl
theorem w30_11 (v : Int) : shW 30 v 11 = s32 v / 2048 % 4294967296 := rfl
theorem w30_12 (v : Int) : shW 30 v 12 = s32 v / 4096 % 4294967296 := rfl
theorem w30_13 (v : Int) : shW 30 v 13 = s32 v / 8192 % 4294967296 := rfl
theorem w30_14 (v : Int) : shW 30 v 14 = s32 v / 16384 % 4294967296 := rfl
theorem w30_15 (v : Int) : shW 30 v 15 = s32 v / 32768 % 4294967296 := rfl
theorem w30_16 (v : Int) : shW 30 v 16 = s32 v / 65536 % 4294967296 := rfl
theorem w30_17 (v : Int) : shW 30 v 17 = s32 v / 131072 % 4294967296 := rfl
theorem w30_18 (v : Int) : shW 30 v 18 = s32 v / 262144 % 4294967296 := rfl
theorem w30_19 (v : Int) : shW 30 v 19 = s32 v / 524288 % 4294967296 := rfl
theorem w30_20 (v : Int) : shW 30 v 20 = s32 v / 1048576 % 4294967296 := rfl
theorem w30_21 (v : Int) : shW 30 v 21 = s32 v / 2097152 % 4294967296 := rfl
theorem w30_22 (v : Int) : shW 30 v 22 = s32 v / 4194304 % 4294967296 := rfl
theorem w30_23 (v : Int) : shW 30 v 23 = s32 v / 8388608 % 4294967296 := rfl
theorem w30_24 (v : Int) : shW 30 v 24 = s32 v / 16777216 % 4294967296 := rfl
theorem w30_25 (v : Int) : shW 30 v 25 = s32 v / 33554432 % 4294967296 := rfl
theorem w30_26 (v : Int) : shW 30 v 26 = s32 v / 67108864 % 4294967296 := rfl
theorem w30_27 (v : Int) : shW 30 v 27 = s32 v / 134217728 % 4294967296 := rfl
theorem w30_28 (v : Int) : shW 30 v 28 = s32 v / 268435456 % 4294967296 := rfl
theorem w30_29 (v : Int) : shW 30 v 29 = s32 v / 536870912 % 4294967296 := rfl
theorem w30_30 (v : Int) : shW 30 v 30 = s32 v / 1073741824 % 4294967296 := rfl
theorem w30_31 (v : Int) : shW 30 v 31 = s32 v / 2147483648 % 4294967296 := rfl
theorem w26_0 (v : Int) : shW 26 v 0 = v * 1 % 4294967296 + v / 4294967296 := rfl
theorem w26_1 (v : Int) : shW 26 v 1 = v * 2 % 4294967296 + v / 2147483648 := rfl
theorem w26_2 (v : Int) : shW 26 v 2 = v * 4 % 4294967296 + v / 1073741824 := rfl
theorem w26_3 (v : Int) : shW 26 v 3 = v * 8 % 4294967296 + v / 536870912 := rfl
theorem w26_4 (v : Int) : shW 26 v 4 = v * 16 % 4294967296 + v / 268435456 := rfl
theorem w26_5 (v : Int) : shW 26 v 5 = v * 32 % 4294967296 + v / 134217728 := rfl
theorem w26_6 (v : Int) : shW 26 v 6 = v * 64 % 4294967296 + v / 67108864 := rfl
theorem w26_7 (v : Int) : shW 26 v 7 = v * 128 % 4294967296 + v / 33554432 := rfl
theorem w26_8 (v : Int) : shW 26 v 8 = v * 256 % 4294967296 + v / 16777216 := rfl
theorem w26_9 (v : Int) : shW 26 v 9 = v * 512 % 4294967296 + v / 8388608 := rfl
theorem w26_10 (v : Int) : shW 26 v 10 = v * 1024 % 4294967296 + v / 4194304 := rfl
theorem w26_11 (v : Int) : shW 26 v 11 = v * 2048 % 4294967296 + v / 2097152 := rfl
theorem w26_12 (v : Int) : shW 26 v 12 = v * 4096 % 4294967296 + v / 1048576 := rfl
theorem w26_13 (v : Int) : shW 26 v 13 = v * 8192 % 4294967296 + v / 524288 := rfl
theorem w26_14 (v : Int) : shW 26 v 14 = v * 16384 % 4294967296 + v / 262144 := rfl
theorem w26_15 (v : Int) : shW 26 v 15 = v * 32768 % 4294967296 + v / 131072 := rfl
theorem w26_16 (v : Int) : shW 26 v 16 = v * 65536 % 4294967296 + v / 65536 := rfl
theorem w26_17 (v : Int) : shW 26 v 17 = v * 131072 % 4294967296 + v / 32768 := rfl
theorem w26_18 (v : Int) : shW 26 v 18 = v * 262144 % 4294967296 + v / 16384 := rfl
theorem w26_19 (v : Int) : shW 26 v 19 = v * 524288 % 4294967296 + v / 8192 := rfl
theorem w26_20 (v : Int) : shW 26 v 20 = v * 1048576 % 4294967296 + v / 4096 := rfl
theorem w26_21 (v : Int) : shW 26 v 21 = v * 2097152 % 4294967296 + v / 2048 := rfl
theorem w26_22 (v : Int) : shW 26 v 22 = v * 4194304 % 4294967296 + v / 1024 := rfl
theorem w26_23 (v : Int) : shW 26 v 23 = v * 8388608 % 4294967296 + v / 512 := rfl
theorem w26_24 (v : Int) : shW 26 v 24 = v * 16777216 % 4294967296 + v / 256 := rfl
theorem w26_25 (v : Int) : shW 26 v 25 = v * 33554432 % 4294967296 + v / 128 := rfl
theorem w26_26 (v : Int) : shW 26 v 26 = v * 67108864 % 4294967296 + v / 64 := rfl
theorem w26_27 (v : Int) : shW 26 v 27 = v * 134217728 % 4294967296 + v / 32 := rfl
theorem w26_28 (v : Int) : shW 26 v 28 = v * 268435456 % 4294967296 + v / 16 := rfl
theorem w26_29 (v : Int) : shW 26 v 29 = v * 536870912 % 4294967296 + v / 8 := rfl
theorem w26_30 (v : Int) : shW 26 v 30 = v * 1073741824 % 4294967296 + v / 4 := rfl
theorem w26_31 (v : Int) : shW 26 v 31 = v * 2147483648 % 4294967296 + v / 2 := rfl
theorem w27_0 (v : Int) : shW 27 v 0 = v / 1 + v * 4294967296 % 4294967296 := rfl
theorem w27_1 (v : Int) : shW 27 v 1 = v / 2 + v * 2147483648 % 4294967296 := rfl
theorem w27_2 (v : Int) : shW 27 v 2 = v / 4 + v * 1073741824 % 4294967296 := rfl
theorem w27_3 (v : Int) : shW 27 v 3 = v / 8 + v * 536870912 % 4294967296 := rfl
theorem w27_4 (v : Int) : shW 27 v 4 = v / 16 + v * 268435456 % 4294967296 := rfl
theorem w27_5 (v : Int) : shW 27 v 5 = v / 32 + v * 134217728 % 4294967296 := rfl
theorem w27_6 (v : Int) : shW 27 v 6 = v / 64 + v * 67108864 % 4294967296 := rfl
theorem w27_7 (v : Int) : shW 27 v 7 = v / 128 + v * 33554432 % 4294967296 := rfl
theorem w27_8 (v : Int) : shW 27 v 8 = v / 256 + v * 16777216 % 4294967296 := rfl
theorem w27_9 (v : Int) : shW 27 v 9 = v / 512 + v * 8388608 % 4294967296 := rfl
theorem w27_10 (v : Int) : shW 27 v 10 = v / 1024 + v * 4194304 % 4294967296 := rfl
theorem w27_11 (v : Int) : shW 27 v 11 = v / 2048 + v * 2097152 % 4294967296 := rfl
theorem w27_12 (v : Int) : shW 27 v 12 = v / 4096 + v * 1048576 % 4294967296 := rfl
theorem w27_13 (v : Int) : shW 27 v 13 = v / 8192 + v * 524288 % 4294967296 := rfl
theorem w27_14 (v : Int) : shW 27 v 14 = v / 16384 + v * 262144 % 4294967296 := rfl
theorem w27_15 (v : Int) : shW 27 v 15 = v / 32768 + v * 131072 % 4294967296 := rfl
theorem w27_16 (v : Int) : shW 27 v 16 = v / 65536 + v * 65536 % 4294967296 := rfl
theorem w27_17 (v : Int) : shW 27 v 17 = v / 131072 + v * 32768 % 4294967296 := rfl
theorem w27_18 (v : Int) : shW 27 v 18 = v / 262144 + v * 16384 % 4294967296 := rfl
theorem w27_19 (v : Int) : shW 27 v 19 = v / 524288 + v * 8192 % 4294967296 := rfl
theorem w27_20 (v : Int) : shW 27 v 20 = v / 1048576 + v * 4096 % 4294967296 := rfl
theorem w27_21 (v : Int) : shW 27 v 21 = v / 2097152 + v * 2048 % 4294967296 := rfl
theorem w27_22 (v : Int) : shW 27 v 22 = v / 4194304 + v * 1024 % 4294967296 := rfl
theorem w27_23 (v : Int) : shW 27 v 23 = v / 8388608 + v * 512 % 4294967296 := rfl
theorem w27_24 (v : Int) : shW 27 v 24 = v / 16777216 + v * 256 % 4294967296 := rfl
theorem w27_25 (v : Int) : shW 27 v 25 = v / 33554432 + v * 128 % 4294967296 := rfl
theorem w27_26 (v : Int) : shW 27 v 26 = v / 67108864 + v * 64 % 4294967296 := rfl
theorem w27_27 (v : Int) : shW 27 v 27 = v / 134217728 + v * 32 % 4294967296 := rfl
theorem w27_28 (v : Int) : shW 27 v 28 = v / 268435456 + v * 16 % 4294967296 := rfl
theorem w27_29 (v : Int) : shW 27 v 29 = v / 536870912 + v * 8 % 4294967296 := rfl
theorem w27_30 (v : Int) : shW 27 v 30 = v / 1073741824 + v * 4 % 4294967296 := rfl
theorem w27_31 (v : Int) : shW 27 v 31 = v / 2147483648 + v * 2 % 4294967296 := rfl
theorem bd28 {v : Int} (h0 : 0 ≤ v) (h1 : v < 4294967296) : ∀ k : Nat, k < 32 → 0 ≤ shW 28 v k ∧ shW 28 v k < 4294967296
  | 0, _ => by rw [w28_0]; omega
  | 1, _ => by rw [w28_1]; omega
  | 2, _ => by rw [w28_2]; omega
  | 3, _ => by rw [w28_3]; omega
  | 4, _ => by rw [w28_4]; omega
  | 5, _ => by rw [w28_5]; omega
  | 6, _ => by rw [w28_6]; omega
  | 7, _ => by rw [w28_7]; omega
  | 8, _ => by rw [w28_8]; omega
  | 9, _ => by rw [w28_9]; omega
  | 10, _ => by rw [w28_10]; omega
  | 11, _ => by rw [w28_11]; omega
  | 12, _ => by rw [w28_12]; omega
  | 13, _ => by rw [w28_13]; omega
  | 14, _ => by rw [w28_14]; omega
  | 15, _ => by rw [w28_15]; omega
  | 16, _ => by rw [w28_16]; omega
  | 17, _ => by rw [w28_17]; omega
  | 18, _ => by rw [w28_18]; omega
  | 19, _ => by rw [w28_19]; omega
  | 20, _ => by rw [w28_20]; omega
  | 21, _ => by rw [w28_21]; omega
  | 22, _ => by rw [w28_22]; omega
  | 23, _ => by rw [w28_23]; omega
  | 24, _ => by rw [w28_24]; omega
  | 25, _ => by rw [w28_25]; omega
  | 26, _ => by rw [w28_26]; omega
  | 27, _ => by rw [w28_27]; omega
  | 28, _ => by rw [w28_28]; omega
  | 29, _ => by rw [w28_29]; omega
  | 30, _ => by rw [w28_30]; omega
  | 31, _ => by rw [w28_31]; omega
  | k + 32, h => by omega
theorem bd29 {v : Int} (h0 : 0 ≤ v) (h1 : v < 4294967296) : ∀ k : Nat, k < 32 → 0 ≤ shW 29 v k ∧ shW 29 v k < 4294967296
  | 0, _ => by rw [w29_0]; omega
  | 1, _ => by rw [w29_1]; omega
  | 2, _ => by rw [w29_2]; omega
  | 3, _ => by rw [w29_3]; omega
  | 4, _ => by rw [w29_4]; omega
  | 5, _ => by rw [w29_5]; omega
  | 6, _ => by rw [w29_6]; omega
  | 7, _ => by rw [w29_7]; omega
  | 8, _ => by rw [w29_8]; omega
  | 9, _ => by rw [w29_9]; omega
  | 10, _ => by rw [w29_10]; omega
  | 11, _ => by rw [w29_11]; omega
  | 12, _ => by rw [w29_12]; omega
  | 13, _ => by rw [w29_13]; omega
  | 14, _ => by rw [w29_14]; omega
  | 15, _ => by rw [w29_15]; omega
  | 16, _ => by rw [w29_16]; omega
  | 17, _ => by rw [w29_17]; omega
  | 18, _ => by rw [w29_18]; omega
  | 19, _ => by rw [w29_19]; omega
  | 20, _ => by rw [w29_20]; omega
  | 21, _ => by rw [w29_21]; omega
  | 22, _ => by rw [w29_22]; omega
  | 23, _ => by rw [w29_23]; omega
  | 24, _ => by rw [w29_24]; omega
  | 25, _ => by rw [w29_25]; omega
  | 26, _ => by rw [w29_26]; omega
  | 27, _ => by rw [w29_27]; omega
  | 28, _ => by rw [w29_28]; omega
  | 29, _ => by rw [w29_29]; omega
  | 30, _ => by rw [w29_30]; omega
  | 31, _ => by rw [w29_31]; omega
  | k + 32, h => by omega
theorem bd30 {v : Int} (h0 : 0 ≤ v) (h1 : v < 4294967296) : ∀ k : Nat, k < 32 → 0 ≤ shW 30 v k ∧ shW 30 v k < 4294967296
  | 0, _ => by rw [w30_0]; unfold s32; split <;> omega
  | 1, _ => by rw [w30_1]; unfold s32; split <;> omega
  | 2, _ => by rw [w30_2]; unfold s32; split <;> omega
  | 3, _ => by rw [w30_3]; unfold s32; split <;> omega
  | 4, _ => by rw [w30_4]; unfold s32; split <;> omega
  | 5, _ => by rw [w30_5]; unfold s32; split <;> omega
  | 6, _ => by rw [w30_6]; unfold s32; split <;> omega
  | 7, _ => by rw [w30_7]; unfold s32; split <;> omega
  | 8, _ => by rw [w30_8]; unfold s32; split <;> omega
  | 9, _ => by rw [w30_9]; unfold s32; split <;> omega
  | 10, _ => by rw [w30_10]; unfold s32; split <;> omega
  | 11, _ => by rw [w30_11]; unfold s32; split <;> omega
  | 12, _ => by rw [w30_12]; unfold s32; split <;> omega
  | 13, _ => by rw [w30_13]; unfold s32; split <;> omega
  | 14, _ => by rw [w30_14]; unfold s32; split <;> omega
  | 15, _ => by rw [w30_15]; unfold s32; split <;> omega
  | 16, _ => by rw [w30_16]; unfold s32; split <;> omega
  | 17, _ => by rw [w30_17]; unfold s32; split <;> omega
  | 18, _ => by rw [w30_18]; unfold s32; split <;> omega
  | 19, _ => by rw [w30_19]; unfold s32; split <;> omega
  | 20, _ => by rw [w30_20]; unfold s32; split <;> omega
  | 21, _ => by rw [w30_21]; unfold s32; split <;> omega
  | 22, _ => by rw [w30_22]; unfold s32; split <;> omega
  | 23, _ => by rw [w30_23]; unfold s32; split <;> omega
  | 24, _ => by rw [w30_24]; unfold s32; split <;> omega
  | 25, _ => by rw [w30_25]; unfold s32; split <;> omega
  | 26, _ => by rw [w30_26]; unfold s32; split <;> omega
  | 27, _ => by rw [w30_27]; unfold s32; split <;> omega
  | 28, _ => by rw [w30_28]; unfold s32; split <;> omega
  | 29, _ => by rw [w30_29]; unfold s32; split <;> omega
  | 30, _ => by rw [w30_30]; unfold s32; split <;> omega
  | 31, _ => by rw [w30_31]; unfold s32; split <;> omega
  | k + 32, h => by omega
theorem bd26 {v : Int} (h0 : 0 ≤ v) (h1 : v < 4294967296) : ∀ k : Nat, k < 32 → 0 ≤ shW 26 v k ∧ shW 26 v k < 4294967296
  | 0, _ => by rw [w26_0]; omega
  | 1, _ => by rw [w26_1]; omega
  | 2, _ => by rw [w26_2]; omega
  | 3, _ => by rw [w26_3]; omega
  | 4, _ => by rw [w26_4]; omega
  | 5, _ => by rw [w26_5]; omega
  | 6, _ => by rw [w26_6]; omega
  | 7, _ => by rw [w26_7]; omega
  | 8, _ => by rw [w26_8]; omega
  | 9, _ => by rw [w26_9]; omega
  | 10, _ => by rw [w26_10]; omega
  | 11, _ => by rw [w26_11]; omega
  | 12, _ => by rw [w26_12]; omega
  | 13, _ => by rw [w26_13]; omega
  | 14, _ => by rw [w26_14]; omega
  | 15, _ => by rw [w26_15]; omega
  | 16, _ => by rw [w26_16]; omega
  | 17, _ => by rw [w26_17]; omega
  | 18, _ => by rw [w26_18]; omega
  | 19, _ => by rw [w26_19]; omega
  | 20, _ => by rw [w26_20]; omega
  | 21, _ => by rw [w26_21]; omega
  | 22, _ => by rw [w26_22]; omega
  | 23, _ => by rw [w26_23]; omega
  | 24, _ => by rw [w26_24]; omega
  | 25, _ => by rw [w26_25]; omega
  | 26, _ => by rw [w26_26]; omega
  | 27, _ => by rw [w26_27]; omega
  | 28, _ => by rw [w26_28]; omega
  | 29, _ => by rw [w26_29]; omega
  | 30, _ => by rw [w26_30]; omega
  | 31, _ => by rw [w26_31]; omega
  | k + 32, h => by omega
theorem bd27 {v : Int} (h0 : 0 ≤ v) (h1 : v < 4294967296) : ∀ k : Nat, k < 32 → 0 ≤ shW 27 v k ∧ shW 27 v k < 4294967296
  | 0, _ => by rw [w27_0]; omega
  | 1, _ => by rw [w27_1]; omega
  | 2, _ => by rw [w27_2]; omega
  | 3, _ => by rw [w27_3]; omega
  | 4, _ => by rw [w27_4]; omega
  | 5, _ => by rw [w27_5]; omega
  | 6, _ => by rw [w27_6]; omega
  | 7, _ => by rw [w27_7]; omega
  | 8, _ => by rw [w27_8]; omega
  | 9, _ => by rw [w27_9]; omega
  | 10, _ => by rw [w27_10]; omega
  | 11, _ => by rw [w27_11]; omega
  | 12, _ => by rw [w27_12]; omega
  | 13, _ => by rw [w27_13]; omega
  | 14, _ => by rw [w27_14]; omega
  | 15, _ => by rw [w27_15]; omega
  | 16, _ => by rw [w27_16]; omega
  | 17, _ => by rw [w27_17]; omega
  | 18, _ => by rw [w27_18]; omega
  | 19, _ => by rw [w27_19]; omega
  | 20, _ => by rw [w27_20]; omega
  | 21, _ => by rw [w27_21]; omega
  | 22, _ => by rw [w27_22]; omega
  | 23, _ => by rw [w27_23]; omega
  | 24, _ => by rw [w27_24]; omega
  | 25, _ => by rw [w27_25]; omega
  | 26, _ => by rw [w27_26]; omega
  | 27, _ => by rw [w27_27]; omega
  | 28, _ => by rw [w27_28]; omega
  | 29, _ => by rw [w27_29]; omega
  | 30, _ => by rw [w27_30]; omega
  | 31, _ => by rw [w27_31]; omega
  | k + 32, h => by omega
theorem s28 (w : Int) : stW 28 w = w * 2 % 4294967296 := rfl
theorem s29 (w : Int) : stW 29 w = w / 2 := rfl
theorem s30 (w : Int) : stW 30 w = w / 2 + w / 2147483648 * 2147483648 := rfl
theorem s26 (w : Int) : stW 26 w = w * 2 % 4294967296 + w / 2147483648 := rfl
theorem s27 (w : Int) : stW 27 w = w / 2 + w % 2 * 2147483648 := rfl
theorem st28 {v : Int} (h0 : 0 ≤ v) (h1 : v < 4294967296) : ∀ k : Nat, k < 31 → stW 28 (shW 28 v k) = shW 28 v (k + 1)
  | 0, _ => by rw [show 0 + 1 = 1 from rfl, w28_0, w28_1, s28]; omega
  | 1, _ => by rw [show 1 + 1 = 2 from rfl, w28_1, w28_2, s28]; omega
  | 2, _ => by rw [show 2 + 1 = 3 from rfl, w28_2, w28_3, s28]; omega
  | 3, _ => by rw [show 3 + 1 = 4 from rfl, w28_3, w28_4, s28]; omega
  | 4, _ => by rw [show 4 + 1 = 5 from rfl, w28_4, w28_5, s28]; omega
  | 5, _ => by rw [show 5 + 1 = 6 from rfl, w28_5, w28_6, s28]; omega
  | 6, _ => by rw [show 6 + 1 = 7 from rfl, w28_6, w28_7, s28]; omega
  | 7, _ => by rw [show 7 + 1 = 8 from rfl, w28_7, w28_8, s28]; omega
  | 8, _ => by rw [show 8 + 1 = 9 from rfl, w28_8, w28_9, s28]; omega
  | 9, _ => by rw [show 9 + 1 = 10 from rfl, w28_9, w28_10, s28]; omega
  | 10, _ => by rw [show 10 + 1 = 11 from rfl, w28_10, w28_11, s28]; omega
  | 11, _ => by rw [show 11 + 1 = 12 from rfl, w28_11, w28_12, s28]; omega
  | 12, _ => by rw [show 12 + 1 = 13 from rfl, w28_12, w28_13, s28]; omega
  | 13, _ => by rw [show 13 + 1 = 14 from rfl, w28_13, w28_14, s28]; omega
  | 14, _ => by rw [show 14 + 1 = 15 from rfl, w28_14, w28_15, s28]; omega
  | 15, _ => by rw [show 15 + 1 = 16 from rfl, w28_15, w28_16, s28]; omega
  | 16, _ => by rw [show 16 + 1 = 17 from rfl, w28_16, w28_17, s28]; omega
  | 17, _ => by rw [show 17 + 1 = 18 from rfl, w28_17, w28_18, s28]; omega
  | 18, _ => by rw [show 18 + 1 = 19 from rfl, w28_18, w28_19, s28]; omega
  | 19, _ => by rw [show 19 + 1 = 20 from rfl, w28_19, w28_20, s28]; omega
  | 20, _ => by rw [show 20 + 1 = 21 from rfl, w28_20, w28_21, s28]; omega
  | 21, _ => by rw [show 21 + 1 = 22 from rfl, w28_21, w28_22, s28]; omega
  | 22, _ => by rw [show 22 + 1 = 23 from rfl, w28_22, w28_23, s28]; omega
  | 23, _ => by rw [show 23 + 1 = 24 from rfl, w28_23, w28_24, s28]; omega
  | 24, _ => by rw [show 24 + 1 = 25 from rfl, w28_24, w28_25, s28]; omega
  | 25, _ => by rw [show 25 + 1 = 26 from rfl, w28_25, w28_26, s28]; omega
  | 26, _ => by rw [show 26 + 1 = 27 from rfl, w28_26, w28_27, s28]; omega
  | 27, _ => by rw [show 27 + 1 = 28 from rfl, w28_27, w28_28, s28]; omega
  | 28, _ => by rw [show 28 + 1 = 29 from rfl, w28_28, w28_29, s28]; omega
  | 29, _ => by rw [show 29 + 1 = 30 from rfl, w28_29, w28_30, s28]; omega
  | 30, _ => by rw [show 30 + 1 = 31 from rfl, w28_30, w28_31, s28]; omega
  | k + 31, h => by omega
theorem st29 {v : Int} (h0 : 0 ≤ v) (h1 : v < 4294967296) : ∀ k : Nat, k < 31 → stW 29 (shW 29 v k) = shW 29 v (k + 1)
  | 0, _ => by rw [show 0 + 1 = 1 from rfl, w29_0, w29_1, s29]; omega
  | 1, _ => by rw [show 1 + 1 = 2 from rfl, w29_1, w29_2, s29]; omega
  | 2, _ => by rw [show 2 + 1 = 3 from rfl, w29_2, w29_3, s29]; omega
  | 3, _ => by rw [show 3 + 1 = 4 from rfl, w29_3, w29_4, s29]; omega
  | 4, _ => by rw [show 4 + 1 = 5 from rfl, w29_4, w29_5, s29]; omega
  | 5, _ => by rw [show 5 + 1 = 6 from rfl, w29_5, w29_6, s29]; omega
  | 6, _ => by rw [show 6 + 1 = 7 from rfl, w29_6, w29_7, s29]; omega
  | 7, _ => by rw [show 7 + 1 = 8 from rfl, w29_7, w29_8, s29]; omega
  | 8, _ => by rw [show 8 + 1 = 9 from rfl, w29_8, w29_9, s29]; omega
  | 9, _ => by rw [show 9 + 1 = 10 from rfl, w29_9, w29_10, s29]; omega
  | 10, _ => by rw [show 10 + 1 = 11 from rfl, w29_10, w29_11, s29]; omega
  | 11, _ => by rw [show 11 + 1 = 12 from rfl, w29_11, w29_12, s29]; omega
  | 12, _ => by rw [show 12 + 1 = 13 from rfl, w29_12, w29_13, s29]; omega
  | 13, _ => by rw [show 13 + 1 = 14 from rfl, w29_13, w29_14, s29]; omega
  | 14, _ => by rw [show 14 + 1 = 15 from rfl, w29_14, w29_15, s29]; omega
  | 15, _ => by rw [show 15 + 1 = 16 from rfl, w29_15, w29_16, s29]; omega
  | 16, _ => by rw [show 16 + 1 = 17 from rfl, w29_16, w29_17, s29]; omega
  | 17, _ => by rw [show 17 + 1 = 18 from rfl, w29_17, w29_18, s29]; omega
  | 18, _ => by rw [show 18 + 1 = 19 from rfl, w29_18, w29_19, s29]; omega
  | 19, _ => by rw [show 19 + 1 = 20 from rfl, w29_19, w29_20, s29]; omega
  | 20, _ => by rw [show 20 + 1 = 21 from rfl, w29_20, w29_21, s29]; omega
  | 21, _ => by rw [show 21 + 1 = 22 from rfl, w29_21, w29_22, s29]; omega
  | 22, _ => by rw [show 22 + 1 = 23 from rfl, w29_22, w29_23, s29]; omega
  | 23, _ => by rw [show 23 + 1 = 24 from rfl, w29_23, w29_24, s29]; omega
  | 24, _ => by rw [show 24 + 1 = 25 from rfl, w29_24, w29_25, s29]; omega
  | 25, _ => by rw [show 25 + 1 = 26 from rfl, w29_25, w29_26, s29]; omega
  | 26, _ => by rw [show 26 + 1 = 27 from rfl, w29_26, w29_27, s29]; omega
  | 27, _ => by rw [show 27 + 1 = 28 from rfl, w29_27, w29_28, s29]; omega
  | 28, _ => by rw [show 28 + 1 = 29 from rfl, w29_28, w29_29, s29]; omega
  | 29, _ => by rw [show 29 + 1 = 30 from rfl, w29_29, w29_30, s29]; omega
  | 30, _ => by rw [show 30 + 1 = 31 from rfl, w29_30, w29_31, s29]; omega
  | k + 31, h => by omega
theorem st30 {v : Int} (h0 : 0 ≤ v) (h1 : v < 4294967296) : ∀ k : Nat, k < 31 → stW 30 (shW 30 v k) = shW 30 v (k + 1)
  | 0, _ => by rw [show 0 + 1 = 1 from rfl, w30_0, w30_1, s30]; unfold s32; split <;> omega
  | 1, _ => by rw [show 1 + 1 = 2 from rfl, w30_1, w30_2, s30]; unfold s32; split <;> omega
  | 2, _ => by rw [show 2 + 1 = 3 from rfl, w30_2, w30_3, s30]; unfold s32; split <;> omega
  | 3, _ => by rw [show 3 + 1 = 4 from rfl, w30_3, w30_4, s30]; unfold s32; split <;> omega
  | 4, _ => by rw [show 4 + 1 = 5 from rfl, w30_4, w30_5, s30]; unfold s32; split <;> omega
  | 5, _ => by rw [show 5 + 1 = 6 from rfl, w30_5, w30_6, s30]; unfold s32; split <;> omega
  | 6, _ => by rw [show 6 + 1 = 7 from rfl, w30_6, w30_7, s30]; unfold s32; split <;> omega
  | 7, _ => by rw [show 7 + 1 = 8 from rfl, w30_7, w30_8, s30]; unfold s32; split <;> omega
  | 8, _ => by rw [show 8 + 1 = 9 from rfl, w30_8, w30_9, s30]; unfold s32; split <;> omega
  | 9, _ => by rw [show 9 + 1 = 10 from rfl, w30_9, w30_10, s30]; unfold s32; split <;> omega
  | 10, _ => by rw [show 10 + 1 = 11 from rfl, w30_10, w30_11, s30]; unfold s32; split <;> omega
  | 11, _ => by rw [show 11 + 1 = 12 from rfl, w30_11, w30_12, s30]; unfold s32; split <;> omega
  | 12, _ => by rw [show 12 + 1 = 13 from rfl, w30_12, w30_13, s30]; unfold s32; split <;> omega
  | 13, _ => by rw [show 13 + 1 = 14 from rfl, w30_13, w30_14, s30]; unfold s32; split <;> omega
  | 14, _ => by rw [show 14 + 1 = 15 from rfl, w30_14, w30_15, s30]; unfold s32; split <;> omega
  | 15, _ => by rw [show 15 + 1 = 16 from rfl, w30_15, w30_16, s30]; unfold s32; split <;> omega
  | 16, _ => by rw [show 16 + 1 = 17 from rfl, w30_16, w30_17, s30]; unfold s32; split <;> omega
  | 17, _ => by rw [show 17 + 1 = 18 from rfl, w30_17, w30_18, s30]; unfold s32; split <;> omega
  | 18, _ => by rw [show 18 + 1 = 19 from rfl, w30_18, w30_19, s30]; unfold s32; split <;> omega
  | 19, _ => by rw [show 19 + 1 = 20 from rfl, w30_19, w30_20, s30]; unfold s32; split <;> omega
  | 20, _ => by rw [show 20 + 1 = 21 from rfl, w30_20, w30_21, s30]; unfold s32; split <;> omega
  | 21, _ => by rw [show 21 + 1 = 22 from rfl, w30_21, w30_22, s30]; unfold s32; split <;> omega
  | 22, _ => by rw [show 22 + 1 = 23 from rfl, w30_22, w30_23, s30]; unfold s32; split <;> omega
  | 23, _ => by rw [show 23 + 1 = 24 from rfl, w30_23, w30_24, s30]; unfold s32; split <;> omega
  | 24, _ => by rw [show 24 + 1 = 25 from rfl, w30_24, w30_25, s30]; unfold s32; split <;> omega
  | 25, _ => by rw [show 25 + 1 = 26 from rfl, w30_25, w30_26, s30]; unfold s32; split <;> omega
  | 26, _ => by rw [show 26 + 1 = 27 from rfl, w30_26, w30_27, s30]; unfold s32; split <;> omega
  | 27, _ => by rw [show 27 + 1 = 28 from rfl, w30_27, w30_28, s30]; unfold s32; split <;> omega
  | 28, _ => by rw [show 28 + 1 = 29 from rfl, w30_28, w30_29, s30]; unfold s32; split <;> omega
  | 29, _ => by rw [show 29 + 1 = 30 from rfl, w30_29, w30_30, s30]; unfold s32; split <;> omega
  | 30, _ => by rw [show 30 + 1 = 31 from rfl, w30_30, w30_31, s30]; unfold s32; split <;> omega
  | k + 31, h => by omega
theorem st26 {v : Int} (h0 : 0 ≤ v) (h1 : v < 4294967296) : ∀ k : Nat, k < 31 → stW 26 (shW 26 v k) = shW 26 v (k + 1)
  | 0, _ => by
    obtain ⟨hi, b, lo, hv, a1, a2, a3⟩ : ∃ hi b lo : Int, v = hi * 4294967296 + b * 2147483648 + lo ∧ (0 ≤ hi ∧ hi < 1) ∧ (0 ≤ b ∧ b ≤ 1) ∧ (0 ≤ lo ∧ lo < 2147483648) := ⟨v / 4294967296, v / 2147483648 % 2, v % 2147483648, by omega, by omega, by omega, by omega⟩
    have e1 : v * 1 % 4294967296 = b * 2147483648 + lo * 1 := by omega
    have e2 : v / 4294967296 = hi := by omega
    have e3 : v * 2 % 4294967296 = lo * 2 := by omega
    have e4 : v / 2147483648 = 2 * hi + b := by omega
    rw [show 0 + 1 = 1 from rfl, w26_0, w26_1, s26, e1, e2, e3, e4]; clear e1 e2 e3 e4 hv h0 h1; omega
  | 1, _ => by
    obtain ⟨hi, b, lo, hv, a1, a2, a3⟩ : ∃ hi b lo : Int, v = hi * 2147483648 + b * 1073741824 + lo ∧ (0 ≤ hi ∧ hi < 2) ∧ (0 ≤ b ∧ b ≤ 1) ∧ (0 ≤ lo ∧ lo < 1073741824) := ⟨v / 2147483648, v / 1073741824 % 2, v % 1073741824, by omega, by omega, by omega, by omega⟩
    have e1 : v * 2 % 4294967296 = b * 2147483648 + lo * 2 := by omega
    have e2 : v / 2147483648 = hi := by omega
    have e3 : v * 4 % 4294967296 = lo * 4 := by omega
    have e4 : v / 1073741824 = 2 * hi + b := by omega
    rw [show 1 + 1 = 2 from rfl, w26_1, w26_2, s26, e1, e2, e3, e4]; clear e1 e2 e3 e4 hv h0 h1; omega
  | 2, _ => by
    obtain ⟨hi, b, lo, hv, a1, a2, a3⟩ : ∃ hi b lo : Int, v = hi * 1073741824 + b * 536870912 + lo ∧ (0 ≤ hi ∧ hi < 4) ∧ (0 ≤ b ∧ b ≤ 1) ∧ (0 ≤ lo ∧ lo < 536870912) := ⟨v / 1073741824, v / 536870912 % 2, v % 536870912, by omega, by omega, by omega, by omega⟩
    have e1 : v * 4 % 4294967296 = b * 2147483648 + lo * 4 := by omega
    have e2 : v / 1073741824 = hi := by omega
    have e3 : v * 8 % 4294967296 = lo * 8 := by omega
    have e4 : v / 536870912 = 2 * hi + b := by omega
    rw [show 2 + 1 = 3 from rfl, w26_2, w26_3, s26, e1, e2, e3, e4]; clear e1 e2 e3 e4 hv h0 h1; omega
  | 3, _ => by
    obtain ⟨hi, b, lo, hv, a1, a2, a3⟩ : ∃ hi b lo : Int, v = hi * 536870912 + b * 268435456 + lo ∧ (0 ≤ hi ∧ hi < 8) ∧ (0 ≤ b ∧ b ≤ 1) ∧ (0 ≤ lo ∧ lo < 268435456) := ⟨v / 536870912, v / 268435456 % 2, v % 268435456, by omega, by omega, by omega, by omega⟩
    have e1 : v * 8 % 4294967296 = b * 2147483648 + lo * 8 := by omega
    have e2 : v / 536870912 = hi := by omega
    have e3 : v * 16 % 4294967296 = lo * 16 := by omega
    have e4 : v / 268435456 = 2 * hi + b := by omega
    rw [show 3 + 1 = 4 from rfl, w26_3, w26_4, s26, e1, e2, e3, e4]; clear e1 e2 e3 e4 hv h0 h1; omega
  | 4, _ => by
    obtain ⟨hi, b, lo, hv, a1, a2, a3⟩ : ∃ hi b lo : Int, v = hi * 268435456 + b * 134217728 + lo ∧ (0 ≤ hi ∧ hi < 16) ∧ (0 ≤ b ∧ b ≤ 1) ∧ (0 ≤ lo ∧ lo < 134217728) := ⟨v / 268435456, v / 134217728 % 2, v % 134217728, by omega, by omega, by omega, by omega⟩
    have e1 : v * 16 % 4294967296 = b * 2147483648 + lo * 16 := by omega
    have e2 : v / 268435456 = hi := by omega
    have e3 : v * 32 % 4294967296 = lo * 32 := by omega
    have e4 : v / 134217728 = 2 * hi + b := by omega
    rw [show 4 + 1 = 5 from rfl, w26_4, w26_5, s26, e1, e2, e3, e4]; clear e1 e2 e3 e4 hv h0 h1; omega
  | 5, _ => by
    obtain ⟨hi, b, lo, hv, a1, a2, a3⟩ : ∃ hi b lo : Int, v = hi * 134217728 + b * 67108864 + lo ∧ (0 ≤ hi ∧ hi < 32) ∧ (0 ≤ b ∧ b ≤ 1) ∧ (0 ≤ lo ∧ lo < 67108864) := ⟨v / 134217728, v / 67108864 % 2, v % 67108864, by omega, by omega, by omega, by omega⟩
    have e1 : v * 32 % 4294967296 = b * 2147483648 + lo * 32 := by omega
    have e2 : v / 134217728 = hi := by omega
    have e3 : v * 64 % 4294967296 = lo * 64 := by omega
    have e4 : v / 67108864 = 2 * hi + b := by omega
    rw [show 5 + 1 = 6 from rfl, w26_5, w26_6, s26, e1, e2, e3, e4]; clear e1 e2 e3 e4 hv h0 h1; omega
  | 6, _ => by
    obtain ⟨hi, b, lo, hv, a1, a2, a3⟩ : ∃ hi b lo : Int, v = hi * 67108864 + b * 33554432 + lo ∧ (0 ≤ hi ∧ hi < 64) ∧ (0 ≤ b ∧ b ≤ 1) ∧ (0 ≤ lo ∧ lo < 33554432) := ⟨v / 67108864, v / 33554432 % 2, v % 33554432, by omega, by omega, by omega, by omega⟩
    have e1 : v * 64 % 4294967296 = b * 2147483648 + lo * 64 := by omega
    have e2 : v / 67108864 = hi := by omega
    have e3 : v * 128 % 4294967296 = lo * 128 := by omega
    have e4 : v / 33554432 = 2 * hi + b := by omega
    rw [show 6 + 1 = 7 from rfl, w26_6, w26_7, s26, e1, e2, e3, e4]; clear e1 e2 e3 e4 hv h0 h1; omega
  | 7, _ => by
    obtain ⟨hi, b, lo, hv, a1, a2, a3⟩ : ∃ hi b lo : Int, v = hi * 33554432 + b * 16777216 + lo ∧ (0 ≤ hi ∧ hi < 128) ∧ (0 ≤ b ∧ b ≤ 1) ∧ (0 ≤ lo ∧ lo < 16777216) := ⟨v / 33554432, v / 16777216 % 2, v % 16777216, by omega, by omega, by omega, by omega⟩
    have e1 : v * 128 % 4294967296 = b * 2147483648 + lo * 128 := by omega
    have e2 : v / 33554432 = hi := by omega
    have e3 : v * 256 % 4294967296 = lo * 256 := by omega
    have e4 : v / 16777216 = 2 * hi + b := by omega
    rw [show 7 + 1 = 8 from rfl, w26_7, w26_8, s26, e1, e2, e3, e4]; clear e1 e2 e3 e4 hv h0 h1; omega
  | 8, _ => by
    obtain ⟨hi, b, lo, hv, a1, a2, a3⟩ : ∃ hi b lo : Int, v = hi * 16777216 + b * 8388608 + lo ∧ (0 ≤ hi ∧ hi < 256) ∧ (0 ≤ b ∧ b ≤ 1) ∧ (0 ≤ lo ∧ lo < 8388608) := ⟨v / 16777216, v / 8388608 % 2, v % 8388608, by omega, by omega, by omega, by omega⟩
    have e1 : v * 256 % 4294967296 = b * 2147483648 + lo * 256 := by omega
    have e2 : v / 16777216 = hi := by omega
    have e3 : v * 512 % 4294967296 = lo * 512 := by omega
    have e4 : v / 8388608 = 2 * hi + b := by omega
    rw [show 8 + 1 = 9 from rfl, w26_8, w26_9, s26, e1, e2, e3, e4]; clear e1 e2 e3 e4 hv h0 h1; omega
  | 9, _ => by
    obtain ⟨hi, b, lo, hv, a1, a2, a3⟩ : ∃ hi b lo : Int, v = hi * 8388608 + b * 4194304 + lo ∧ (0 ≤ hi ∧ hi < 512) ∧ (0 ≤ b ∧ b ≤ 1) ∧ (0 ≤ lo ∧ lo < 4194304) := ⟨v / 8388608, v / 4194304 % 2, v % 4194304, by omega, by omega, by omega, by omega⟩
    have e1 : v * 512 % 4294967296 = b * 2147483648 + lo * 512 := by omega
    have e2 : v / 8388608 = hi := by omega
    have e3 : v * 1024 % 4294967296 = lo * 1024 := by omega
    have e4 : v / 4194304 = 2 * hi + b := by omega
    rw [show 9 + 1 = 10 from rfl, w26_9, w26_10, s26, e1, e2, e3, e4]; clear e1 e2 e3 e4 hv h0 h1; omega
  | 10, _ => by
    obtain ⟨hi, b, lo, hv, a1, a2, a3⟩ : ∃ hi b lo : Int, v = hi * 4194304 + b * 2097152 + lo ∧ (0 ≤ hi ∧ hi < 1024) ∧ (0 ≤ b ∧ b ≤ 1) ∧ (0 ≤ lo ∧ lo < 2097152) := ⟨v / 4194304, v / 2097152 % 2, v % 2097152, by omega, by omega, by omega, by omega⟩
    have e1 : v * 1024 % 4294967296 = b * 2147483648 + lo * 1024 := by omega
    have e2 : v / 4194304 = hi := by omega
    have e3 : v * 2048 % 4294967296 = lo * 2048 := by omega
    have e4 : v / 2097152 = 2 * hi + b := by omega
    rw [show 10 + 1 = 11 from rfl, w26_10, w26_11, s26, e1, e2, e3, e4]; clear e1 e2 e3 e4 hv h0 h1; omega
  | 11, _ => by
    obtain ⟨hi, b, lo, hv, a1, a2, a3⟩ : ∃ hi b lo : Int, v = hi * 2097152 + b * 1048576 + lo ∧ (0 ≤ hi ∧ hi < 2048) ∧ (0 ≤ b ∧ b ≤ 1) ∧ (0 ≤ lo ∧ lo < 1048576) := ⟨v / 2097152, v / 1048576 % 2, v % 1048576, by omega, by omega, by omega, by omega⟩
    have e1 : v * 2048 % 4294967296 = b * 2147483648 + lo * 2048 := by omega
    have e2 : v / 2097152 = hi := by omega
    have e3 : v * 4096 % 4294967296 = lo * 4096 := by omega
    have e4 : v / 1048576 = 2 * hi + b := by omega
    rw [show 11 + 1 = 12 from rfl, w26_11, w26_12, s26, e1, e2, e3, e4]; clear e1 e2 e3 e4 hv h0 h1; omega
  | 12, _ => by
    obtain ⟨hi, b, lo, hv, a1, a2, a3⟩ : ∃ hi b lo : Int, v = hi * 1048576 + b * 524288 + lo ∧ (0 ≤ hi ∧ hi < 4096) ∧ (0 ≤ b ∧ b ≤ 1) ∧ (0 ≤ lo ∧ lo < 524288) := ⟨v / 1048576, v / 524288 % 2, v % 524288, by omega, by omega, by omega, by omega⟩
    have e1 : v * 4096 % 4294967296 = b * 2147483648 + lo * 4096 := by omega
    have e2 : v / 1048576 = hi := by omega
    have e3 : v * 8192 % 4294967296 = lo * 8192 := by omega
    have e4 : v / 524288 = 2 * hi + b := by omega
    rw [show 12 + 1 = 13 from rfl, w26_12, w26_13, s26, e1, e2, e3, e4]; clear e1 e2 e3 e4 hv h0 h1; omega
  | 13, _ => by
    obtain ⟨hi, b, lo, hv, a1, a2, a3⟩ : ∃ hi b lo : Int, v = hi * 524288 + b * 262144 + lo ∧ (0 ≤ hi ∧ hi < 8192) ∧ (0 ≤ b ∧ b ≤ 1) ∧ (0 ≤ lo ∧ lo < 262144) := ⟨v / 524288, v / 262144 % 2, v % 262144, by omega, by omega, by omega, by omega⟩
    have e1 : v * 8192 % 4294967296 = b * 2147483648 + lo * 8192 := by omega
    have e2 : v / 524288 = hi := by omega
    have e3 : v * 16384 % 4294967296 = lo * 16384 := by omega
    have e4 : v / 262144 = 2 * hi + b := by omega
    rw [show 13 + 1 = 14 from rfl, w26_13, w26_14, s26, e1, e2, e3, e4]; clear e1 e2 e3 e4 hv h0 h1; omega
  | 14, _ => by
    obtain ⟨hi, b, lo, hv, a1, a2, a3⟩ : ∃ hi b lo : Int, v = hi * 262144 + b * 131072 + lo ∧ (0 ≤ hi ∧ hi < 16384) ∧ (0 ≤ b ∧ b ≤ 1) ∧ (0 ≤ lo ∧ lo < 131072) := ⟨v / 262144, v / 131072 % 2, v % 131072, by omega, by omega, by omega, by omega⟩
    have e1 : v * 16384 % 4294967296 = b * 2147483648 + lo * 16384 := by omega
    have e2 : v / 262144 = hi := by omega
    have e3 : v * 32768 % 4294967296 = lo * 32768 := by omega
    have e4 : v / 131072 = 2 * hi + b := by omega
    rw [show 14 + 1 = 15 from rfl, w26_14, w26_15, s26, e1, e2, e3, e4]; clear e1 e2 e3 e4 hv h0 h1; omega
  | 15, _ => by
    obtain ⟨hi, b, lo, hv, a1, a2, a3⟩ : ∃ hi b lo : Int, v = hi * 131072 + b * 65536 + lo ∧ (0 ≤ hi ∧ hi < 32768) ∧ (0 ≤ b ∧ b ≤ 1) ∧ (0 ≤ lo ∧ lo < 65536) := ⟨v / 131072, v / 65536 % 2, v % 65536, by omega, by omega, by omega, by omega⟩
    have e1 : v * 32768 % 4294967296 = b * 2147483648 + lo * 32768 := by omega
    have e2 : v / 131072 = hi := by omega
    have e3 : v * 65536 % 4294967296 = lo * 65536 := by omega
    have e4 : v / 65536 = 2 * hi + b := by omega
    rw [show 15 + 1 = 16 from rfl, w26_15, w26_16, s26, e1, e2, e3, e4]; clear e1 e2 e3 e4 hv h0 h1; omega
  | 16, _ => by
    obtain ⟨hi, b, lo, hv, a1, a2, a3⟩ : ∃ hi b lo : Int, v = hi * 65536 + b * 32768 + lo ∧ (0 ≤ hi ∧ hi < 65536) ∧ (0 ≤ b ∧ b ≤ 1) ∧ (0 ≤ lo ∧ lo < 32768) := ⟨v / 65536, v / 32768 % 2, v % 32768, by omega, by omega, by omega, by omega⟩
    have e1 : v * 65536 % 4294967296 = b * 2147483648 + lo * 65536 := by omega
    have e2 : v / 65536 = hi := by omega
    have e3 : v * 131072 % 4294967296 = lo * 131072 := by omega
    have e4 : v / 32768 = 2 * hi + b := by omega
    rw [show 16 + 1 = 17 from rfl, w26_16, w26_17, s26, e1, e2, e3, e4]; clear e1 e2 e3 e4 hv h0 h1; omega
  | 17, _ => by
    obtain ⟨hi, b, lo, hv, a1, a2, a3⟩ : ∃ hi b lo : Int, v = hi * 32768 + b * 16384 + lo ∧ (0 ≤ hi ∧ hi < 131072) ∧ (0 ≤ b ∧ b ≤ 1) ∧ (0 ≤ lo ∧ lo < 16384) := ⟨v / 32768, v / 16384 % 2, v % 16384, by omega, by omega, by omega, by omega⟩
    have e1 : v * 131072 % 4294967296 = b * 2147483648 + lo * 131072 := by omega
    have e2 : v / 32768 = hi := by omega
    have e3 : v * 262144 % 4294967296 = lo * 262144 := by omega
    have e4 : v / 16384 = 2 * hi + b := by omega
    rw [show 17 + 1 = 18 from rfl, w26_17, w26_18, s26, e1, e2, e3, e4]; clear e1 e2 e3 e4 hv h0 h1; omega
  | 18, _ => by
    obtain ⟨hi, b, lo, hv, a1, a2, a3⟩ : ∃ hi b lo : Int, v = hi * 16384 + b * 8192 + lo ∧ (0 ≤ hi ∧ hi < 262144) ∧ (0 ≤ b ∧ b ≤ 1) ∧ (0 ≤ lo ∧ lo < 8192) := ⟨v / 16384, v / 8192 % 2, v % 8192, by omega, by omega, by omega, by omega⟩
    have e1 : v * 262144 % 4294967296 = b * 2147483648 + lo * 262144 := by omega
    have e2 : v / 16384 = hi := by omega
    have e3 : v * 524288 % 4294967296 = lo * 524288 := by omega
    have e4 : v / 8192 = 2 * hi + b := by omega
    rw [show 18 + 1 = 19 from rfl, w26_18, w26_19, s26, e1, e2, e3, e4]; clear e1 e2 e3 e4 hv h0 h1; omega
  | 19, _ => by
    obtain ⟨hi, b, lo, hv, a1, a2, a3⟩ : ∃ hi b lo : Int, v = hi * 8192 + b * 4096 + lo ∧ (0 ≤ hi ∧ hi < 524288) ∧ (0 ≤ b ∧ b ≤ 1) ∧ (0 ≤ lo ∧ lo < 4096) := ⟨v / 8192, v / 4096 % 2, v % 4096, by omega, by omega, by omega, by omega⟩
    have e1 : v * 524288 % 4294967296 = b * 2147483648 + lo * 524288 := by omega
    have e2 : v / 8192 = hi := by omega
    have e3 : v * 1048576 % 4294967296 = lo * 1048576 := by omega
    have e4 : v / 4096 = 2 * hi + b := by omega
    rw [show 19 + 1 = 20 from rfl, w26_19, w26_20, s26, e1, e2, e3, e4]; clear e1 e2 e3 e4 hv h0 h1; omega
  | 20, _ => by
    obtain ⟨hi, b, lo, hv, a1, a2, a3⟩ : ∃ hi b lo : Int, v = hi * 4096 + b * 2048 + lo ∧ (0 ≤ hi ∧ hi < 1048576) ∧ (0 ≤ b ∧ b ≤ 1) ∧ (0 ≤ lo ∧ lo < 2048) := ⟨v / 4096, v / 2048 % 2, v % 2048, by omega, by omega, by omega, by omega⟩
    have e1 : v * 1048576 % 4294967296 = b * 2147483648 + lo * 1048576 := by omega
    have e2 : v / 4096 = hi := by omega
    have e3 : v * 2097152 % 4294967296 = lo * 2097152 := by omega
    have e4 : v / 2048 = 2 * hi + b := by omega
    rw [show 20 + 1 = 21 from rfl, w26_20, w26_21, s26, e1, e2, e3, e4]; clear e1 e2 e3 e4 hv h0 h1; omega
  | 21, _ => by
    obtain ⟨hi, b, lo, hv, a1, a2, a3⟩ : ∃ hi b lo : Int, v = hi * 2048 + b * 1024 + lo ∧ (0 ≤ hi ∧ hi < 2097152) ∧ (0 ≤ b ∧ b ≤ 1) ∧ (0 ≤ lo ∧ lo < 1024) := ⟨v / 2048, v / 1024 % 2, v % 1024, by omega, by omega, by omega, by omega⟩
    have e1 : v * 2097152 % 4294967296 = b * 2147483648 + lo * 2097152 := by omega
    have e2 : v / 2048 = hi := by omega
    have e3 : v * 4194304 % 4294967296 = lo * 4194304 := by omega
    have e4 : v / 1024 = 2 * hi + b := by omega
    rw [show 21 + 1 = 22 from rfl, w26_21, w26_22, s26, e1, e2, e3, e4]; clear e1 e2 e3 e4 hv h0 h1; omega
  | 22, _ => by
    obtain ⟨hi, b, lo, hv, a1, a2, a3⟩ : ∃ hi b lo : Int, v = hi * 1024 + b * 512 + lo ∧ (0 ≤ hi ∧ hi < 4194304) ∧ (0 ≤ b ∧ b ≤ 1) ∧ (0 ≤ lo ∧ lo < 512) := ⟨v / 1024, v / 512 % 2, v % 512, by omega, by omega, by omega, by omega⟩
    have e1 : v * 4194304 % 4294967296 = b * 2147483648 + lo * 4194304 := by omega
    have e2 : v / 1024 = hi := by omega
    have e3 : v * 8388608 % 4294967296 = lo * 8388608 := by omega
    have e4 : v / 512 = 2 * hi + b := by omega
    rw [show 22 + 1 = 23 from rfl, w26_22, w26_23, s26, e1, e2, e3, e4]; clear e1 e2 e3 e4 hv h0 h1; omega
  | 23, _ => by
    obtain ⟨hi, b, lo, hv, a1, a2, a3⟩ : ∃ hi b lo : Int, v = hi * 512 + b * 256 + lo ∧ (0 ≤ hi ∧ hi < 8388608) ∧ (0 ≤ b ∧ b ≤ 1) ∧ (0 ≤ lo ∧ lo < 256) := ⟨v / 512, v / 256 % 2, v % 256, by omega, by omega, by omega, by omega⟩
    have e1 : v * 8388608 % 4294967296 = b * 2147483648 + lo * 8388608 := by omega
    have e2 : v / 512 = hi := by omega
    have e3 : v * 16777216 % 4294967296 = lo * 16777216 := by omega
    have e4 : v / 256 = 2 * hi + b := by omega
    rw [show 23 + 1 = 24 from rfl, w26_23, w26_24, s26, e1, e2, e3, e4]; clear e1 e2 e3 e4 hv h0 h1; omega
  | 24, _ => by
    obtain ⟨hi, b, lo, hv, a1, a2, a3⟩ : ∃ hi b lo : Int, v = hi * 256 + b * 128 + lo ∧ (0 ≤ hi ∧ hi < 16777216) ∧ (0 ≤ b ∧ b ≤ 1) ∧ (0 ≤ lo ∧ lo < 128) := ⟨v / 256, v / 128 % 2, v % 128, by omega, by omega, by omega, by omega⟩
    have e1 : v * 16777216 % 4294967296 = b * 2147483648 + lo * 16777216 := by omega
    have e2 : v / 256 = hi := by omega
    have e3 : v * 33554432 % 4294967296 = lo * 33554432 := by omega
    have e4 : v / 128 = 2 * hi + b := by omega
    rw [show 24 + 1 = 25 from rfl, w26_24, w26_25, s26, e1, e2, e3, e4]; clear e1 e2 e3 e4 hv h0 h1; omega
  | 25, _ => by
    obtain ⟨hi, b, lo, hv, a1, a2, a3⟩ : ∃ hi b lo : Int, v = hi * 128 + b * 64 + lo ∧ (0 ≤ hi ∧ hi < 33554432) ∧ (0 ≤ b ∧ b ≤ 1) ∧ (0 ≤ lo ∧ lo < 64) := ⟨v / 128, v / 64 % 2, v % 64, by omega, by omega, by omega, by omega⟩
    have e1 : v * 33554432 % 4294967296 = b * 2147483648 + lo * 33554432 := by omega
    have e2 : v / 128 = hi := by omega
    have e3 : v * 67108864 % 4294967296 = lo * 67108864 := by omega
    have e4 : v / 64 = 2 * hi + b := by omega
    rw [show 25 + 1 = 26 from rfl, w26_25, w26_26, s26, e1, e2, e3, e4]; clear e1 e2 e3 e4 hv h0 h1; omega
  | 26, _ => by
    obtain ⟨hi, b, lo, hv, a1, a2, a3⟩ : ∃ hi b lo : Int, v = hi * 64 + b * 32 + lo ∧ (0 ≤ hi ∧ hi < 67108864) ∧ (0 ≤ b ∧ b ≤ 1) ∧ (0 ≤ lo ∧ lo < 32) := ⟨v / 64, v / 32 % 2, v % 32, by omega, by omega, by omega, by omega⟩
    have e1 : v * 67108864 % 4294967296 = b * 2147483648 + lo * 67108864 := by omega
    have e2 : v / 64 = hi := by omega
    have e3 : v * 134217728 % 4294967296 = lo * 134217728 := by omega
    have e4 : v / 32 = 2 * hi + b := by omega
    rw [show 26 + 1 = 27 from rfl, w26_26, w26_27, s26, e1, e2, e3, e4]; clear e1 e2 e3 e4 hv h0 h1; omega
  | 27, _ => by
    obtain ⟨hi, b, lo, hv, a1, a2, a3⟩ : ∃ hi b lo : Int, v = hi * 32 + b * 16 + lo ∧ (0 ≤ hi ∧ hi < 134217728) ∧ (0 ≤ b ∧ b ≤ 1) ∧ (0 ≤ lo ∧ lo < 16) := ⟨v / 32, v / 16 % 2, v % 16, by omega, by omega, by omega, by omega⟩
    have e1 : v * 134217728 % 4294967296 = b * 2147483648 + lo * 134217728 := by omega
    have e2 : v / 32 = hi := by omega
    have e3 : v * 268435456 % 4294967296 = lo * 268435456 := by omega
    have e4 : v / 16 = 2 * hi + b := by omega
    rw [show 27 + 1 = 28 from rfl, w26_27, w26_28, s26, e1, e2, e3, e4]; clear e1 e2 e3 e4 hv h0 h1; omega
  | 28, _ => by
    obtain ⟨hi, b, lo, hv, a1, a2, a3⟩ : ∃ hi b lo : Int, v = hi * 16 + b * 8 + lo ∧ (0 ≤ hi ∧ hi < 268435456) ∧ (0 ≤ b ∧ b ≤ 1) ∧ (0 ≤ lo ∧ lo < 8) := ⟨v / 16, v / 8 % 2, v % 8, by omega, by omega, by omega, by omega⟩
    have e1 : v * 268435456 % 4294967296 = b * 2147483648 + lo * 268435456 := by omega
    have e2 : v / 16 = hi := by omega
    have e3 : v * 536870912 % 4294967296 = lo * 536870912 := by omega
    have e4 : v / 8 = 2 * hi + b := by omega
    rw [show 28 + 1 = 29 from rfl, w26_28, w26_29, s26, e1, e2, e3, e4]; clear e1 e2 e3 e4 hv h0 h1; omega
  | 29, _ => by
    obtain ⟨hi, b, lo, hv, a1, a2, a3⟩ : ∃ hi b lo : Int, v = hi * 8 + b * 4 + lo ∧ (0 ≤ hi ∧ hi < 536870912) ∧ (0 ≤ b ∧ b ≤ 1) ∧ (0 ≤ lo ∧ lo < 4) := ⟨v / 8, v / 4 % 2, v % 4, by omega, by omega, by omega, by omega⟩
    have e1 : v * 536870912 % 4294967296 = b * 2147483648 + lo * 536870912 := by omega
    have e2 : v / 8 = hi := by omega
    have e3 : v * 1073741824 % 4294967296 = lo * 1073741824 := by omega
    have e4 : v / 4 = 2 * hi + b := by omega
    rw [show 29 + 1 = 30 from rfl, w26_29, w26_30, s26, e1, e2, e3, e4]; clear e1 e2 e3 e4 hv h0 h1; omega
  | 30, _ => by
    obtain ⟨hi, b, lo, hv, a1, a2, a3⟩ : ∃ hi b lo : Int, v = hi * 4 + b * 2 + lo ∧ (0 ≤ hi ∧ hi < 1073741824) ∧ (0 ≤ b ∧ b ≤ 1) ∧ (0 ≤ lo ∧ lo < 2) := ⟨v / 4, v / 2 % 2, v % 2, by omega, by omega, by omega, by omega⟩
    have e1 : v * 1073741824 % 4294967296 = b * 2147483648 + lo * 1073741824 := by omega
    have e2 : v / 4 = hi := by omega
    have e3 : v * 2147483648 % 4294967296 = lo * 2147483648 := by omega
    have e4 : v / 2 = 2 * hi + b := by omega
    rw [show 30 + 1 = 31 from rfl, w26_30, w26_31, s26, e1, e2, e3, e4]; clear e1 e2 e3 e4 hv h0 h1; omega
  | k + 31, h => by omega
theorem st27 {v : Int} (h0 : 0 ≤ v) (h1 : v < 4294967296) : ∀ k : Nat, k < 31 → stW 27 (shW 27 v k) = shW 27 v (k + 1)
  | 0, _ => by
    obtain ⟨hi, b, lo, hv, a1, a2, a3⟩ : ∃ hi b lo : Int, v = hi * 2 + b * 1 + lo ∧ (0 ≤ hi ∧ hi < 2147483648) ∧ (0 ≤ b ∧ b ≤ 1) ∧ (0 ≤ lo ∧ lo < 1) := ⟨v / 2, v / 1 % 2, v % 1, by omega, by omega, by omega, by omega⟩
    have e1 : v / 1 = 2 * hi + b := by omega
    have e2 : v * 4294967296 % 4294967296 = lo * 4294967296 := by omega
    have e3 : v / 2 = hi := by omega
    have e4 : v * 2147483648 % 4294967296 = b * 2147483648 + lo * 2147483648 := by omega
    rw [show 0 + 1 = 1 from rfl, w27_0, w27_1, s27, e1, e2, e3, e4]; clear e1 e2 e3 e4 hv h0 h1; omega
  | 1, _ => by
    obtain ⟨hi, b, lo, hv, a1, a2, a3⟩ : ∃ hi b lo : Int, v = hi * 4 + b * 2 + lo ∧ (0 ≤ hi ∧ hi < 1073741824) ∧ (0 ≤ b ∧ b ≤ 1) ∧ (0 ≤ lo ∧ lo < 2) := ⟨v / 4, v / 2 % 2, v % 2, by omega, by omega, by omega, by omega⟩
    have e1 : v / 2 = 2 * hi + b := by omega
    have e2 : v * 2147483648 % 4294967296 = lo * 2147483648 := by omega
    have e3 : v / 4 = hi := by omega
    have e4 : v * 1073741824 % 4294967296 = b * 2147483648 + lo * 1073741824 := by omega
    rw [show 1 + 1 = 2 from rfl, w27_1, w27_2, s27, e1, e2, e3, e4]; clear e1 e2 e3 e4 hv h0 h1; omega
  | 2, _ => by
    obtain ⟨hi, b, lo, hv, a1, a2, a3⟩ : ∃ hi b lo : Int, v = hi * 8 + b * 4 + lo ∧ (0 ≤ hi ∧ hi < 536870912) ∧ (0 ≤ b ∧ b ≤ 1) ∧ (0 ≤ lo ∧ lo < 4) := ⟨v / 8, v / 4 % 2, v % 4, by omega, by omega, by omega, by omega⟩
    have e1 : v / 4 = 2 * hi + b := by omega
    have e2 : v * 1073741824 % 4294967296 = lo * 1073741824 := by omega
    have e3 : v / 8 = hi := by omega
    have e4 : v * 536870912 % 4294967296 = b * 2147483648 + lo * 536870912 := by omega
    rw [show 2 + 1 = 3 from rfl, w27_2, w27_3, s27, e1, e2, e3, e4]; clear e1 e2 e3 e4 hv h0 h1; omega
  | 3, _ => by
    obtain ⟨hi, b, lo, hv, a1, a2, a3⟩ : ∃ hi b lo : Int, v = hi * 16 + b * 8 + lo ∧ (0 ≤ hi ∧ hi < 268435456) ∧ (0 ≤ b ∧ b ≤ 1) ∧ (0 ≤ lo ∧ lo < 8) := ⟨v / 16, v / 8 % 2, v % 8, by omega, by omega, by omega, by omega⟩
    have e1 : v / 8 = 2 * hi + b := by omega
    have e2 : v * 536870912 % 4294967296 = lo * 536870912 := by omega
    have e3 : v / 16 = hi := by omega
    have e4 : v * 268435456 % 4294967296 = b * 2147483648 + lo * 268435456 := by omega
    rw [show 3 + 1 = 4 from rfl, w27_3, w27_4, s27, e1, e2, e3, e4]; clear e1 e2 e3 e4 hv h0 h1; omega
  | 4, _ => by
    obtain ⟨hi, b, lo, hv, a1, a2, a3⟩ : ∃ hi b lo : Int, v = hi * 32 + b * 16 + lo ∧ (0 ≤ hi ∧ hi < 134217728) ∧ (0 ≤ b ∧ b ≤ 1) ∧ (0 ≤ lo ∧ lo < 16) := ⟨v / 32, v / 16 % 2, v % 16, by omega, by omega, by omega, by omega⟩
    have e1 : v / 16 = 2 * hi + b := by omega
    have e2 : v * 268435456 % 4294967296 = lo * 268435456 := by omega
    have e3 : v / 32 = hi := by omega
    have e4 : v * 134217728 % 4294967296 = b * 2147483648 + lo * 134217728 := by omega
    rw [show 4 + 1 = 5 from rfl, w27_4, w27_5, s27, e1, e2, e3, e4]; clear e1 e2 e3 e4 hv h0 h1; omega
  | 5, _ => by
    obtain ⟨hi, b, lo, hv, a1, a2, a3⟩ : ∃ hi b lo : Int, v = hi * 64 + b * 32 + lo ∧ (0 ≤ hi ∧ hi < 67108864) ∧ (0 ≤ b ∧ b ≤ 1) ∧ (0 ≤ lo ∧ lo < 32) := ⟨v / 64, v / 32 % 2, v % 32, by omega, by omega, by omega, by omega⟩
    have e1 : v / 32 = 2 * hi + b := by omega
    have e2 : v * 134217728 % 4294967296 = lo * 134217728 := by omega
    have e3 : v / 64 = hi := by omega
    have e4 : v * 67108864 % 4294967296 = b * 2147483648 + lo * 67108864 := by omega
    rw [show 5 + 1 = 6 from rfl, w27_5, w27_6, s27, e1, e2, e3, e4]; clear e1 e2 e3 e4 hv h0 h1; omega
  | 6, _ => by
    obtain ⟨hi, b, lo, hv, a1, a2, a3⟩ : ∃ hi b lo : Int, v = hi * 128 + b * 64 + lo ∧ (0 ≤ hi ∧ hi < 33554432) ∧ (0 ≤ b ∧ b ≤ 1) ∧ (0 ≤ lo ∧ lo < 64) := ⟨v / 128, v / 64 % 2, v % 64, by omega, by omega, by omega, by omega⟩
    have e1 : v / 64 = 2 * hi + b := by omega
    have e2 : v * 67108864 % 4294967296 = lo * 67108864 := by omega
    have e3 : v / 128 = hi := by omega
    have e4 : v * 33554432 % 4294967296 = b * 2147483648 + lo * 33554432 := by omega
    rw [show 6 + 1 = 7 from rfl, w27_6, w27_7, s27, e1, e2, e3, e4]; clear e1 e2 e3 e4 hv h0 h1; omega
  | 7, _ => by
    obtain ⟨hi, b, lo, hv, a1, a2, a3⟩ : ∃ hi b lo : Int, v = hi * 256 + b * 128 + lo ∧ (0 ≤ hi ∧ hi < 16777216) ∧ (0 ≤ b ∧ b ≤ 1) ∧ (0 ≤ lo ∧ lo < 128) := ⟨v / 256, v / 128 % 2, v % 128, by omega, by omega, by omega, by omega⟩
    have e1 : v / 128 = 2 * hi + b := by omega
    have e2 : v * 33554432 % 4294967296 = lo * 33554432 := by omega
    have e3 : v / 256 = hi := by omega
    have e4 : v * 16777216 % 4294967296 = b * 2147483648 + lo * 16777216 := by omega
    rw [show 7 + 1 = 8 from rfl, w27_7, w27_8, s27, e1, e2, e3, e4]; clear e1 e2 e3 e4 hv h0 h1; omega
  | 8, _ => by
    obtain ⟨hi, b, lo, hv, a1, a2, a3⟩ : ∃ hi b lo : Int, v = hi * 512 + b * 256 + lo ∧ (0 ≤ hi ∧ hi < 8388608) ∧ (0 ≤ b ∧ b ≤ 1) ∧ (0 ≤ lo ∧ lo < 256) := ⟨v / 512, v / 256 % 2, v % 256, by omega, by omega, by omega, by omega⟩
    have e1 : v / 256 = 2 * hi + b := by omega
    have e2 : v * 16777216 % 4294967296 = lo * 16777216 := by omega
    have e3 : v / 512 = hi := by omega
    have e4 : v * 8388608 % 4294967296 = b * 2147483648 + lo * 8388608 := by omega
    rw [show 8 + 1 = 9 from rfl, w27_8, w27_9, s27, e1, e2, e3, e4]; clear e1 e2 e3 e4 hv h0 h1; omega
  | 9, _ => by
    obtain ⟨hi, b, lo, hv, a1, a2, a3⟩ : ∃ hi b lo : Int, v = hi * 1024 + b * 512 + lo ∧ (0 ≤ hi ∧ hi < 4194304) ∧ (0 ≤ b ∧ b ≤ 1) ∧ (0 ≤ lo ∧ lo < 512) := ⟨v / 1024, v / 512 % 2, v % 512, by omega, by omega, by omega, by omega⟩
    have e1 : v / 512 = 2 * hi + b := by omega
    have e2 : v * 8388608 % 4294967296 = lo * 8388608 := by omega
    have e3 : v / 1024 = hi := by omega
    have e4 : v * 4194304 % 4294967296 = b * 2147483648 + lo * 4194304 := by omega
    rw [show 9 + 1 = 10 from rfl, w27_9, w27_10, s27, e1, e2, e3, e4]; clear e1 e2 e3 e4 hv h0 h1; omega
  | 10, _ => by
    obtain ⟨hi, b, lo, hv, a1, a2, a3⟩ : ∃ hi b lo : Int, v = hi * 2048 + b * 1024 + lo ∧ (0 ≤ hi ∧ hi < 2097152) ∧ (0 ≤ b ∧ b ≤ 1) ∧ (0 ≤ lo ∧ lo < 1024) := ⟨v / 2048, v / 1024 % 2, v % 1024, by omega, by omega, by omega, by omega⟩
    have e1 : v / 1024 = 2 * hi + b := by omega
    have e2 : v * 4194304 % 4294967296 = lo * 4194304 := by omega
    have e3 : v / 2048 = hi := by omega
    have e4 : v * 2097152 % 4294967296 = b * 2147483648 + lo * 2097152 := by omega
    rw [show 10 + 1 = 11 from rfl, w27_10, w27_11, s27, e1, e2, e3, e4]; clear e1 e2 e3 e4 hv h0 h1; omega
  | 11, _ => by
    obtain ⟨hi, b, lo, hv, a1, a2, a3⟩ : ∃ hi b lo : Int, v = hi * 4096 + b * 2048 + lo ∧ (0 ≤ hi ∧ hi < 1048576) ∧ (0 ≤ b ∧ b ≤ 1) ∧ (0 ≤ lo ∧ lo < 2048) := ⟨v / 4096, v / 2048 % 2, v % 2048, by omega, by omega, by omega, by omega⟩
    have e1 : v / 2048 = 2 * hi + b := by omega
    have e2 : v * 2097152 % 4294967296 = lo * 2097152 := by omega
    have e3 : v / 4096 = hi := by omega
    have e4 : v * 1048576 % 4294967296 = b * 2147483648 + lo * 1048576 := by omega
    rw [show 11 + 1 = 12 from rfl, w27_11, w27_12, s27, e1, e2, e3, e4]; clear e1 e2 e3 e4 hv h0 h1; omega
  | 12, _ => by
    obtain ⟨hi, b, lo, hv, a1, a2, a3⟩ : ∃ hi b lo : Int, v = hi * 8192 + b * 4096 + lo ∧ (0 ≤ hi ∧ hi < 524288) ∧ (0 ≤ b ∧ b ≤ 1) ∧ (0 ≤ lo ∧ lo < 4096) := ⟨v / 8192, v / 4096 % 2, v % 4096, by omega, by omega, by omega, by omega⟩
    have e1 : v / 4096 = 2 * hi + b := by omega
    have e2 : v * 1048576 % 4294967296 = lo * 1048576 := by omega
    have e3 : v / 8192 = hi := by omega
    have e4 : v * 524288 % 4294967296 = b * 2147483648 + lo * 524288 := by omega
    rw [show 12 + 1 = 13 from rfl, w27_12, w27_13, s27, e1, e2, e3, e4]; clear e1 e2 e3 e4 hv h0 h1; omega
  | 13, _ => by
    obtain ⟨hi, b, lo, hv, a1, a2, a3⟩ : ∃ hi b lo : Int, v = hi * 16384 + b * 8192 + lo ∧ (0 ≤ hi ∧ hi < 262144) ∧ (0 ≤ b ∧ b ≤ 1) ∧ (0 ≤ lo ∧ lo < 8192) := ⟨v / 16384, v / 8192 % 2, v % 8192, by omega, by omega, by omega, by omega⟩
    have e1 : v / 8192 = 2 * hi + b := by omega
    have e2 : v * 524288 % 4294967296 = lo * 524288 := by omega
    have e3 : v / 16384 = hi := by omega
    have e4 : v * 262144 % 4294967296 = b * 2147483648 + lo * 262144 := by omega
    rw [show 13 + 1 = 14 from rfl, w27_13, w27_14, s27, e1, e2, e3, e4]; clear e1 e2 e3 e4 hv h0 h1; omega
  | 14, _ => by
    obtain ⟨hi, b, lo, hv, a1, a2, a3⟩ : ∃ hi b lo : Int, v = hi * 32768 + b * 16384 + lo ∧ (0 ≤ hi ∧ hi < 131072) ∧ (0 ≤ b ∧ b ≤ 1) ∧ (0 ≤ lo ∧ lo < 16384) := ⟨v / 32768, v / 16384 % 2, v % 16384, by omega, by omega, by omega, by omega⟩
    have e1 : v / 16384 = 2 * hi + b := by omega
    have e2 : v * 262144 % 4294967296 = lo * 262144 := by omega
    have e3 : v / 32768 = hi := by omega
    have e4 : v * 131072 % 4294967296 = b * 2147483648 + lo * 131072 := by omega
    rw [show 14 + 1 = 15 from rfl, w27_14, w27_15, s27, e1, e2, e3, e4]; clear e1 e2 e3 e4 hv h0 h1; omega
  | 15, _ => by
    obtain ⟨hi, b, lo, hv, a1, a2, a3⟩ : ∃ hi b lo : Int, v = hi * 65536 + b * 32768 + lo ∧ (0 ≤ hi ∧ hi < 65536) ∧ (0 ≤ b ∧ b ≤ 1) ∧ (0 ≤ lo ∧ lo < 32768) := ⟨v / 65536, v / 32768 % 2, v % 32768, by omega, by omega, by omega, by omega⟩
    have e1 : v / 32768 = 2 * hi + b := by omega
    have e2 : v * 131072 % 4294967296 = lo * 131072 := by omega
    have e3 : v / 65536 = hi := by omega
    have e4 : v * 65536 % 4294967296 = b * 2147483648 + lo * 65536 := by omega
    rw [show 15 + 1 = 16 from rfl, w27_15, w27_16, s27, e1, e2, e3, e4]; clear e1 e2 e3 e4 hv h0 h1; omega
  | 16, _ => by
    obtain ⟨hi, b, lo, hv, a1, a2, a3⟩ : ∃ hi b lo : Int, v = hi * 131072 + b * 65536 + lo ∧ (0 ≤ hi ∧ hi < 32768) ∧ (0 ≤ b ∧ b ≤ 1) ∧ (0 ≤ lo ∧ lo < 65536) := ⟨v / 131072, v / 65536 % 2, v % 65536, by omega, by omega, by omega, by omega⟩
    have e1 : v / 65536 = 2 * hi + b := by omega
    have e2 : v * 65536 % 4294967296 = lo * 65536 := by omega
    have e3 : v / 131072 = hi := by omega
    have e4 : v * 32768 % 4294967296 = b * 2147483648 + lo * 32768 := by omega
    rw [show 16 + 1 = 17 from rfl, w27_16, w27_17, s27, e1, e2, e3, e4]; clear e1 e2 e3 e4 hv h0 h1; omega
  | 17, _ => by
    obtain ⟨hi, b, lo, hv, a1, a2, a3⟩ : ∃ hi b lo : Int, v = hi * 262144 + b * 131072 + lo ∧ (0 ≤ hi ∧ hi < 16384) ∧ (0 ≤ b ∧ b ≤ 1) ∧ (0 ≤ lo ∧ lo < 131072) := ⟨v / 262144, v / 131072 % 2, v % 131072, by omega, by omega, by omega, by omega⟩
    have e1 : v / 131072 = 2 * hi + b := by omega
    have e2 : v * 32768 % 4294967296 = lo * 32768 := by omega
    have e3 : v / 262144 = hi := by omega
    have e4 : v * 16384 % 4294967296 = b * 2147483648 + lo * 16384 := by omega
    rw [show 17 + 1 = 18 from rfl, w27_17, w27_18, s27, e1, e2, e3, e4]; clear e1 e2 e3 e4 hv h0 h1; omega
  | 18, _ => by
    obtain ⟨hi, b, lo, hv, a1, a2, a3⟩ : ∃ hi b lo : Int, v = hi * 524288 + b * 262144 + lo ∧ (0 ≤ hi ∧ hi < 8192) ∧ (0 ≤ b ∧ b ≤ 1) ∧ (0 ≤ lo ∧ lo < 262144) := ⟨v / 524288, v / 262144 % 2, v % 262144, by omega, by omega, by omega, by omega⟩
    have e1 : v / 262144 = 2 * hi + b := by omega
    have e2 : v * 16384 % 4294967296 = lo * 16384 := by omega
    have e3 : v / 524288 = hi := by omega
    have e4 : v * 8192 % 4294967296 = b * 2147483648 + lo * 8192 := by omega
    rw [show 18 + 1 = 19 from rfl, w27_18, w27_19, s27, e1, e2, e3, e4]; clear e1 e2 e3 e4 hv h0 h1; omega
  | 19, _ => by
    obtain ⟨hi, b, lo, hv, a1, a2, a3⟩ : ∃ hi b lo : Int, v = hi * 1048576 + b * 524288 + lo ∧ (0 ≤ hi ∧ hi < 4096) ∧ (0 ≤ b ∧ b ≤ 1) ∧ (0 ≤ lo ∧ lo < 524288) := ⟨v / 1048576, v / 524288 % 2, v % 524288, by omega, by omega, by omega, by omega⟩
    have e1 : v / 524288 = 2 * hi + b := by omega
    have e2 : v * 8192 % 4294967296 = lo * 8192 := by omega
    have e3 : v / 1048576 = hi := by omega
    have e4 : v * 4096 % 4294967296 = b * 2147483648 + lo * 4096 := by omega
    rw [show 19 + 1 = 20 from rfl, w27_19, w27_20, s27, e1, e2, e3, e4]; clear e1 e2 e3 e4 hv h0 h1; omega
  | 20, _ => by
    obtain ⟨hi, b, lo, hv, a1, a2, a3⟩ : ∃ hi b lo : Int, v = hi * 2097152 + b * 1048576 + lo ∧ (0 ≤ hi ∧ hi < 2048) ∧ (0 ≤ b ∧ b ≤ 1) ∧ (0 ≤ lo ∧ lo < 1048576) := ⟨v / 2097152, v / 1048576 % 2, v % 1048576, by omega, by omega, by omega, by omega⟩
    have e1 : v / 1048576 = 2 * hi + b := by omega
    have e2 : v * 4096 % 4294967296 = lo * 4096 := by omega
    have e3 : v / 2097152 = hi := by omega
    have e4 : v * 2048 % 4294967296 = b * 2147483648 + lo * 2048 := by omega
    rw [show 20 + 1 = 21 from rfl, w27_20, w27_21, s27, e1, e2, e3, e4]; clear e1 e2 e3 e4 hv h0 h1; omega
  | 21, _ => by
    obtain ⟨hi, b, lo, hv, a1, a2, a3⟩ : ∃ hi b lo : Int, v = hi * 4194304 + b * 2097152 + lo ∧ (0 ≤ hi ∧ hi < 1024) ∧ (0 ≤ b ∧ b ≤ 1) ∧ (0 ≤ lo ∧ lo < 2097152) := ⟨v / 4194304, v / 2097152 % 2, v % 2097152, by omega, by omega, by omega, by omega⟩
    have e1 : v / 2097152 = 2 * hi + b := by omega
    have e2 : v * 2048 % 4294967296 = lo * 2048 := by omega
    have e3 : v / 4194304 = hi := by omega
    have e4 : v * 1024 % 4294967296 = b * 2147483648 + lo * 1024 := by omega
    rw [show 21 + 1 = 22 from rfl, w27_21, w27_22, s27, e1, e2, e3, e4]; clear e1 e2 e3 e4 hv h0 h1; omega
  | 22, _ => by
    obtain ⟨hi, b, lo, hv, a1, a2, a3⟩ : ∃ hi b lo : Int, v = hi * 8388608 + b * 4194304 + lo ∧ (0 ≤ hi ∧ hi < 512) ∧ (0 ≤ b ∧ b ≤ 1) ∧ (0 ≤ lo ∧ lo < 4194304) := ⟨v / 8388608, v / 4194304 % 2, v % 4194304, by omega, by omega, by omega, by omega⟩
    have e1 : v / 4194304 = 2 * hi + b := by omega
    have e2 : v * 1024 % 4294967296 = lo * 1024 := by omega
    have e3 : v / 8388608 = hi := by omega
    have e4 : v * 512 % 4294967296 = b * 2147483648 + lo * 512 := by omega
    rw [show 22 + 1 = 23 from rfl, w27_22, w27_23, s27, e1, e2, e3, e4]; clear e1 e2 e3 e4 hv h0 h1; omega
  | 23, _ => by
    obtain ⟨hi, b, lo, hv, a1, a2, a3⟩ : ∃ hi b lo : Int, v = hi * 16777216 + b * 8388608 + lo ∧ (0 ≤ hi ∧ hi < 256) ∧ (0 ≤ b ∧ b ≤ 1) ∧ (0 ≤ lo ∧ lo < 8388608) := ⟨v / 16777216, v / 8388608 % 2, v % 8388608, by omega, by omega, by omega, by omega⟩
    have e1 : v / 8388608 = 2 * hi + b := by omega
    have e2 : v * 512 % 4294967296 = lo * 512 := by omega
    have e3 : v / 16777216 = hi := by omega
    have e4 : v * 256 % 4294967296 = b * 2147483648 + lo * 256 := by omega
    rw [show 23 + 1 = 24 from rfl, w27_23, w27_24, s27, e1, e2, e3, e4]; clear e1 e2 e3 e4 hv h0 h1; omega
  | 24, _ => by
    obtain ⟨hi, b, lo, hv, a1, a2, a3⟩ : ∃ hi b lo : Int, v = hi * 33554432 + b * 16777216 + lo ∧ (0 ≤ hi ∧ hi < 128) ∧ (0 ≤ b ∧ b ≤ 1) ∧ (0 ≤ lo ∧ lo < 16777216) := ⟨v / 33554432, v / 16777216 % 2, v % 16777216, by omega, by omega, by omega, by omega⟩
    have e1 : v / 16777216 = 2 * hi + b := by omega
    have e2 : v * 256 % 4294967296 = lo * 256 := by omega
    have e3 : v / 33554432 = hi := by omega
    have e4 : v * 128 % 4294967296 = b * 2147483648 + lo * 128 := by omega
    rw [show 24 + 1 = 25 from rfl, w27_24, w27_25, s27, e1, e2, e3, e4]; clear e1 e2 e3 e4 hv h0 h1; omega
  | 25, _ => by
    obtain ⟨hi, b, lo, hv, a1, a2, a3⟩ : ∃ hi b lo : Int, v = hi * 67108864 + b * 33554432 + lo ∧ (0 ≤ hi ∧ hi < 64) ∧ (0 ≤ b ∧ b ≤ 1) ∧ (0 ≤ lo ∧ lo < 33554432) := ⟨v / 67108864, v / 33554432 % 2, v % 33554432, by omega, by omega, by omega, by omega⟩
    have e1 : v / 33554432 = 2 * hi + b := by omega
    have e2 : v * 128 % 4294967296 = lo * 128 := by omega
    have e3 : v / 67108864 = hi := by omega
    have e4 : v * 64 % 4294967296 = b * 2147483648 + lo * 64 := by omega
    rw [show 25 + 1 = 26 from rfl, w27_25, w27_26, s27, e1, e2, e3, e4]; clear e1 e2 e3 e4 hv h0 h1; omega
  | 26, _ => by
    obtain ⟨hi, b, lo, hv, a1, a2, a3⟩ : ∃ hi b lo : Int, v = hi * 134217728 + b * 67108864 + lo ∧ (0 ≤ hi ∧ hi < 32) ∧ (0 ≤ b ∧ b ≤ 1) ∧ (0 ≤ lo ∧ lo < 67108864) := ⟨v / 134217728, v / 67108864 % 2, v % 67108864, by omega, by omega, by omega, by omega⟩
    have e1 : v / 67108864 = 2 * hi + b := by omega
    have e2 : v * 64 % 4294967296 = lo * 64 := by omega
    have e3 : v / 134217728 = hi := by omega
    have e4 : v * 32 % 4294967296 = b * 2147483648 + lo * 32 := by omega
    rw [show 26 + 1 = 27 from rfl, w27_26, w27_27, s27, e1, e2, e3, e4]; clear e1 e2 e3 e4 hv h0 h1; omega
  | 27, _ => by
    obtain ⟨hi, b, lo, hv, a1, a2, a3⟩ : ∃ hi b lo : Int, v = hi * 268435456 + b * 134217728 + lo ∧ (0 ≤ hi ∧ hi < 16) ∧ (0 ≤ b ∧ b ≤ 1) ∧ (0 ≤ lo ∧ lo < 134217728) := ⟨v / 268435456, v / 134217728 % 2, v % 134217728, by omega, by omega, by omega, by omega⟩
    have e1 : v / 134217728 = 2 * hi + b := by omega
    have e2 : v * 32 % 4294967296 = lo * 32 := by omega
    have e3 : v / 268435456 = hi := by omega
    have e4 : v * 16 % 4294967296 = b * 2147483648 + lo * 16 := by omega
    rw [show 27 + 1 = 28 from rfl, w27_27, w27_28, s27, e1, e2, e3, e4]; clear e1 e2 e3 e4 hv h0 h1; omega
  | 28, _ => by
    obtain ⟨hi, b, lo, hv, a1, a2, a3⟩ : ∃ hi b lo : Int, v = hi * 536870912 + b * 268435456 + lo ∧ (0 ≤ hi ∧ hi < 8) ∧ (0 ≤ b ∧ b ≤ 1) ∧ (0 ≤ lo ∧ lo < 268435456) := ⟨v / 536870912, v / 268435456 % 2, v % 268435456, by omega, by omega, by omega, by omega⟩
    have e1 : v / 268435456 = 2 * hi + b := by omega
    have e2 : v * 16 % 4294967296 = lo * 16 := by omega
    have e3 : v / 536870912 = hi := by omega
    have e4 : v * 8 % 4294967296 = b * 2147483648 + lo * 8 := by omega
    rw [show 28 + 1 = 29 from rfl, w27_28, w27_29, s27, e1, e2, e3, e4]; clear e1 e2 e3 e4 hv h0 h1; omega
  | 29, _ => by
    obtain ⟨hi, b, lo, hv, a1, a2, a3⟩ : ∃ hi b lo : Int, v = hi * 1073741824 + b * 536870912 + lo ∧ (0 ≤ hi ∧ hi < 4) ∧ (0 ≤ b ∧ b ≤ 1) ∧ (0 ≤ lo ∧ lo < 536870912) := ⟨v / 1073741824, v / 536870912 % 2, v % 536870912, by omega, by omega, by omega, by omega⟩
    have e1 : v / 536870912 = 2 * hi + b := by omega
    have e2 : v * 8 % 4294967296 = lo * 8 := by omega
    have e3 : v / 1073741824 = hi := by omega
    have e4 : v * 4 % 4294967296 = b * 2147483648 + lo * 4 := by omega
    rw [show 29 + 1 = 30 from rfl, w27_29, w27_30, s27, e1, e2, e3, e4]; clear e1 e2 e3 e4 hv h0 h1; omega
  | 30, _ => by
    obtain ⟨hi, b, lo, hv, a1, a2, a3⟩ : ∃ hi b lo : Int, v = hi * 2147483648 + b * 1073741824 + lo ∧ (0 ≤ hi ∧ hi < 2) ∧ (0 ≤ b ∧ b ≤ 1) ∧ (0 ≤ lo ∧ lo < 1073741824) := ⟨v / 2147483648, v / 1073741824 % 2, v % 1073741824, by omega, by omega, by omega, by omega⟩
    have e1 : v / 1073741824 = 2 * hi + b := by omega
    have e2 : v * 4 % 4294967296 = lo * 4 := by omega
    have e3 : v / 2147483648 = hi := by omega
    have e4 : v * 2 % 4294967296 = b * 2147483648 + lo * 2 := by omega
    rw [show 30 + 1 = 31 from rfl, w27_30, w27_31, s27, e1, e2, e3, e4]; clear e1 e2 e3 e4 hv h0 h1; omega
  | k + 31, h => by omega
theorem t28 (w : Int) : stC 28 w = (w / 2147483648 == 1) := rfl
theorem sc28 {v : Int} (h0 : 0 ≤ v) (h1 : v < 4294967296) : ∀ k : Nat, k < 31 → stC 28 (shW 28 v k) = shC 28 v (k + 1)
  | 0, _ => by rw [show shC 28 v (0 + 1) = (v / 2147483648 % 2 == 1) from rfl, w28_0, t28]; exact beq_iff' (by omega)
  | 1, _ => by rw [show shC 28 v (1 + 1) = (v / 1073741824 % 2 == 1) from rfl, w28_1, t28]; exact beq_iff' (by omega)
  | 2, _ => by rw [show shC 28 v (2 + 1) = (v / 536870912 % 2 == 1) from rfl, w28_2, t28]; exact beq_iff' (by omega)
  | 3, _ => by rw [show shC 28 v (3 + 1) = (v / 268435456 % 2 == 1) from rfl, w28_3, t28]; exact beq_iff' (by omega)
  | 4, _ => by rw [show shC 28 v (4 + 1) = (v / 134217728 % 2 == 1) from rfl, w28_4, t28]; exact beq_iff' (by omega)
  | 5, _ => by rw [show shC 28 v (5 + 1) = (v / 67108864 % 2 == 1) from rfl, w28_5, t28]; exact beq_iff' (by omega)
  | 6, _ => by rw [show shC 28 v (6 + 1) = (v / 33554432 % 2 == 1) from rfl, w28_6, t28]; exact beq_iff' (by omega)
  | 7, _ => by rw [show shC 28 v (7 + 1) = (v / 16777216 % 2 == 1) from rfl, w28_7, t28]; exact beq_iff' (by omega)
  | 8, _ => by rw [show shC 28 v (8 + 1) = (v / 8388608 % 2 == 1) from rfl, w28_8, t28]; exact beq_iff' (by omega)
  | 9, _ => by rw [show shC 28 v (9 + 1) = (v / 4194304 % 2 == 1) from rfl, w28_9, t28]; exact beq_iff' (by omega)
  | 10, _ => by rw [show shC 28 v (10 + 1) = (v / 2097152 % 2 == 1) from rfl, w28_10, t28]; exact beq_iff' (by omega)
  | 11, _ => by rw [show shC 28 v (11 + 1) = (v / 1048576 % 2 == 1) from rfl, w28_11, t28]; exact beq_iff' (by omega)
  | 12, _ => by rw [show shC 28 v (12 + 1) = (v / 524288 % 2 == 1) from rfl, w28_12, t28]; exact beq_iff' (by omega)
  | 13, _ => by rw [show shC 28 v (13 + 1) = (v / 262144 % 2 == 1) from rfl, w28_13, t28]; exact beq_iff' (by omega)
  | 14, _ => by rw [show shC 28 v (14 + 1) = (v / 131072 % 2 == 1) from rfl, w28_14, t28]; exact beq_iff' (by omega)
  | 15, _ => by rw [show shC 28 v (15 + 1) = (v / 65536 % 2 == 1) from rfl, w28_15, t28]; exact beq_iff' (by omega)
  | 16, _ => by rw [show shC 28 v (16 + 1) = (v / 32768 % 2 == 1) from rfl, w28_16, t28]; exact beq_iff' (by omega)
  | 17, _ => by rw [show shC 28 v (17 + 1) = (v / 16384 % 2 == 1) from rfl, w28_17, t28]; exact beq_iff' (by omega)
  | 18, _ => by rw [show shC 28 v (18 + 1) = (v / 8192 % 2 == 1) from rfl, w28_18, t28]; exact beq_iff' (by omega)
  | 19, _ => by rw [show shC 28 v (19 + 1) = (v / 4096 % 2 == 1) from rfl, w28_19, t28]; exact beq_iff' (by omega)
  | 20, _ => by rw [show shC 28 v (20 + 1) = (v / 2048 % 2 == 1) from rfl, w28_20, t28]; exact beq_iff' (by omega)
  | 21, _ => by rw [show shC 28 v (21 + 1) = (v / 1024 % 2 == 1) from rfl, w28_21, t28]; exact beq_iff' (by omega)
  | 22, _ => by rw [show shC 28 v (22 + 1) = (v / 512 % 2 == 1) from rfl, w28_22, t28]; exact beq_iff' (by omega)
  | 23, _ => by rw [show shC 28 v (23 + 1) = (v / 256 % 2 == 1) from rfl, w28_23, t28]; exact beq_iff' (by omega)
  | 24, _ => by rw [show shC 28 v (24 + 1) = (v / 128 % 2 == 1) from rfl, w28_24, t28]; exact beq_iff' (by omega)
  | 25, _ => by rw [show shC 28 v (25 + 1) = (v / 64 % 2 == 1) from rfl, w28_25, t28]; exact beq_iff' (by omega)
  | 26, _ => by rw [show shC 28 v (26 + 1) = (v / 32 % 2 == 1) from rfl, w28_26, t28]; exact beq_iff' (by omega)
  | 27, _ => by rw [show shC 28 v (27 + 1) = (v / 16 % 2 == 1) from rfl, w28_27, t28]; exact beq_iff' (by omega)
  | 28, _ => by rw [show shC 28 v (28 + 1) = (v / 8 % 2 == 1) from rfl, w28_28, t28]; exact beq_iff' (by omega)
  | 29, _ => by rw [show shC 28 v (29 + 1) = (v / 4 % 2 == 1) from rfl, w28_29, t28]; exact beq_iff' (by omega)
  | 30, _ => by rw [show shC 28 v (30 + 1) = (v / 2 % 2 == 1) from rfl, w28_30, t28]; exact beq_iff' (by omega)
  | k + 31, h => by omega
theorem t29 (w : Int) : stC 29 w = (w % 2 == 1) := rfl
theorem sc29 {v : Int} (h0 : 0 ≤ v) (h1 : v < 4294967296) : ∀ k : Nat, k < 31 → stC 29 (shW 29 v k) = shC 29 v (k + 1)
  | 0, _ => by rw [show shC 29 v (0 + 1) = (v / 1 % 2 == 1) from rfl, w29_0, t29]
  | 1, _ => by rw [show shC 29 v (1 + 1) = (v / 2 % 2 == 1) from rfl, w29_1, t29]
  | 2, _ => by rw [show shC 29 v (2 + 1) = (v / 4 % 2 == 1) from rfl, w29_2, t29]
  | 3, _ => by rw [show shC 29 v (3 + 1) = (v / 8 % 2 == 1) from rfl, w29_3, t29]
  | 4, _ => by rw [show shC 29 v (4 + 1) = (v / 16 % 2 == 1) from rfl, w29_4, t29]
  | 5, _ => by rw [show shC 29 v (5 + 1) = (v / 32 % 2 == 1) from rfl, w29_5, t29]
  | 6, _ => by rw [show shC 29 v (6 + 1) = (v / 64 % 2 == 1) from rfl, w29_6, t29]
  | 7, _ => by rw [show shC 29 v (7 + 1) = (v / 128 % 2 == 1) from rfl, w29_7, t29]
  | 8, _ => by rw [show shC 29 v (8 + 1) = (v / 256 % 2 == 1) from rfl, w29_8, t29]
  | 9, _ => by rw [show shC 29 v (9 + 1) = (v / 512 % 2 == 1) from rfl, w29_9, t29]
  | 10, _ => by rw [show shC 29 v (10 + 1) = (v / 1024 % 2 == 1) from rfl, w29_10, t29]
  | 11, _ => by rw [show shC 29 v (11 + 1) = (v / 2048 % 2 == 1) from rfl, w29_11, t29]
  | 12, _ => by rw [show shC 29 v (12 + 1) = (v / 4096 % 2 == 1) from rfl, w29_12, t29]
  | 13, _ => by rw [show shC 29 v (13 + 1) = (v / 8192 % 2 == 1) from rfl, w29_13, t29]
  | 14, _ => by rw [show shC 29 v (14 + 1) = (v / 16384 % 2 == 1) from rfl, w29_14, t29]
  | 15, _ => by rw [show shC 29 v (15 + 1) = (v / 32768 % 2 == 1) from rfl, w29_15, t29]
  | 16, _ => by rw [show shC 29 v (16 + 1) = (v / 65536 % 2 == 1) from rfl, w29_16, t29]
  | 17, _ => by rw [show shC 29 v (17 + 1) = (v / 131072 % 2 == 1) from rfl, w29_17, t29]
  | 18, _ => by rw [show shC 29 v (18 + 1) = (v / 262144 % 2 == 1) from rfl, w29_18, t29]
  | 19, _ => by rw [show shC 29 v (19 + 1) = (v / 524288 % 2 == 1) from rfl, w29_19, t29]
  | 20, _ => by rw [show shC 29 v (20 + 1) = (v / 1048576 % 2 == 1) from rfl, w29_20, t29]
  | 21, _ => by rw [show shC 29 v (21 + 1) = (v / 2097152 % 2 == 1) from rfl, w29_21, t29]
  | 22, _ => by rw [show shC 29 v (22 + 1) = (v / 4194304 % 2 == 1) from rfl, w29_22, t29]
  | 23, _ => by rw [show shC 29 v (23 + 1) = (v / 8388608 % 2 == 1) from rfl, w29_23, t29]
  | 24, _ => by rw [show shC 29 v (24 + 1) = (v / 16777216 % 2 == 1) from rfl, w29_24, t29]
  | 25, _ => by rw [show shC 29 v (25 + 1) = (v / 33554432 % 2 == 1) from rfl, w29_25, t29]
  | 26, _ => by rw [show shC 29 v (26 + 1) = (v / 67108864 % 2 == 1) from rfl, w29_26, t29]
  | 27, _ => by rw [show shC 29 v (27 + 1) = (v / 134217728 % 2 == 1) from rfl, w29_27, t29]
  | 28, _ => by rw [show shC 29 v (28 + 1) = (v / 268435456 % 2 == 1) from rfl, w29_28, t29]
  | 29, _ => by rw [show shC 29 v (29 + 1) = (v / 536870912 % 2 == 1) from rfl, w29_29, t29]
  | 30, _ => by rw [show shC 29 v (30 + 1) = (v / 1073741824 % 2 == 1) from rfl, w29_30, t29]
  | k + 31, h => by omega
theorem t30 (w : Int) : stC 30 w = (w % 2 == 1) := rfl
theorem sc30 {v : Int} (h0 : 0 ≤ v) (h1 : v < 4294967296) : ∀ k : Nat, k < 31 → stC 30 (shW 30 v k) = shC 30 v (k + 1)
  | 0, _ => by rw [show shC 30 v (0 + 1) = (v / 1 % 2 == 1) from rfl, w30_0, t30]; exact beq_iff' (by unfold s32; split <;> omega)
  | 1, _ => by rw [show shC 30 v (1 + 1) = (v / 2 % 2 == 1) from rfl, w30_1, t30]; exact beq_iff' (by unfold s32; split <;> omega)
  | 2, _ => by rw [show shC 30 v (2 + 1) = (v / 4 % 2 == 1) from rfl, w30_2, t30]; exact beq_iff' (by unfold s32; split <;> omega)
  | 3, _ => by rw [show shC 30 v (3 + 1) = (v / 8 % 2 == 1) from rfl, w30_3, t30]; exact beq_iff' (by unfold s32; split <;> omega)
  | 4, _ => by rw [show shC 30 v (4 + 1) = (v / 16 % 2 == 1) from rfl, w30_4, t30]; exact beq_iff' (by unfold s32; split <;> omega)
  | 5, _ => by rw [show shC 30 v (5 + 1) = (v / 32 % 2 == 1) from rfl, w30_5, t30]; exact beq_iff' (by unfold s32; split <;> omega)
  | 6, _ => by rw [show shC 30 v (6 + 1) = (v / 64 % 2 == 1) from rfl, w30_6, t30]; exact beq_iff' (by unfold s32; split <;> omega)
  | 7, _ => by rw [show shC 30 v (7 + 1) = (v / 128 % 2 == 1) from rfl, w30_7, t30]; exact beq_iff' (by unfold s32; split <;> omega)
  | 8, _ => by rw [show shC 30 v (8 + 1) = (v / 256 % 2 == 1) from rfl, w30_8, t30]; exact beq_iff' (by unfold s32; split <;> omega)
  | 9, _ => by rw [show shC 30 v (9 + 1) = (v / 512 % 2 == 1) from rfl, w30_9, t30]; exact beq_iff' (by unfold s32; split <;> omega)
  | 10, _ => by rw [show shC 30 v (10 + 1) = (v / 1024 % 2 == 1) from rfl, w30_10, t30]; exact beq_iff' (by unfold s32; split <;> omega)
  | 11, _ => by rw [show shC 30 v (11 + 1) = (v / 2048 % 2 == 1) from rfl, w30_11, t30]; exact beq_iff' (by unfold s32; split <;> omega)
  | 12, _ => by rw [show shC 30 v (12 + 1) = (v / 4096 % 2 == 1) from rfl, w30_12, t30]; exact beq_iff' (by unfold s32; split <;> omega)
  | 13, _ => by rw [show shC 30 v (13 + 1) = (v / 8192 % 2 == 1) from rfl, w30_13, t30]; exact beq_iff' (by unfold s32; split <;> omega)
  | 14, _ => by rw [show shC 30 v (14 + 1) = (v / 16384 % 2 == 1) from rfl, w30_14, t30]; exact beq_iff' (by unfold s32; split <;> omega)
  | 15, _ => by rw [show shC 30 v (15 + 1) = (v / 32768 % 2 == 1) from rfl, w30_15, t30]; exact beq_iff' (by unfold s32; split <;> omega)
  | 16, _ => by rw [show shC 30 v (16 + 1) = (v / 65536 % 2 == 1) from rfl, w30_16, t30]; exact beq_iff' (by unfold s32; split <;> omega)
  | 17, _ => by rw [show shC 30 v (17 + 1) = (v / 131072 % 2 == 1) from rfl, w30_17, t30]; exact beq_iff' (by unfold s32; split <;> omega)
  | 18, _ => by rw [show shC 30 v (18 + 1) = (v / 262144 % 2 == 1) from rfl, w30_18, t30]; exact beq_iff' (by unfold s32; split <;> omega)
  | 19, _ => by rw [show shC 30 v (19 + 1) = (v / 524288 % 2 == 1) from rfl, w30_19, t30]; exact beq_iff' (by unfold s32; split <;> omega)
  | 20, _ => by rw [show shC 30 v (20 + 1) = (v / 1048576 % 2 == 1) from rfl, w30_20, t30]; exact beq_iff' (by unfold s32; split <;> omega)
  | 21, _ => by rw [show shC 30 v (21 + 1) = (v / 2097152 % 2 == 1) from rfl, w30_21, t30]; exact beq_iff' (by unfold s32; split <;> omega)
  | 22, _ => by rw [show shC 30 v (22 + 1) = (v / 4194304 % 2 == 1) from rfl, w30_22, t30]; exact beq_iff' (by unfold s32; split <;> omega)
  | 23, _ => by rw [show shC 30 v (23 + 1) = (v / 8388608 % 2 == 1) from rfl, w30_23, t30]; exact beq_iff' (by unfold s32; split <;> omega)
  | 24, _ => by rw [show shC 30 v (24 + 1) = (v / 16777216 % 2 == 1) from rfl, w30_24, t30]; exact beq_iff' (by unfold s32; split <;> omega)
  | 25, _ => by rw [show shC 30 v (25 + 1) = (v / 33554432 % 2 == 1) from rfl, w30_25, t30]; exact beq_iff' (by unfold s32; split <;> omega)
  | 26, _ => by rw [show shC 30 v (26 + 1) = (v / 67108864 % 2 == 1) from rfl, w30_26, t30]; exact beq_iff' (by unfold s32; split <;> omega)
  | 27, _ => by rw [show shC 30 v (27 + 1) = (v / 134217728 % 2 == 1) from rfl, w30_27, t30]; exact beq_iff' (by unfold s32; split <;> omega)
  | 28, _ => by rw [show shC 30 v (28 + 1) = (v / 268435456 % 2 == 1) from rfl, w30_28, t30]; exact beq_iff' (by unfold s32; split <;> omega)
  | 29, _ => by rw [show shC 30 v (29 + 1) = (v / 536870912 % 2 == 1) from rfl, w30_29, t30]; exact beq_iff' (by unfold s32; split <;> omega)
  | 30, _ => by rw [show shC 30 v (30 + 1) = (v / 1073741824 % 2 == 1) from rfl, w30_30, t30]; exact beq_iff' (by unfold s32; split <;> omega)
  | k + 31, h => by omega
theorem sc26 {v : Int} (h0 : 0 ≤ v) (h1 : v < 4294967296) (k : Nat) (hk : k < 31) : stC 26 (shW 26 v k) = shC 26 v (k + 1) := by
  show (stW 26 (shW 26 v k) % 2 == 1) = (shW 26 v (k + 1) % 2 == 1)
  rw [st26 h0 h1 k hk]
theorem sc27 {v : Int} (h0 : 0 ≤ v) (h1 : v < 4294967296) (k : Nat) (hk : k < 31) : stC 27 (shW 27 v k) = shC 27 v (k + 1) := by
  show (stW 27 (shW 27 v k) / 2147483648 == 1) = b31 (shW 27 v (k + 1))
  have := bd27 h0 h1 (k + 1) (by omega)
  rw [st27 h0 h1 k hk]
  exact beq_dec (by omega)
theorem sh_bd {op v : Int} (ho : knownV op = true) (h0 : 0 ≤ v) (h1 : v < 4294967296) (k : Nat) (hk : k < 32) : 0 ≤ shW op v k ∧ shW op v k < 4294967296 := by
  rcases knownV_cases ho with rfl | rfl | rfl | rfl | rfl
  · exact bd28 h0 h1 k hk
  · exact bd29 h0 h1 k hk
  · exact bd30 h0 h1 k hk
  · exact bd26 h0 h1 k hk
  · exact bd27 h0 h1 k hk
theorem st_next {op v : Int} (ho : knownV op = true) (h0 : 0 ≤ v) (h1 : v < 4294967296) (k : Nat) (hk : k < 31) : stW op (shW op v k) = shW op v (k + 1) ∧ stC op (shW op v k) = shC op v (k + 1) := by
  rcases knownV_cases ho with rfl | rfl | rfl | rfl | rfl
  · exact ⟨st28 h0 h1 k hk, sc28 h0 h1 k hk⟩
  · exact ⟨st29 h0 h1 k hk, sc29 h0 h1 k hk⟩
  · exact ⟨st30 h0 h1 k hk, sc30 h0 h1 k hk⟩
  · exact ⟨st26 h0 h1 k hk, sc26 h0 h1 k hk⟩
  · exact ⟨st27 h0 h1 k hk, sc27 h0 h1 k hk⟩
theorem or_turn (k : Nat) {a b : Int} (ha : 0 ≤ a) (hb : 0 ≤ b ∧ b < 2 ^ k) (h : b + a * 2 ^ k < 4294967296) : bits .or .u32 (a * 2 ^ k) b = b + a * 2 ^ k := by
  have hp : (0 : Int) < 2 ^ k := Int.pow_pos (by decide)
  have hm : 0 ≤ a * 2 ^ k := Int.mul_nonneg ha (by omega)
  rw [or_comm32 ⟨hm, by omega⟩ ⟨hb.1, by omega⟩]; exact or_join k hb.1 hb.2 ha h
theorem turn26 {v : Int} (h0 : 0 ≤ v) (h1 : v < 4294967296) : ∀ k : Nat, k < 32 → 0 < k → bits .or .u32 (IntKind.u32.wrap (v * 2 ^ k)) (v / 2 ^ (32 - k)) = shW 26 v k
  | 0, _, h => by omega
  | 1, _, _ => by
    have h := or_turn 1 (a := v % 2147483648) (b := v / 2147483648) (by omega) ⟨by omega, by show v / 2147483648 < 2; omega⟩ (by show v / 2147483648 + v % 2147483648 * 2 < _; omega)
    rw [show (2 : Int) ^ 1 = 2 from rfl] at h
    rw [show (2 : Int) ^ 1 = 2 from rfl, show (2 : Int) ^ (32 - 1) = 2147483648 from rfl, wr_u32, show v * 2 % 4294967296 = v % 2147483648 * 2 by omega, h, w26_1]; omega
  | 2, _, _ => by
    have h := or_turn 2 (a := v % 1073741824) (b := v / 1073741824) (by omega) ⟨by omega, by show v / 1073741824 < 4; omega⟩ (by show v / 1073741824 + v % 1073741824 * 4 < _; omega)
    rw [show (2 : Int) ^ 2 = 4 from rfl] at h
    rw [show (2 : Int) ^ 2 = 4 from rfl, show (2 : Int) ^ (32 - 2) = 1073741824 from rfl, wr_u32, show v * 4 % 4294967296 = v % 1073741824 * 4 by omega, h, w26_2]; omega
  | 3, _, _ => by
    have h := or_turn 3 (a := v % 536870912) (b := v / 536870912) (by omega) ⟨by omega, by show v / 536870912 < 8; omega⟩ (by show v / 536870912 + v % 536870912 * 8 < _; omega)
    rw [show (2 : Int) ^ 3 = 8 from rfl] at h
    rw [show (2 : Int) ^ 3 = 8 from rfl, show (2 : Int) ^ (32 - 3) = 536870912 from rfl, wr_u32, show v * 8 % 4294967296 = v % 536870912 * 8 by omega, h, w26_3]; omega
  | 4, _, _ => by
    have h := or_turn 4 (a := v % 268435456) (b := v / 268435456) (by omega) ⟨by omega, by show v / 268435456 < 16; omega⟩ (by show v / 268435456 + v % 268435456 * 16 < _; omega)
    rw [show (2 : Int) ^ 4 = 16 from rfl] at h
    rw [show (2 : Int) ^ 4 = 16 from rfl, show (2 : Int) ^ (32 - 4) = 268435456 from rfl, wr_u32, show v * 16 % 4294967296 = v % 268435456 * 16 by omega, h, w26_4]; omega
  | 5, _, _ => by
    have h := or_turn 5 (a := v % 134217728) (b := v / 134217728) (by omega) ⟨by omega, by show v / 134217728 < 32; omega⟩ (by show v / 134217728 + v % 134217728 * 32 < _; omega)
    rw [show (2 : Int) ^ 5 = 32 from rfl] at h
    rw [show (2 : Int) ^ 5 = 32 from rfl, show (2 : Int) ^ (32 - 5) = 134217728 from rfl, wr_u32, show v * 32 % 4294967296 = v % 134217728 * 32 by omega, h, w26_5]; omega
  | 6, _, _ => by
    have h := or_turn 6 (a := v % 67108864) (b := v / 67108864) (by omega) ⟨by omega, by show v / 67108864 < 64; omega⟩ (by show v / 67108864 + v % 67108864 * 64 < _; omega)
    rw [show (2 : Int) ^ 6 = 64 from rfl] at h
    rw [show (2 : Int) ^ 6 = 64 from rfl, show (2 : Int) ^ (32 - 6) = 67108864 from rfl, wr_u32, show v * 64 % 4294967296 = v % 67108864 * 64 by omega, h, w26_6]; omega
  | 7, _, _ => by
    have h := or_turn 7 (a := v % 33554432) (b := v / 33554432) (by omega) ⟨by omega, by show v / 33554432 < 128; omega⟩ (by show v / 33554432 + v % 33554432 * 128 < _; omega)
    rw [show (2 : Int) ^ 7 = 128 from rfl] at h
    rw [show (2 : Int) ^ 7 = 128 from rfl, show (2 : Int) ^ (32 - 7) = 33554432 from rfl, wr_u32, show v * 128 % 4294967296 = v % 33554432 * 128 by omega, h, w26_7]; omega
  | 8, _, _ => by
    have h := or_turn 8 (a := v % 16777216) (b := v / 16777216) (by omega) ⟨by omega, by show v / 16777216 < 256; omega⟩ (by show v / 16777216 + v % 16777216 * 256 < _; omega)
    rw [show (2 : Int) ^ 8 = 256 from rfl] at h
    rw [show (2 : Int) ^ 8 = 256 from rfl, show (2 : Int) ^ (32 - 8) = 16777216 from rfl, wr_u32, show v * 256 % 4294967296 = v % 16777216 * 256 by omega, h, w26_8]; omega
  | 9, _, _ => by
    have h := or_turn 9 (a := v % 8388608) (b := v / 8388608) (by omega) ⟨by omega, by show v / 8388608 < 512; omega⟩ (by show v / 8388608 + v % 8388608 * 512 < _; omega)
    rw [show (2 : Int) ^ 9 = 512 from rfl] at h
    rw [show (2 : Int) ^ 9 = 512 from rfl, show (2 : Int) ^ (32 - 9) = 8388608 from rfl, wr_u32, show v * 512 % 4294967296 = v % 8388608 * 512 by omega, h, w26_9]; omega
  | 10, _, _ => by
    have h := or_turn 10 (a := v % 4194304) (b := v / 4194304) (by omega) ⟨by omega, by show v / 4194304 < 1024; omega⟩ (by show v / 4194304 + v % 4194304 * 1024 < _; omega)
    rw [show (2 : Int) ^ 10 = 1024 from rfl] at h
    rw [show (2 : Int) ^ 10 = 1024 from rfl, show (2 : Int) ^ (32 - 10) = 4194304 from rfl, wr_u32, show v * 1024 % 4294967296 = v % 4194304 * 1024 by omega, h, w26_10]; omega
  | 11, _, _ => by
    have h := or_turn 11 (a := v % 2097152) (b := v / 2097152) (by omega) ⟨by omega, by show v / 2097152 < 2048; omega⟩ (by show v / 2097152 + v % 2097152 * 2048 < _; omega)
    rw [show (2 : Int) ^ 11 = 2048 from rfl] at h
    rw [show (2 : Int) ^ 11 = 2048 from rfl, show (2 : Int) ^ (32 - 11) = 2097152 from rfl, wr_u32, show v * 2048 % 4294967296 = v % 2097152 * 2048 by omega, h, w26_11]; omega
  | 12, _, _ => by
    have h := or_turn 12 (a := v % 1048576) (b := v / 1048576) (by omega) ⟨by omega, by show v / 1048576 < 4096; omega⟩ (by show v / 1048576 + v % 1048576 * 4096 < _; omega)
    rw [show (2 : Int) ^ 12 = 4096 from rfl] at h
    rw [show (2 : Int) ^ 12 = 4096 from rfl, show (2 : Int) ^ (32 - 12) = 1048576 from rfl, wr_u32, show v * 4096 % 4294967296 = v % 1048576 * 4096 by omega, h, w26_12]; omega
  | 13, _, _ => by
    have h := or_turn 13 (a := v % 524288) (b := v / 524288) (by omega) ⟨by omega, by show v / 524288 < 8192; omega⟩ (by show v / 524288 + v % 524288 * 8192 < _; omega)
    rw [show (2 : Int) ^ 13 = 8192 from rfl] at h
    rw [show (2 : Int) ^ 13 = 8192 from rfl, show (2 : Int) ^ (32 - 13) = 524288 from rfl, wr_u32, show v * 8192 % 4294967296 = v % 524288 * 8192 by omega, h, w26_13]; omega
  | 14, _, _ => by
    have h := or_turn 14 (a := v % 262144) (b := v / 262144) (by omega) ⟨by omega, by show v / 262144 < 16384; omega⟩ (by show v / 262144 + v % 262144 * 16384 < _; omega)
    rw [show (2 : Int) ^ 14 = 16384 from rfl] at h
    rw [show (2 : Int) ^ 14 = 16384 from rfl, show (2 : Int) ^ (32 - 14) = 262144 from rfl, wr_u32, show v * 16384 % 4294967296 = v % 262144 * 16384 by omega, h, w26_14]; omega
  | 15, _, _ => by
    have h := or_turn 15 (a := v % 131072) (b := v / 131072) (by omega) ⟨by omega, by show v / 131072 < 32768; omega⟩ (by show v / 131072 + v % 131072 * 32768 < _; omega)
    rw [show (2 : Int) ^ 15 = 32768 from rfl] at h
    rw [show (2 : Int) ^ 15 = 32768 from rfl, show (2 : Int) ^ (32 - 15) = 131072 from rfl, wr_u32, show v * 32768 % 4294967296 = v % 131072 * 32768 by omega, h, w26_15]; omega
  | 16, _, _ => by
    have h := or_turn 16 (a := v % 65536) (b := v / 65536) (by omega) ⟨by omega, by show v / 65536 < 65536; omega⟩ (by show v / 65536 + v % 65536 * 65536 < _; omega)
    rw [show (2 : Int) ^ 16 = 65536 from rfl] at h
    rw [show (2 : Int) ^ 16 = 65536 from rfl, wr_u32, show v * 65536 % 4294967296 = v % 65536 * 65536 by omega, h, w26_16]; omega
  | 17, _, _ => by
    have h := or_turn 17 (a := v % 32768) (b := v / 32768) (by omega) ⟨by omega, by show v / 32768 < 131072; omega⟩ (by show v / 32768 + v % 32768 * 131072 < _; omega)
    rw [show (2 : Int) ^ 17 = 131072 from rfl] at h
    rw [show (2 : Int) ^ 17 = 131072 from rfl, show (2 : Int) ^ (32 - 17) = 32768 from rfl, wr_u32, show v * 131072 % 4294967296 = v % 32768 * 131072 by omega, h, w26_17]; omega
  | 18, _, _ => by
    have h := or_turn 18 (a := v % 16384) (b := v / 16384) (by omega) ⟨by omega, by show v / 16384 < 262144; omega⟩ (by show v / 16384 + v % 16384 * 262144 < _; omega)
    rw [show (2 : Int) ^ 18 = 262144 from rfl] at h
    rw [show (2 : Int) ^ 18 = 262144 from rfl, show (2 : Int) ^ (32 - 18) = 16384 from rfl, wr_u32, show v * 262144 % 4294967296 = v % 16384 * 262144 by omega, h, w26_18]; omega
  | 19, _, _ => by
    have h := or_turn 19 (a := v % 8192) (b := v / 8192) (by omega) ⟨by omega, by show v / 8192 < 524288; omega⟩ (by show v / 8192 + v % 8192 * 524288 < _; omega)
    rw [show (2 : Int) ^ 19 = 524288 from rfl] at h
    rw [show (2 : Int) ^ 19 = 524288 from rfl, show (2 : Int) ^ (32 - 19) = 8192 from rfl, wr_u32, show v * 524288 % 4294967296 = v % 8192 * 524288 by omega, h, w26_19]; omega
  | 20, _, _ => by
    have h := or_turn 20 (a := v % 4096) (b := v / 4096) (by omega) ⟨by omega, by show v / 4096 < 1048576; omega⟩ (by show v / 4096 + v % 4096 * 1048576 < _; omega)
    rw [show (2 : Int) ^ 20 = 1048576 from rfl] at h
    rw [show (2 : Int) ^ 20 = 1048576 from rfl, show (2 : Int) ^ (32 - 20) = 4096 from rfl, wr_u32, show v * 1048576 % 4294967296 = v % 4096 * 1048576 by omega, h, w26_20]; omega
  | 21, _, _ => by
    have h := or_turn 21 (a := v % 2048) (b := v / 2048) (by omega) ⟨by omega, by show v / 2048 < 2097152; omega⟩ (by show v / 2048 + v % 2048 * 2097152 < _; omega)
    rw [show (2 : Int) ^ 21 = 2097152 from rfl] at h
    rw [show (2 : Int) ^ 21 = 2097152 from rfl, show (2 : Int) ^ (32 - 21) = 2048 from rfl, wr_u32, show v * 2097152 % 4294967296 = v % 2048 * 2097152 by omega, h, w26_21]; omega
  | 22, _, _ => by
    have h := or_turn 22 (a := v % 1024) (b := v / 1024) (by omega) ⟨by omega, by show v / 1024 < 4194304; omega⟩ (by show v / 1024 + v % 1024 * 4194304 < _; omega)
    rw [show (2 : Int) ^ 22 = 4194304 from rfl] at h
    rw [show (2 : Int) ^ 22 = 4194304 from rfl, show (2 : Int) ^ (32 - 22) = 1024 from rfl, wr_u32, show v * 4194304 % 4294967296 = v % 1024 * 4194304 by omega, h, w26_22]; omega
  | 23, _, _ => by
    have h := or_turn 23 (a := v % 512) (b := v / 512) (by omega) ⟨by omega, by show v / 512 < 8388608; omega⟩ (by show v / 512 + v % 512 * 8388608 < _; omega)
    rw [show (2 : Int) ^ 23 = 8388608 from rfl] at h
    rw [show (2 : Int) ^ 23 = 8388608 from rfl, show (2 : Int) ^ (32 - 23) = 512 from rfl, wr_u32, show v * 8388608 % 4294967296 = v % 512 * 8388608 by omega, h, w26_23]; omega
  | 24, _, _ => by
    have h := or_turn 24 (a := v % 256) (b := v / 256) (by omega) ⟨by omega, by show v / 256 < 16777216; omega⟩ (by show v / 256 + v % 256 * 16777216 < _; omega)
    rw [show (2 : Int) ^ 24 = 16777216 from rfl] at h
    rw [show (2 : Int) ^ 24 = 16777216 from rfl, show (2 : Int) ^ (32 - 24) = 256 from rfl, wr_u32, show v * 16777216 % 4294967296 = v % 256 * 16777216 by omega, h, w26_24]; omega
  | 25, _, _ => by
    have h := or_turn 25 (a := v % 128) (b := v / 128) (by omega) ⟨by omega, by show v / 128 < 33554432; omega⟩ (by show v / 128 + v % 128 * 33554432 < _; omega)
    rw [show (2 : Int) ^ 25 = 33554432 from rfl] at h
    rw [show (2 : Int) ^ 25 = 33554432 from rfl, show (2 : Int) ^ (32 - 25) = 128 from rfl, wr_u32, show v * 33554432 % 4294967296 = v % 128 * 33554432 by omega, h, w26_25]; omega
  | 26, _, _ => by
    have h := or_turn 26 (a := v % 64) (b := v / 64) (by omega) ⟨by omega, by show v / 64 < 67108864; omega⟩ (by show v / 64 + v % 64 * 67108864 < _; omega)
    rw [show (2 : Int) ^ 26 = 67108864 from rfl] at h
    rw [show (2 : Int) ^ 26 = 67108864 from rfl, show (2 : Int) ^ (32 - 26) = 64 from rfl, wr_u32, show v * 67108864 % 4294967296 = v % 64 * 67108864 by omega, h, w26_26]; omega
  | 27, _, _ => by
    have h := or_turn 27 (a := v % 32) (b := v / 32) (by omega) ⟨by omega, by show v / 32 < 134217728; omega⟩ (by show v / 32 + v % 32 * 134217728 < _; omega)
    rw [show (2 : Int) ^ 27 = 134217728 from rfl] at h
    rw [show (2 : Int) ^ 27 = 134217728 from rfl, show (2 : Int) ^ (32 - 27) = 32 from rfl, wr_u32, show v * 134217728 % 4294967296 = v % 32 * 134217728 by omega, h, w26_27]; omega
  | 28, _, _ => by
    have h := or_turn 28 (a := v % 16) (b := v / 16) (by omega) ⟨by omega, by show v / 16 < 268435456; omega⟩ (by show v / 16 + v % 16 * 268435456 < _; omega)
    rw [show (2 : Int) ^ 28 = 268435456 from rfl] at h
    rw [show (2 : Int) ^ 28 = 268435456 from rfl, show (2 : Int) ^ (32 - 28) = 16 from rfl, wr_u32, show v * 268435456 % 4294967296 = v % 16 * 268435456 by omega, h, w26_28]; omega
  | 29, _, _ => by
    have h := or_turn 29 (a := v % 8) (b := v / 8) (by omega) ⟨by omega, by show v / 8 < 536870912; omega⟩ (by show v / 8 + v % 8 * 536870912 < _; omega)
    rw [show (2 : Int) ^ 29 = 536870912 from rfl] at h
    rw [show (2 : Int) ^ 29 = 536870912 from rfl, show (2 : Int) ^ (32 - 29) = 8 from rfl, wr_u32, show v * 536870912 % 4294967296 = v % 8 * 536870912 by omega, h, w26_29]; omega
  | 30, _, _ => by
    have h := or_turn 30 (a := v % 4) (b := v / 4) (by omega) ⟨by omega, by show v / 4 < 1073741824; omega⟩ (by show v / 4 + v % 4 * 1073741824 < _; omega)
    rw [show (2 : Int) ^ 30 = 1073741824 from rfl] at h
    rw [show (2 : Int) ^ 30 = 1073741824 from rfl, show (2 : Int) ^ (32 - 30) = 4 from rfl, wr_u32, show v * 1073741824 % 4294967296 = v % 4 * 1073741824 by omega, h, w26_30]; omega
  | 31, _, _ => by
    have h := or_turn 31 (a := v % 2) (b := v / 2) (by omega) ⟨by omega, by show v / 2 < 2147483648; omega⟩ (by show v / 2 + v % 2 * 2147483648 < _; omega)
    rw [show (2 : Int) ^ 31 = 2147483648 from rfl] at h
    rw [show (2 : Int) ^ 31 = 2147483648 from rfl, show (2 : Int) ^ (32 - 31) = 2 from rfl, wr_u32, show v * 2147483648 % 4294967296 = v % 2 * 2147483648 by omega, h, w26_31]; omega
  | k + 32, h, _ => by omega
theorem turn27 {v : Int} (h0 : 0 ≤ v) (h1 : v < 4294967296) : ∀ k : Nat, k < 32 → 0 < k → bits .or .u32 (IntKind.u32.wrap (v * 2 ^ (32 - k))) (v / 2 ^ k) = shW 27 v k
  | 0, _, h => by omega
  | 1, _, _ => by
    have h := turn26 h0 h1 31 (by decide) (by decide)
    rw [w26_31, show 32 - 31 = 1 from rfl] at h
    rw [show 32 - 1 = 31 from rfl, h, w27_1]; exact Int.add_comm _ _
  | 2, _, _ => by
    have h := turn26 h0 h1 30 (by decide) (by decide)
    rw [w26_30, show 32 - 30 = 2 from rfl] at h
    rw [show 32 - 2 = 30 from rfl, h, w27_2]; exact Int.add_comm _ _
  | 3, _, _ => by
    have h := turn26 h0 h1 29 (by decide) (by decide)
    rw [w26_29, show 32 - 29 = 3 from rfl] at h
    rw [show 32 - 3 = 29 from rfl, h, w27_3]; exact Int.add_comm _ _
  | 4, _, _ => by
    have h := turn26 h0 h1 28 (by decide) (by decide)
    rw [w26_28, show 32 - 28 = 4 from rfl] at h
    rw [show 32 - 4 = 28 from rfl, h, w27_4]; exact Int.add_comm _ _
  | 5, _, _ => by
    have h := turn26 h0 h1 27 (by decide) (by decide)
    rw [w26_27, show 32 - 27 = 5 from rfl] at h
    rw [show 32 - 5 = 27 from rfl, h, w27_5]; exact Int.add_comm _ _
  | 6, _, _ => by
    have h := turn26 h0 h1 26 (by decide) (by decide)
    rw [w26_26, show 32 - 26 = 6 from rfl] at h
    rw [show 32 - 6 = 26 from rfl, h, w27_6]; exact Int.add_comm _ _
  | 7, _, _ => by
    have h := turn26 h0 h1 25 (by decide) (by decide)
    rw [w26_25, show 32 - 25 = 7 from rfl] at h
    rw [show 32 - 7 = 25 from rfl, h, w27_7]; exact Int.add_comm _ _
  | 8, _, _ => by
    have h := turn26 h0 h1 24 (by decide) (by decide)
    rw [w26_24, show 32 - 24 = 8 from rfl] at h
    rw [show 32 - 8 = 24 from rfl, h, w27_8]; exact Int.add_comm _ _
  | 9, _, _ => by
    have h := turn26 h0 h1 23 (by decide) (by decide)
    rw [w26_23, show 32 - 23 = 9 from rfl] at h
    rw [show 32 - 9 = 23 from rfl, h, w27_9]; exact Int.add_comm _ _
  | 10, _, _ => by
    have h := turn26 h0 h1 22 (by decide) (by decide)
    rw [w26_22, show 32 - 22 = 10 from rfl] at h
    rw [show 32 - 10 = 22 from rfl, h, w27_10]; exact Int.add_comm _ _
  | 11, _, _ => by
    have h := turn26 h0 h1 21 (by decide) (by decide)
    rw [w26_21, show 32 - 21 = 11 from rfl] at h
    rw [show 32 - 11 = 21 from rfl, h, w27_11]; exact Int.add_comm _ _
  | 12, _, _ => by
    have h := turn26 h0 h1 20 (by decide) (by decide)
    rw [w26_20, show 32 - 20 = 12 from rfl] at h
    rw [show 32 - 12 = 20 from rfl, h, w27_12]; exact Int.add_comm _ _
  | 13, _, _ => by
    have h := turn26 h0 h1 19 (by decide) (by decide)
    rw [w26_19, show 32 - 19 = 13 from rfl] at h
    rw [show 32 - 13 = 19 from rfl, h, w27_13]; exact Int.add_comm _ _
  | 14, _, _ => by
    have h := turn26 h0 h1 18 (by decide) (by decide)
    rw [w26_18, show 32 - 18 = 14 from rfl] at h
    rw [show 32 - 14 = 18 from rfl, h, w27_14]; exact Int.add_comm _ _
  | 15, _, _ => by
    have h := turn26 h0 h1 17 (by decide) (by decide)
    rw [w26_17, show 32 - 17 = 15 from rfl] at h
    rw [show 32 - 15 = 17 from rfl, h, w27_15]; exact Int.add_comm _ _
  | 16, _, _ => by
    have h := turn26 h0 h1 16 (by decide) (by decide)
    rw [w26_16, show 32 - 16 = 16 from rfl] at h
    rw [show 32 - 16 = 16 from rfl, h, w27_16]; exact Int.add_comm _ _
  | 17, _, _ => by
    have h := turn26 h0 h1 15 (by decide) (by decide)
    rw [w26_15, show 32 - 15 = 17 from rfl] at h
    rw [show 32 - 17 = 15 from rfl, h, w27_17]; exact Int.add_comm _ _
  | 18, _, _ => by
    have h := turn26 h0 h1 14 (by decide) (by decide)
    rw [w26_14, show 32 - 14 = 18 from rfl] at h
    rw [show 32 - 18 = 14 from rfl, h, w27_18]; exact Int.add_comm _ _
  | 19, _, _ => by
    have h := turn26 h0 h1 13 (by decide) (by decide)
    rw [w26_13, show 32 - 13 = 19 from rfl] at h
    rw [show 32 - 19 = 13 from rfl, h, w27_19]; exact Int.add_comm _ _
  | 20, _, _ => by
    have h := turn26 h0 h1 12 (by decide) (by decide)
    rw [w26_12, show 32 - 12 = 20 from rfl] at h
    rw [show 32 - 20 = 12 from rfl, h, w27_20]; exact Int.add_comm _ _
  | 21, _, _ => by
    have h := turn26 h0 h1 11 (by decide) (by decide)
    rw [w26_11, show 32 - 11 = 21 from rfl] at h
    rw [show 32 - 21 = 11 from rfl, h, w27_21]; exact Int.add_comm _ _
  | 22, _, _ => by
    have h := turn26 h0 h1 10 (by decide) (by decide)
    rw [w26_10, show 32 - 10 = 22 from rfl] at h
    rw [show 32 - 22 = 10 from rfl, h, w27_22]; exact Int.add_comm _ _
  | 23, _, _ => by
    have h := turn26 h0 h1 9 (by decide) (by decide)
    rw [w26_9, show 32 - 9 = 23 from rfl] at h
    rw [show 32 - 23 = 9 from rfl, h, w27_23]; exact Int.add_comm _ _
  | 24, _, _ => by
    have h := turn26 h0 h1 8 (by decide) (by decide)
    rw [w26_8, show 32 - 8 = 24 from rfl] at h
    rw [show 32 - 24 = 8 from rfl, h, w27_24]; exact Int.add_comm _ _
  | 25, _, _ => by
    have h := turn26 h0 h1 7 (by decide) (by decide)
    rw [w26_7, show 32 - 7 = 25 from rfl] at h
    rw [show 32 - 25 = 7 from rfl, h, w27_25]; exact Int.add_comm _ _
  | 26, _, _ => by
    have h := turn26 h0 h1 6 (by decide) (by decide)
    rw [w26_6, show 32 - 6 = 26 from rfl] at h
    rw [show 32 - 26 = 6 from rfl, h, w27_26]; exact Int.add_comm _ _
  | 27, _, _ => by
    have h := turn26 h0 h1 5 (by decide) (by decide)
    rw [w26_5, show 32 - 5 = 27 from rfl] at h
    rw [show 32 - 27 = 5 from rfl, h, w27_27]; exact Int.add_comm _ _
  | 28, _, _ => by
    have h := turn26 h0 h1 4 (by decide) (by decide)
    rw [w26_4, show 32 - 4 = 28 from rfl] at h
    rw [show 32 - 28 = 4 from rfl, h, w27_28]; exact Int.add_comm _ _
  | 29, _, _ => by
    have h := turn26 h0 h1 3 (by decide) (by decide)
    rw [w26_3, show 32 - 3 = 29 from rfl] at h
    rw [show 32 - 29 = 3 from rfl, h, w27_29]; exact Int.add_comm _ _
  | 30, _, _ => by
    have h := turn26 h0 h1 2 (by decide) (by decide)
    rw [w26_2, show 32 - 2 = 30 from rfl] at h
    rw [show 32 - 30 = 2 from rfl, h, w27_30]; exact Int.add_comm _ _
  | 31, _, _ => by
    have h := turn26 h0 h1 1 (by decide) (by decide)
    rw [w26_1, show 32 - 1 = 31 from rfl] at h
    rw [show 32 - 31 = 1 from rfl, h, w27_31]; exact Int.add_comm _ _
  | k + 32, h, _ => by omega
/-- What a shift answers. -/
def shK (n : Int) : Nat := (n % 32).toNat
def shOn (op n : Int) : Bool := knownV op && !(n % 32 == 0)
def rV (op v n : Int) : Int := bif shOn op n then shW op v (shK n) else v
def rC (op v n : Int) (f : Bool) : Bool := bif shOn op n then shC op v (shK n) else f
def rP (op v n : Int) (f : Bool) : Bool := bif shOn op n && decide (28 ≤ op) then parV (shW op v (shK n)) else f
def rZ (op v n : Int) (f : Bool) : Bool := bif shOn op n && decide (28 ≤ op) then shW op v (shK n) == 0 else f
def rS (op v n : Int) (f : Bool) : Bool := bif shOn op n && decide (28 ≤ op) then b31 (shW op v (shK n)) else f
def rO (op v n : Int) (f : Bool) : Bool := bif shOn op n then shO op v (shK n) else f
theorem cut4 {w : Int} (h0 : 0 ≤ w) (h1 : w < 4294967296) : cutV w 4 = w := by show w % 4294967296 = w; omega
theorem top4 {w : Int} (h0 : 0 ≤ w) (h1 : w < 4294967296) : topV w 4 = b31 w := by
  show decide (4294967296 ≤ 2 * (w % 4294967296)) = decide (2147483648 ≤ w)
  rw [Bool.eq_iff_iff, decide_eq_true_eq, decide_eq_true_eq]; omega
theorem b31_div {w : Int} (h0 : 0 ≤ w) (h1 : w < 4294967296) : (w / 2147483648 == 1) = b31 w := beq_dec (by omega)
theorem b31_and {w : Int} (h0 : 0 ≤ w) (h1 : w < 4294967296) : (w / 2147483648 % 2 == 1) = b31 w := beq_dec (by omega)
theorem shK_lt (n : Int) : shK n < 32 := by unfold shK; omega
theorem shK_eq (n : Int) : ((shK n : Nat) : Int) = n % 32 := by unfold shK; omega
theorem rV_bd {op v n : Int} (h0 : 0 ≤ v) (h1 : v < 4294967296) : 0 ≤ rV op v n ∧ rV op v n < 4294967296 := by
  unfold rV
  cases h : shOn op n with
  | false => exact ⟨h0, h1⟩
  | true => exact sh_bd (Bool.and_eq_true_iff.1 h).1 h0 h1 _ (shK_lt n)
theorem shC28 (v : Int) {k : Nat} (h : 0 < k) : shC 28 v k = (v / 2 ^ (32 - k) % 2 == 1) := by cases k with
  | zero => omega
  | succ k => rfl
theorem shC29 (v : Int) {k : Nat} (h : 0 < k) : shC 29 v k = (v / 2 ^ (k - 1) % 2 == 1) := by cases k with
  | zero => omega
  | succ k => rfl
theorem shC30 (v : Int) {k : Nat} (h : 0 < k) : shC 30 v k = (v / 2 ^ (k - 1) % 2 == 1) := by cases k with
  | zero => omega
  | succ k => rfl
theorem shC26 (v : Int) {k : Nat} (h : 0 < k) : shC 26 v k = (shW 26 v k % 2 == 1) := by cases k with
  | zero => omega
  | succ k => rfl
theorem shC27 (v : Int) {k : Nat} (h : 0 < k) : shC 27 v k = b31 (shW 27 v k) := by cases k with
  | zero => omega
  | succ k => rfl
theorem neq01 {x y : Int} (hx : 0 ≤ x ∧ x ≤ 1) (hy : 0 ≤ y ∧ y ≤ 1) : (x != y) = ((x == 1) != (y == 1)) := by
  have h1 : x = 0 ∨ x = 1 := by omega
  have h2 : y = 0 ∨ y = 1 := by omega
  rcases h1 with rfl | rfl <;> rcases h2 with rfl | rfl <;> rfl
theorem and_mask31_64 {x : Int} (h0 : 0 ≤ x) (h1 : x < 18446744073709551616) : bits .and .u64 x 31 = x % 32 := by
  rw [u64_and _ _ h0 h1 (by omega) (by omega)]
  have : x.toNat &&& (31 : Int).toNat = x.toNat % 2 ^ 5 := Nat.and_two_pow_sub_one_eq_mod x.toNat 5
  rw [this]; omega
theorem r_off {op v n : Int} (h : shOn op n = false) (c p z s o : Bool) : rV op v n = v ∧ rC op v n c = c ∧ rP op v n p = p ∧ rZ op v n z = z ∧ rS op v n s = s ∧ rO op v n o = o := by
  simp [rV, rC, rP, rZ, rS, rO, h]
theorem r_on {op v n : Int} (h : shOn op n = true) (c p z s o : Bool) : rV op v n = shW op v (shK n) ∧ rC op v n c = shC op v (shK n) ∧ rO op v n o = shO op v (shK n) := by
  simp [rV, rC, rO, h]
theorem r_on3 {op v n : Int} (h : shOn op n = true) (h' : 28 ≤ op) (p z s : Bool) : rP op v n p = parV (shW op v (shK n)) ∧ rZ op v n z = (shW op v (shK n) == 0) ∧ rS op v n s = b31 (shW op v (shK n)) := by
  simp [rP, rZ, rS, h, h']
theorem r_on0 {op v n : Int} (h' : ¬ 28 ≤ op) (p z s : Bool) : rP op v n p = p ∧ rZ op v n z = z ∧ rS op v n s = s := by
  simp [rP, rZ, rS, h']
theorem shK_toNat (n : Int) : Int.toNat (n % 32) = shK n := rfl
theorem shK_min (n : Int) : min (Int.toNat (n % 32)) 32 = shK n := by have := shK_lt n; unfold shK at *; omega
theorem shK_min' (n : Int) : min (Int.toNat (32 - n % 32)) 32 = 32 - shK n := by unfold shK; omega
theorem shK_min1 (n : Int) : min (Int.toNat (n % 32 - 1)) 32 = shK n - 1 := by unfold shK; omega
end Go.Ev
