/- Bytes that are stored and loaded. -/
import Derived.Test.YtjcbgjakomalaaaNSeat
namespace Go.Ev
open Go
set_option linter.unusedVariables false
set_option linter.unusedSimpArgs false
/-- Of a byte that is stored only the lowest bits count. -/
theorem stV_lo (M : Int → Int) (b s off r : Int) (may : Bool) : stV M b s off 1 (IntKind.wrap .u64 (IntKind.wrap .u8 (Int.fdiv r 1))) may = stV M b s off 1 (IntKind.wrap .u64 r) may := by
  have e : IntKind.wrap .u8 (Int.fdiv (IntKind.wrap .u64 (IntKind.wrap .u8 (Int.fdiv r 1))) (2 ^ (8 * 0))) = IntKind.wrap .u8 (Int.fdiv (IntKind.wrap .u64 r) (2 ^ (8 * 0))) := by
    simp only [Nat.mul_zero, Int.pow_zero, Int.fdiv_one, wr_u8, wr_u64]; omega
  unfold stV
  show (bif _ then updM M _ (IntKind.wrap .u8 (Int.fdiv (IntKind.wrap .u64 (IntKind.wrap .u8 (Int.fdiv r 1))) (2 ^ (8 * 0)))) else M) = (bif _ then updM M _ (IntKind.wrap .u8 (Int.fdiv (IntKind.wrap .u64 r) (2 ^ (8 * 0)))) else M)
  rw [e]
theorem in64_or {a b : Int} (ha : in64 a = true) (hb : in64 b = true) : in64 (bits .or .u64 a b) = true := by
  rw [in64_iff] at ha hb ⊢
  rw [u64_or _ _ ha.1 ha.2 hb.1 hb.2]
  have : a.toNat ||| b.toNat < 2 ^ 64 := Nat.or_lt_two_pow (by omega) (by omega)
  omega
theorem ldGo_in (M : Int → Int) (a : Int) : ∀ (n : Nat) (v : Int), in64 v = true → in64 (ldGo M a n v) = true
  | 0, v, h => h
  | n + 1, v, h => ldGo_in M a n _ (by rw [bitsL_eq]; exact in64_or (in64_wr _) (in64_wr _))
theorem ldV_in (M : Int → Int) (b s off size : Int) (may : Bool) : in64 (ldV M b s off size may) = true := by
  unfold ldV
  cases segE b s off (bytesN size) may == 0
  · rfl
  · exact ldGo_in _ _ _ _ rfl
theorem ld_lo (M : Int → Int) (b s off size : Int) (may : Bool) : bitsL .and .u64 (ldV M b s off size may) 255 = IntKind.wrap .u8 (ldV M b s off size may) := by
  rw [bitsL_eq, and_255_64 (ldV_in _ _ _ _ _ _), wr_u8]
end Go.Ev
