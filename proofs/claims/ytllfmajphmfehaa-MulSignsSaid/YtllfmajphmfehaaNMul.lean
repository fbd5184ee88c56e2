/- Products and quotients, in plain numbers. -/
import Derived.Test.YtllfmajphmfehaaEv8
namespace Go.Ev
open Go
set_option linter.unusedVariables false

theorem mul_bd {a b : Int} (h0 : 0 ≤ a) (h1 : a < 4294967296) (h2 : 0 ≤ b) (h3 : b < 4294967296) : 0 ≤ a * b ∧ a * b ≤ 18446744065119617025 := by
  refine ⟨Int.mul_nonneg h0 h2, ?_⟩
  have := Int.mul_le_mul (show a ≤ 4294967295 by omega) (show b ≤ 4294967295 by omega) h2 (by omega)
  omega
theorem smul_bd {a b : Int} (h0 : -2147483648 ≤ a) (h1 : a < 2147483648) (h2 : -2147483648 ≤ b) (h3 : b < 2147483648) : -4611686018427387904 ≤ a * b ∧ a * b ≤ 4611686018427387904 := by
  have h : (a * b).natAbs ≤ 4611686018427387904 := by
    rw [Int.natAbs_mul]
    have := Nat.mul_le_mul (show a.natAbs ≤ 2147483648 by omega) (show b.natAbs ≤ 2147483648 by omega)
    omega
  omega

def mulHi (a b : Int) : Int := a * b / 4294967296
def mulLo (a b : Int) : Int := a * b % 4294967296
theorem mulHi_bd {a b : Int} (h0 : 0 ≤ a) (h1 : a < 4294967296) (h2 : 0 ≤ b) (h3 : b < 4294967296) : 0 ≤ mulHi a b ∧ mulHi a b < 4294967296 := by
  have := mul_bd h0 h1 h2 h3; unfold mulHi; omega
theorem mulLo_bd (a b : Int) : 0 ≤ mulLo a b ∧ mulLo a b < 4294967296 := by unfold mulLo; omega
def imulHi (a b : Int) : Int := s32 a * s32 b / 4294967296 % 4294967296
def imulLo (a b : Int) : Int := s32 a * s32 b % 4294967296
def imulOver (a b : Int) : Bool := !(decide (-2147483648 ≤ s32 a * s32 b) && decide (s32 a * s32 b < 2147483648))

def divQ (a b c : Int) : Int := if a < c then (a * 4294967296 + b) / c else 0
def divR (a b c : Int) : Int := if a < c then (a * 4294967296 + b) % c else 0

def idivN (a b : Int) : Int := s64 (a * 4294967296 + b)
def idivOk (a b c : Int) : Bool :=
  !(s32 c == 0) && (!(idivN a b == -9223372036854775808 && s32 c == -1) && (decide (-2147483648 ≤ (idivN a b).tdiv (s32 c)) && decide ((idivN a b).tdiv (s32 c) < 2147483648)))
def idivQ (a b c : Int) : Int := if idivOk a b c then (idivN a b).tdiv (s32 c) % 4294967296 else 0
def idivR (a b c : Int) : Int := if idivOk a b c then (idivN a b).tmod (s32 c) % 4294967296 else 0

theorem div_lt {a b c : Int} (h0 : 0 ≤ a) (h1 : a < c) (h2 : 0 ≤ b) (h3 : b < 4294967296) : 0 ≤ (a * 4294967296 + b) / c ∧ (a * 4294967296 + b) / c < 4294967296 := by
  have hc : 0 < c := by omega
  refine ⟨Int.ediv_nonneg (by omega) (by omega), Int.ediv_lt_of_lt_mul hc ?_⟩
  omega

theorem idivN_bd {a b : Int} (h0 : 0 ≤ a) (h1 : a < 4294967296) (h2 : 0 ≤ b) (h3 : b < 4294967296) : -9223372036854775808 ≤ idivN a b ∧ idivN a b < 9223372036854775808 :=
  s64_bd (by omega) (by omega)

theorem natAbs_tdiv_le' (n d : Int) : (n.tdiv d).natAbs ≤ n.natAbs := by rw [Int.natAbs_tdiv]; exact Nat.div_le_self _ _
theorem tdiv_in {n d : Int} (h0 : -9223372036854775808 ≤ n) (h1 : n < 9223372036854775808) (h2 : ¬ (n = -9223372036854775808 ∧ d = -1)) : -9223372036854775808 ≤ n.tdiv d ∧ n.tdiv d < 9223372036854775808 := by
  have h := natAbs_tdiv_le' n d
  by_cases e : n = -9223372036854775808
  · have hd : d ≠ -1 := fun h' => h2 ⟨e, h'⟩
    subst e
    refine ⟨by omega, ?_⟩
    rcases Int.lt_or_le ((-9223372036854775808 : Int).tdiv d) 9223372036854775808 with h' | h'
    · exact h'
    · exfalso
      have e1 : ((-9223372036854775808 : Int).tdiv d).natAbs = 9223372036854775808 := by omega
      rw [Int.natAbs_tdiv] at e1
      have e2 : d.natAbs = 1 := by
        have e3 : (-9223372036854775808 : Int).natAbs = 9223372036854775808 := rfl
        rw [e3] at e1
        by_cases hz : d.natAbs = 0
        · rw [hz] at e1; cases e1
        · by_cases h1 : d.natAbs = 1
          · exact h1
          · exfalso
            have h5 := Nat.div_lt_self (n := 9223372036854775808) (k := d.natAbs) (by omega) (by omega)
            have e5 : 9223372036854775808 / d.natAbs = 9223372036854775808 := e1
            rw [e5] at h5
            exact absurd h5 (Nat.lt_irrefl _)
      have e3 : d = 1 := by omega
      subst e3
      simp at h'
  · omega
theorem tmod_in {n d : Int} (h0 : -9223372036854775808 ≤ n) (h1 : n < 9223372036854775808) (hd0 : -2147483648 ≤ d) (hd1 : d < 2147483648) (hd : d ≠ 0) : -2147483648 < n.tmod d ∧ n.tmod d < 2147483648 := by
  have h : (n.tmod d).natAbs < d.natAbs := by rw [Int.natAbs_tmod]; exact Nat.mod_lt _ (by omega)
  omega

def nearV (v k : Int) : Int :=
  if k % 9 = 0 then v else if k % 9 = 1 then 0 else if k % 9 = 2 then 1 else if k % 9 = 3 then 4294967295 else if k % 9 = 4 then 2147483648 else if k % 9 = 5 then 2147483647 else if k % 9 = 6 then 2
  else if k % 9 = 7 then v % 16 else (0 - v % 16) % 4294967296
theorem nearV_in {v k : Int} (h0 : 0 ≤ v) (h1 : v < 4294967296) : in32 (nearV v k) = true := by
  rw [in32_iff]; unfold nearV; repeat' split
  all_goals omega
end Go.Ev
