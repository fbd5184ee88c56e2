/- Segments, in plain numbers. -/
import Derived.Test.YtllfmajphmfehaaEv8
namespace Go.Ev
open Go
set_option linter.unusedVariables false

def segR (b s : Int) : Bool := decide (b + s ≤ 4294967296)
def mayV (w : Int) (r wr x : Bool) : Bool := ((w == 0) && r) || (((w == 1) && wr) || ((w == 2) && x))
def clampN (n : Int) : Int := if 16 < (if 1 > n then 1 else n) then 16 else (if 1 > n then 1 else n)
theorem clampN_def (n : Int) : (if 16 < (if 1 > n then 1 else n) then 16 else (if 1 > n then 1 else n)) = clampN n := rfl
theorem clampN_bd (n : Int) : 1 ≤ clampN n ∧ clampN n ≤ 16 := by unfold clampN; split <;> split <;> omega
def atOk (b s : Int) (r wr x : Bool) (off n w : Int) : Bool := mayV w r wr x && (segR b s && decide (off + clampN n ≤ s))
def atE (b s : Int) (r wr x : Bool) (off n w : Int) : Int := bif mayV w r wr x then (bif segR b s && decide (off + clampN n ≤ s) then 0 else 24) else 25
def atP (b s : Int) (r wr x : Bool) (off n w : Int) : Int := bif atOk b s r wr x off n w then (b + off) % 4294967296 else 0
def withinV (b s p : Int) : Bool := decide (p ≥ b) && decide (p < b + s)
def apartV (b s b' s' : Int) : Bool := segR b s && (segR b' s' && ((s == 0) || ((s' == 0) || (decide (b + s ≤ b') || decide (b' + s' ≤ b)))))

theorem end_eq {b s : Int} (h0 : 0 ≤ b) (h1 : b < 4294967296) (h2 : 0 ≤ s) (h3 : s < 4294967296) :
    IntKind.wrap IntKind.u64 (IntKind.wrap IntKind.u64 b + IntKind.wrap IntKind.u64 s) = b + s := by
  rw [wr_u64_id h0 (by omega), wr_u64_id h2 (by omega), wr_u64_id (by omega) (by omega)]
theorem fit_eq {o : Int} (n : Int) (h0 : 0 ≤ o) (h1 : o < 4294967296) :
    IntKind.wrap IntKind.u64 (IntKind.wrap IntKind.u64 o + IntKind.wrap IntKind.u64 (if 16 < (if 1 > n then 1 else n) then 16 else (if 1 > n then 1 else n))) = o + clampN n := by
  have h := clampN_bd n
  change IntKind.wrap IntKind.u64 (IntKind.wrap IntKind.u64 o + IntKind.wrap IntKind.u64 (clampN n)) = o + clampN n
  rw [wr_u64_id h0 (by omega), wr_u64_id (n := clampN n) (by omega) (by omega), wr_u64_id (by omega) (by omega)]
theorem gt_not (a b : Int) : decide (a > b) = !decide (a ≤ b) := by rw [Bool.eq_iff_iff]; simp
theorem at_in {b s : Int} {r wr x : Bool} {off n w : Int} : in32 (atP b s r wr x off n w) = true := by
  rw [in32_iff]; unfold atP; cases atOk b s r wr x off n w
  · simp only [cond_false]; omega
  · simp only [cond_true]; omega
theorem apart_no {b s c u p : Int} (h : apartV b s c u = true) (hp : withinV b s p = true) : withinV c u p = false := by
  unfold apartV at h; unfold withinV at hp ⊢; unfold segR at h
  simp only [Bool.and_eq_true, Bool.or_eq_true, decide_eq_true_eq, beq_iff_eq] at h hp
  rw [Bool.eq_false_iff]
  simp only [ne_eq, Bool.and_eq_true, decide_eq_true_eq]
  omega
theorem apart_symm {b s c u : Int} (h : apartV b s c u = true) : apartV c u b s = true := by
  unfold apartV at h ⊢; unfold segR at h ⊢
  simp only [Bool.and_eq_true, Bool.or_eq_true, decide_eq_true_eq, beq_iff_eq] at h ⊢
  omega
end Go.Ev
