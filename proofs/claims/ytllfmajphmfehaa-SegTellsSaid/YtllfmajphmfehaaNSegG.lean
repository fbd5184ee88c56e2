/- Segments, as the code reckons them: for every number. -/
import Derived.Test.YtllfmajphmfehaaNSeg
namespace Go.Ev
open Go
set_option linter.unusedVariables false

def endG (b s : Int) : Int := IntKind.wrap IntKind.u64 (IntKind.wrap IntKind.u64 b + IntKind.wrap IntKind.u64 s)
def segG (b s : Int) : Bool := decide (endG b s ≤ 4294967296)
def fitG (s off n : Int) : Bool := decide (IntKind.wrap IntKind.u64 (IntKind.wrap IntKind.u64 off + IntKind.wrap IntKind.u64 (clampN n)) > IntKind.wrap IntKind.u64 s)
def okG (b s : Int) (r wr x : Bool) (off n w : Int) : Bool := mayV w r wr x && (segG b s && !fitG s off n)
def eG (b s : Int) (r wr x : Bool) (off n w : Int) : Int := bif mayV w r wr x then (bif segG b s && !fitG s off n then 0 else 24) else 25
def pG (b s : Int) (r wr x : Bool) (off n w : Int) : Int := bif okG b s r wr x off n w then IntKind.wrap IntKind.u32 (b + off) else 0
def inG (b s p : Int) : Bool := decide (IntKind.wrap IntKind.u64 p ≥ IntKind.wrap IntKind.u64 b) && decide (IntKind.wrap IntKind.u64 p < endG b s)
def apG (b s c u : Int) : Bool := segG b s && (segG c u && ((s == 0) || ((u == 0) || (decide (endG b s ≤ IntKind.wrap IntKind.u64 c) || decide (endG c u ≤ IntKind.wrap IntKind.u64 b)))))

theorem segG_eq {b s : Int} (h0 : 0 ≤ b) (h1 : b < 4294967296) (h2 : 0 ≤ s) (h3 : s < 4294967296) : segG b s = segR b s := by
  unfold segG segR endG; rw [end_eq h0 h1 h2 h3]
theorem inG_eq {b s p : Int} (h0 : 0 ≤ b) (h1 : b < 4294967296) (h2 : 0 ≤ s) (h3 : s < 4294967296) (h4 : 0 ≤ p) (h5 : p < 4294967296) : inG b s p = withinV b s p := by
  unfold inG withinV endG
  rw [end_eq h0 h1 h2 h3, wr_u64_id h4 (by omega), wr_u64_id h0 (by omega)]
theorem okG_iff {b s : Int} {r wr x : Bool} {off n w : Int} (h0 : 0 ≤ b) (h1 : b < 4294967296) (h2 : 0 ≤ s) (h3 : s < 4294967296) (h4 : 0 ≤ off) (h5 : off < 4294967296) :
    okG b s r wr x off n w = true ↔ mayV w r wr x = true ∧ b + s ≤ 4294967296 ∧ off + clampN n ≤ s := by
  have hc := clampN_bd n
  unfold okG fitG
  rw [segG_eq h0 h1 h2 h3]
  unfold segR
  rw [wr_u64_id h4 (by omega), wr_u64_id (n := clampN n) (by omega) (by omega), wr_u64_id (by omega) (by omega), wr_u64_id h2 (by omega)]
  simp
theorem eG_zero {b s : Int} {r wr x : Bool} {off n w : Int} : (eG b s r wr x off n w == 0) = okG b s r wr x off n w := by
  unfold eG okG
  cases mayV w r wr x <;> cases segG b s <;> cases fitG s off n <;> rfl
theorem pG_not {b s : Int} {r wr x : Bool} {off n w : Int} (h : okG b s r wr x off n w = false) : pG b s r wr x off n w = 0 := by unfold pG; rw [h]; rfl
theorem pG_ok {b s : Int} {r wr x : Bool} {off n w : Int} (h : okG b s r wr x off n w = true) : pG b s r wr x off n w = IntKind.wrap IntKind.u32 (b + off) := by unfold pG; rw [h]; rfl
theorem segHold {b s off k : Int} {wr x : Bool} (h0 : 0 ≤ b) (h1 : b < 4294967296) (h2 : 0 ≤ s) (h3 : s < 4294967296) (h4 : 0 ≤ off) (h5 : off < 4294967296) (k0 : 1 ≤ k) (k1 : k ≤ 16)
    (h : okG b s true wr x off k 0 = true) : (∀ i, 0 ≤ i → i < k → inG b s (IntKind.wrap IntKind.u32 (pG b s true wr x off k 0 + i)) = true) ∧ IntKind.wrap IntKind.u32 (pG b s true wr x off k 0 - b) = off := by
  obtain ⟨_, e1, e2⟩ := (okG_iff h0 h1 h2 h3 h4 h5).1 h
  have ck : clampN k = k := by unfold clampN; split <;> split <;> omega
  rw [ck] at e2
  rw [pG_ok h, wr_u32_id (n := b + off) (by omega) (by omega)]
  refine ⟨fun i i0 i1 => ?_, ?_⟩
  · rw [wr_u32_id (n := b + off + i) (by omega) (by omega), inG_eq h0 h1 h2 h3 (by omega) (by omega)]
    unfold withinV
    simp only [Bool.and_eq_true, decide_eq_true_eq]
    omega
  · rw [wr_u32_id (by omega) (by omega)]; omega
end Go.Ev
