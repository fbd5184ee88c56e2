/- Words and doubles of numbers, as the states of laws have them. -/
import Derived.Test.YtpgdpoloipifeaaNRow
namespace Go.Ev
open Go
set_option linter.unusedVariables false
set_option linter.unusedSimpArgs false
def wordV (a : Int) : Int := bif Int.tmod a 3 == 0 then IntKind.wrap .u32 (Int.tdiv a 3) else selL (Int.tmod (IntKind.wrap .u32 (Int.tdiv a 3)) 16) 0 [0, 1, 2, 4, 8, 31, 127, 128, 255, 2147483647, 2147483648, 4294967295, 4294967294, 64, 100, 128]
def dblW (a : Int) : Int := bif Int.tmod a 4 == 0 then a else selL (Int.tmod (IntKind.wrap .u64 (Int.tdiv a 4)) 18) 0 [0, 9223372036854775808, 4607182418800017408, 13830554455654793216, 9218868437227405312, 18442240474082181120,
9221120237041090561, 9218868437227405313, 18444492273895866368, 1, 9223372036854775809, 9218868437227405311, 4746794007248502784, 13970166044105375744, 4746794007244308480, 4602678819172646912, 4613937818241073152, 4503599627370496]
theorem word_ix {a : Int} (h0 : 0 ≤ a) (h1 : a < 4294967296) : 0 ≤ Int.tmod (IntKind.wrap .u32 (Int.tdiv a 3)) 16 ∧ Int.tmod (IntKind.wrap .u32 (Int.tdiv a 3)) 16 < 16 := by
  have e : IntKind.wrap .u32 (Int.tdiv a 3) = a / 3 := by rw [Int.tdiv_eq_ediv_of_nonneg h0, wr_u32]; omega
  rw [e, Int.tmod_eq_emod_of_nonneg (by omega)]
  omega
theorem dblW_ix {a : Int} (h0 : 0 ≤ a) (h1 : a < 18446744073709551616) : 0 ≤ Int.tmod (IntKind.wrap .u64 (Int.tdiv a 4)) 18 ∧ Int.tmod (IntKind.wrap .u64 (Int.tdiv a 4)) 18 < 18 := by
  have e : IntKind.wrap .u64 (Int.tdiv a 4) = a / 4 := by rw [Int.tdiv_eq_ediv_of_nonneg h0, wr_u64]; omega
  rw [e, Int.tmod_eq_emod_of_nonneg (by omega)]
  omega
theorem selL_allW {p : Int → Prop} (h0 : p 0) : ∀ {xs : List Int} {i j : Int}, (∀ x ∈ xs, p x) → p (selL i j xs)
  | [], _, _, _ => h0
  | [x], _, _, h => h x (by simp)
  | x :: y :: l, i, j, h => by
    simp only [selL]
    cases i == j
    · exact selL_allW h0 (fun z hz => h z (List.mem_cons_of_mem _ hz))
    · exact h x (by simp)
theorem wordV_in (a : Int) : in32 (wordV a) = true := by
  unfold wordV
  cases Int.tmod a 3 == 0
  · exact selL_allW (p := fun x => in32 x = true) (by decide) (by decide)
  · exact in32_wr _
theorem dblW_in {a : Int} (h : in64 a = true) : in64 (dblW a) = true := by
  unfold dblW
  cases Int.tmod a 4 == 0
  · exact selL_allW (p := fun x => in64 x = true) (by decide) (by decide)
  · exact h
/-- A register of a state, near or not. -/
def stRV (b : Bool) (a : Int) : Int := bif b then Int.tmod a 300 else wordV a
theorem stRV_in (b : Bool) {a : Int} (h : in32 a = true) : in32 (stRV b a) = true := by
  unfold stRV
  cases b
  · exact wordV_in a
  · have := in32_iff.1 h
    rw [cond_true, in32_iff, Int.tmod_eq_emod_of_nonneg this.1]; omega
/-- A bit of a byte, told by its worth; a flag of a number. -/
def stBit (n p : Int) : Bool := bitsL .and .u8 (Int.fdiv n p) 1 == 1
def flagW (a p : Int) : Bool := bitsL .and .u32 (Int.fdiv (bitsL .or .u32 (IntKind.wrap .u32 (IntKind.wrap .u32 a * 37)) (IntKind.wrap .u32 (IntKind.wrap .u32 (bitsL .and .u8 a 8) * 128))) p) 1 == 1
def onV (d : Bool) (r size : Int) : Int := bif d then IntKind.wrap .u32 (r + IntKind.wrap .u32 (0 - IntKind.wrap .u32 size)) else IntKind.wrap .u32 (r + IntKind.wrap .u32 size)
/-- What a register holds; nought of others. -/
def heldV (n : Int) (l : List Int) : Int := bif isV n then selL n 0 l else 0
theorem selL_allH {p : Int → Prop} (h0 : p 0) : ∀ {xs : List Int} {i j : Int}, (∀ x ∈ xs, p x) → p (selL i j xs) := fun {xs i j} h => selL_allW h0 h
theorem heldV_in {l : List Int} (n : Int) (h : ∀ x ∈ l, in32 x = true) : in32 (heldV n l) = true := by
  unfold heldV
  cases isV n
  · rfl
  · exact selL_allW (p := fun x => in32 x = true) rfl h
/-- The place of an operand. -/
def ofV (base idx scale disp : Int) (l : List Int) : Int := IntKind.wrap .u32 (IntKind.wrap .u32 (heldV base l + IntKind.wrap .u32 (heldV idx l * IntKind.wrap .u32 scale)) + disp)
theorem ofV_in (base idx scale disp : Int) (l : List Int) : in32 (ofV base idx scale disp l) = true := in32_wr _
theorem onV_in (d : Bool) (r size : Int) : in32 (onV d r size) = true := by
  unfold onV
  cases d <;> exact in32_wr _
end Go.Ev
