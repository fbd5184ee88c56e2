/- Contracts: words, doubles, flags of numbers. -/
import Derived.Test.YtjcbgjakomalaaaCMm6
import Derived.Test.YtjcbgjakomalaaaNSeat
namespace Go.Proofs.Ytjcbgjakomalaaa
open Go Go.Ev
set_option linter.unusedVariables false
set_option linter.unusedSimpArgs false
set_option maxRecDepth 100000
theorem word_form (a : Int) :
    evF Try.prog ΓM6 400 78 [.v (.int .u32 a)] [] (fun x _ => some x) (fun _ _ => none) =
    (bif Int.tmod a 3 == 0 then some (Sv.v (Value.int IntKind.u32 (IntKind.wrap IntKind.u32 (Int.tdiv a 3))))
    else
    bif
    decide (0 ≤ Int.tmod (IntKind.wrap IntKind.u32 (Int.tdiv a 3)) 16) &&
    decide (Int.tmod (IntKind.wrap IntKind.u32 (Int.tdiv a 3)) 16 < 16) then
    some
    (Sv.v
    (Value.int IntKind.u32
    (selL (Int.tmod (IntKind.wrap IntKind.u32 (Int.tdiv a 3)) 16) 0
    [0, 1, 2, 4, 8, 31, 127, 128, 255, 2147483647, 2147483648, 4294967295, 4294967294, 64, 100, 128])))
    else none) := by kernel_rfl
theorem word_nice (a : Int) (hg : (in32 a) = true) :
    evF Try.prog ΓM6 400 78 [.v (.int .u32 a)] [] (fun x _ => some x) (fun _ _ => none) = some (.v (.int .u32 (wordV a))) := by
  rw [word_form]
  try simp only [bitsL_eq]
  unfold wordV
  have hb := in32_iff.1 hg
  have h1 := word_ix hb.1 hb.2
  have e1 : decide (0 ≤ Int.tmod (IntKind.wrap IntKind.u32 (Int.tdiv a 3)) 16) = true := decide_eq_true h1.1
  have e2 : decide (Int.tmod (IntKind.wrap IntKind.u32 (Int.tdiv a 3)) 16 < 16) = true := decide_eq_true h1.2
  rw [e1, e2]
  cases Int.tmod a 3 == 0 <;> rfl
def wordS : Nice := fun R args kv => match args with
  | [.v (.int .u32 a)] => bif in32 a then kv (.v (.int .u32 (wordV a))) else none
  | _ => none
theorem wordS_ok : NiceOk Try.prog ΓM6 400 78 wordS := by
  intro R args kv r h
  unfold wordS at h
  split at h
  · obtain ⟨hg, h⟩ := cond_some h
    exact ⟨_, h, rfl, rfl, word_nice _ hg⟩
  · cases h
theorem dbl_form (a : Int) :
    evF Try.prog ΓM6 400 79 [.v (.int .u64 a)] [] (fun x _ => some x) (fun _ _ => none) =
    (bif Int.tmod a 4 == 0 then some (Sv.v (Value.int IntKind.u64 a))
    else
    bif
    decide (0 ≤ Int.tmod (IntKind.wrap IntKind.u64 (Int.tdiv a 4)) 18) &&
    decide (Int.tmod (IntKind.wrap IntKind.u64 (Int.tdiv a 4)) 18 < 18) then
    some
    (Sv.v
    (Value.int IntKind.u64
    (selL (Int.tmod (IntKind.wrap IntKind.u64 (Int.tdiv a 4)) 18) 0
    [0, 9223372036854775808, 4607182418800017408, 13830554455654793216, 9218868437227405312, 18442240474082181120,
    9221120237041090561, 9218868437227405313, 18444492273895866368, 1, 9223372036854775809, 9218868437227405311,
    4746794007248502784, 13970166044105375744, 4746794007244308480, 4602678819172646912, 4613937818241073152,
    4503599627370496])))
    else none) := by kernel_rfl
theorem dbl_nice (a : Int) (hg : (in64 a) = true) :
    evF Try.prog ΓM6 400 79 [.v (.int .u64 a)] [] (fun x _ => some x) (fun _ _ => none) = some (.v (.int .u64 (dblW a))) := by
  rw [dbl_form]
  try simp only [bitsL_eq]
  unfold dblW
  have hb := in64_iff.1 hg
  have h1 := dblW_ix hb.1 hb.2
  have e1 : decide (0 ≤ Int.tmod (IntKind.wrap IntKind.u64 (Int.tdiv a 4)) 18) = true := decide_eq_true h1.1
  have e2 : decide (Int.tmod (IntKind.wrap IntKind.u64 (Int.tdiv a 4)) 18 < 18) = true := decide_eq_true h1.2
  rw [e1, e2]
  cases Int.tmod a 4 == 0 <;> rfl
def dblS : Nice := fun R args kv => match args with
  | [.v (.int .u64 a)] => bif in64 a then kv (.v (.int .u64 (dblW a))) else none
  | _ => none
theorem dblS_ok : NiceOk Try.prog ΓM6 400 79 dblS := by
  intro R args kv r h
  unfold dblS at h
  split at h
  · obtain ⟨hg, h⟩ := cond_some h
    exact ⟨_, h, rfl, rfl, dbl_nice _ hg⟩
  · cases h
def ΓSt0 : Env := ((ΓM6.add 78 (pureSpec wordS)).add 79 (pureSpec dblS))
theorem ΓSt0_ok : EnvOk Try.prog X0 ΓSt0 := ((ΓM6_ok.add (by kernel_rfl) (specOk_of_nice ΓM6_ok wordS_ok)).add (by kernel_rfl) (specOk_of_nice ΓM6_ok dblS_ok))
end Go.Proofs.Ytjcbgjakomalaaa
