/- StackOps: the reckoning of the law, and that it is true. -/
import Derived.Test.YtjcbgjakomalaaaCKn16
namespace Go.Proofs.Ytjcbgjakomalaaa.stackOps
open Go Go.Ev
set_option linter.unusedVariables false
set_option linter.unusedSimpArgs false
set_option maxRecDepth 100000
theorem form (a0 : Int) :
    evF Try.prog ΓK16 400 5 [.v (.int .i64 a0)] [] isT (fun _ _ => none) =
    (bif a0 == 23 then bif a0 == 23 then some true else bif a0 == 24 then some true else some (true == (a0 == 49))
    else
    bif a0 == 24 then bif a0 == 23 then some true else bif a0 == 24 then some true else some (true == (a0 == 49))
    else
    bif a0 == 23 then some ((a0 == 49) == true)
    else bif a0 == 24 then some ((a0 == 49) == true) else some ((a0 == 49) == (a0 == 49))) := by kernel_rfl
set_option maxHeartbeats 1000000 in
theorem pure (a0 : Int) (w0 : (Lit.int .i64 a0).wf = true) :
    evF Try.prog ΓK16 400 5 [.v (.int .i64 a0)] [] isT (fun _ _ => none) = some true := by
  rw [form]
  try simp only [bitsL_eq]
  by_cases h6 : a0 = 23
  · subst h6; rfl
  · by_cases h7 : a0 = 24
    · subst h7; rfl
    · by_cases h8 : a0 = 49
      · subst h8; rfl
      · have e6 : (a0 == 23) = false := by simpa using h6
        have e7 : (a0 == 24) = false := by simpa using h7
        have e8 : (a0 == 49) = false := by simpa using h8
        rw [e6, e7, e8]; rfl

end Go.Proofs.Ytjcbgjakomalaaa.stackOps
