/- AluOps: the reckoning of the law, and that it is true. -/
import Derived.Test.YtpgdpoloipifeaaCIs
import Derived.Test.YtpgdpoloipifeaaNStr
namespace Go.Proofs.Ytpgdpoloipifeaa.aluOps
open Go Go.Ev
set_option linter.unusedVariables false
set_option linter.unusedSimpArgs false
set_option maxRecDepth 100000
theorem form (a0 : Int) :
    evF Try.prog ΓIs 400 9 [.v (.int .i64 a0)] [] isT (fun _ _ => none) =
    (some (isAluV a0 == isAluV a0)) := by
  kernel_rfl
set_option maxHeartbeats 1000000 in
theorem pure (a0 : Int) (w0 : (Lit.int .i64 a0).wf = true) :
    evF Try.prog ΓIs 400 9 [.v (.int .i64 a0)] [] isT (fun _ _ => none) = some true := by
  rw [form a0 ]
  rw [beq_self_eq_true]
end Go.Proofs.Ytpgdpoloipifeaa.aluOps
