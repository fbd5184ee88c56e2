/- FpuOps: the reckoning of the law, and that it is true. -/
import Derived.Test.YtpgdpoloipifeaaCKn19
import Derived.Test.YtpgdpoloipifeaaNStr
namespace Go.Proofs.Ytpgdpoloipifeaa.fpuOps
open Go Go.Ev
set_option linter.unusedVariables false
set_option linter.unusedSimpArgs false
set_option maxRecDepth 100000
theorem form (a0 : Int)
    (x1 : Bool) (ex1 : x1 = (decide (a0 ≥ 51)))
    (x2 : Bool) (ex2 : x2 = (decide (a0 ≤ 61))) :
    evF Try.prog ΓK19 400 6 [.v (.int .i64 a0)] [] isT (fun _ _ => none) =
    (bif x1 then bif x1 then some (x2 == x2) else some (x2 == false) else bif x1 then some (false == x2) else some true) := by
  subst ex1
  subst ex2
  kernel_rfl
set_option maxHeartbeats 1000000 in
theorem pure (a0 : Int) (w0 : (Lit.int .i64 a0).wf = true) :
    evF Try.prog ΓK19 400 6 [.v (.int .i64 a0)] [] isT (fun _ _ => none) = some true := by
  obtain ⟨x1, ex1⟩ : ∃ x : Bool, x = (decide (a0 ≥ 51)) := ⟨_, rfl⟩
  obtain ⟨x2, ex2⟩ : ∃ x : Bool, x = (decide (a0 ≤ 61)) := ⟨_, rfl⟩
  rw [form a0 x1 ex1 x2 ex2]
  cases x1 <;> cases x2 <;> rfl
end Go.Proofs.Ytpgdpoloipifeaa.fpuOps
