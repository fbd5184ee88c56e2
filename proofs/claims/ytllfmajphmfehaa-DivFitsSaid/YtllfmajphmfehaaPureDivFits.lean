/- DivFits: the reckoning of the law, and that it is true. -/
import Derived.Test.YtllfmajphmfehaaCMul
namespace Go.Proofs.Ytllfmajphmfehaa.divFits
open Go Go.Ev
set_option linter.unusedVariables false
set_option linter.unusedSimpArgs false
set_option maxRecDepth 100000
theorem form (a0 : Int) (a1 : Int) (a2 : Int) :
    evF Try.prog ΓMul 400 6 [.v (.int .u32 a0), .v (.int .u32 a1), .v (.int .u32 a2)] [] isT (fun _ _ => none) =
    (bif in32 a0 && (in32 a1 && in32 a2) then
      bif !decide (a0 < a2) == decide (a0 < a2) then some false
      else
        bif !decide (a0 < a2) then
          bif divR a0 a1 a2 == 0 then some true
          else bif decide (a0 < a2) then some (decide (divR a0 a1 a2 < a2)) else some false
        else bif decide (a0 < a2) then some (decide (divR a0 a1 a2 < a2)) else some false
    else none) := by kernel_rfl
theorem pure (a0 : Int) (a1 : Int) (a2 : Int) (w0 : (Lit.int .u32 a0).wf = true) (w1 : (Lit.int .u32 a1).wf = true) (w2 : (Lit.int .u32 a2).wf = true) :
    evF Try.prog ΓMul 400 6 [.v (.int .u32 a0), .v (.int .u32 a1), .v (.int .u32 a2)] [] isT (fun _ _ => none) = some true := by
  rw [form]
  have b0 := wf_u32 w0
  have b1 := wf_u32 w1
  have g0 := in32_iff.2 b0
  have g1 := in32_iff.2 b1
  have b2 := wf_u32 w2
  have g2 := in32_iff.2 b2
  simp only [g0, g1, g2, Bool.and_self, cond_true]
  by_cases h : a0 < a2
  · have e : divR a0 a1 a2 < a2 := by
      unfold divR; rw [if_pos h]; exact Int.emod_lt_of_pos _ (by omega)
    simp [h, e]
  · have e : divR a0 a1 a2 = 0 := by unfold divR; rw [if_neg h]
    simp [h, e]
end Go.Proofs.Ytllfmajphmfehaa.divFits
