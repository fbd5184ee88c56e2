/- DivTells: the reckoning of the law, and that it is true. -/
import Derived.Test.YtllfmajphmfehaaCMul
namespace Go.Proofs.Ytllfmajphmfehaa.divTells
open Go Go.Ev
set_option linter.unusedVariables false
set_option linter.unusedSimpArgs false
set_option maxRecDepth 100000
theorem form (a0 : Int) (a1 : Int) (a2 : Int) (a3 : Int) (a4 : Int) (a5 : Int) :
    evF Try.prog ΓMul 400 12 [.v (.int .u32 a0), .v (.int .u32 a1), .v (.int .u32 a2), .v (.int .u8 a3), .v (.int .u8 a4), .v (.int .u8 a5)] [] isT (fun _ _ => none) =
    (bif in32 a0 && in8 a3 then
      bif in32 a1 && in8 a4 then
        bif in32 a2 && in8 a5 then
          bif in32 (nearV a0 a3) && (in32 (nearV a1 a4) && in32 (nearV a2 a5)) then
            bif in32 (nearV a0 a3) && (in32 (nearV a1 a4) && in32 (nearV a2 a5)) then
              bif in32 (nearV a0 a3) && (in32 (nearV a1 a4) && in32 (nearV a2 a5)) then
                bif in32 (nearV a0 a3) && (in32 (nearV a1 a4) && in32 (nearV a2 a5)) then
                  bif divQ (nearV a0 a3) (nearV a1 a4) (nearV a2 a5) == divQ (nearV a0 a3) (nearV a1 a4) (nearV a2 a5) then
                    bif
                        divR (nearV a0 a3) (nearV a1 a4) (nearV a2 a5) ==
                          divR (nearV a0 a3) (nearV a1 a4) (nearV a2 a5) then
                      bif decide (nearV a0 a3 < nearV a2 a5) == decide (nearV a0 a3 < nearV a2 a5) then
                        bif
                            idivQ (nearV a0 a3) (nearV a1 a4) (nearV a2 a5) ==
                              idivQ (nearV a0 a3) (nearV a1 a4) (nearV a2 a5) then
                          bif
                              idivR (nearV a0 a3) (nearV a1 a4) (nearV a2 a5) ==
                                idivR (nearV a0 a3) (nearV a1 a4) (nearV a2 a5) then
                            some
                              (idivOk (nearV a0 a3) (nearV a1 a4) (nearV a2 a5) ==
                                idivOk (nearV a0 a3) (nearV a1 a4) (nearV a2 a5))
                          else some false
                        else some false
                      else some false
                    else some false
                  else some false
                else none
              else none
            else none
          else none
        else none
      else none
    else none) := by kernel_rfl
theorem pure (a0 : Int) (a1 : Int) (a2 : Int) (a3 : Int) (a4 : Int) (a5 : Int) (w0 : (Lit.int .u32 a0).wf = true) (w1 : (Lit.int .u32 a1).wf = true) (w2 : (Lit.int .u32 a2).wf = true) (w3 : (Lit.int .u8 a3).wf = true) (w4 : (Lit.int .u8 a4).wf = true) (w5 : (Lit.int .u8 a5).wf = true) :
    evF Try.prog ΓMul 400 12 [.v (.int .u32 a0), .v (.int .u32 a1), .v (.int .u32 a2), .v (.int .u8 a3), .v (.int .u8 a4), .v (.int .u8 a5)] [] isT (fun _ _ => none) = some true := by
  rw [form]
  have g0 := in32_iff.2 (wf_u32 w0)
  have g1 := in32_iff.2 (wf_u32 w1)
  have g2 := in32_iff.2 (wf_u32 w2)
  have g3 := in8_iff.2 (wf_u8 w3)
  have g4 := in8_iff.2 (wf_u8 w4)
  have g5 := in8_iff.2 (wf_u8 w5)
  have n0 := nearV_in (k := a3) (wf_u32 w0).1 (wf_u32 w0).2
  have n1 := nearV_in (k := a4) (wf_u32 w1).1 (wf_u32 w1).2
  have n2 := nearV_in (k := a5) (wf_u32 w2).1 (wf_u32 w2).2
  simp only [g0, g1, g2, g3, g4, g5, n0, n1, n2, Bool.and_self, cond_true, beq_self_eq_true]
end Go.Proofs.Ytllfmajphmfehaa.divTells
