/- MulTells: the reckoning of the law, and that it is true. -/
import Derived.Test.YtllfmajphmfehaaCMul
namespace Go.Proofs.Ytllfmajphmfehaa.mulTells
open Go Go.Ev
set_option linter.unusedVariables false
set_option linter.unusedSimpArgs false
set_option maxRecDepth 100000
theorem form (a0 : Int) (a1 : Int) (a2 : Int) (a3 : Int) (a4_0 : Bool) (a4_1 : Bool) (a4_2 : Bool) (a4_3 : Bool) (a4_4 : Bool) (a4_5 : Bool) :
    evF Try.prog ΓMul 400 8 [.v (.int .u32 a0), .v (.int .u32 a1), .v (.int .u8 a2), .v (.int .u8 a3), .agg [.v (.bool a4_0), .v (.bool a4_1), .v (.bool a4_2), .v (.bool a4_3), .v (.bool a4_4), .v (.bool a4_5)]] [] isT (fun _ _ => none) =
    (bif in32 a0 && in8 a2 then
      bif in32 a1 && in8 a3 then
        bif in32 (nearV a0 a2) && in32 (nearV a1 a3) then
          bif in32 (nearV a0 a2) && in32 (nearV a1 a3) then
            bif in32 (nearV a0 a2) && in32 (nearV a1 a3) then
              bif in32 (nearV a0 a2) && in32 (nearV a1 a3) then
                bif mulHi (nearV a0 a2) (nearV a1 a3) == mulHi (nearV a0 a2) (nearV a1 a3) then
                  bif mulLo (nearV a0 a2) (nearV a1 a3) == mulLo (nearV a0 a2) (nearV a1 a3) then
                    bif
                        (mulHi (nearV a0 a2) (nearV a1 a3) != 0) == (mulHi (nearV a0 a2) (nearV a1 a3) != 0) &&
                          (a4_1 == a4_1 &&
                            (a4_2 == a4_2 &&
                              (a4_3 == a4_3 &&
                                ((mulHi (nearV a0 a2) (nearV a1 a3) != 0) == (mulHi (nearV a0 a2) (nearV a1 a3) != 0) &&
                                  (a4_5 == a4_5 && true))))) then
                      bif imulHi (nearV a0 a2) (nearV a1 a3) == imulHi (nearV a0 a2) (nearV a1 a3) then
                        bif imulLo (nearV a0 a2) (nearV a1 a3) == imulLo (nearV a0 a2) (nearV a1 a3) then
                          some
                            (imulOver (nearV a0 a2) (nearV a1 a3) == imulOver (nearV a0 a2) (nearV a1 a3) &&
                              (a4_1 == a4_1 &&
                                (a4_2 == a4_2 &&
                                  (a4_3 == a4_3 &&
                                    (imulOver (nearV a0 a2) (nearV a1 a3) == imulOver (nearV a0 a2) (nearV a1 a3) &&
                                      (a4_5 == a4_5 && true))))))
                        else some false
                      else some false
                    else some false
                  else some false
                else some false
              else none
            else none
          else none
        else none
      else none
    else none) := by kernel_rfl
theorem pure (a0 : Int) (a1 : Int) (a2 : Int) (a3 : Int) (a4_0 : Bool) (a4_1 : Bool) (a4_2 : Bool) (a4_3 : Bool) (a4_4 : Bool) (a4_5 : Bool) (w0 : (Lit.int .u32 a0).wf = true) (w1 : (Lit.int .u32 a1).wf = true) (w2 : (Lit.int .u8 a2).wf = true) (w3 : (Lit.int .u8 a3).wf = true) :
    evF Try.prog ΓMul 400 8 [.v (.int .u32 a0), .v (.int .u32 a1), .v (.int .u8 a2), .v (.int .u8 a3), .agg [.v (.bool a4_0), .v (.bool a4_1), .v (.bool a4_2), .v (.bool a4_3), .v (.bool a4_4), .v (.bool a4_5)]] [] isT (fun _ _ => none) = some true := by
  rw [form]
  have g0 := in32_iff.2 (wf_u32 w0)
  have g1 := in32_iff.2 (wf_u32 w1)
  have g2 := in8_iff.2 (wf_u8 w2)
  have g3 := in8_iff.2 (wf_u8 w3)
  have n0 := nearV_in (k := a2) (wf_u32 w0).1 (wf_u32 w0).2
  have n1 := nearV_in (k := a3) (wf_u32 w1).1 (wf_u32 w1).2
  simp only [g0, g1, g2, g3, n0, n1, Bool.and_self, cond_true, beq_self_eq_true]
end Go.Proofs.Ytllfmajphmfehaa.mulTells
