/- ArithSigns: the reckoning of the law, and that it is true. -/
import Derived.Test.YtogfgmiofkgomaaCAr6
namespace Go.Proofs.Ytogfgmiofkgomaa.arithSigns
open Go Go.Ev
set_option linter.unusedVariables false
set_option linter.unusedSimpArgs false
set_option maxRecDepth 100000
theorem form (a0 : Int) (a1_0 : Bool) (a1_1 : Bool) (a1_2 : Bool) (a1_3 : Bool) (a1_4 : Bool) (a1_5 : Bool) :
    evF Try.prog ΓAr6 400 8 [.v (.int .u32 a0), .agg [.v (.bool a1_0), .v (.bool a1_1), .v (.bool a1_2), .v (.bool a1_3), .v (.bool a1_4), .v (.bool a1_5)]] [] isT (fun _ _ => none) =
    (bif in32 a0 then
    bif in32 a0 then
    bif in32 (IntKind.wrap IntKind.u32 (sgnV a0 1)) then
    bif cutV (IntKind.wrap IntKind.u32 (sgnV a0 1)) 1 != cutV a0 1 then some false
    else
    bif in32 a0 then
    bif in32 a0 then
    bif !stepO a0 1 1 == (cutV a0 1 == 127) then some false
    else
    bif !stepO a0 1 (-1) == (cutV a0 1 == 128) then some false
    else
    bif !a1_0 == a1_0 then some false
    else
    bif !a1_5 == a1_5 then some false
    else
    bif in32 a0 then
    bif in32 a0 then
    bif in32 (IntKind.wrap IntKind.u32 (sgnV a0 2)) then
    bif cutV (IntKind.wrap IntKind.u32 (sgnV a0 2)) 2 != cutV a0 2 then some false
    else
    bif in32 a0 then
    bif in32 a0 then
    bif !stepO a0 2 1 == (cutV a0 2 == 32767) then some false
    else
    bif !stepO a0 2 (-1) == (cutV a0 2 == 32768) then some false
    else
    bif !a1_0 == a1_0 then some false
    else
    bif !a1_5 == a1_5 then some false
    else
    bif in32 a0 then
    bif in32 a0 then
    bif in32 (IntKind.wrap IntKind.u32 (sgnV a0 4)) then
    bif cutV (IntKind.wrap IntKind.u32 (sgnV a0 4)) 4 != cutV a0 4 then some false
    else
    bif in32 a0 then
    bif in32 a0 then
    bif !stepO a0 4 1 == (cutV a0 4 == 2147483647) then some false
    else
    bif !stepO a0 4 (-1) == (cutV a0 4 == 2147483648) then some false
    else bif !a1_0 == a1_0 then some false else bif !a1_5 == a1_5 then some false else some true
    else none
    else none
    else none
    else none
    else none
    else none
    else none
    else none
    else none
    else none
    else none
    else none
    else none
    else none
    else none) := by kernel_rfl
theorem pure (a0 : Int) (a1_0 : Bool) (a1_1 : Bool) (a1_2 : Bool) (a1_3 : Bool) (a1_4 : Bool) (a1_5 : Bool) (w0 : (Lit.int .u32 a0).wf = true) :
    evF Try.prog ΓAr6 400 8 [.v (.int .u32 a0), .agg [.v (.bool a1_0), .v (.bool a1_1), .v (.bool a1_2), .v (.bool a1_3), .v (.bool a1_4), .v (.bool a1_5)]] [] isT (fun _ _ => none) = some true := by
  rw [form]
  try simp only [bitsL_eq]
  have g0 := in32_iff.2 (wf_u32 w0)
  have m1 : szM 1 = 256 := rfl
  have m2 : szM 2 = 65536 := rfl
  have m4 : szM 4 = 4294967296 := rfl
  simp only [g0, in32_wr, cut_sgn, step_up, step_down, m1, m2, m4, cond_true, bne_self_eq_false, cond_false, beq_self_eq_true, Bool.not_true, Int.reduceDiv, Int.reduceSub]
end Go.Proofs.Ytogfgmiofkgomaa.arithSigns
