/- ArithSums: the reckoning of the law, and that it is true. -/
import Derived.Test.YtogfgmiofkgomaaCAr5
namespace Go.Proofs.Ytogfgmiofkgomaa.arithSums
open Go Go.Ev
set_option linter.unusedVariables false
set_option linter.unusedSimpArgs false
set_option maxRecDepth 100000
theorem form (a0 : Int) (a1 : Int) (a2 : Int) (a3 : Bool) :
    evF Try.prog ΓAr5 400 3 [.v (.int .u32 a0), .v (.int .u32 a1), .v (.int .i64 a2), .v (.bool a3)] [] isT (fun _ _ => none) =
    (bif in32 a0 && in32 a1 then
    bif in32 a0 && in32 a1 then
    bif in32 a0 && in32 a1 then
    bif in32 a0 && in32 a1 then
    bif addV a0 a1 a2 a3 != addV a0 a1 a2 a3 then some false
    else
    bif
    !(decide (szM a2 ≤ addS a0 a1 a2 a3) == decide (szM a2 ≤ addS a0 a1 a2 a3) &&
    (parV (addV a0 a1 a2 a3) == parV (addV a0 a1 a2 a3) &&
    ((addV a0 a1 a2 a3 == 0) == (addV a0 a1 a2 a3 == 0) &&
    (topV (addV a0 a1 a2 a3) a2 == topV (addV a0 a1 a2 a3) a2 && (addO a0 a1 a2 a3 == addO a0 a1 a2 a3 && true))))) then
    some false
    else
    bif subV a0 a1 a2 a3 != subV a0 a1 a2 a3 then some false
    else
    bif
    !(decide (subS a0 a1 a2 a3 < 0) == decide (subS a0 a1 a2 a3 < 0) &&
    (parV (subV a0 a1 a2 a3) == parV (subV a0 a1 a2 a3) &&
    ((subV a0 a1 a2 a3 == 0) == (subV a0 a1 a2 a3 == 0) &&
    (topV (subV a0 a1 a2 a3) a2 == topV (subV a0 a1 a2 a3) a2 && (subO a0 a1 a2 a3 == subO a0 a1 a2 a3 && true))))) then
    some false
    else
    bif in32 a0 && in32 a1 then
    bif in32 a0 && in32 a1 then
    bif in32 a0 && in32 a1 then
    bif in32 a0 && in32 a1 then
    bif addV a0 a1 1 a3 != addV a0 a1 1 a3 then some false
    else
    bif
    !(decide (szM 1 ≤ addS a0 a1 1 a3) == decide (szM 1 ≤ addS a0 a1 1 a3) &&
    (parV (addV a0 a1 1 a3) == parV (addV a0 a1 1 a3) &&
    ((addV a0 a1 1 a3 == 0) == (addV a0 a1 1 a3 == 0) &&
    (topV (addV a0 a1 1 a3) 1 == topV (addV a0 a1 1 a3) 1 && (addO a0 a1 1 a3 == addO a0 a1 1 a3 && true))))) then
    some false
    else
    bif subV a0 a1 1 a3 != subV a0 a1 1 a3 then some false
    else
    bif
    !(decide (subS a0 a1 1 a3 < 0) == decide (subS a0 a1 1 a3 < 0) &&
    (parV (subV a0 a1 1 a3) == parV (subV a0 a1 1 a3) &&
    ((subV a0 a1 1 a3 == 0) == (subV a0 a1 1 a3 == 0) &&
    (topV (subV a0 a1 1 a3) 1 == topV (subV a0 a1 1 a3) 1 && (subO a0 a1 1 a3 == subO a0 a1 1 a3 && true))))) then
    some false
    else
    bif in32 a0 && in32 a1 then
    bif in32 a0 && in32 a1 then
    bif in32 a0 && in32 a1 then
    bif in32 a0 && in32 a1 then
    bif addV a0 a1 2 a3 != addV a0 a1 2 a3 then some false
    else
    bif
    !(decide (szM 2 ≤ addS a0 a1 2 a3) == decide (szM 2 ≤ addS a0 a1 2 a3) &&
    (parV (addV a0 a1 2 a3) == parV (addV a0 a1 2 a3) &&
    ((addV a0 a1 2 a3 == 0) == (addV a0 a1 2 a3 == 0) &&
    (topV (addV a0 a1 2 a3) 2 == topV (addV a0 a1 2 a3) 2 && (addO a0 a1 2 a3 == addO a0 a1 2 a3 && true))))) then
    some false
    else
    bif subV a0 a1 2 a3 != subV a0 a1 2 a3 then some false
    else
    bif
    !(decide (subS a0 a1 2 a3 < 0) == decide (subS a0 a1 2 a3 < 0) &&
    (parV (subV a0 a1 2 a3) == parV (subV a0 a1 2 a3) &&
    ((subV a0 a1 2 a3 == 0) == (subV a0 a1 2 a3 == 0) &&
    (topV (subV a0 a1 2 a3) 2 == topV (subV a0 a1 2 a3) 2 && (subO a0 a1 2 a3 == subO a0 a1 2 a3 && true))))) then
    some false
    else
    bif in32 a0 && in32 a1 then
    bif in32 a0 && in32 a1 then
    bif in32 a0 && in32 a1 then
    bif in32 a0 && in32 a1 then
    bif addV a0 a1 4 a3 != addV a0 a1 4 a3 then some false
    else
    bif
    !(decide (szM 4 ≤ addS a0 a1 4 a3) == decide (szM 4 ≤ addS a0 a1 4 a3) &&
    (parV (addV a0 a1 4 a3) == parV (addV a0 a1 4 a3) &&
    ((addV a0 a1 4 a3 == 0) == (addV a0 a1 4 a3 == 0) &&
    (topV (addV a0 a1 4 a3) 4 == topV (addV a0 a1 4 a3) 4 && (addO a0 a1 4 a3 == addO a0 a1 4 a3 && true))))) then
    some false
    else
    bif subV a0 a1 4 a3 != subV a0 a1 4 a3 then some false
    else
    bif
    !(decide (subS a0 a1 4 a3 < 0) == decide (subS a0 a1 4 a3 < 0) &&
    (parV (subV a0 a1 4 a3) == parV (subV a0 a1 4 a3) &&
    ((subV a0 a1 4 a3 == 0) == (subV a0 a1 4 a3 == 0) &&
    (topV (subV a0 a1 4 a3) 4 == topV (subV a0 a1 4 a3) 4 && (subO a0 a1 4 a3 == subO a0 a1 4 a3 && true))))) then
    some false
    else some true
    else none
    else none
    else none
    else none
    else none
    else none
    else none
    else none
    else none
    else none
    else none
    else none
    else none
    else none
    else none
    else none) := by kernel_rfl
theorem pure (a0 : Int) (a1 : Int) (a2 : Int) (a3 : Bool) (w0 : (Lit.int .u32 a0).wf = true) (w1 : (Lit.int .u32 a1).wf = true) (w2 : (Lit.int .i64 a2).wf = true) :
    evF Try.prog ΓAr5 400 3 [.v (.int .u32 a0), .v (.int .u32 a1), .v (.int .i64 a2), .v (.bool a3)] [] isT (fun _ _ => none) = some true := by
  rw [form]
  try simp only [bitsL_eq]
  have g0 := in32_iff.2 (wf_u32 w0)
  have g1 := in32_iff.2 (wf_u32 w1)
  simp only [g0, g1, Bool.and_self, cond_true, cond_false, bne_self_eq_false, beq_self_eq_true, Bool.not_true, Bool.cond_self]
end Go.Proofs.Ytogfgmiofkgomaa.arithSums
