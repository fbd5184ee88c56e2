/- ArithParts: the reckoning of the law, and that it is true. -/
import Derived.Test.YtogfgmiofkgomaaCAr6
namespace Go.Proofs.Ytogfgmiofkgomaa.arithParts
open Go Go.Ev
set_option linter.unusedVariables false
set_option linter.unusedSimpArgs false
set_option maxRecDepth 100000
theorem form (a0 : Int) (a1 : Int) (a2 : Int) (a3_0 : Bool) (a3_1 : Bool) (a3_2 : Bool) (a3_3 : Bool) (a3_4 : Bool) (a3_5 : Bool) :
    evF Try.prog ΓAr6 400 7 [.v (.int .u32 a0), .v (.int .i64 a1), .v (.int .i64 a2), .agg [.v (.bool a3_0), .v (.bool a3_1), .v (.bool a3_2), .v (.bool a3_3), .v (.bool a3_4), .v (.bool a3_5)]] [] isT (fun _ _ => none) =
    (bif in32 a0 then
    bif in32 a0 then
    bif in32 a0 then
    bif in32 a0 then
    bif cutV a0 a1 != cutV a0 a1 then some false
    else
    bif
    !(true &&
    (parV (cutV a0 a1) == parV (cutV a0 a1) &&
    ((cutV a0 a1 == 0) == (cutV a0 a1 == 0) && (topV (cutV a0 a1) a1 == topV (cutV a0 a1) a1 && true)))) then
    some false
    else
    bif stepV a0 a1 a2 != stepV a0 a1 a2 then some false
    else
    bif
    !(a3_0 == a3_0 &&
    (parV (stepV a0 a1 a2) == parV (stepV a0 a1 a2) &&
    ((stepV a0 a1 a2 == 0) == (stepV a0 a1 a2 == 0) &&
    (topV (stepV a0 a1 a2) a1 == topV (stepV a0 a1 a2) a1 &&
    (stepO a0 a1 a2 == stepO a0 a1 a2 && (a3_5 == a3_5 && true)))))) then
    some false
    else
    bif in32 a0 then
    bif in32 a0 then
    bif cutV a0 a1 != cutV a0 a1 then some false
    else
    bif in32 a0 then
    bif in32 a0 then
    bif sgnV a0 a1 != sgnV a0 a1 then some false
    else
    bif in32 a0 then
    bif in32 a0 then
    bif in32 a0 then
    bif in32 a0 then
    bif cutV a0 1 != cutV a0 1 then some false
    else
    bif
    !(true &&
    (parV (cutV a0 1) == parV (cutV a0 1) &&
    ((cutV a0 1 == 0) == (cutV a0 1 == 0) && (topV (cutV a0 1) 1 == topV (cutV a0 1) 1 && true)))) then
    some false
    else
    bif stepV a0 1 a2 != stepV a0 1 a2 then some false
    else
    bif
    !(a3_0 == a3_0 &&
    (parV (stepV a0 1 a2) == parV (stepV a0 1 a2) &&
    ((stepV a0 1 a2 == 0) == (stepV a0 1 a2 == 0) &&
    (topV (stepV a0 1 a2) 1 == topV (stepV a0 1 a2) 1 && (stepO a0 1 a2 == stepO a0 1 a2 && (a3_5 == a3_5 && true)))))) then
    some false
    else
    bif in32 a0 then
    bif in32 a0 then
    bif cutV a0 1 != cutV a0 1 then some false
    else
    bif in32 a0 then
    bif in32 a0 then
    bif sgnV a0 1 != sgnV a0 1 then some false
    else
    bif in32 a0 then
    bif in32 a0 then
    bif in32 a0 then
    bif in32 a0 then
    bif cutV a0 2 != cutV a0 2 then some false
    else
    bif
    !(true &&
    (parV (cutV a0 2) == parV (cutV a0 2) &&
    ((cutV a0 2 == 0) == (cutV a0 2 == 0) && (topV (cutV a0 2) 2 == topV (cutV a0 2) 2 && true)))) then
    some false
    else
    bif stepV a0 2 a2 != stepV a0 2 a2 then some false
    else
    bif
    !(a3_0 == a3_0 &&
    (parV (stepV a0 2 a2) == parV (stepV a0 2 a2) &&
    ((stepV a0 2 a2 == 0) == (stepV a0 2 a2 == 0) &&
    (topV (stepV a0 2 a2) 2 == topV (stepV a0 2 a2) 2 && (stepO a0 2 a2 == stepO a0 2 a2 && (a3_5 == a3_5 && true)))))) then
    some false
    else
    bif in32 a0 then
    bif in32 a0 then
    bif cutV a0 2 != cutV a0 2 then some false
    else
    bif in32 a0 then
    bif in32 a0 then
    bif sgnV a0 2 != sgnV a0 2 then some false
    else
    bif in32 a0 then
    bif in32 a0 then
    bif in32 a0 then
    bif in32 a0 then
    bif cutV a0 4 != cutV a0 4 then some false
    else
    bif
    !(true &&
    (parV (cutV a0 4) == parV (cutV a0 4) &&
    ((cutV a0 4 == 0) == (cutV a0 4 == 0) && (topV (cutV a0 4) 4 == topV (cutV a0 4) 4 && true)))) then
    some false
    else
    bif stepV a0 4 a2 != stepV a0 4 a2 then some false
    else
    bif
    !(a3_0 == a3_0 &&
    (parV (stepV a0 4 a2) == parV (stepV a0 4 a2) &&
    ((stepV a0 4 a2 == 0) == (stepV a0 4 a2 == 0) &&
    (topV (stepV a0 4 a2) 4 == topV (stepV a0 4 a2) 4 && (stepO a0 4 a2 == stepO a0 4 a2 && (a3_5 == a3_5 && true)))))) then
    some false
    else
    bif in32 a0 then
    bif in32 a0 then
    bif cutV a0 4 != cutV a0 4 then some false
    else
    bif in32 a0 then
    bif in32 a0 then
    bif sgnV a0 4 != sgnV a0 4 then some false
    else bif in32 a0 then bif in32 a0 then some (parV a0 == parV a0) else none else none
    else none
    else none
    else none
    else none
    else none
    else none
    else none
    else none
    else none
    else none
    else none
    else none
    else none
    else none
    else none
    else none
    else none
    else none
    else none
    else none
    else none
    else none
    else none
    else none
    else none
    else none
    else none
    else none
    else none
    else none
    else none
    else none) := by kernel_rfl
theorem pure (a0 : Int) (a1 : Int) (a2 : Int) (a3_0 : Bool) (a3_1 : Bool) (a3_2 : Bool) (a3_3 : Bool) (a3_4 : Bool) (a3_5 : Bool) (w0 : (Lit.int .u32 a0).wf = true) (w1 : (Lit.int .i64 a1).wf = true) (w2 : (Lit.int .i64 a2).wf = true) :
    evF Try.prog ΓAr6 400 7 [.v (.int .u32 a0), .v (.int .i64 a1), .v (.int .i64 a2), .agg [.v (.bool a3_0), .v (.bool a3_1), .v (.bool a3_2), .v (.bool a3_3), .v (.bool a3_4), .v (.bool a3_5)]] [] isT (fun _ _ => none) = some true := by
  rw [form]
  try simp only [bitsL_eq]
  have g0 := in32_iff.2 (wf_u32 w0)
  simp [g0]
end Go.Proofs.Ytogfgmiofkgomaa.arithParts
