/- ArithOrder: the reckoning of the law, and that it is true. -/
import Derived.Test.YtogfgmiofkgomaaCAr5
namespace Go.Proofs.Ytogfgmiofkgomaa.arithOrder
open Go Go.Ev
set_option linter.unusedVariables false
set_option linter.unusedSimpArgs false
set_option maxRecDepth 100000
theorem form (a0 : Int) (a1 : Int) (a2 : Int) (a3 : Int) :
    evF Try.prog ΓAr5 400 6 [.v (.int .u32 a0), .v (.int .u32 a1), .v (.int .u32 a2), .v (.int .i64 a3)] [] isT (fun _ _ => none) =
    (bif in32 a0 && in32 a1 then
    bif in32 a1 && in32 a0 then
    bif in32 (addV a0 a1 a3 false) && in32 a2 then
    bif in32 a1 && in32 a2 then
    bif in32 a0 && in32 (addV a1 a2 a3 false) then
    bif in32 a0 && in32 a0 then
    bif addV a0 a1 a3 false == addV a1 a0 a3 false then
    bif
    decide (szM a3 ≤ addS a0 a1 a3 false) == decide (szM a3 ≤ addS a1 a0 a3 false) &&
    (parV (addV a0 a1 a3 false) == parV (addV a1 a0 a3 false) &&
    ((addV a0 a1 a3 false == 0) == (addV a1 a0 a3 false == 0) &&
    (topV (addV a0 a1 a3 false) a3 == topV (addV a1 a0 a3 false) a3 &&
    (addO a0 a1 a3 false == addO a1 a0 a3 false && true)))) then
    bif addV (addV a0 a1 a3 false) a2 a3 false == addV a0 (addV a1 a2 a3 false) a3 false then
    bif subV a0 a0 a3 false == 0 then
    some
    (decide (subS a0 a0 a3 false < 0) == false &&
    (parV (subV a0 a0 a3 false) == true &&
    ((subV a0 a0 a3 false == 0) == true &&
    (topV (subV a0 a0 a3 false) a3 == false && (subO a0 a0 a3 false == false && true)))))
    else some false
    else some false
    else some false
    else some false
    else none
    else none
    else none
    else none
    else none
    else none) := by kernel_rfl
theorem pure (a0 : Int) (a1 : Int) (a2 : Int) (a3 : Int) (w0 : (Lit.int .u32 a0).wf = true) (w1 : (Lit.int .u32 a1).wf = true) (w2 : (Lit.int .u32 a2).wf = true) (w3 : (Lit.int .i64 a3).wf = true) :
    evF Try.prog ΓAr5 400 6 [.v (.int .u32 a0), .v (.int .u32 a1), .v (.int .u32 a2), .v (.int .i64 a3)] [] isT (fun _ _ => none) = some true := by
  rw [form]
  try simp only [bitsL_eq]
  have g0 := in32_iff.2 (wf_u32 w0)
  have g1 := in32_iff.2 (wf_u32 w1)
  have g2 := in32_iff.2 (wf_u32 w2)
  have v1 := in32_iff.2 (addV_bd a0 a1 a3 false)
  have v2 := in32_iff.2 (addV_bd a1 a2 a3 false)
  have eS : addS a0 a1 a3 false = addS a1 a0 a3 false := by unfold addS; omega
  have eV : addV a0 a1 a3 false = addV a1 a0 a3 false := by unfold addV; rw [eS]
  have eO : addO a0 a1 a3 false = addO a1 a0 a3 false := by
    unfold addO; rw [eV]; cases topV a0 a3 <;> cases topV a1 a3 <;> rfl
  have eA : addV (addV a0 a1 a3 false) a2 a3 false = addV a0 (addV a1 a2 a3 false) a3 false := by
    unfold addV addS b2i
    rcases szM_cases a3 with ⟨_, h, _⟩ | ⟨_, _, h, _⟩ | ⟨_, _, h, _⟩ <;> rw [h] <;> simp only [cond_false] <;> omega
  have z1 : subS a0 a0 a3 false = 0 := by unfold subS b2i; simp only [cond_false]; omega
  have z2 : subV a0 a0 a3 false = 0 := by unfold subV; rw [z1]; exact Int.zero_emod _
  have z3 : topV 0 a3 = false := by
    unfold topV
    rcases szM_cases a3 with ⟨_, h, _⟩ | ⟨_, _, h, _⟩ | ⟨_, _, h, _⟩ <;> rw [h] <;> rfl
  have z4 : subO a0 a0 a3 false = false := by unfold subO; simp
  have z5 : parV 0 = true := by decide
  rw [eA, z1, z2, z3, z4, z5, eS, eO, eV]
  rw [eV] at v1
  simp [g0, g1, g2, v1, v2]
end Go.Proofs.Ytogfgmiofkgomaa.arithOrder
