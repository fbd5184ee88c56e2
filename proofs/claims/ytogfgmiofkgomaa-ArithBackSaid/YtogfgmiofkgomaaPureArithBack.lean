/- ArithBack: the reckoning of the law, and that it is true. -/
import Derived.Test.YtogfgmiofkgomaaCAr5
namespace Go.Proofs.Ytogfgmiofkgomaa.arithBack
open Go Go.Ev
set_option linter.unusedVariables false
set_option linter.unusedSimpArgs false
set_option maxRecDepth 100000
theorem form (a0 : Int) (a1 : Int) (a2 : Bool) :
    evF Try.prog ΓAr5 400 4 [.v (.int .u32 a0), .v (.int .u32 a1), .v (.bool a2)] [] isT (fun _ _ => none) =
    (bif in32 a0 && in32 a1 then
    bif in32 (addV a0 a1 4 a2) && in32 a1 then
    bif in32 a0 && in32 a1 then
    bif a2 then
    bif subV (addV a0 a1 4 a2) a1 4 a2 == a0 then
    bif
    decide (szM 4 ≤ addS a0 a1 4 a2) ==
    decide
    (IntKind.wrap IntKind.u64 (IntKind.wrap IntKind.u64 (IntKind.wrap IntKind.u64 a0 + IntKind.wrap IntKind.u64 a1) + 1) >
    4294967295) then
    bif decide (subS (addV a0 a1 4 a2) a1 4 a2 < 0) == decide (szM 4 ≤ addS a0 a1 4 a2) then
    bif decide (subS a0 a1 4 false < 0) == decide (a0 < a1) then
    bif
    (!topV (subV a0 a1 4 false) 4 == subO a0 a1 4 false) ==
    decide (IntKind.wrap IntKind.i32 a0 < IntKind.wrap IntKind.i32 a1) then
    some ((subV a0 a1 4 false == 0) == (a0 == a1))
    else some false
    else some false
    else some false
    else some false
    else some false
    else
    bif subV (addV a0 a1 4 a2) a1 4 a2 == a0 then
    bif
    decide (szM 4 ≤ addS a0 a1 4 a2) ==
    decide
    (IntKind.wrap IntKind.u64 (IntKind.wrap IntKind.u64 (IntKind.wrap IntKind.u64 a0 + IntKind.wrap IntKind.u64 a1) + 0) >
    4294967295) then
    bif decide (subS (addV a0 a1 4 a2) a1 4 a2 < 0) == decide (szM 4 ≤ addS a0 a1 4 a2) then
    bif decide (subS a0 a1 4 false < 0) == decide (a0 < a1) then
    bif
    (!topV (subV a0 a1 4 false) 4 == subO a0 a1 4 false) ==
    decide (IntKind.wrap IntKind.i32 a0 < IntKind.wrap IntKind.i32 a1) then
    some ((subV a0 a1 4 false == 0) == (a0 == a1))
    else some false
    else some false
    else some false
    else some false
    else some false
    else none
    else none
    else none) := by kernel_rfl
theorem pure (a0 : Int) (a1 : Int) (a2 : Bool) (w0 : (Lit.int .u32 a0).wf = true) (w1 : (Lit.int .u32 a1).wf = true) :
    evF Try.prog ΓAr5 400 4 [.v (.int .u32 a0), .v (.int .u32 a1), .v (.bool a2)] [] isT (fun _ _ => none) = some true := by
  rw [form]
  try simp only [bitsL_eq]
  have b0 := wf_u32 w0
  have b1 := wf_u32 w1
  have g0 := in32_iff.2 b0
  have g1 := in32_iff.2 b1
  have gv := in32_iff.2 (addV_bd a0 a1 4 a2)
  have h4 : szM 4 = 4294967296 := rfl
  have k1 : subV (addV a0 a1 4 a2) a1 4 a2 = a0 := by
    unfold subV subS addV addS; rw [h4]; cases a2 <;> simp only [b2i, cond_true, cond_false] <;> omega
  have k2 : decide (subS (addV a0 a1 4 a2) a1 4 a2 < 0) = decide (szM 4 ≤ addS a0 a1 4 a2) := by
    rw [Bool.eq_iff_iff, decide_eq_true_eq, decide_eq_true_eq]
    unfold subS addV addS; rw [h4]; cases a2 <;> simp only [b2i, cond_true, cond_false] <;> omega
  have k3 : decide (subS a0 a1 4 false < 0) = decide (a0 < a1) := by
    rw [Bool.eq_iff_iff, decide_eq_true_eq, decide_eq_true_eq]
    unfold subS; rw [h4]; simp only [b2i, cond_false]; omega
  have k5 : (subV a0 a1 4 false == 0) = (a0 == a1) := by
    rw [Bool.eq_iff_iff, beq_iff_eq, beq_iff_eq]
    unfold subV subS; rw [h4]; simp only [b2i, cond_false]; omega
  have k4 : (!topV (subV a0 a1 4 false) 4 == subO a0 a1 4 false) = decide (IntKind.wrap IntKind.i32 a0 < IntKind.wrap IntKind.i32 a1) := by
    rw [wr_i32, wr_i32]
    unfold subO
    have t0 : topV a0 4 = decide (2147483648 ≤ a0) := by unfold topV; rw [h4, Bool.eq_iff_iff, decide_eq_true_eq, decide_eq_true_eq]; omega
    have t1 : topV a1 4 = decide (2147483648 ≤ a1) := by unfold topV; rw [h4, Bool.eq_iff_iff, decide_eq_true_eq, decide_eq_true_eq]; omega
    have t2 : topV (subV a0 a1 4 false) 4 = decide (2147483648 ≤ (a0 - a1) % 4294967296) := by
      unfold topV subV subS; rw [h4, Bool.eq_iff_iff, decide_eq_true_eq, decide_eq_true_eq]; simp only [b2i, cond_false]; omega
    rw [t0, t1, t2]
    by_cases c0 : 2147483648 ≤ a0 <;> by_cases c1 : 2147483648 ≤ a1 <;> by_cases c2 : 2147483648 ≤ (a0 - a1) % 4294967296 <;> simp [c0, c1, c2] <;> omega
  have k6 : ∀ z : Int, 0 ≤ z → z ≤ 1 → IntKind.wrap IntKind.u64 (IntKind.wrap IntKind.u64 (IntKind.wrap IntKind.u64 a0 + IntKind.wrap IntKind.u64 a1) + z) = a0 + a1 + z := fun z z0 z1 => by
    rw [wr_u64_id b0.1 (by omega), wr_u64_id b1.1 (by omega), wr_u64_id (n := a0 + a1) (by omega) (by omega), wr_u64_id (by omega) (by omega)]
  have k7 : decide (szM 4 ≤ addS a0 a1 4 true) = decide (a0 + a1 + 1 > 4294967295) := by
    rw [Bool.eq_iff_iff, decide_eq_true_eq, decide_eq_true_eq]
    unfold addS; rw [h4]; simp only [b2i, cond_true]; omega
  have k8 : decide (szM 4 ≤ addS a0 a1 4 false) = decide (a0 + a1 + 0 > 4294967295) := by
    rw [Bool.eq_iff_iff, decide_eq_true_eq, decide_eq_true_eq]
    unfold addS; rw [h4]; simp only [b2i, cond_false]; omega
  rw [k1, k2, k3, k4, k5, k6 1 (by decide) (by decide), k6 0 (by decide) (by decide)]
  cases a2
  · rw [k8]; simp [g0, g1, gv]
  · rw [k7]; simp [g0, g1, gv]
end Go.Proofs.Ytogfgmiofkgomaa.arithBack
