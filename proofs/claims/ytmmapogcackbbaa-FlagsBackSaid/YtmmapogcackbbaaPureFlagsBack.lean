/- FlagsBack: the reckoning of the law, and that it is true. -/
import Derived.Test.YtmmapogcackbbaaCRg2
namespace Go.Proofs.Ytmmapogcackbbaa.flagsBack
open Go Go.Ev
set_option linter.unusedVariables false
set_option linter.unusedSimpArgs false
set_option maxRecDepth 100000
theorem form (a0_0 : Bool) (a0_1 : Bool) (a0_2 : Bool) (a0_3 : Bool) (a0_4 : Bool) (a0_5 : Bool) (a1 : Int) :
    evF Try.prog ΓRg2 400 6 [.agg [.v (.bool a0_0), .v (.bool a0_1), .v (.bool a0_2), .v (.bool a0_3), .v (.bool a0_4), .v (.bool a0_5)], .v (.int .u32 a1)] [] isT (fun _ _ => none) =
    (bif wv a0_0 a0_1 a0_2 a0_3 a0_4 a0_5 == wv a0_0 a0_1 a0_2 a0_3 a0_4 a0_5 then
    bif
    fb (wv a0_0 a0_1 a0_2 a0_3 a0_4 a0_5) 1 == a0_0 &&
    (fb (wv a0_0 a0_1 a0_2 a0_3 a0_4 a0_5) 4 == a0_1 &&
    (fb (wv a0_0 a0_1 a0_2 a0_3 a0_4 a0_5) 64 == a0_2 &&
    (fb (wv a0_0 a0_1 a0_2 a0_3 a0_4 a0_5) 128 == a0_3 &&
    (fb (wv a0_0 a0_1 a0_2 a0_3 a0_4 a0_5) 2048 == a0_4 &&
    (fb (wv a0_0 a0_1 a0_2 a0_3 a0_4 a0_5) 1024 == a0_5 && true))))) then
    bif
    fb a1 1 == fb a1 1 &&
    (fb a1 4 == fb a1 4 &&
    (fb a1 64 == fb a1 64 &&
    (fb a1 128 == fb a1 128 && (fb a1 2048 == fb a1 2048 && (fb a1 1024 == fb a1 1024 && true))))) then
    bif bitsL BinOp.and IntKind.u32 (wv a0_0 a0_1 a0_2 a0_3 a0_4 a0_5) 2 == 2 then
    some (bitsL BinOp.andNot IntKind.u32 (wv a0_0 a0_1 a0_2 a0_3 a0_4 a0_5) 3271 == 0)
    else some false
    else some false
    else some false
    else some false) := by kernel_rfl
set_option maxHeartbeats 1000000 in
theorem pure (a0_0 : Bool) (a0_1 : Bool) (a0_2 : Bool) (a0_3 : Bool) (a0_4 : Bool) (a0_5 : Bool) (a1 : Int) (w1 : (Lit.int .u32 a1).wf = true) :
    evF Try.prog ΓRg2 400 6 [.agg [.v (.bool a0_0), .v (.bool a0_1), .v (.bool a0_2), .v (.bool a0_3), .v (.bool a0_4), .v (.bool a0_5)], .v (.int .u32 a1)] [] isT (fun _ _ => none) = some true := by
  rw [form]
  try simp only [bitsL_eq]
  simp only [beq_self_eq_true, Bool.and_true, cond_true]
  cases a0_0 <;> cases a0_1 <;> cases a0_2 <;> cases a0_3 <;> cases a0_4 <;> cases a0_5 <;> rfl
end Go.Proofs.Ytmmapogcackbbaa.flagsBack
