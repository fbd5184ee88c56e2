/- The loops over the places of flags, by their parts. -/
import Derived.Test.YtmmapogcackbbaaEvM
import Derived.Test.YtmmapogcackbbaaEnv
import Derived.Test.YtmmapogcackbbaaNRegs
namespace Go.Proofs.Ytmmapogcackbbaa
open Go Go.Ev
set_option linter.unusedVariables false
set_option linter.unusedSimpArgs false
set_option maxRecDepth 100000
noncomputable def Lw : RangeCode := rangeOf (roundOf Try.prog 19 0)
theorem Lw_code : Lw.code = roundOf Try.prog 19 0 := by kernel_rfl
theorem Lw_id : Lw.id = 0 := by kernel_rfl
theorem Lw_ok : Lw.Ok := ⟨by kernel_rfl, by kernel_rfl, by kernel_rfl, by kernel_rfl, by kernel_rfl, by kernel_rfl, by kernel_rfl, by kernel_rfl, by kernel_rfl, by kernel_rfl, of_decide_eq_true (by kernel_rfl), of_decide_eq_true (by kernel_rfl), of_decide_eq_true (by kernel_rfl)⟩
theorem Lw_sl : (Lw.tn, Lw.x, Lw.it, Lw.te) = (8, 9, 7, 10) := by kernel_rfl
noncomputable def Lf : RangeCode := rangeOf (roundOf Try.prog 21 0)
theorem Lf_code : Lf.code = roundOf Try.prog 21 0 := by kernel_rfl
theorem Lf_id : Lf.id = 0 := by kernel_rfl
theorem Lf_ok : Lf.Ok := ⟨by kernel_rfl, by kernel_rfl, by kernel_rfl, by kernel_rfl, by kernel_rfl, by kernel_rfl, by kernel_rfl, by kernel_rfl, by kernel_rfl, by kernel_rfl, of_decide_eq_true (by kernel_rfl), of_decide_eq_true (by kernel_rfl), of_decide_eq_true (by kernel_rfl)⟩
theorem Lf_sl : (Lf.tn, Lf.x, Lf.it, Lf.te) = (8, 9, 7, 10) := by kernel_rfl
end Go.Proofs.Ytmmapogcackbbaa
