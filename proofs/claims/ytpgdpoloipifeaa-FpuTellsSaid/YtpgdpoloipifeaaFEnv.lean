/- The functions of floats that have no text. -/
import Derived.Test.YtpgdpoloipifeaaEnv
import Derived.Test.YtpgdpoloipifeaaEv8
namespace Go.Proofs.Ytpgdpoloipifeaa
open Go Go.Ev
set_option maxRecDepth 100000
theorem bare_bits : Bare Try.prog 106 Extern.MathFloatBits.float64bits := ⟨Try.f106, by kernel_rfl, by kernel_rfl, by kernel_rfl, by kernel_rfl, by kernel_rfl⟩
theorem bare_from : Bare Try.prog 105 Extern.MathFloatBits.float64frombits := ⟨Try.f105, by kernel_rfl, by kernel_rfl, by kernel_rfl, by kernel_rfl, by kernel_rfl⟩
theorem bare_sqrt : Bare Try.prog 135 Extern.MathSqrt.sqrt := ⟨Try.f135, by kernel_rfl, by kernel_rfl, by kernel_rfl, by kernel_rfl, by kernel_rfl⟩
theorem bare_trunc : Bare Try.prog 133 (Extern.MathFloor.toIntegral "math.archTrunc" .zero) := ⟨Try.f133, by kernel_rfl, by kernel_rfl, by kernel_rfl, by kernel_rfl, by kernel_rfl⟩
def ΓF : Env := (((Γ0.add 106 bitsX).add 105 frombitsX).add 135 sqrtX).add 133 truncX
theorem ΓF_ok : EnvOk Try.prog X0 ΓF := (((Γ0_ok.addX (bitsX_ok bare_bits)).addX (frombitsX_ok bare_from)).addX (sqrtX_ok bare_sqrt)).addX (truncX_ok bare_trunc)
end Go.Proofs.Ytpgdpoloipifeaa
