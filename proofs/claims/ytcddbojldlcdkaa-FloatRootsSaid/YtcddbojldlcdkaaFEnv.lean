/- The functions of floats that have no text. -/
import Derived.Test.YtcddbojldlcdkaaEnv
import Derived.Test.YtcddbojldlcdkaaEv8
namespace Go.Proofs.Ytcddbojldlcdkaa
open Go Go.Ev
set_option maxRecDepth 100000
theorem bare_bits : Bare Try.prog 68 Extern.MathFloatBits.float64bits := ⟨Try.f68, by kernel_rfl, by kernel_rfl, by kernel_rfl, by kernel_rfl, by kernel_rfl⟩
theorem bare_from : Bare Try.prog 65 Extern.MathFloatBits.float64frombits := ⟨Try.f65, by kernel_rfl, by kernel_rfl, by kernel_rfl, by kernel_rfl, by kernel_rfl⟩
theorem bare_sqrt : Bare Try.prog 93 Extern.MathSqrt.sqrt := ⟨Try.f93, by kernel_rfl, by kernel_rfl, by kernel_rfl, by kernel_rfl, by kernel_rfl⟩
theorem bare_trunc : Bare Try.prog 94 (Extern.MathFloor.toIntegral "math.archTrunc" .zero) := ⟨Try.f94, by kernel_rfl, by kernel_rfl, by kernel_rfl, by kernel_rfl, by kernel_rfl⟩
def ΓF : Env := (((Γ0.add 68 bitsX).add 65 frombitsX).add 93 sqrtX).add 94 truncX
theorem ΓF_ok : EnvOk Try.prog X0 ΓF := (((Γ0_ok.addX (bitsX_ok bare_bits)).addX (frombitsX_ok bare_from)).addX (sqrtX_ok bare_sqrt)).addX (truncX_ok bare_trunc)
end Go.Proofs.Ytcddbojldlcdkaa
