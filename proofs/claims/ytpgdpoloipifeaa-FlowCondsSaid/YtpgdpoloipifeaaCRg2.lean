/- Contracts of registers stand on those of places. -/
import Derived.Test.YtpgdpoloipifeaaCAd1
import Derived.Test.YtpgdpoloipifeaaNRegs2
namespace Go.Proofs.Ytpgdpoloipifeaa
open Go Go.Ev
def ΓRg2 : Env := ΓAd1
theorem ΓRg2_ok : EnvOk Try.prog X0 ΓRg2 := ΓAd1_ok
end Go.Proofs.Ytpgdpoloipifeaa
