/- The loops over sizes of AddrTells. -/
import Derived.Test.YtjcbgjakomalaaaCAt0
import Derived.Test.YtjcbgjakomalaaaCAt1
import Derived.Test.YtjcbgjakomalaaaCAt2
import Derived.Test.YtjcbgjakomalaaaCAt3
namespace Go.Proofs.Ytjcbgjakomalaaa
open Go Go.Ev
def selA (n : Nat) (t : List Sv) (m : List SObj) : Bool := Nat.beq m.length n
noncomputable def atH : Hook := orHook (selA 7) at0H (orHook (selA 10) at1H (orHook (selA 13) at2H at3H))
noncomputable def ΓAt : Env := ΓAd2.hook 7 2 atH
theorem ΓAt_ok : EnvOk Try.prog X0 ΓAt := ΓAd2_ok.hook (a := .loop (roundOf Try.prog 7 2)) (by kernel_rfl) (orHook_ok at0H_ok (orHook_ok at1H_ok (orHook_ok at2H_ok at3H_ok)))
end Go.Proofs.Ytjcbgjakomalaaa
