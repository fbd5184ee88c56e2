/- What StackTells reads. -/
import Derived.Test.YtjcbgjakomalaaaCOn
import Derived.Test.YtjcbgjakomalaaaCSk2
import Derived.Test.YtjcbgjakomalaaaCKn16
import Derived.Test.YtjcbgjakomalaaaCSt3
import Derived.Test.YtjcbgjakomalaaaNSans
namespace Go.Proofs.Ytjcbgjakomalaaa
open Go Go.Ev
set_option linter.unusedVariables false
set_option linter.unusedSimpArgs false
set_option maxRecDepth 100000
theorem skP_T (cb cs : Int) (cr cw cx : Bool) (db ds : Int) (dr dw dx : Bool) (T T2 : TypeId) (M : Int → Int) (r0 r1 r2 r3 r4 r5 r6 r7 ip : Int) (fc fp fz fs fo fd : Bool) (x0 x1 x2 x3 x4 x5 x6 x7 : Int) (op cond size : Int) (ak ar ab ai aq ad bk br bb bi bq bd c : Int) (rep : Bool) (len : Int) : sansT (skPT cb cs cr cw cx db ds dr dw dx T M r0 r1 r2 r3 r4 r5 r6 r7 ip fc fp fz fs fo fd x0 x1 x2 x3 x4 x5 x6 x7 op cond size ak ar ab ai aq ad bk br bb bi bq bd c rep len) = sansT (skPT cb cs cr cw cx db ds dr dw dx T2 M r0 r1 r2 r3 r4 r5 r6 r7 ip fc fp fz fs fo fd x0 x1 x2 x3 x4 x5 x6 x7 op cond size ak ar ab ai aq ad bk br bb bi bq bd c rep len) := by
  rw [skP_tree, skP_tree]
  simp only [sansT_cond]
  rfl
noncomputable def ΓTl : Env := (((ΓSk2.add 23 (pureSpec known16S)).add 42 (pureSpec stateS)).add 41 one8S)
theorem ΓTl_ok : EnvOk Try.prog X0 ΓTl := (((ΓSk2_ok.add (by kernel_rfl) (specOk_of_nice ΓM6_ok known16S_ok)).add (by kernel_rfl) (specOk_of_nice ΓSth_ok stateS_ok)).add (by kernel_rfl) one8S_ok)
end Go.Proofs.Ytjcbgjakomalaaa
