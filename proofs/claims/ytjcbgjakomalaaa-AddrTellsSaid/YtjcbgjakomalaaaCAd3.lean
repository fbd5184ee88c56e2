/- What operands hold does not hang on the type that a bus bears. -/
import Derived.Test.YtjcbgjakomalaaaCAd2
import Derived.Test.YtjcbgjakomalaaaNSans
namespace Go.Proofs.Ytjcbgjakomalaaa
open Go Go.Ev
set_option linter.unusedVariables false
set_option linter.unusedSimpArgs false
set_option maxRecDepth 100000
theorem ldP_T (cb cs : Int) (cr cw cx : Bool) (db ds : Int) (dr dw dx : Bool) (T T2 : TypeId) (M : Int → Int) (r0 r1 r2 r3 r4 r5 r6 r7 ip : Int) (fc fp fz fs fo fd : Bool) (x0 x1 x2 x3 x4 x5 x6 x7 : Int) (ak ar ab ai aq ad : Int) (size : Int) : sansT (ldPT cb cs cr cw cx db ds dr dw dx T M r0 r1 r2 r3 r4 r5 r6 r7 ip fc fp fz fs fo fd x0 x1 x2 x3 x4 x5 x6 x7 ak ar ab ai aq ad size) = sansT (ldPT cb cs cr cw cx db ds dr dw dx T2 M r0 r1 r2 r3 r4 r5 r6 r7 ip fc fp fz fs fo fd x0 x1 x2 x3 x4 x5 x6 x7 ak ar ab ai aq ad size) := by
  rw [ldP_tree, ldP_tree]
  simp only [sansT_cond]
  rfl
theorem stP_T (cb cs : Int) (cr cw cx : Bool) (db ds : Int) (dr dw dx : Bool) (T T2 : TypeId) (M : Int → Int) (r0 r1 r2 r3 r4 r5 r6 r7 ip : Int) (fc fp fz fs fo fd : Bool) (x0 x1 x2 x3 x4 x5 x6 x7 : Int) (ak ar ab ai aq ad : Int) (size : Int) (v : Int) : sansT (stPT cb cs cr cw cx db ds dr dw dx T M r0 r1 r2 r3 r4 r5 r6 r7 ip fc fp fz fs fo fd x0 x1 x2 x3 x4 x5 x6 x7 ak ar ab ai aq ad size v) = sansT (stPT cb cs cr cw cx db ds dr dw dx T2 M r0 r1 r2 r3 r4 r5 r6 r7 ip fc fp fz fs fo fd x0 x1 x2 x3 x4 x5 x6 x7 ak ar ab ai aq ad size v) := by
  rw [stP_tree, stP_tree]
  simp only [sansT_cond]
  rfl
end Go.Proofs.Ytjcbgjakomalaaa
