/- FloatTells: the reckoning of the law, and that it is true. -/
import Derived.Test.YtcddbojldlcdkaaCFl4
import Derived.Test.YtcddbojldlcdkaaNFlt6
namespace Go.Proofs.Ytcddbojldlcdkaa.floatTells
open Go Go.Ev
set_option linter.unusedVariables false
set_option linter.unusedSimpArgs false
set_option maxRecDepth 100000
theorem form (a0 : Int) (a1 : Int) (a2 : Int) (a3 : Int) :
    evF Try.prog ΓF4 400 7 [.v (.int .i64 a0), .v (.int .u8 a1), .v (.int .u64 a2), .v (.int .u64 a3)] [] isT (fun _ _ => none) =
    (bif in64 a2 then
    bif in64 a3 then
    bif in64 a3 then
    bif in64 (Int.fdiv a2 8) then
    bif
    ini64 (selL 0 0 [a0, IntKind.wrap IntKind.i64 (51 + IntKind.wrap IntKind.i64 (Int.tmod a1 11))]) &&
    (in64 (selL 0 0 [a2, a3]) && in64 (selL 1 0 [a2, a3])) then
    bif
    ini64 (selL 0 0 [a0, IntKind.wrap IntKind.i64 (51 + IntKind.wrap IntKind.i64 (Int.tmod a1 11))]) &&
    (in64 (selL 0 0 [a2, a3]) && in64 (selL 1 0 [a2, a3])) then
    bif
    doV (selL 0 0 [a0, IntKind.wrap IntKind.i64 (51 + IntKind.wrap IntKind.i64 (Int.tmod a1 11))]) (selL 0 0 [a2, a3])
    (selL 1 0 [a2, a3]) !=
    doV (selL 0 0 [a0, IntKind.wrap IntKind.i64 (51 + IntKind.wrap IntKind.i64 (Int.tmod a1 11))]) (selL 0 0 [a2, a3])
    (selL 1 0 [a2, a3]) then
    some false
    else
    bif
    ini64 (selL 0 0 [a0, IntKind.wrap IntKind.i64 (51 + IntKind.wrap IntKind.i64 (Int.tmod a1 11))]) &&
    (in64 (selL 0 0 [dblV a2, dblV a3]) && in64 (selL 1 0 [dblV a2, dblV a3])) then
    bif
    ini64 (selL 0 0 [a0, IntKind.wrap IntKind.i64 (51 + IntKind.wrap IntKind.i64 (Int.tmod a1 11))]) &&
    (in64 (selL 0 0 [dblV a2, dblV a3]) && in64 (selL 1 0 [dblV a2, dblV a3])) then
    bif
    doV (selL 0 0 [a0, IntKind.wrap IntKind.i64 (51 + IntKind.wrap IntKind.i64 (Int.tmod a1 11))])
    (selL 0 0 [dblV a2, dblV a3]) (selL 1 0 [dblV a2, dblV a3]) !=
    doV (selL 0 0 [a0, IntKind.wrap IntKind.i64 (51 + IntKind.wrap IntKind.i64 (Int.tmod a1 11))])
    (selL 0 0 [dblV a2, dblV a3]) (selL 1 0 [dblV a2, dblV a3]) then
    some false
    else
    bif
    ini64 (selL 0 0 [a0, IntKind.wrap IntKind.i64 (51 + IntKind.wrap IntKind.i64 (Int.tmod a1 11))]) &&
    (in64 (selL 0 0 [dblV a3, dblV (Int.fdiv a2 8)]) && in64 (selL 1 0 [dblV a3, dblV (Int.fdiv a2 8)])) then
    bif
    ini64 (selL 0 0 [a0, IntKind.wrap IntKind.i64 (51 + IntKind.wrap IntKind.i64 (Int.tmod a1 11))]) &&
    (in64 (selL 0 0 [dblV a3, dblV (Int.fdiv a2 8)]) && in64 (selL 1 0 [dblV a3, dblV (Int.fdiv a2 8)])) then
    bif
    doV (selL 0 0 [a0, IntKind.wrap IntKind.i64 (51 + IntKind.wrap IntKind.i64 (Int.tmod a1 11))])
    (selL 0 0 [dblV a3, dblV (Int.fdiv a2 8)]) (selL 1 0 [dblV a3, dblV (Int.fdiv a2 8)]) !=
    doV (selL 0 0 [a0, IntKind.wrap IntKind.i64 (51 + IntKind.wrap IntKind.i64 (Int.tmod a1 11))])
    (selL 0 0 [dblV a3, dblV (Int.fdiv a2 8)]) (selL 1 0 [dblV a3, dblV (Int.fdiv a2 8)]) then
    some false
    else
    bif
    ini64 (selL 0 0 [a0, IntKind.wrap IntKind.i64 (51 + IntKind.wrap IntKind.i64 (Int.tmod a1 11))]) &&
    (in64 (selL 0 0 [a2, a2]) && in64 (selL 1 0 [a2, a2])) then
    bif
    ini64 (selL 0 0 [a0, IntKind.wrap IntKind.i64 (51 + IntKind.wrap IntKind.i64 (Int.tmod a1 11))]) &&
    (in64 (selL 0 0 [a2, a2]) && in64 (selL 1 0 [a2, a2])) then
    bif
    doV (selL 0 0 [a0, IntKind.wrap IntKind.i64 (51 + IntKind.wrap IntKind.i64 (Int.tmod a1 11))]) (selL 0 0 [a2, a2])
    (selL 1 0 [a2, a2]) !=
    doV (selL 0 0 [a0, IntKind.wrap IntKind.i64 (51 + IntKind.wrap IntKind.i64 (Int.tmod a1 11))]) (selL 0 0 [a2, a2])
    (selL 1 0 [a2, a2]) then
    some false
    else
    bif in64 a2 then
    bif in64 a3 then
    bif in64 a3 then
    bif in64 (Int.fdiv a2 8) then
    bif
    ini64 (selL 1 0 [a0, IntKind.wrap IntKind.i64 (51 + IntKind.wrap IntKind.i64 (Int.tmod a1 11))]) &&
    (in64 (selL 0 0 [a2, a3]) && in64 (selL 1 0 [a2, a3])) then
    bif
    ini64 (selL 1 0 [a0, IntKind.wrap IntKind.i64 (51 + IntKind.wrap IntKind.i64 (Int.tmod a1 11))]) &&
    (in64 (selL 0 0 [a2, a3]) && in64 (selL 1 0 [a2, a3])) then
    bif
    doV (selL 1 0 [a0, IntKind.wrap IntKind.i64 (51 + IntKind.wrap IntKind.i64 (Int.tmod a1 11))]) (selL 0 0 [a2, a3])
    (selL 1 0 [a2, a3]) !=
    doV (selL 1 0 [a0, IntKind.wrap IntKind.i64 (51 + IntKind.wrap IntKind.i64 (Int.tmod a1 11))]) (selL 0 0 [a2, a3])
    (selL 1 0 [a2, a3]) then
    some false
    else
    bif
    ini64 (selL 1 0 [a0, IntKind.wrap IntKind.i64 (51 + IntKind.wrap IntKind.i64 (Int.tmod a1 11))]) &&
    (in64 (selL 0 0 [dblV a2, dblV a3]) && in64 (selL 1 0 [dblV a2, dblV a3])) then
    bif
    ini64 (selL 1 0 [a0, IntKind.wrap IntKind.i64 (51 + IntKind.wrap IntKind.i64 (Int.tmod a1 11))]) &&
    (in64 (selL 0 0 [dblV a2, dblV a3]) && in64 (selL 1 0 [dblV a2, dblV a3])) then
    bif
    doV (selL 1 0 [a0, IntKind.wrap IntKind.i64 (51 + IntKind.wrap IntKind.i64 (Int.tmod a1 11))])
    (selL 0 0 [dblV a2, dblV a3]) (selL 1 0 [dblV a2, dblV a3]) !=
    doV (selL 1 0 [a0, IntKind.wrap IntKind.i64 (51 + IntKind.wrap IntKind.i64 (Int.tmod a1 11))])
    (selL 0 0 [dblV a2, dblV a3]) (selL 1 0 [dblV a2, dblV a3]) then
    some false
    else
    bif
    ini64 (selL 1 0 [a0, IntKind.wrap IntKind.i64 (51 + IntKind.wrap IntKind.i64 (Int.tmod a1 11))]) &&
    (in64 (selL 0 0 [dblV a3, dblV (Int.fdiv a2 8)]) && in64 (selL 1 0 [dblV a3, dblV (Int.fdiv a2 8)])) then
    bif
    ini64 (selL 1 0 [a0, IntKind.wrap IntKind.i64 (51 + IntKind.wrap IntKind.i64 (Int.tmod a1 11))]) &&
    (in64 (selL 0 0 [dblV a3, dblV (Int.fdiv a2 8)]) && in64 (selL 1 0 [dblV a3, dblV (Int.fdiv a2 8)])) then
    bif
    doV (selL 1 0 [a0, IntKind.wrap IntKind.i64 (51 + IntKind.wrap IntKind.i64 (Int.tmod a1 11))])
    (selL 0 0 [dblV a3, dblV (Int.fdiv a2 8)]) (selL 1 0 [dblV a3, dblV (Int.fdiv a2 8)]) !=
    doV (selL 1 0 [a0, IntKind.wrap IntKind.i64 (51 + IntKind.wrap IntKind.i64 (Int.tmod a1 11))])
    (selL 0 0 [dblV a3, dblV (Int.fdiv a2 8)]) (selL 1 0 [dblV a3, dblV (Int.fdiv a2 8)]) then
    some false
    else
    bif
    ini64 (selL 1 0 [a0, IntKind.wrap IntKind.i64 (51 + IntKind.wrap IntKind.i64 (Int.tmod a1 11))]) &&
    (in64 (selL 0 0 [a2, a2]) && in64 (selL 1 0 [a2, a2])) then
    bif
    ini64 (selL 1 0 [a0, IntKind.wrap IntKind.i64 (51 + IntKind.wrap IntKind.i64 (Int.tmod a1 11))]) &&
    (in64 (selL 0 0 [a2, a2]) && in64 (selL 1 0 [a2, a2])) then
    bif
    doV (selL 1 0 [a0, IntKind.wrap IntKind.i64 (51 + IntKind.wrap IntKind.i64 (Int.tmod a1 11))]) (selL 0 0 [a2, a2])
    (selL 1 0 [a2, a2]) !=
    doV (selL 1 0 [a0, IntKind.wrap IntKind.i64 (51 + IntKind.wrap IntKind.i64 (Int.tmod a1 11))]) (selL 0 0 [a2, a2])
    (selL 1 0 [a2, a2]) then
    some false
    else some true
    else none
    else none
    else none
    else none
    else none
    else none
    else none
    else none
    else none
    else none
    else none
    else none
    else none
    else none
    else none
    else none
    else none
    else none
    else none
    else none
    else none
    else none
    else none
    else none) := by kernel_rfl
set_option maxHeartbeats 1000000 in
theorem pure (a0 : Int) (a1 : Int) (a2 : Int) (a3 : Int) (w0 : (Lit.int .i64 a0).wf = true) (w1 : (Lit.int .u8 a1).wf = true) (w2 : (Lit.int .u64 a2).wf = true) (w3 : (Lit.int .u64 a3).wf = true) :
    evF Try.prog ΓF4 400 7 [.v (.int .i64 a0), .v (.int .u8 a1), .v (.int .u64 a2), .v (.int .u64 a3)] [] isT (fun _ _ => none) = some true := by
  rw [form]
  try simp only [bitsL_eq]
  have g2 := in64_iff.2 (wf_u64 w2)
  have g3 := in64_iff.2 (wf_u64 w3)
  have b2 := wf_u64 w2
  have e8 : Int.fdiv a2 8 = a2 / 8 := Int.fdiv_eq_ediv_of_nonneg _ (by omega)
  have g8 : in64 (Int.fdiv a2 8) = true := by rw [e8, in64_iff]; omega
  have d2 := dblV_in g2
  have d3 := dblV_in g3
  have d8 := dblV_in g8
  have i0 : ini64 a0 = true := ini64_iff.2 (by have := wf_i64 w0; omega)
  have i1 := ini64_wr (51 + IntKind.wrap .i64 (Int.tmod a1 11))
  have s0 : ∀ x y : Int, selL 0 0 [x, y] = x := fun _ _ => rfl
  have s1 : ∀ x y : Int, selL 1 0 [x, y] = y := fun _ _ => rfl
  simp only [s0, s1, g2, g3, g8, d2, d3, d8, i0, i1, Bool.and_self, cond_true, cond_false, bne_self_eq_false]
end Go.Proofs.Ytcddbojldlcdkaa.floatTells
