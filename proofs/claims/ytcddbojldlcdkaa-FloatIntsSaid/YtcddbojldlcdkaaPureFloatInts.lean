/- FloatInts: the reckoning of the law, and that it is true. -/
import Derived.Test.YtcddbojldlcdkaaCFl4
import Derived.Test.YtcddbojldlcdkaaNFlt6
namespace Go.Proofs.Ytcddbojldlcdkaa.floatInts
open Go Go.Ev
set_option linter.unusedVariables false
set_option linter.unusedSimpArgs false
set_option maxRecDepth 100000
theorem form (a0 : Int) (a1 : Int) (a2 : Int) :
    evF Try.prog ΓF4 400 8 [.v (.int .u64 a0), .v (.int .u64 a1), .v (.int .u32 a2)] [] isT (fun _ _ => none) =
    (bif in64 a0 then
    bif in64 a1 then
    bif in64 (selL 0 0 [a0, a1]) && in64 (selL 1 0 [a0, a1]) then
    bif in64 (selL 0 0 [a0, a1]) && in64 (selL 1 0 [a0, a1]) then
    bif
    !(cC (selL 0 0 [a0, a1]) (selL 1 0 [a0, a1]) == cC (selL 0 0 [a0, a1]) (selL 1 0 [a0, a1]) &&
    (cP (selL 0 0 [a0, a1]) (selL 1 0 [a0, a1]) == cP (selL 0 0 [a0, a1]) (selL 1 0 [a0, a1]) &&
    (cZ (selL 0 0 [a0, a1]) (selL 1 0 [a0, a1]) == cZ (selL 0 0 [a0, a1]) (selL 1 0 [a0, a1]) && true))) then
    some false
    else
    bif in64 (selL 0 0 [a0, a1]) then
    bif in64 (selL 0 0 [a0, a1]) then
    bif toV (selL 0 0 [a0, a1]) != toV (selL 0 0 [a0, a1]) then some false
    else
    bif in64 (selL 0 0 [a0, a1]) then
    bif in64 (selL 0 0 [a0, a1]) then
    bif !nanI (selL 0 0 [a0, a1]) == nanI (selL 0 0 [a0, a1]) then some false
    else
    bif in64 (selL 0 0 [a0, a1]) then
    bif in64 (selL 0 0 [a0, a1]) then
    bif quV (selL 0 0 [a0, a1]) != quV (selL 0 0 [a0, a1]) then some false
    else
    bif in64 (selL 0 0 [dblV a0, dblV a1]) && in64 (selL 1 0 [dblV a0, dblV a1]) then
    bif in64 (selL 0 0 [dblV a0, dblV a1]) && in64 (selL 1 0 [dblV a0, dblV a1]) then
    bif
    !(cC (selL 0 0 [dblV a0, dblV a1]) (selL 1 0 [dblV a0, dblV a1]) ==
    cC (selL 0 0 [dblV a0, dblV a1]) (selL 1 0 [dblV a0, dblV a1]) &&
    (cP (selL 0 0 [dblV a0, dblV a1]) (selL 1 0 [dblV a0, dblV a1]) ==
    cP (selL 0 0 [dblV a0, dblV a1]) (selL 1 0 [dblV a0, dblV a1]) &&
    (cZ (selL 0 0 [dblV a0, dblV a1]) (selL 1 0 [dblV a0, dblV a1]) ==
    cZ (selL 0 0 [dblV a0, dblV a1]) (selL 1 0 [dblV a0, dblV a1]) &&
    true))) then
    some false
    else
    bif in64 (selL 0 0 [dblV a0, dblV a1]) then
    bif in64 (selL 0 0 [dblV a0, dblV a1]) then
    bif toV (selL 0 0 [dblV a0, dblV a1]) != toV (selL 0 0 [dblV a0, dblV a1]) then some false
    else
    bif in64 (selL 0 0 [dblV a0, dblV a1]) then
    bif in64 (selL 0 0 [dblV a0, dblV a1]) then
    bif !nanI (selL 0 0 [dblV a0, dblV a1]) == nanI (selL 0 0 [dblV a0, dblV a1]) then some false
    else
    bif in64 (selL 0 0 [dblV a0, dblV a1]) then
    bif in64 (selL 0 0 [dblV a0, dblV a1]) then
    bif quV (selL 0 0 [dblV a0, dblV a1]) != quV (selL 0 0 [dblV a0, dblV a1]) then some false
    else
    bif in64 (selL 0 0 [a0, a0]) && in64 (selL 1 0 [a0, a0]) then
    bif in64 (selL 0 0 [a0, a0]) && in64 (selL 1 0 [a0, a0]) then
    bif
    !(cC (selL 0 0 [a0, a0]) (selL 1 0 [a0, a0]) == cC (selL 0 0 [a0, a0]) (selL 1 0 [a0, a0]) &&
    (cP (selL 0 0 [a0, a0]) (selL 1 0 [a0, a0]) == cP (selL 0 0 [a0, a0]) (selL 1 0 [a0, a0]) &&
    (cZ (selL 0 0 [a0, a0]) (selL 1 0 [a0, a0]) == cZ (selL 0 0 [a0, a0]) (selL 1 0 [a0, a0]) && true))) then
    some false
    else
    bif in64 (selL 0 0 [a0, a0]) then
    bif in64 (selL 0 0 [a0, a0]) then
    bif toV (selL 0 0 [a0, a0]) != toV (selL 0 0 [a0, a0]) then some false
    else
    bif in64 (selL 0 0 [a0, a0]) then
    bif in64 (selL 0 0 [a0, a0]) then
    bif !nanI (selL 0 0 [a0, a0]) == nanI (selL 0 0 [a0, a0]) then some false
    else
    bif in64 (selL 0 0 [a0, a0]) then
    bif in64 (selL 0 0 [a0, a0]) then
    bif quV (selL 0 0 [a0, a0]) != quV (selL 0 0 [a0, a0]) then some false
    else
    bif in32 a2 then
    bif in32 a2 then
    bif fromV a2 == fromV a2 then bif in32 a2 then bif in64 (fromV a2) then some (toV (fromV a2) == a2) else none else none
    else some false
    else none
    else none
    else none
    else none
    else none
    else none
    else none
    else none
    else none
    else none
    else none
    else none
    else none
    else none
    else none
    else none
    else none
    else none
    else none
    else none
    else none
    else none
    else none
    else none
    else none
    else none
    else none
    else none) := by kernel_rfl
set_option maxHeartbeats 1000000 in
theorem pure (a0 : Int) (a1 : Int) (a2 : Int) (w0 : (Lit.int .u64 a0).wf = true) (w1 : (Lit.int .u64 a1).wf = true) (w2 : (Lit.int .u32 a2).wf = true) :
    evF Try.prog ΓF4 400 8 [.v (.int .u64 a0), .v (.int .u64 a1), .v (.int .u32 a2)] [] isT (fun _ _ => none) = some true := by
  rw [form]
  try simp only [bitsL_eq]
  have g0 := in64_iff.2 (wf_u64 w0)
  have g1 := in64_iff.2 (wf_u64 w1)
  have b2 := wf_u32 w2
  have g2 : in32 a2 = true := in32_iff.2 b2
  have d0 := dblV_in g0
  have d1 := dblV_in g1
  have s0 : ∀ x y : Int, selL 0 0 [x, y] = x := fun _ _ => rfl
  have s1 : ∀ x y : Int, selL 1 0 [x, y] = y := fun _ _ => rfl
  have f2 := fromV_in a2
  have e2 : toV (fromV a2) = a2 := by
    have hb := s32_bd b2.1 b2.2
    have hw : IntKind.wrap .u32 (s32 a2) = a2 := by rw [IntKind.wrap_u32]; unfold s32; split <;> omega
    have h := fromV_int hb.1 hb.2
    rw [hw] at h
    rw [h.toV hb.1 hb.2, hw]
  simp only [s0, s1, g0, g1, g2, d0, d1, f2, e2, Bool.and_self, cond_true, cond_false, bne_self_eq_false, beq_self_eq_true, Bool.not_true, Bool.and_true]
end Go.Proofs.Ytcddbojldlcdkaa.floatInts
