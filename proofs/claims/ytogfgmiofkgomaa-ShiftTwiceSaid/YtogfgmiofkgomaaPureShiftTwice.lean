/- ShiftTwice: the reckoning of the law, and that it is true. -/
import Derived.Test.YtogfgmiofkgomaaCSh3
import Derived.Test.YtogfgmiofkgomaaNShLaw
namespace Go.Proofs.Ytogfgmiofkgomaa.shiftTwice
open Go Go.Ev
set_option linter.unusedVariables false
set_option linter.unusedSimpArgs false
set_option maxRecDepth 100000
theorem form (a0_0 : Bool) (a0_1 : Bool) (a0_2 : Bool) (a0_3 : Bool) (a0_4 : Bool) (a0_5 : Bool) (a1 : Int) (a2 : Int) (a3 : Int) (a4 : Int) :
    evF Try.prog ΓSh3 400 10 [.agg [.v (.bool a0_0), .v (.bool a0_1), .v (.bool a0_2), .v (.bool a0_3), .v (.bool a0_4), .v (.bool a0_5)], .v (.int .u32 a1), .v (.int .u8 a2), .v (.int .u8 a3), .v (.int .u8 a4)] [] isT (fun _ _ => none) =
    (bif in32 a1 && in32 (IntKind.wrap IntKind.u32 (Int.tmod a2 16)) then
    bif
    in32
    (rV (IntKind.wrap IntKind.i64 (26 + IntKind.wrap IntKind.i64 (Int.tmod a4 5))) a1
    (IntKind.wrap IntKind.u32 (Int.tmod a2 16))) &&
    in32 (IntKind.wrap IntKind.u32 (Int.tmod a3 16)) then
    bif
    in32 a1 &&
    in32
    (IntKind.wrap IntKind.u32 (IntKind.wrap IntKind.u32 (Int.tmod a2 16) + IntKind.wrap IntKind.u32 (Int.tmod a3 16))) then
    bif in32 a1 && in32 (IntKind.wrap IntKind.u32 (Int.tmod a2 16)) then
    bif in32 (rV 26 a1 (IntKind.wrap IntKind.u32 (Int.tmod a2 16))) && in32 (IntKind.wrap IntKind.u32 (Int.tmod a2 16)) then
    bif
    rV (IntKind.wrap IntKind.i64 (26 + IntKind.wrap IntKind.i64 (Int.tmod a4 5)))
    (rV (IntKind.wrap IntKind.i64 (26 + IntKind.wrap IntKind.i64 (Int.tmod a4 5))) a1
    (IntKind.wrap IntKind.u32 (Int.tmod a2 16)))
    (IntKind.wrap IntKind.u32 (Int.tmod a3 16)) ==
    rV (IntKind.wrap IntKind.i64 (26 + IntKind.wrap IntKind.i64 (Int.tmod a4 5))) a1
    (IntKind.wrap IntKind.u32 (IntKind.wrap IntKind.u32 (Int.tmod a2 16) + IntKind.wrap IntKind.u32 (Int.tmod a3 16))) then
    some (rV 27 (rV 26 a1 (IntKind.wrap IntKind.u32 (Int.tmod a2 16))) (IntKind.wrap IntKind.u32 (Int.tmod a2 16)) == a1)
    else some false
    else none
    else none
    else none
    else none
    else none) := by kernel_rfl
set_option maxHeartbeats 1000000 in
theorem pure (a0_0 : Bool) (a0_1 : Bool) (a0_2 : Bool) (a0_3 : Bool) (a0_4 : Bool) (a0_5 : Bool) (a1 : Int) (a2 : Int) (a3 : Int) (a4 : Int) (w1 : (Lit.int .u32 a1).wf = true) (w2 : (Lit.int .u8 a2).wf = true) (w3 : (Lit.int .u8 a3).wf = true) (w4 : (Lit.int .u8 a4).wf = true) :
    evF Try.prog ΓSh3 400 10 [.agg [.v (.bool a0_0), .v (.bool a0_1), .v (.bool a0_2), .v (.bool a0_3), .v (.bool a0_4), .v (.bool a0_5)], .v (.int .u32 a1), .v (.int .u8 a2), .v (.int .u8 a3), .v (.int .u8 a4)] [] isT (fun _ _ => none) = some true := by
  rw [form]
  try simp only [bitsL_eq]
  have b1 := wf_u32 w1
  have b2 := wf_u8 w2
  have b3 := wf_u8 w3
  have b4 := wf_u8 w4
  have g1 := in32_iff.2 b1
  have t2 : Int.tmod a2 16 = a2 % 16 := Int.tmod_eq_emod_of_nonneg b2.1
  have t3 : Int.tmod a3 16 = a3 % 16 := Int.tmod_eq_emod_of_nonneg b3.1
  have t4 : Int.tmod a4 5 = a4 % 5 := Int.tmod_eq_emod_of_nonneg b4.1
  obtain ⟨x, hx⟩ : ∃ x, x = a2 % 16 := ⟨_, rfl⟩
  obtain ⟨y, hy⟩ : ∃ y, y = a3 % 16 := ⟨_, rfl⟩
  obtain ⟨op, hop⟩ : ∃ op, op = 26 + a4 % 5 := ⟨_, rfl⟩
  have ho : knownV op = true := by unfold knownV; simp; omega
  have xb : 0 ≤ x ∧ x ≤ 15 := by omega
  have yb : 0 ≤ y ∧ y ≤ 15 := by omega
  have ex : IntKind.wrap IntKind.u32 (Int.tmod a2 16) = x := by rw [t2, wr_u32_id (by omega) (by omega), hx]
  have ey : IntKind.wrap IntKind.u32 (Int.tmod a3 16) = y := by rw [t3, wr_u32_id (by omega) (by omega), hy]
  have eo : IntKind.wrap IntKind.i64 (26 + IntKind.wrap IntKind.i64 (Int.tmod a4 5)) = op := by rw [t4, wr_i64_id (n := a4 % 5) (by omega) (by omega), wr_i64_id (by omega) (by omega), hop]
  have es : IntKind.wrap IntKind.u32 (x + y) = x + y := wr_u32_id (by omega) (by omega)
  have gx : in32 x = true := in32_iff.2 (by omega)
  have gy : in32 y = true := in32_iff.2 (by omega)
  have gs : in32 (x + y) = true := in32_iff.2 (by omega)
  have v1 := rV_bd (op := op) (n := x) b1.1 b1.2
  have v2 := rV_bd (op := 26) (n := x) b1.1 b1.2
  have gv1 := in32_iff.2 v1
  have gv2 := in32_iff.2 v2
  have hK : shK (x + y) = shK x + shK y := by unfold shK; omega
  have k1 : rV op (rV op a1 x) y = rV op a1 (x + y) := by
    rw [rV_eq ho v1.1 v1.2, rV_eq ho b1.1 b1.2, rV_eq ho b1.1 b1.2, hK, sh_sh ho b1.1 b1.2 _ _ (by unfold shK; omega)]
  have k2 : rV 27 (rV 26 a1 x) x = a1 := by
    rw [rV_eq rfl v2.1 v2.2, rV_eq rfl b1.1 b1.2, turn_back b1.1 b1.2 _ (shK_lt x)]
  simp only [ex, ey, eo, es, g1, gx, gy, gs, gv1, gv2, k1, k2, Bool.and_self, cond_true, beq_self_eq_true]
end Go.Proofs.Ytogfgmiofkgomaa.shiftTwice
