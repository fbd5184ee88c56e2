/- ShiftCounts: the reckoning of the law, and that it is true. -/
import Derived.Test.YtogfgmiofkgomaaCSh3
import Derived.Test.YtogfgmiofkgomaaNShLaw
namespace Go.Proofs.Ytogfgmiofkgomaa.shiftCounts
open Go Go.Ev
set_option linter.unusedVariables false
set_option linter.unusedSimpArgs false
set_option maxRecDepth 100000
theorem form (a0 : Int) (a1_0 : Bool) (a1_1 : Bool) (a1_2 : Bool) (a1_3 : Bool) (a1_4 : Bool) (a1_5 : Bool) (a2 : Int) (a3 : Int) :
    evF Try.prog ΓSh3 400 13 [.v (.int .i64 a0), .agg [.v (.bool a1_0), .v (.bool a1_1), .v (.bool a1_2), .v (.bool a1_3), .v (.bool a1_4), .v (.bool a1_5)], .v (.int .u32 a2), .v (.int .u32 a3)] [] isT (fun _ _ => none) =
    (bif in32 a2 && in32 a3 then
    bif in32 a2 && in32 (bitsL BinOp.and IntKind.u32 a3 31) then
    bif in32 a2 && in32 (bitsL BinOp.andNot IntKind.u32 a3 31) then
    bif rV a0 a2 a3 != rV a0 a2 (bitsL BinOp.and IntKind.u32 a3 31) then some false
    else
    bif
    !(rC a0 a2 a3 a1_0 == rC a0 a2 (bitsL BinOp.and IntKind.u32 a3 31) a1_0 &&
    (rP a0 a2 a3 a1_1 == rP a0 a2 (bitsL BinOp.and IntKind.u32 a3 31) a1_1 &&
    (rZ a0 a2 a3 a1_2 == rZ a0 a2 (bitsL BinOp.and IntKind.u32 a3 31) a1_2 &&
    (rS a0 a2 a3 a1_3 == rS a0 a2 (bitsL BinOp.and IntKind.u32 a3 31) a1_3 &&
    (rO a0 a2 a3 a1_4 == rO a0 a2 (bitsL BinOp.and IntKind.u32 a3 31) a1_4 && (a1_5 == a1_5 && true)))))) then
    some false
    else
    bif rV a0 a2 (bitsL BinOp.andNot IntKind.u32 a3 31) != a2 then some false
    else
    bif
    !(rC a0 a2 (bitsL BinOp.andNot IntKind.u32 a3 31) a1_0 == a1_0 &&
    (rP a0 a2 (bitsL BinOp.andNot IntKind.u32 a3 31) a1_1 == a1_1 &&
    (rZ a0 a2 (bitsL BinOp.andNot IntKind.u32 a3 31) a1_2 == a1_2 &&
    (rS a0 a2 (bitsL BinOp.andNot IntKind.u32 a3 31) a1_3 == a1_3 &&
    (rO a0 a2 (bitsL BinOp.andNot IntKind.u32 a3 31) a1_4 == a1_4 && (a1_5 == a1_5 && true)))))) then
    some false
    else
    bif in32 a2 && in32 a3 then
    bif in32 a2 && in32 (bitsL BinOp.and IntKind.u32 a3 31) then
    bif in32 a2 && in32 (bitsL BinOp.andNot IntKind.u32 a3 31) then
    bif rV 26 a2 a3 != rV 26 a2 (bitsL BinOp.and IntKind.u32 a3 31) then some false
    else
    bif
    !(rC 26 a2 a3 a1_0 == rC 26 a2 (bitsL BinOp.and IntKind.u32 a3 31) a1_0 &&
    (rP 26 a2 a3 a1_1 == rP 26 a2 (bitsL BinOp.and IntKind.u32 a3 31) a1_1 &&
    (rZ 26 a2 a3 a1_2 == rZ 26 a2 (bitsL BinOp.and IntKind.u32 a3 31) a1_2 &&
    (rS 26 a2 a3 a1_3 == rS 26 a2 (bitsL BinOp.and IntKind.u32 a3 31) a1_3 &&
    (rO 26 a2 a3 a1_4 == rO 26 a2 (bitsL BinOp.and IntKind.u32 a3 31) a1_4 && (a1_5 == a1_5 && true)))))) then
    some false
    else
    bif rV 26 a2 (bitsL BinOp.andNot IntKind.u32 a3 31) != a2 then some false
    else
    bif
    !(rC 26 a2 (bitsL BinOp.andNot IntKind.u32 a3 31) a1_0 == a1_0 &&
    (rP 26 a2 (bitsL BinOp.andNot IntKind.u32 a3 31) a1_1 == a1_1 &&
    (rZ 26 a2 (bitsL BinOp.andNot IntKind.u32 a3 31) a1_2 == a1_2 &&
    (rS 26 a2 (bitsL BinOp.andNot IntKind.u32 a3 31) a1_3 == a1_3 &&
    (rO 26 a2 (bitsL BinOp.andNot IntKind.u32 a3 31) a1_4 == a1_4 && (a1_5 == a1_5 && true)))))) then
    some false
    else
    bif in32 a2 && in32 a3 then
    bif in32 a2 && in32 (bitsL BinOp.and IntKind.u32 a3 31) then
    bif in32 a2 && in32 (bitsL BinOp.andNot IntKind.u32 a3 31) then
    bif rV 27 a2 a3 != rV 27 a2 (bitsL BinOp.and IntKind.u32 a3 31) then some false
    else
    bif
    !(rC 27 a2 a3 a1_0 == rC 27 a2 (bitsL BinOp.and IntKind.u32 a3 31) a1_0 &&
    (rP 27 a2 a3 a1_1 == rP 27 a2 (bitsL BinOp.and IntKind.u32 a3 31) a1_1 &&
    (rZ 27 a2 a3 a1_2 == rZ 27 a2 (bitsL BinOp.and IntKind.u32 a3 31) a1_2 &&
    (rS 27 a2 a3 a1_3 == rS 27 a2 (bitsL BinOp.and IntKind.u32 a3 31) a1_3 &&
    (rO 27 a2 a3 a1_4 == rO 27 a2 (bitsL BinOp.and IntKind.u32 a3 31) a1_4 && (a1_5 == a1_5 && true)))))) then
    some false
    else
    bif rV 27 a2 (bitsL BinOp.andNot IntKind.u32 a3 31) != a2 then some false
    else
    bif
    !(rC 27 a2 (bitsL BinOp.andNot IntKind.u32 a3 31) a1_0 == a1_0 &&
    (rP 27 a2 (bitsL BinOp.andNot IntKind.u32 a3 31) a1_1 == a1_1 &&
    (rZ 27 a2 (bitsL BinOp.andNot IntKind.u32 a3 31) a1_2 == a1_2 &&
    (rS 27 a2 (bitsL BinOp.andNot IntKind.u32 a3 31) a1_3 == a1_3 &&
    (rO 27 a2 (bitsL BinOp.andNot IntKind.u32 a3 31) a1_4 == a1_4 && (a1_5 == a1_5 && true)))))) then
    some false
    else
    bif in32 a2 && in32 a3 then
    bif in32 a2 && in32 (bitsL BinOp.and IntKind.u32 a3 31) then
    bif in32 a2 && in32 (bitsL BinOp.andNot IntKind.u32 a3 31) then
    bif rV 28 a2 a3 != rV 28 a2 (bitsL BinOp.and IntKind.u32 a3 31) then some false
    else
    bif
    !(rC 28 a2 a3 a1_0 == rC 28 a2 (bitsL BinOp.and IntKind.u32 a3 31) a1_0 &&
    (rP 28 a2 a3 a1_1 == rP 28 a2 (bitsL BinOp.and IntKind.u32 a3 31) a1_1 &&
    (rZ 28 a2 a3 a1_2 == rZ 28 a2 (bitsL BinOp.and IntKind.u32 a3 31) a1_2 &&
    (rS 28 a2 a3 a1_3 == rS 28 a2 (bitsL BinOp.and IntKind.u32 a3 31) a1_3 &&
    (rO 28 a2 a3 a1_4 == rO 28 a2 (bitsL BinOp.and IntKind.u32 a3 31) a1_4 && (a1_5 == a1_5 && true)))))) then
    some false
    else
    bif rV 28 a2 (bitsL BinOp.andNot IntKind.u32 a3 31) != a2 then some false
    else
    bif
    !(rC 28 a2 (bitsL BinOp.andNot IntKind.u32 a3 31) a1_0 == a1_0 &&
    (rP 28 a2 (bitsL BinOp.andNot IntKind.u32 a3 31) a1_1 == a1_1 &&
    (rZ 28 a2 (bitsL BinOp.andNot IntKind.u32 a3 31) a1_2 == a1_2 &&
    (rS 28 a2 (bitsL BinOp.andNot IntKind.u32 a3 31) a1_3 == a1_3 &&
    (rO 28 a2 (bitsL BinOp.andNot IntKind.u32 a3 31) a1_4 == a1_4 && (a1_5 == a1_5 && true)))))) then
    some false
    else
    bif in32 a2 && in32 a3 then
    bif in32 a2 && in32 (bitsL BinOp.and IntKind.u32 a3 31) then
    bif in32 a2 && in32 (bitsL BinOp.andNot IntKind.u32 a3 31) then
    bif rV 29 a2 a3 != rV 29 a2 (bitsL BinOp.and IntKind.u32 a3 31) then some false
    else
    bif
    !(rC 29 a2 a3 a1_0 == rC 29 a2 (bitsL BinOp.and IntKind.u32 a3 31) a1_0 &&
    (rP 29 a2 a3 a1_1 == rP 29 a2 (bitsL BinOp.and IntKind.u32 a3 31) a1_1 &&
    (rZ 29 a2 a3 a1_2 == rZ 29 a2 (bitsL BinOp.and IntKind.u32 a3 31) a1_2 &&
    (rS 29 a2 a3 a1_3 == rS 29 a2 (bitsL BinOp.and IntKind.u32 a3 31) a1_3 &&
    (rO 29 a2 a3 a1_4 == rO 29 a2 (bitsL BinOp.and IntKind.u32 a3 31) a1_4 && (a1_5 == a1_5 && true)))))) then
    some false
    else
    bif rV 29 a2 (bitsL BinOp.andNot IntKind.u32 a3 31) != a2 then some false
    else
    bif
    !(rC 29 a2 (bitsL BinOp.andNot IntKind.u32 a3 31) a1_0 == a1_0 &&
    (rP 29 a2 (bitsL BinOp.andNot IntKind.u32 a3 31) a1_1 == a1_1 &&
    (rZ 29 a2 (bitsL BinOp.andNot IntKind.u32 a3 31) a1_2 == a1_2 &&
    (rS 29 a2 (bitsL BinOp.andNot IntKind.u32 a3 31) a1_3 == a1_3 &&
    (rO 29 a2 (bitsL BinOp.andNot IntKind.u32 a3 31) a1_4 == a1_4 && (a1_5 == a1_5 && true)))))) then
    some false
    else
    bif in32 a2 && in32 a3 then
    bif in32 a2 && in32 (bitsL BinOp.and IntKind.u32 a3 31) then
    bif in32 a2 && in32 (bitsL BinOp.andNot IntKind.u32 a3 31) then
    bif rV 30 a2 a3 != rV 30 a2 (bitsL BinOp.and IntKind.u32 a3 31) then some false
    else
    bif
    !(rC 30 a2 a3 a1_0 == rC 30 a2 (bitsL BinOp.and IntKind.u32 a3 31) a1_0 &&
    (rP 30 a2 a3 a1_1 == rP 30 a2 (bitsL BinOp.and IntKind.u32 a3 31) a1_1 &&
    (rZ 30 a2 a3 a1_2 == rZ 30 a2 (bitsL BinOp.and IntKind.u32 a3 31) a1_2 &&
    (rS 30 a2 a3 a1_3 == rS 30 a2 (bitsL BinOp.and IntKind.u32 a3 31) a1_3 &&
    (rO 30 a2 a3 a1_4 == rO 30 a2 (bitsL BinOp.and IntKind.u32 a3 31) a1_4 && (a1_5 == a1_5 && true)))))) then
    some false
    else
    bif rV 30 a2 (bitsL BinOp.andNot IntKind.u32 a3 31) != a2 then some false
    else
    bif
    !(rC 30 a2 (bitsL BinOp.andNot IntKind.u32 a3 31) a1_0 == a1_0 &&
    (rP 30 a2 (bitsL BinOp.andNot IntKind.u32 a3 31) a1_1 == a1_1 &&
    (rZ 30 a2 (bitsL BinOp.andNot IntKind.u32 a3 31) a1_2 == a1_2 &&
    (rS 30 a2 (bitsL BinOp.andNot IntKind.u32 a3 31) a1_3 == a1_3 &&
    (rO 30 a2 (bitsL BinOp.andNot IntKind.u32 a3 31) a1_4 == a1_4 && (a1_5 == a1_5 && true)))))) then
    some false
    else some true
    else none
    else none
    else none
    else none
    else none
    else none
    else none
    else none
    else none
    else none
    else none
    else none
    else none
    else none
    else none
    else none
    else none
    else none) := by kernel_rfl
set_option maxHeartbeats 1000000 in
theorem pure (a0 : Int) (a1_0 : Bool) (a1_1 : Bool) (a1_2 : Bool) (a1_3 : Bool) (a1_4 : Bool) (a1_5 : Bool) (a2 : Int) (a3 : Int) (w0 : (Lit.int .i64 a0).wf = true) (w2 : (Lit.int .u32 a2).wf = true) (w3 : (Lit.int .u32 a3).wf = true) :
    evF Try.prog ΓSh3 400 13 [.v (.int .i64 a0), .agg [.v (.bool a1_0), .v (.bool a1_1), .v (.bool a1_2), .v (.bool a1_3), .v (.bool a1_4), .v (.bool a1_5)], .v (.int .u32 a2), .v (.int .u32 a3)] [] isT (fun _ _ => none) = some true := by
  rw [form]
  try simp only [bitsL_eq]
  have g2 := in32_iff.2 (wf_u32 w2)
  have b3 := wf_u32 w3
  have g3 := in32_iff.2 b3
  have gm : in32 (a3 % 32) = true := in32_iff.2 (by omega)
  have gn : in32 (a3 - a3 % 32) = true := in32_iff.2 (by omega)
  have hz : (a3 - a3 % 32) % 32 = 0 := by omega
  have m := fun op => r_mod op a2 a3 a1_0 a1_1 a1_2 a1_3 a1_4
  have z := fun op => r_off (v := a2) (shOn_0 op hz) a1_0 a1_1 a1_2 a1_3 a1_4
  have m1 := fun op => (m op).1
  have m2 := fun op => (m op).2.1
  have m3 := fun op => (m op).2.2.1
  have m4 := fun op => (m op).2.2.2.1
  have m5 := fun op => (m op).2.2.2.2.1
  have m6 := fun op => (m op).2.2.2.2.2
  have z1 := fun op => (z op).1
  have z2 := fun op => (z op).2.1
  have z3 := fun op => (z op).2.2.1
  have z4 := fun op => (z op).2.2.2.1
  have z5 := fun op => (z op).2.2.2.2.1
  have z6 := fun op => (z op).2.2.2.2.2
  rw [and_mask31 b3.1 b3.2, not_mask31 b3.1 b3.2]
  simp only [m1, m2, m3, m4, m5, m6, z1, z2, z3, z4, z5, z6, g2, g3, gm, gn, Bool.and_self, cond_true, cond_false, bne_self_eq_false, beq_self_eq_true, Bool.not_true]
end Go.Proofs.Ytogfgmiofkgomaa.shiftCounts
