/- ShiftTells: the reckoning of the law, and that it is true. -/
import Derived.Test.YtogfgmiofkgomaaCSh3
import Derived.Test.YtogfgmiofkgomaaNShLaw
namespace Go.Proofs.Ytogfgmiofkgomaa.shiftTells
open Go Go.Ev
set_option linter.unusedVariables false
set_option linter.unusedSimpArgs false
set_option maxRecDepth 100000
theorem form (a0 : Int) (a1 : Int) (a2_0 : Bool) (a2_1 : Bool) (a2_2 : Bool) (a2_3 : Bool) (a2_4 : Bool) (a2_5 : Bool) (a3 : Int) (a4 : Int) :
    evF Try.prog ΓSh3 400 9 [.v (.int .i64 a0), .v (.int .u8 a1), .agg [.v (.bool a2_0), .v (.bool a2_1), .v (.bool a2_2), .v (.bool a2_3), .v (.bool a2_4), .v (.bool a2_5)], .v (.int .u32 a3), .v (.int .u32 a4)] [] isT (fun _ _ => none) =
    (bif in32 a3 && in32 a4 then
    bif in32 a3 && in32 a4 then
    bif rV a0 a3 a4 != rV a0 a3 a4 then some false
    else
    bif
    !(rC a0 a3 a4 a2_0 == rC a0 a3 a4 a2_0 &&
    (rP a0 a3 a4 a2_1 == rP a0 a3 a4 a2_1 &&
    (rZ a0 a3 a4 a2_2 == rZ a0 a3 a4 a2_2 &&
    (rS a0 a3 a4 a2_3 == rS a0 a3 a4 a2_3 && (rO a0 a3 a4 a2_4 == rO a0 a3 a4 a2_4 && (a2_5 == a2_5 && true)))))) then
    some false
    else
    bif !knownV a0 == knownV a0 then some false
    else
    bif in32 a3 && in32 (bitsL BinOp.and IntKind.u32 a4 31) then
    bif in32 a3 && in32 (bitsL BinOp.and IntKind.u32 a4 31) then
    bif rV a0 a3 (bitsL BinOp.and IntKind.u32 a4 31) != rV a0 a3 (bitsL BinOp.and IntKind.u32 a4 31) then some false
    else
    bif
    !(rC a0 a3 (bitsL BinOp.and IntKind.u32 a4 31) a2_0 == rC a0 a3 (bitsL BinOp.and IntKind.u32 a4 31) a2_0 &&
    (rP a0 a3 (bitsL BinOp.and IntKind.u32 a4 31) a2_1 == rP a0 a3 (bitsL BinOp.and IntKind.u32 a4 31) a2_1 &&
    (rZ a0 a3 (bitsL BinOp.and IntKind.u32 a4 31) a2_2 == rZ a0 a3 (bitsL BinOp.and IntKind.u32 a4 31) a2_2 &&
    (rS a0 a3 (bitsL BinOp.and IntKind.u32 a4 31) a2_3 == rS a0 a3 (bitsL BinOp.and IntKind.u32 a4 31) a2_3 &&
    (rO a0 a3 (bitsL BinOp.and IntKind.u32 a4 31) a2_4 == rO a0 a3 (bitsL BinOp.and IntKind.u32 a4 31) a2_4 &&
    (a2_5 == a2_5 && true)))))) then
    some false
    else
    bif !knownV a0 == knownV a0 then some false
    else
    bif in32 a3 && true then
    bif in32 a3 && true then
    bif rV a0 a3 1 != rV a0 a3 1 then some false
    else
    bif
    !(rC a0 a3 1 a2_0 == rC a0 a3 1 a2_0 &&
    (rP a0 a3 1 a2_1 == rP a0 a3 1 a2_1 &&
    (rZ a0 a3 1 a2_2 == rZ a0 a3 1 a2_2 &&
    (rS a0 a3 1 a2_3 == rS a0 a3 1 a2_3 && (rO a0 a3 1 a2_4 == rO a0 a3 1 a2_4 && (a2_5 == a2_5 && true)))))) then
    some false
    else
    bif !knownV a0 == knownV a0 then some false
    else
    bif in32 a3 && true then
    bif in32 a3 && true then
    bif rV a0 a3 0 != rV a0 a3 0 then some false
    else
    bif
    !(rC a0 a3 0 a2_0 == rC a0 a3 0 a2_0 &&
    (rP a0 a3 0 a2_1 == rP a0 a3 0 a2_1 &&
    (rZ a0 a3 0 a2_2 == rZ a0 a3 0 a2_2 &&
    (rS a0 a3 0 a2_3 == rS a0 a3 0 a2_3 && (rO a0 a3 0 a2_4 == rO a0 a3 0 a2_4 && (a2_5 == a2_5 && true)))))) then
    some false
    else
    bif !knownV a0 == knownV a0 then some false
    else
    bif in32 a3 && true then
    bif in32 a3 && true then
    bif rV a0 a3 31 != rV a0 a3 31 then some false
    else
    bif
    !(rC a0 a3 31 a2_0 == rC a0 a3 31 a2_0 &&
    (rP a0 a3 31 a2_1 == rP a0 a3 31 a2_1 &&
    (rZ a0 a3 31 a2_2 == rZ a0 a3 31 a2_2 &&
    (rS a0 a3 31 a2_3 == rS a0 a3 31 a2_3 && (rO a0 a3 31 a2_4 == rO a0 a3 31 a2_4 && (a2_5 == a2_5 && true)))))) then
    some false
    else
    bif !knownV a0 == knownV a0 then some false
    else
    bif in32 a3 && in32 a4 then
    bif in32 a3 && in32 a4 then
    bif
    rV (IntKind.wrap IntKind.i64 (26 + IntKind.wrap IntKind.i64 (Int.tmod a1 5))) a3 a4 !=
    rV (IntKind.wrap IntKind.i64 (26 + IntKind.wrap IntKind.i64 (Int.tmod a1 5))) a3 a4 then
    some false
    else
    bif
    !(rC (IntKind.wrap IntKind.i64 (26 + IntKind.wrap IntKind.i64 (Int.tmod a1 5))) a3 a4 a2_0 ==
    rC (IntKind.wrap IntKind.i64 (26 + IntKind.wrap IntKind.i64 (Int.tmod a1 5))) a3 a4 a2_0 &&
    (rP (IntKind.wrap IntKind.i64 (26 + IntKind.wrap IntKind.i64 (Int.tmod a1 5))) a3 a4 a2_1 ==
    rP (IntKind.wrap IntKind.i64 (26 + IntKind.wrap IntKind.i64 (Int.tmod a1 5))) a3 a4 a2_1 &&
    (rZ (IntKind.wrap IntKind.i64 (26 + IntKind.wrap IntKind.i64 (Int.tmod a1 5))) a3 a4 a2_2 ==
    rZ (IntKind.wrap IntKind.i64 (26 + IntKind.wrap IntKind.i64 (Int.tmod a1 5))) a3 a4 a2_2 &&
    (rS (IntKind.wrap IntKind.i64 (26 + IntKind.wrap IntKind.i64 (Int.tmod a1 5))) a3 a4 a2_3 ==
    rS (IntKind.wrap IntKind.i64 (26 + IntKind.wrap IntKind.i64 (Int.tmod a1 5))) a3 a4 a2_3 &&
    (rO (IntKind.wrap IntKind.i64 (26 + IntKind.wrap IntKind.i64 (Int.tmod a1 5))) a3 a4 a2_4 ==
    rO (IntKind.wrap IntKind.i64 (26 + IntKind.wrap IntKind.i64 (Int.tmod a1 5))) a3 a4 a2_4 &&
    (a2_5 == a2_5 && true)))))) then
    some false
    else
    bif
    !knownV (IntKind.wrap IntKind.i64 (26 + IntKind.wrap IntKind.i64 (Int.tmod a1 5))) ==
    knownV (IntKind.wrap IntKind.i64 (26 + IntKind.wrap IntKind.i64 (Int.tmod a1 5))) then
    some false
    else
    bif in32 a3 && in32 (bitsL BinOp.and IntKind.u32 a4 31) then
    bif in32 a3 && in32 (bitsL BinOp.and IntKind.u32 a4 31) then
    bif
    rV (IntKind.wrap IntKind.i64 (26 + IntKind.wrap IntKind.i64 (Int.tmod a1 5))) a3 (bitsL BinOp.and IntKind.u32 a4 31) !=
    rV (IntKind.wrap IntKind.i64 (26 + IntKind.wrap IntKind.i64 (Int.tmod a1 5))) a3
    (bitsL BinOp.and IntKind.u32 a4 31) then
    some false
    else
    bif
    !(rC (IntKind.wrap IntKind.i64 (26 + IntKind.wrap IntKind.i64 (Int.tmod a1 5))) a3 (bitsL BinOp.and IntKind.u32 a4 31)
    a2_0 ==
    rC (IntKind.wrap IntKind.i64 (26 + IntKind.wrap IntKind.i64 (Int.tmod a1 5))) a3 (bitsL BinOp.and IntKind.u32 a4 31)
    a2_0 &&
    (rP (IntKind.wrap IntKind.i64 (26 + IntKind.wrap IntKind.i64 (Int.tmod a1 5))) a3 (bitsL BinOp.and IntKind.u32 a4 31)
    a2_1 ==
    rP (IntKind.wrap IntKind.i64 (26 + IntKind.wrap IntKind.i64 (Int.tmod a1 5))) a3 (bitsL BinOp.and IntKind.u32 a4 31)
    a2_1 &&
    (rZ (IntKind.wrap IntKind.i64 (26 + IntKind.wrap IntKind.i64 (Int.tmod a1 5))) a3 (bitsL BinOp.and IntKind.u32 a4 31)
    a2_2 ==
    rZ (IntKind.wrap IntKind.i64 (26 + IntKind.wrap IntKind.i64 (Int.tmod a1 5))) a3 (bitsL BinOp.and IntKind.u32 a4 31)
    a2_2 &&
    (rS (IntKind.wrap IntKind.i64 (26 + IntKind.wrap IntKind.i64 (Int.tmod a1 5))) a3 (bitsL BinOp.and IntKind.u32 a4 31)
    a2_3 ==
    rS (IntKind.wrap IntKind.i64 (26 + IntKind.wrap IntKind.i64 (Int.tmod a1 5))) a3 (bitsL BinOp.and IntKind.u32 a4 31)
    a2_3 &&
    (rO (IntKind.wrap IntKind.i64 (26 + IntKind.wrap IntKind.i64 (Int.tmod a1 5))) a3 (bitsL BinOp.and IntKind.u32 a4 31)
    a2_4 ==
    rO (IntKind.wrap IntKind.i64 (26 + IntKind.wrap IntKind.i64 (Int.tmod a1 5))) a3 (bitsL BinOp.and IntKind.u32 a4 31)
    a2_4 &&
    (a2_5 == a2_5 && true)))))) then
    some false
    else
    bif
    !knownV (IntKind.wrap IntKind.i64 (26 + IntKind.wrap IntKind.i64 (Int.tmod a1 5))) ==
    knownV (IntKind.wrap IntKind.i64 (26 + IntKind.wrap IntKind.i64 (Int.tmod a1 5))) then
    some false
    else
    bif in32 a3 && true then
    bif in32 a3 && true then
    bif
    rV (IntKind.wrap IntKind.i64 (26 + IntKind.wrap IntKind.i64 (Int.tmod a1 5))) a3 1 !=
    rV (IntKind.wrap IntKind.i64 (26 + IntKind.wrap IntKind.i64 (Int.tmod a1 5))) a3 1 then
    some false
    else
    bif
    !(rC (IntKind.wrap IntKind.i64 (26 + IntKind.wrap IntKind.i64 (Int.tmod a1 5))) a3 1 a2_0 ==
    rC (IntKind.wrap IntKind.i64 (26 + IntKind.wrap IntKind.i64 (Int.tmod a1 5))) a3 1 a2_0 &&
    (rP (IntKind.wrap IntKind.i64 (26 + IntKind.wrap IntKind.i64 (Int.tmod a1 5))) a3 1 a2_1 ==
    rP (IntKind.wrap IntKind.i64 (26 + IntKind.wrap IntKind.i64 (Int.tmod a1 5))) a3 1 a2_1 &&
    (rZ (IntKind.wrap IntKind.i64 (26 + IntKind.wrap IntKind.i64 (Int.tmod a1 5))) a3 1 a2_2 ==
    rZ (IntKind.wrap IntKind.i64 (26 + IntKind.wrap IntKind.i64 (Int.tmod a1 5))) a3 1 a2_2 &&
    (rS (IntKind.wrap IntKind.i64 (26 + IntKind.wrap IntKind.i64 (Int.tmod a1 5))) a3 1 a2_3 ==
    rS (IntKind.wrap IntKind.i64 (26 + IntKind.wrap IntKind.i64 (Int.tmod a1 5))) a3 1 a2_3 &&
    (rO (IntKind.wrap IntKind.i64 (26 + IntKind.wrap IntKind.i64 (Int.tmod a1 5))) a3 1 a2_4 ==
    rO (IntKind.wrap IntKind.i64 (26 + IntKind.wrap IntKind.i64 (Int.tmod a1 5))) a3 1 a2_4 &&
    (a2_5 == a2_5 && true)))))) then
    some false
    else
    bif
    !knownV (IntKind.wrap IntKind.i64 (26 + IntKind.wrap IntKind.i64 (Int.tmod a1 5))) ==
    knownV (IntKind.wrap IntKind.i64 (26 + IntKind.wrap IntKind.i64 (Int.tmod a1 5))) then
    some false
    else
    bif in32 a3 && true then
    bif in32 a3 && true then
    bif
    rV (IntKind.wrap IntKind.i64 (26 + IntKind.wrap IntKind.i64 (Int.tmod a1 5))) a3 0 !=
    rV (IntKind.wrap IntKind.i64 (26 + IntKind.wrap IntKind.i64 (Int.tmod a1 5))) a3 0 then
    some false
    else
    bif
    !(rC (IntKind.wrap IntKind.i64 (26 + IntKind.wrap IntKind.i64 (Int.tmod a1 5))) a3 0 a2_0 ==
    rC (IntKind.wrap IntKind.i64 (26 + IntKind.wrap IntKind.i64 (Int.tmod a1 5))) a3 0 a2_0 &&
    (rP (IntKind.wrap IntKind.i64 (26 + IntKind.wrap IntKind.i64 (Int.tmod a1 5))) a3 0 a2_1 ==
    rP (IntKind.wrap IntKind.i64 (26 + IntKind.wrap IntKind.i64 (Int.tmod a1 5))) a3 0 a2_1 &&
    (rZ (IntKind.wrap IntKind.i64 (26 + IntKind.wrap IntKind.i64 (Int.tmod a1 5))) a3 0 a2_2 ==
    rZ (IntKind.wrap IntKind.i64 (26 + IntKind.wrap IntKind.i64 (Int.tmod a1 5))) a3 0 a2_2 &&
    (rS (IntKind.wrap IntKind.i64 (26 + IntKind.wrap IntKind.i64 (Int.tmod a1 5))) a3 0 a2_3 ==
    rS (IntKind.wrap IntKind.i64 (26 + IntKind.wrap IntKind.i64 (Int.tmod a1 5))) a3 0 a2_3 &&
    (rO (IntKind.wrap IntKind.i64 (26 + IntKind.wrap IntKind.i64 (Int.tmod a1 5))) a3 0 a2_4 ==
    rO (IntKind.wrap IntKind.i64 (26 + IntKind.wrap IntKind.i64 (Int.tmod a1 5))) a3 0 a2_4 &&
    (a2_5 == a2_5 && true)))))) then
    some false
    else
    bif
    !knownV (IntKind.wrap IntKind.i64 (26 + IntKind.wrap IntKind.i64 (Int.tmod a1 5))) ==
    knownV (IntKind.wrap IntKind.i64 (26 + IntKind.wrap IntKind.i64 (Int.tmod a1 5))) then
    some false
    else
    bif in32 a3 && true then
    bif in32 a3 && true then
    bif
    rV (IntKind.wrap IntKind.i64 (26 + IntKind.wrap IntKind.i64 (Int.tmod a1 5))) a3 31 !=
    rV (IntKind.wrap IntKind.i64 (26 + IntKind.wrap IntKind.i64 (Int.tmod a1 5))) a3 31 then
    some false
    else
    bif
    !(rC (IntKind.wrap IntKind.i64 (26 + IntKind.wrap IntKind.i64 (Int.tmod a1 5))) a3 31 a2_0 ==
    rC (IntKind.wrap IntKind.i64 (26 + IntKind.wrap IntKind.i64 (Int.tmod a1 5))) a3 31 a2_0 &&
    (rP (IntKind.wrap IntKind.i64 (26 + IntKind.wrap IntKind.i64 (Int.tmod a1 5))) a3 31 a2_1 ==
    rP (IntKind.wrap IntKind.i64 (26 + IntKind.wrap IntKind.i64 (Int.tmod a1 5))) a3 31 a2_1 &&
    (rZ (IntKind.wrap IntKind.i64 (26 + IntKind.wrap IntKind.i64 (Int.tmod a1 5))) a3 31 a2_2 ==
    rZ (IntKind.wrap IntKind.i64 (26 + IntKind.wrap IntKind.i64 (Int.tmod a1 5))) a3 31 a2_2 &&
    (rS (IntKind.wrap IntKind.i64 (26 + IntKind.wrap IntKind.i64 (Int.tmod a1 5))) a3 31 a2_3 ==
    rS (IntKind.wrap IntKind.i64 (26 + IntKind.wrap IntKind.i64 (Int.tmod a1 5))) a3 31 a2_3 &&
    (rO (IntKind.wrap IntKind.i64 (26 + IntKind.wrap IntKind.i64 (Int.tmod a1 5))) a3 31 a2_4 ==
    rO (IntKind.wrap IntKind.i64 (26 + IntKind.wrap IntKind.i64 (Int.tmod a1 5))) a3 31 a2_4 &&
    (a2_5 == a2_5 && true)))))) then
    some false
    else
    bif
    !knownV (IntKind.wrap IntKind.i64 (26 + IntKind.wrap IntKind.i64 (Int.tmod a1 5))) ==
    knownV (IntKind.wrap IntKind.i64 (26 + IntKind.wrap IntKind.i64 (Int.tmod a1 5))) then
    some false
    else some true
    else none
    else none
    else none
    else none
    else none
    else none
    else none
    else none
    else none
    else none
    else none
    else none
    else none
    else none
    else none
    else none
    else none
    else none
    else none
    else none) := by kernel_rfl
set_option maxHeartbeats 1000000 in
theorem pure (a0 : Int) (a1 : Int) (a2_0 : Bool) (a2_1 : Bool) (a2_2 : Bool) (a2_3 : Bool) (a2_4 : Bool) (a2_5 : Bool) (a3 : Int) (a4 : Int) (w0 : (Lit.int .i64 a0).wf = true) (w1 : (Lit.int .u8 a1).wf = true) (w3 : (Lit.int .u32 a3).wf = true) (w4 : (Lit.int .u32 a4).wf = true) :
    evF Try.prog ΓSh3 400 9 [.v (.int .i64 a0), .v (.int .u8 a1), .agg [.v (.bool a2_0), .v (.bool a2_1), .v (.bool a2_2), .v (.bool a2_3), .v (.bool a2_4), .v (.bool a2_5)], .v (.int .u32 a3), .v (.int .u32 a4)] [] isT (fun _ _ => none) = some true := by
  rw [form]
  try simp only [bitsL_eq]
  have g3 := in32_iff.2 (wf_u32 w3)
  have b4 := wf_u32 w4
  have g4 := in32_iff.2 b4
  have gm : in32 (a4 % 32) = true := in32_iff.2 (by omega)
  rw [and_mask31 b4.1 b4.2]
  simp [g3, g4, gm]
end Go.Proofs.Ytogfgmiofkgomaa.shiftTells
