/- AddrRound: the reckoning of the law, and that it is true. -/
import Derived.Test.YtllfmajphmfehaaEnv
import Derived.Test.YtllfmajphmfehaaEv8
namespace Go.Proofs.Ytllfmajphmfehaa.addrRound
open Go Go.Ev
set_option linter.unusedVariables false
set_option linter.unusedSimpArgs false
set_option maxRecDepth 100000
theorem form (a0_0 : Int) (a0_1 : Int) (a0_2 : Int) (a0_3 : Int) (a0_4 : Int) (a0_5 : Int) (a0_6 : Int) (a0_7 : Int) (a0_8 : Int) (a0_9 : Bool) (a0_10 : Bool) (a0_11 : Bool) (a0_12 : Bool) (a0_13 : Bool) (a0_14 : Bool) (a0_15 : Int) (a0_16 : Int) (a0_17 : Int) (a0_18 : Int) (a0_19 : Int) (a0_20 : Int) (a0_21 : Int) (a0_22 : Int) (a1 : Int) (a2 : Int) (a3 : Int) (a4 : Int) :
    evF Try.prog (Γ0.cut [(57, 11, 8), (57, 12, 8)]) 400 3 [.agg [.v (.int .u32 a0_0), .v (.int .u32 a0_1), .v (.int .u32 a0_2), .v (.int .u32 a0_3), .v (.int .u32 a0_4), .v (.int .u32 a0_5), .v (.int .u32 a0_6), .v (.int .u32 a0_7), .v (.int .u32 a0_8), .v (.bool a0_9), .v (.bool a0_10), .v (.bool a0_11), .v (.bool a0_12), .v (.bool a0_13), .v (.bool a0_14), .v (.int .u64 a0_15), .v (.int .u64 a0_16), .v (.int .u64 a0_17), .v (.int .u64 a0_18), .v (.int .u64 a0_19), .v (.int .u64 a0_20), .v (.int .u64 a0_21), .v (.int .u64 a0_22)], .v (.int .u8 a1), .v (.int .u8 a2), .v (.int .u8 a3), .v (.int .u32 a4)] [] isT (fun _ _ => none) =
    (bif IntKind.wrap IntKind.i64 (Int.tmod a1 8) == 0 then
    bif IntKind.wrap IntKind.i64 (Int.tmod a2 8) == 0 then
    bif decide (0 ≤ Int.tmod a3 4) then
    bif
    IntKind.wrap IntKind.u32
    (IntKind.wrap IntKind.u32
    (a0_0 +
    IntKind.wrap IntKind.u32
    (a0_0 *
    IntKind.wrap IntKind.u32
    (IntKind.wrap IntKind.i64 (IntKind.wrap IntKind.u32 (1 * 2 ^ min (Int.toNat (Int.tmod a3 4)) 32))))) +
    a4) ==
    IntKind.wrap IntKind.u32
    (IntKind.wrap IntKind.u32
    (a0_0 + IntKind.wrap IntKind.u32 (a0_0 * IntKind.wrap IntKind.u32 (1 * 2 ^ min (Int.toNat (Int.tmod a3 4)) 32))) +
    a4) then
    some (IntKind.wrap IntKind.u32 (0 + a4) == a4)
    else some false
    else none
    else
    bif IntKind.wrap IntKind.i64 (Int.tmod a2 8) == 1 then
    bif decide (0 ≤ Int.tmod a3 4) then
    bif
    IntKind.wrap IntKind.u32
    (IntKind.wrap IntKind.u32
    (a0_0 +
    IntKind.wrap IntKind.u32
    (a0_1 *
    IntKind.wrap IntKind.u32
    (IntKind.wrap IntKind.i64 (IntKind.wrap IntKind.u32 (1 * 2 ^ min (Int.toNat (Int.tmod a3 4)) 32))))) +
    a4) ==
    IntKind.wrap IntKind.u32
    (IntKind.wrap IntKind.u32
    (a0_0 + IntKind.wrap IntKind.u32 (a0_1 * IntKind.wrap IntKind.u32 (1 * 2 ^ min (Int.toNat (Int.tmod a3 4)) 32))) +
    a4) then
    some (IntKind.wrap IntKind.u32 (0 + a4) == a4)
    else some false
    else none
    else
    bif IntKind.wrap IntKind.i64 (Int.tmod a2 8) == 2 then
    bif decide (0 ≤ Int.tmod a3 4) then
    bif
    IntKind.wrap IntKind.u32
    (IntKind.wrap IntKind.u32
    (a0_0 +
    IntKind.wrap IntKind.u32
    (a0_2 *
    IntKind.wrap IntKind.u32
    (IntKind.wrap IntKind.i64 (IntKind.wrap IntKind.u32 (1 * 2 ^ min (Int.toNat (Int.tmod a3 4)) 32))))) +
    a4) ==
    IntKind.wrap IntKind.u32
    (IntKind.wrap IntKind.u32
    (a0_0 + IntKind.wrap IntKind.u32 (a0_2 * IntKind.wrap IntKind.u32 (1 * 2 ^ min (Int.toNat (Int.tmod a3 4)) 32))) +
    a4) then
    some (IntKind.wrap IntKind.u32 (0 + a4) == a4)
    else some false
    else none
    else
    bif IntKind.wrap IntKind.i64 (Int.tmod a2 8) == 3 then
    bif decide (0 ≤ Int.tmod a3 4) then
    bif
    IntKind.wrap IntKind.u32
    (IntKind.wrap IntKind.u32
    (a0_0 +
    IntKind.wrap IntKind.u32
    (a0_3 *
    IntKind.wrap IntKind.u32
    (IntKind.wrap IntKind.i64 (IntKind.wrap IntKind.u32 (1 * 2 ^ min (Int.toNat (Int.tmod a3 4)) 32))))) +
    a4) ==
    IntKind.wrap IntKind.u32
    (IntKind.wrap IntKind.u32
    (a0_0 + IntKind.wrap IntKind.u32 (a0_3 * IntKind.wrap IntKind.u32 (1 * 2 ^ min (Int.toNat (Int.tmod a3 4)) 32))) +
    a4) then
    some (IntKind.wrap IntKind.u32 (0 + a4) == a4)
    else some false
    else none
    else
    bif IntKind.wrap IntKind.i64 (Int.tmod a2 8) == 4 then
    bif decide (0 ≤ Int.tmod a3 4) then
    bif
    IntKind.wrap IntKind.u32
    (IntKind.wrap IntKind.u32
    (a0_0 +
    IntKind.wrap IntKind.u32
    (a0_4 *
    IntKind.wrap IntKind.u32
    (IntKind.wrap IntKind.i64 (IntKind.wrap IntKind.u32 (1 * 2 ^ min (Int.toNat (Int.tmod a3 4)) 32))))) +
    a4) ==
    IntKind.wrap IntKind.u32
    (IntKind.wrap IntKind.u32
    (a0_0 + IntKind.wrap IntKind.u32 (a0_4 * IntKind.wrap IntKind.u32 (1 * 2 ^ min (Int.toNat (Int.tmod a3 4)) 32))) +
    a4) then
    some (IntKind.wrap IntKind.u32 (0 + a4) == a4)
    else some false
    else none
    else
    bif IntKind.wrap IntKind.i64 (Int.tmod a2 8) == 5 then
    bif decide (0 ≤ Int.tmod a3 4) then
    bif
    IntKind.wrap IntKind.u32
    (IntKind.wrap IntKind.u32
    (a0_0 +
    IntKind.wrap IntKind.u32
    (a0_5 *
    IntKind.wrap IntKind.u32
    (IntKind.wrap IntKind.i64 (IntKind.wrap IntKind.u32 (1 * 2 ^ min (Int.toNat (Int.tmod a3 4)) 32))))) +
    a4) ==
    IntKind.wrap IntKind.u32
    (IntKind.wrap IntKind.u32
    (a0_0 + IntKind.wrap IntKind.u32 (a0_5 * IntKind.wrap IntKind.u32 (1 * 2 ^ min (Int.toNat (Int.tmod a3 4)) 32))) +
    a4) then
    some (IntKind.wrap IntKind.u32 (0 + a4) == a4)
    else some false
    else none
    else
    bif IntKind.wrap IntKind.i64 (Int.tmod a2 8) == 6 then
    bif decide (0 ≤ Int.tmod a3 4) then
    bif
    IntKind.wrap IntKind.u32
    (IntKind.wrap IntKind.u32
    (a0_0 +
    IntKind.wrap IntKind.u32
    (a0_6 *
    IntKind.wrap IntKind.u32
    (IntKind.wrap IntKind.i64 (IntKind.wrap IntKind.u32 (1 * 2 ^ min (Int.toNat (Int.tmod a3 4)) 32))))) +
    a4) ==
    IntKind.wrap IntKind.u32
    (IntKind.wrap IntKind.u32
    (a0_0 + IntKind.wrap IntKind.u32 (a0_6 * IntKind.wrap IntKind.u32 (1 * 2 ^ min (Int.toNat (Int.tmod a3 4)) 32))) +
    a4) then
    some (IntKind.wrap IntKind.u32 (0 + a4) == a4)
    else some false
    else none
    else
    bif IntKind.wrap IntKind.i64 (Int.tmod a2 8) == 7 then
    bif decide (0 ≤ Int.tmod a3 4) then
    bif
    IntKind.wrap IntKind.u32
    (IntKind.wrap IntKind.u32
    (a0_0 +
    IntKind.wrap IntKind.u32
    (a0_7 *
    IntKind.wrap IntKind.u32
    (IntKind.wrap IntKind.i64 (IntKind.wrap IntKind.u32 (1 * 2 ^ min (Int.toNat (Int.tmod a3 4)) 32))))) +
    a4) ==
    IntKind.wrap IntKind.u32
    (IntKind.wrap IntKind.u32
    (a0_0 + IntKind.wrap IntKind.u32 (a0_7 * IntKind.wrap IntKind.u32 (1 * 2 ^ min (Int.toNat (Int.tmod a3 4)) 32))) +
    a4) then
    some (IntKind.wrap IntKind.u32 (0 + a4) == a4)
    else some false
    else none
    else none
    else
    bif IntKind.wrap IntKind.i64 (Int.tmod a1 8) == 1 then
    bif IntKind.wrap IntKind.i64 (Int.tmod a2 8) == 0 then
    bif decide (0 ≤ Int.tmod a3 4) then
    bif
    IntKind.wrap IntKind.u32
    (IntKind.wrap IntKind.u32
    (a0_1 +
    IntKind.wrap IntKind.u32
    (a0_0 *
    IntKind.wrap IntKind.u32
    (IntKind.wrap IntKind.i64 (IntKind.wrap IntKind.u32 (1 * 2 ^ min (Int.toNat (Int.tmod a3 4)) 32))))) +
    a4) ==
    IntKind.wrap IntKind.u32
    (IntKind.wrap IntKind.u32
    (a0_1 + IntKind.wrap IntKind.u32 (a0_0 * IntKind.wrap IntKind.u32 (1 * 2 ^ min (Int.toNat (Int.tmod a3 4)) 32))) +
    a4) then
    some (IntKind.wrap IntKind.u32 (0 + a4) == a4)
    else some false
    else none
    else
    bif IntKind.wrap IntKind.i64 (Int.tmod a2 8) == 1 then
    bif decide (0 ≤ Int.tmod a3 4) then
    bif
    IntKind.wrap IntKind.u32
    (IntKind.wrap IntKind.u32
    (a0_1 +
    IntKind.wrap IntKind.u32
    (a0_1 *
    IntKind.wrap IntKind.u32
    (IntKind.wrap IntKind.i64 (IntKind.wrap IntKind.u32 (1 * 2 ^ min (Int.toNat (Int.tmod a3 4)) 32))))) +
    a4) ==
    IntKind.wrap IntKind.u32
    (IntKind.wrap IntKind.u32
    (a0_1 + IntKind.wrap IntKind.u32 (a0_1 * IntKind.wrap IntKind.u32 (1 * 2 ^ min (Int.toNat (Int.tmod a3 4)) 32))) +
    a4) then
    some (IntKind.wrap IntKind.u32 (0 + a4) == a4)
    else some false
    else none
    else
    bif IntKind.wrap IntKind.i64 (Int.tmod a2 8) == 2 then
    bif decide (0 ≤ Int.tmod a3 4) then
    bif
    IntKind.wrap IntKind.u32
    (IntKind.wrap IntKind.u32
    (a0_1 +
    IntKind.wrap IntKind.u32
    (a0_2 *
    IntKind.wrap IntKind.u32
    (IntKind.wrap IntKind.i64 (IntKind.wrap IntKind.u32 (1 * 2 ^ min (Int.toNat (Int.tmod a3 4)) 32))))) +
    a4) ==
    IntKind.wrap IntKind.u32
    (IntKind.wrap IntKind.u32
    (a0_1 + IntKind.wrap IntKind.u32 (a0_2 * IntKind.wrap IntKind.u32 (1 * 2 ^ min (Int.toNat (Int.tmod a3 4)) 32))) +
    a4) then
    some (IntKind.wrap IntKind.u32 (0 + a4) == a4)
    else some false
    else none
    else
    bif IntKind.wrap IntKind.i64 (Int.tmod a2 8) == 3 then
    bif decide (0 ≤ Int.tmod a3 4) then
    bif
    IntKind.wrap IntKind.u32
    (IntKind.wrap IntKind.u32
    (a0_1 +
    IntKind.wrap IntKind.u32
    (a0_3 *
    IntKind.wrap IntKind.u32
    (IntKind.wrap IntKind.i64 (IntKind.wrap IntKind.u32 (1 * 2 ^ min (Int.toNat (Int.tmod a3 4)) 32))))) +
    a4) ==
    IntKind.wrap IntKind.u32
    (IntKind.wrap IntKind.u32
    (a0_1 + IntKind.wrap IntKind.u32 (a0_3 * IntKind.wrap IntKind.u32 (1 * 2 ^ min (Int.toNat (Int.tmod a3 4)) 32))) +
    a4) then
    some (IntKind.wrap IntKind.u32 (0 + a4) == a4)
    else some false
    else none
    else
    bif IntKind.wrap IntKind.i64 (Int.tmod a2 8) == 4 then
    bif decide (0 ≤ Int.tmod a3 4) then
    bif
    IntKind.wrap IntKind.u32
    (IntKind.wrap IntKind.u32
    (a0_1 +
    IntKind.wrap IntKind.u32
    (a0_4 *
    IntKind.wrap IntKind.u32
    (IntKind.wrap IntKind.i64 (IntKind.wrap IntKind.u32 (1 * 2 ^ min (Int.toNat (Int.tmod a3 4)) 32))))) +
    a4) ==
    IntKind.wrap IntKind.u32
    (IntKind.wrap IntKind.u32
    (a0_1 + IntKind.wrap IntKind.u32 (a0_4 * IntKind.wrap IntKind.u32 (1 * 2 ^ min (Int.toNat (Int.tmod a3 4)) 32))) +
    a4) then
    some (IntKind.wrap IntKind.u32 (0 + a4) == a4)
    else some false
    else none
    else
    bif IntKind.wrap IntKind.i64 (Int.tmod a2 8) == 5 then
    bif decide (0 ≤ Int.tmod a3 4) then
    bif
    IntKind.wrap IntKind.u32
    (IntKind.wrap IntKind.u32
    (a0_1 +
    IntKind.wrap IntKind.u32
    (a0_5 *
    IntKind.wrap IntKind.u32
    (IntKind.wrap IntKind.i64 (IntKind.wrap IntKind.u32 (1 * 2 ^ min (Int.toNat (Int.tmod a3 4)) 32))))) +
    a4) ==
    IntKind.wrap IntKind.u32
    (IntKind.wrap IntKind.u32
    (a0_1 + IntKind.wrap IntKind.u32 (a0_5 * IntKind.wrap IntKind.u32 (1 * 2 ^ min (Int.toNat (Int.tmod a3 4)) 32))) +
    a4) then
    some (IntKind.wrap IntKind.u32 (0 + a4) == a4)
    else some false
    else none
    else
    bif IntKind.wrap IntKind.i64 (Int.tmod a2 8) == 6 then
    bif decide (0 ≤ Int.tmod a3 4) then
    bif
    IntKind.wrap IntKind.u32
    (IntKind.wrap IntKind.u32
    (a0_1 +
    IntKind.wrap IntKind.u32
    (a0_6 *
    IntKind.wrap IntKind.u32
    (IntKind.wrap IntKind.i64 (IntKind.wrap IntKind.u32 (1 * 2 ^ min (Int.toNat (Int.tmod a3 4)) 32))))) +
    a4) ==
    IntKind.wrap IntKind.u32
    (IntKind.wrap IntKind.u32
    (a0_1 + IntKind.wrap IntKind.u32 (a0_6 * IntKind.wrap IntKind.u32 (1 * 2 ^ min (Int.toNat (Int.tmod a3 4)) 32))) +
    a4) then
    some (IntKind.wrap IntKind.u32 (0 + a4) == a4)
    else some false
    else none
    else
    bif IntKind.wrap IntKind.i64 (Int.tmod a2 8) == 7 then
    bif decide (0 ≤ Int.tmod a3 4) then
    bif
    IntKind.wrap IntKind.u32
    (IntKind.wrap IntKind.u32
    (a0_1 +
    IntKind.wrap IntKind.u32
    (a0_7 *
    IntKind.wrap IntKind.u32
    (IntKind.wrap IntKind.i64 (IntKind.wrap IntKind.u32 (1 * 2 ^ min (Int.toNat (Int.tmod a3 4)) 32))))) +
    a4) ==
    IntKind.wrap IntKind.u32
    (IntKind.wrap IntKind.u32
    (a0_1 + IntKind.wrap IntKind.u32 (a0_7 * IntKind.wrap IntKind.u32 (1 * 2 ^ min (Int.toNat (Int.tmod a3 4)) 32))) +
    a4) then
    some (IntKind.wrap IntKind.u32 (0 + a4) == a4)
    else some false
    else none
    else none
    else
    bif IntKind.wrap IntKind.i64 (Int.tmod a1 8) == 2 then
    bif IntKind.wrap IntKind.i64 (Int.tmod a2 8) == 0 then
    bif decide (0 ≤ Int.tmod a3 4) then
    bif
    IntKind.wrap IntKind.u32
    (IntKind.wrap IntKind.u32
    (a0_2 +
    IntKind.wrap IntKind.u32
    (a0_0 *
    IntKind.wrap IntKind.u32
    (IntKind.wrap IntKind.i64 (IntKind.wrap IntKind.u32 (1 * 2 ^ min (Int.toNat (Int.tmod a3 4)) 32))))) +
    a4) ==
    IntKind.wrap IntKind.u32
    (IntKind.wrap IntKind.u32
    (a0_2 + IntKind.wrap IntKind.u32 (a0_0 * IntKind.wrap IntKind.u32 (1 * 2 ^ min (Int.toNat (Int.tmod a3 4)) 32))) +
    a4) then
    some (IntKind.wrap IntKind.u32 (0 + a4) == a4)
    else some false
    else none
    else
    bif IntKind.wrap IntKind.i64 (Int.tmod a2 8) == 1 then
    bif decide (0 ≤ Int.tmod a3 4) then
    bif
    IntKind.wrap IntKind.u32
    (IntKind.wrap IntKind.u32
    (a0_2 +
    IntKind.wrap IntKind.u32
    (a0_1 *
    IntKind.wrap IntKind.u32
    (IntKind.wrap IntKind.i64 (IntKind.wrap IntKind.u32 (1 * 2 ^ min (Int.toNat (Int.tmod a3 4)) 32))))) +
    a4) ==
    IntKind.wrap IntKind.u32
    (IntKind.wrap IntKind.u32
    (a0_2 + IntKind.wrap IntKind.u32 (a0_1 * IntKind.wrap IntKind.u32 (1 * 2 ^ min (Int.toNat (Int.tmod a3 4)) 32))) +
    a4) then
    some (IntKind.wrap IntKind.u32 (0 + a4) == a4)
    else some false
    else none
    else
    bif IntKind.wrap IntKind.i64 (Int.tmod a2 8) == 2 then
    bif decide (0 ≤ Int.tmod a3 4) then
    bif
    IntKind.wrap IntKind.u32
    (IntKind.wrap IntKind.u32
    (a0_2 +
    IntKind.wrap IntKind.u32
    (a0_2 *
    IntKind.wrap IntKind.u32
    (IntKind.wrap IntKind.i64 (IntKind.wrap IntKind.u32 (1 * 2 ^ min (Int.toNat (Int.tmod a3 4)) 32))))) +
    a4) ==
    IntKind.wrap IntKind.u32
    (IntKind.wrap IntKind.u32
    (a0_2 + IntKind.wrap IntKind.u32 (a0_2 * IntKind.wrap IntKind.u32 (1 * 2 ^ min (Int.toNat (Int.tmod a3 4)) 32))) +
    a4) then
    some (IntKind.wrap IntKind.u32 (0 + a4) == a4)
    else some false
    else none
    else
    bif IntKind.wrap IntKind.i64 (Int.tmod a2 8) == 3 then
    bif decide (0 ≤ Int.tmod a3 4) then
    bif
    IntKind.wrap IntKind.u32
    (IntKind.wrap IntKind.u32
    (a0_2 +
    IntKind.wrap IntKind.u32
    (a0_3 *
    IntKind.wrap IntKind.u32
    (IntKind.wrap IntKind.i64 (IntKind.wrap IntKind.u32 (1 * 2 ^ min (Int.toNat (Int.tmod a3 4)) 32))))) +
    a4) ==
    IntKind.wrap IntKind.u32
    (IntKind.wrap IntKind.u32
    (a0_2 + IntKind.wrap IntKind.u32 (a0_3 * IntKind.wrap IntKind.u32 (1 * 2 ^ min (Int.toNat (Int.tmod a3 4)) 32))) +
    a4) then
    some (IntKind.wrap IntKind.u32 (0 + a4) == a4)
    else some false
    else none
    else
    bif IntKind.wrap IntKind.i64 (Int.tmod a2 8) == 4 then
    bif decide (0 ≤ Int.tmod a3 4) then
    bif
    IntKind.wrap IntKind.u32
    (IntKind.wrap IntKind.u32
    (a0_2 +
    IntKind.wrap IntKind.u32
    (a0_4 *
    IntKind.wrap IntKind.u32
    (IntKind.wrap IntKind.i64 (IntKind.wrap IntKind.u32 (1 * 2 ^ min (Int.toNat (Int.tmod a3 4)) 32))))) +
    a4) ==
    IntKind.wrap IntKind.u32
    (IntKind.wrap IntKind.u32
    (a0_2 + IntKind.wrap IntKind.u32 (a0_4 * IntKind.wrap IntKind.u32 (1 * 2 ^ min (Int.toNat (Int.tmod a3 4)) 32))) +
    a4) then
    some (IntKind.wrap IntKind.u32 (0 + a4) == a4)
    else some false
    else none
    else
    bif IntKind.wrap IntKind.i64 (Int.tmod a2 8) == 5 then
    bif decide (0 ≤ Int.tmod a3 4) then
    bif
    IntKind.wrap IntKind.u32
    (IntKind.wrap IntKind.u32
    (a0_2 +
    IntKind.wrap IntKind.u32
    (a0_5 *
    IntKind.wrap IntKind.u32
    (IntKind.wrap IntKind.i64 (IntKind.wrap IntKind.u32 (1 * 2 ^ min (Int.toNat (Int.tmod a3 4)) 32))))) +
    a4) ==
    IntKind.wrap IntKind.u32
    (IntKind.wrap IntKind.u32
    (a0_2 + IntKind.wrap IntKind.u32 (a0_5 * IntKind.wrap IntKind.u32 (1 * 2 ^ min (Int.toNat (Int.tmod a3 4)) 32))) +
    a4) then
    some (IntKind.wrap IntKind.u32 (0 + a4) == a4)
    else some false
    else none
    else
    bif IntKind.wrap IntKind.i64 (Int.tmod a2 8) == 6 then
    bif decide (0 ≤ Int.tmod a3 4) then
    bif
    IntKind.wrap IntKind.u32
    (IntKind.wrap IntKind.u32
    (a0_2 +
    IntKind.wrap IntKind.u32
    (a0_6 *
    IntKind.wrap IntKind.u32
    (IntKind.wrap IntKind.i64 (IntKind.wrap IntKind.u32 (1 * 2 ^ min (Int.toNat (Int.tmod a3 4)) 32))))) +
    a4) ==
    IntKind.wrap IntKind.u32
    (IntKind.wrap IntKind.u32
    (a0_2 + IntKind.wrap IntKind.u32 (a0_6 * IntKind.wrap IntKind.u32 (1 * 2 ^ min (Int.toNat (Int.tmod a3 4)) 32))) +
    a4) then
    some (IntKind.wrap IntKind.u32 (0 + a4) == a4)
    else some false
    else none
    else
    bif IntKind.wrap IntKind.i64 (Int.tmod a2 8) == 7 then
    bif decide (0 ≤ Int.tmod a3 4) then
    bif
    IntKind.wrap IntKind.u32
    (IntKind.wrap IntKind.u32
    (a0_2 +
    IntKind.wrap IntKind.u32
    (a0_7 *
    IntKind.wrap IntKind.u32
    (IntKind.wrap IntKind.i64 (IntKind.wrap IntKind.u32 (1 * 2 ^ min (Int.toNat (Int.tmod a3 4)) 32))))) +
    a4) ==
    IntKind.wrap IntKind.u32
    (IntKind.wrap IntKind.u32
    (a0_2 + IntKind.wrap IntKind.u32 (a0_7 * IntKind.wrap IntKind.u32 (1 * 2 ^ min (Int.toNat (Int.tmod a3 4)) 32))) +
    a4) then
    some (IntKind.wrap IntKind.u32 (0 + a4) == a4)
    else some false
    else none
    else none
    else
    bif IntKind.wrap IntKind.i64 (Int.tmod a1 8) == 3 then
    bif IntKind.wrap IntKind.i64 (Int.tmod a2 8) == 0 then
    bif decide (0 ≤ Int.tmod a3 4) then
    bif
    IntKind.wrap IntKind.u32
    (IntKind.wrap IntKind.u32
    (a0_3 +
    IntKind.wrap IntKind.u32
    (a0_0 *
    IntKind.wrap IntKind.u32
    (IntKind.wrap IntKind.i64 (IntKind.wrap IntKind.u32 (1 * 2 ^ min (Int.toNat (Int.tmod a3 4)) 32))))) +
    a4) ==
    IntKind.wrap IntKind.u32
    (IntKind.wrap IntKind.u32
    (a0_3 + IntKind.wrap IntKind.u32 (a0_0 * IntKind.wrap IntKind.u32 (1 * 2 ^ min (Int.toNat (Int.tmod a3 4)) 32))) +
    a4) then
    some (IntKind.wrap IntKind.u32 (0 + a4) == a4)
    else some false
    else none
    else
    bif IntKind.wrap IntKind.i64 (Int.tmod a2 8) == 1 then
    bif decide (0 ≤ Int.tmod a3 4) then
    bif
    IntKind.wrap IntKind.u32
    (IntKind.wrap IntKind.u32
    (a0_3 +
    IntKind.wrap IntKind.u32
    (a0_1 *
    IntKind.wrap IntKind.u32
    (IntKind.wrap IntKind.i64 (IntKind.wrap IntKind.u32 (1 * 2 ^ min (Int.toNat (Int.tmod a3 4)) 32))))) +
    a4) ==
    IntKind.wrap IntKind.u32
    (IntKind.wrap IntKind.u32
    (a0_3 + IntKind.wrap IntKind.u32 (a0_1 * IntKind.wrap IntKind.u32 (1 * 2 ^ min (Int.toNat (Int.tmod a3 4)) 32))) +
    a4) then
    some (IntKind.wrap IntKind.u32 (0 + a4) == a4)
    else some false
    else none
    else
    bif IntKind.wrap IntKind.i64 (Int.tmod a2 8) == 2 then
    bif decide (0 ≤ Int.tmod a3 4) then
    bif
    IntKind.wrap IntKind.u32
    (IntKind.wrap IntKind.u32
    (a0_3 +
    IntKind.wrap IntKind.u32
    (a0_2 *
    IntKind.wrap IntKind.u32
    (IntKind.wrap IntKind.i64 (IntKind.wrap IntKind.u32 (1 * 2 ^ min (Int.toNat (Int.tmod a3 4)) 32))))) +
    a4) ==
    IntKind.wrap IntKind.u32
    (IntKind.wrap IntKind.u32
    (a0_3 + IntKind.wrap IntKind.u32 (a0_2 * IntKind.wrap IntKind.u32 (1 * 2 ^ min (Int.toNat (Int.tmod a3 4)) 32))) +
    a4) then
    some (IntKind.wrap IntKind.u32 (0 + a4) == a4)
    else some false
    else none
    else
    bif IntKind.wrap IntKind.i64 (Int.tmod a2 8) == 3 then
    bif decide (0 ≤ Int.tmod a3 4) then
    bif
    IntKind.wrap IntKind.u32
    (IntKind.wrap IntKind.u32
    (a0_3 +
    IntKind.wrap IntKind.u32
    (a0_3 *
    IntKind.wrap IntKind.u32
    (IntKind.wrap IntKind.i64 (IntKind.wrap IntKind.u32 (1 * 2 ^ min (Int.toNat (Int.tmod a3 4)) 32))))) +
    a4) ==
    IntKind.wrap IntKind.u32
    (IntKind.wrap IntKind.u32
    (a0_3 + IntKind.wrap IntKind.u32 (a0_3 * IntKind.wrap IntKind.u32 (1 * 2 ^ min (Int.toNat (Int.tmod a3 4)) 32))) +
    a4) then
    some (IntKind.wrap IntKind.u32 (0 + a4) == a4)
    else some false
    else none
    else
    bif IntKind.wrap IntKind.i64 (Int.tmod a2 8) == 4 then
    bif decide (0 ≤ Int.tmod a3 4) then
    bif
    IntKind.wrap IntKind.u32
    (IntKind.wrap IntKind.u32
    (a0_3 +
    IntKind.wrap IntKind.u32
    (a0_4 *
    IntKind.wrap IntKind.u32
    (IntKind.wrap IntKind.i64 (IntKind.wrap IntKind.u32 (1 * 2 ^ min (Int.toNat (Int.tmod a3 4)) 32))))) +
    a4) ==
    IntKind.wrap IntKind.u32
    (IntKind.wrap IntKind.u32
    (a0_3 + IntKind.wrap IntKind.u32 (a0_4 * IntKind.wrap IntKind.u32 (1 * 2 ^ min (Int.toNat (Int.tmod a3 4)) 32))) +
    a4) then
    some (IntKind.wrap IntKind.u32 (0 + a4) == a4)
    else some false
    else none
    else
    bif IntKind.wrap IntKind.i64 (Int.tmod a2 8) == 5 then
    bif decide (0 ≤ Int.tmod a3 4) then
    bif
    IntKind.wrap IntKind.u32
    (IntKind.wrap IntKind.u32
    (a0_3 +
    IntKind.wrap IntKind.u32
    (a0_5 *
    IntKind.wrap IntKind.u32
    (IntKind.wrap IntKind.i64 (IntKind.wrap IntKind.u32 (1 * 2 ^ min (Int.toNat (Int.tmod a3 4)) 32))))) +
    a4) ==
    IntKind.wrap IntKind.u32
    (IntKind.wrap IntKind.u32
    (a0_3 + IntKind.wrap IntKind.u32 (a0_5 * IntKind.wrap IntKind.u32 (1 * 2 ^ min (Int.toNat (Int.tmod a3 4)) 32))) +
    a4) then
    some (IntKind.wrap IntKind.u32 (0 + a4) == a4)
    else some false
    else none
    else
    bif IntKind.wrap IntKind.i64 (Int.tmod a2 8) == 6 then
    bif decide (0 ≤ Int.tmod a3 4) then
    bif
    IntKind.wrap IntKind.u32
    (IntKind.wrap IntKind.u32
    (a0_3 +
    IntKind.wrap IntKind.u32
    (a0_6 *
    IntKind.wrap IntKind.u32
    (IntKind.wrap IntKind.i64 (IntKind.wrap IntKind.u32 (1 * 2 ^ min (Int.toNat (Int.tmod a3 4)) 32))))) +
    a4) ==
    IntKind.wrap IntKind.u32
    (IntKind.wrap IntKind.u32
    (a0_3 + IntKind.wrap IntKind.u32 (a0_6 * IntKind.wrap IntKind.u32 (1 * 2 ^ min (Int.toNat (Int.tmod a3 4)) 32))) +
    a4) then
    some (IntKind.wrap IntKind.u32 (0 + a4) == a4)
    else some false
    else none
    else
    bif IntKind.wrap IntKind.i64 (Int.tmod a2 8) == 7 then
    bif decide (0 ≤ Int.tmod a3 4) then
    bif
    IntKind.wrap IntKind.u32
    (IntKind.wrap IntKind.u32
    (a0_3 +
    IntKind.wrap IntKind.u32
    (a0_7 *
    IntKind.wrap IntKind.u32
    (IntKind.wrap IntKind.i64 (IntKind.wrap IntKind.u32 (1 * 2 ^ min (Int.toNat (Int.tmod a3 4)) 32))))) +
    a4) ==
    IntKind.wrap IntKind.u32
    (IntKind.wrap IntKind.u32
    (a0_3 + IntKind.wrap IntKind.u32 (a0_7 * IntKind.wrap IntKind.u32 (1 * 2 ^ min (Int.toNat (Int.tmod a3 4)) 32))) +
    a4) then
    some (IntKind.wrap IntKind.u32 (0 + a4) == a4)
    else some false
    else none
    else none
    else
    bif IntKind.wrap IntKind.i64 (Int.tmod a1 8) == 4 then
    bif IntKind.wrap IntKind.i64 (Int.tmod a2 8) == 0 then
    bif decide (0 ≤ Int.tmod a3 4) then
    bif
    IntKind.wrap IntKind.u32
    (IntKind.wrap IntKind.u32
    (a0_4 +
    IntKind.wrap IntKind.u32
    (a0_0 *
    IntKind.wrap IntKind.u32
    (IntKind.wrap IntKind.i64 (IntKind.wrap IntKind.u32 (1 * 2 ^ min (Int.toNat (Int.tmod a3 4)) 32))))) +
    a4) ==
    IntKind.wrap IntKind.u32
    (IntKind.wrap IntKind.u32
    (a0_4 + IntKind.wrap IntKind.u32 (a0_0 * IntKind.wrap IntKind.u32 (1 * 2 ^ min (Int.toNat (Int.tmod a3 4)) 32))) +
    a4) then
    some (IntKind.wrap IntKind.u32 (0 + a4) == a4)
    else some false
    else none
    else
    bif IntKind.wrap IntKind.i64 (Int.tmod a2 8) == 1 then
    bif decide (0 ≤ Int.tmod a3 4) then
    bif
    IntKind.wrap IntKind.u32
    (IntKind.wrap IntKind.u32
    (a0_4 +
    IntKind.wrap IntKind.u32
    (a0_1 *
    IntKind.wrap IntKind.u32
    (IntKind.wrap IntKind.i64 (IntKind.wrap IntKind.u32 (1 * 2 ^ min (Int.toNat (Int.tmod a3 4)) 32))))) +
    a4) ==
    IntKind.wrap IntKind.u32
    (IntKind.wrap IntKind.u32
    (a0_4 + IntKind.wrap IntKind.u32 (a0_1 * IntKind.wrap IntKind.u32 (1 * 2 ^ min (Int.toNat (Int.tmod a3 4)) 32))) +
    a4) then
    some (IntKind.wrap IntKind.u32 (0 + a4) == a4)
    else some false
    else none
    else
    bif IntKind.wrap IntKind.i64 (Int.tmod a2 8) == 2 then
    bif decide (0 ≤ Int.tmod a3 4) then
    bif
    IntKind.wrap IntKind.u32
    (IntKind.wrap IntKind.u32
    (a0_4 +
    IntKind.wrap IntKind.u32
    (a0_2 *
    IntKind.wrap IntKind.u32
    (IntKind.wrap IntKind.i64 (IntKind.wrap IntKind.u32 (1 * 2 ^ min (Int.toNat (Int.tmod a3 4)) 32))))) +
    a4) ==
    IntKind.wrap IntKind.u32
    (IntKind.wrap IntKind.u32
    (a0_4 + IntKind.wrap IntKind.u32 (a0_2 * IntKind.wrap IntKind.u32 (1 * 2 ^ min (Int.toNat (Int.tmod a3 4)) 32))) +
    a4) then
    some (IntKind.wrap IntKind.u32 (0 + a4) == a4)
    else some false
    else none
    else
    bif IntKind.wrap IntKind.i64 (Int.tmod a2 8) == 3 then
    bif decide (0 ≤ Int.tmod a3 4) then
    bif
    IntKind.wrap IntKind.u32
    (IntKind.wrap IntKind.u32
    (a0_4 +
    IntKind.wrap IntKind.u32
    (a0_3 *
    IntKind.wrap IntKind.u32
    (IntKind.wrap IntKind.i64 (IntKind.wrap IntKind.u32 (1 * 2 ^ min (Int.toNat (Int.tmod a3 4)) 32))))) +
    a4) ==
    IntKind.wrap IntKind.u32
    (IntKind.wrap IntKind.u32
    (a0_4 + IntKind.wrap IntKind.u32 (a0_3 * IntKind.wrap IntKind.u32 (1 * 2 ^ min (Int.toNat (Int.tmod a3 4)) 32))) +
    a4) then
    some (IntKind.wrap IntKind.u32 (0 + a4) == a4)
    else some false
    else none
    else
    bif IntKind.wrap IntKind.i64 (Int.tmod a2 8) == 4 then
    bif decide (0 ≤ Int.tmod a3 4) then
    bif
    IntKind.wrap IntKind.u32
    (IntKind.wrap IntKind.u32
    (a0_4 +
    IntKind.wrap IntKind.u32
    (a0_4 *
    IntKind.wrap IntKind.u32
    (IntKind.wrap IntKind.i64 (IntKind.wrap IntKind.u32 (1 * 2 ^ min (Int.toNat (Int.tmod a3 4)) 32))))) +
    a4) ==
    IntKind.wrap IntKind.u32
    (IntKind.wrap IntKind.u32
    (a0_4 + IntKind.wrap IntKind.u32 (a0_4 * IntKind.wrap IntKind.u32 (1 * 2 ^ min (Int.toNat (Int.tmod a3 4)) 32))) +
    a4) then
    some (IntKind.wrap IntKind.u32 (0 + a4) == a4)
    else some false
    else none
    else
    bif IntKind.wrap IntKind.i64 (Int.tmod a2 8) == 5 then
    bif decide (0 ≤ Int.tmod a3 4) then
    bif
    IntKind.wrap IntKind.u32
    (IntKind.wrap IntKind.u32
    (a0_4 +
    IntKind.wrap IntKind.u32
    (a0_5 *
    IntKind.wrap IntKind.u32
    (IntKind.wrap IntKind.i64 (IntKind.wrap IntKind.u32 (1 * 2 ^ min (Int.toNat (Int.tmod a3 4)) 32))))) +
    a4) ==
    IntKind.wrap IntKind.u32
    (IntKind.wrap IntKind.u32
    (a0_4 + IntKind.wrap IntKind.u32 (a0_5 * IntKind.wrap IntKind.u32 (1 * 2 ^ min (Int.toNat (Int.tmod a3 4)) 32))) +
    a4) then
    some (IntKind.wrap IntKind.u32 (0 + a4) == a4)
    else some false
    else none
    else
    bif IntKind.wrap IntKind.i64 (Int.tmod a2 8) == 6 then
    bif decide (0 ≤ Int.tmod a3 4) then
    bif
    IntKind.wrap IntKind.u32
    (IntKind.wrap IntKind.u32
    (a0_4 +
    IntKind.wrap IntKind.u32
    (a0_6 *
    IntKind.wrap IntKind.u32
    (IntKind.wrap IntKind.i64 (IntKind.wrap IntKind.u32 (1 * 2 ^ min (Int.toNat (Int.tmod a3 4)) 32))))) +
    a4) ==
    IntKind.wrap IntKind.u32
    (IntKind.wrap IntKind.u32
    (a0_4 + IntKind.wrap IntKind.u32 (a0_6 * IntKind.wrap IntKind.u32 (1 * 2 ^ min (Int.toNat (Int.tmod a3 4)) 32))) +
    a4) then
    some (IntKind.wrap IntKind.u32 (0 + a4) == a4)
    else some false
    else none
    else
    bif IntKind.wrap IntKind.i64 (Int.tmod a2 8) == 7 then
    bif decide (0 ≤ Int.tmod a3 4) then
    bif
    IntKind.wrap IntKind.u32
    (IntKind.wrap IntKind.u32
    (a0_4 +
    IntKind.wrap IntKind.u32
    (a0_7 *
    IntKind.wrap IntKind.u32
    (IntKind.wrap IntKind.i64 (IntKind.wrap IntKind.u32 (1 * 2 ^ min (Int.toNat (Int.tmod a3 4)) 32))))) +
    a4) ==
    IntKind.wrap IntKind.u32
    (IntKind.wrap IntKind.u32
    (a0_4 + IntKind.wrap IntKind.u32 (a0_7 * IntKind.wrap IntKind.u32 (1 * 2 ^ min (Int.toNat (Int.tmod a3 4)) 32))) +
    a4) then
    some (IntKind.wrap IntKind.u32 (0 + a4) == a4)
    else some false
    else none
    else none
    else
    bif IntKind.wrap IntKind.i64 (Int.tmod a1 8) == 5 then
    bif IntKind.wrap IntKind.i64 (Int.tmod a2 8) == 0 then
    bif decide (0 ≤ Int.tmod a3 4) then
    bif
    IntKind.wrap IntKind.u32
    (IntKind.wrap IntKind.u32
    (a0_5 +
    IntKind.wrap IntKind.u32
    (a0_0 *
    IntKind.wrap IntKind.u32
    (IntKind.wrap IntKind.i64 (IntKind.wrap IntKind.u32 (1 * 2 ^ min (Int.toNat (Int.tmod a3 4)) 32))))) +
    a4) ==
    IntKind.wrap IntKind.u32
    (IntKind.wrap IntKind.u32
    (a0_5 + IntKind.wrap IntKind.u32 (a0_0 * IntKind.wrap IntKind.u32 (1 * 2 ^ min (Int.toNat (Int.tmod a3 4)) 32))) +
    a4) then
    some (IntKind.wrap IntKind.u32 (0 + a4) == a4)
    else some false
    else none
    else
    bif IntKind.wrap IntKind.i64 (Int.tmod a2 8) == 1 then
    bif decide (0 ≤ Int.tmod a3 4) then
    bif
    IntKind.wrap IntKind.u32
    (IntKind.wrap IntKind.u32
    (a0_5 +
    IntKind.wrap IntKind.u32
    (a0_1 *
    IntKind.wrap IntKind.u32
    (IntKind.wrap IntKind.i64 (IntKind.wrap IntKind.u32 (1 * 2 ^ min (Int.toNat (Int.tmod a3 4)) 32))))) +
    a4) ==
    IntKind.wrap IntKind.u32
    (IntKind.wrap IntKind.u32
    (a0_5 + IntKind.wrap IntKind.u32 (a0_1 * IntKind.wrap IntKind.u32 (1 * 2 ^ min (Int.toNat (Int.tmod a3 4)) 32))) +
    a4) then
    some (IntKind.wrap IntKind.u32 (0 + a4) == a4)
    else some false
    else none
    else
    bif IntKind.wrap IntKind.i64 (Int.tmod a2 8) == 2 then
    bif decide (0 ≤ Int.tmod a3 4) then
    bif
    IntKind.wrap IntKind.u32
    (IntKind.wrap IntKind.u32
    (a0_5 +
    IntKind.wrap IntKind.u32
    (a0_2 *
    IntKind.wrap IntKind.u32
    (IntKind.wrap IntKind.i64 (IntKind.wrap IntKind.u32 (1 * 2 ^ min (Int.toNat (Int.tmod a3 4)) 32))))) +
    a4) ==
    IntKind.wrap IntKind.u32
    (IntKind.wrap IntKind.u32
    (a0_5 + IntKind.wrap IntKind.u32 (a0_2 * IntKind.wrap IntKind.u32 (1 * 2 ^ min (Int.toNat (Int.tmod a3 4)) 32))) +
    a4) then
    some (IntKind.wrap IntKind.u32 (0 + a4) == a4)
    else some false
    else none
    else
    bif IntKind.wrap IntKind.i64 (Int.tmod a2 8) == 3 then
    bif decide (0 ≤ Int.tmod a3 4) then
    bif
    IntKind.wrap IntKind.u32
    (IntKind.wrap IntKind.u32
    (a0_5 +
    IntKind.wrap IntKind.u32
    (a0_3 *
    IntKind.wrap IntKind.u32
    (IntKind.wrap IntKind.i64 (IntKind.wrap IntKind.u32 (1 * 2 ^ min (Int.toNat (Int.tmod a3 4)) 32))))) +
    a4) ==
    IntKind.wrap IntKind.u32
    (IntKind.wrap IntKind.u32
    (a0_5 + IntKind.wrap IntKind.u32 (a0_3 * IntKind.wrap IntKind.u32 (1 * 2 ^ min (Int.toNat (Int.tmod a3 4)) 32))) +
    a4) then
    some (IntKind.wrap IntKind.u32 (0 + a4) == a4)
    else some false
    else none
    else
    bif IntKind.wrap IntKind.i64 (Int.tmod a2 8) == 4 then
    bif decide (0 ≤ Int.tmod a3 4) then
    bif
    IntKind.wrap IntKind.u32
    (IntKind.wrap IntKind.u32
    (a0_5 +
    IntKind.wrap IntKind.u32
    (a0_4 *
    IntKind.wrap IntKind.u32
    (IntKind.wrap IntKind.i64 (IntKind.wrap IntKind.u32 (1 * 2 ^ min (Int.toNat (Int.tmod a3 4)) 32))))) +
    a4) ==
    IntKind.wrap IntKind.u32
    (IntKind.wrap IntKind.u32
    (a0_5 + IntKind.wrap IntKind.u32 (a0_4 * IntKind.wrap IntKind.u32 (1 * 2 ^ min (Int.toNat (Int.tmod a3 4)) 32))) +
    a4) then
    some (IntKind.wrap IntKind.u32 (0 + a4) == a4)
    else some false
    else none
    else
    bif IntKind.wrap IntKind.i64 (Int.tmod a2 8) == 5 then
    bif decide (0 ≤ Int.tmod a3 4) then
    bif
    IntKind.wrap IntKind.u32
    (IntKind.wrap IntKind.u32
    (a0_5 +
    IntKind.wrap IntKind.u32
    (a0_5 *
    IntKind.wrap IntKind.u32
    (IntKind.wrap IntKind.i64 (IntKind.wrap IntKind.u32 (1 * 2 ^ min (Int.toNat (Int.tmod a3 4)) 32))))) +
    a4) ==
    IntKind.wrap IntKind.u32
    (IntKind.wrap IntKind.u32
    (a0_5 + IntKind.wrap IntKind.u32 (a0_5 * IntKind.wrap IntKind.u32 (1 * 2 ^ min (Int.toNat (Int.tmod a3 4)) 32))) +
    a4) then
    some (IntKind.wrap IntKind.u32 (0 + a4) == a4)
    else some false
    else none
    else
    bif IntKind.wrap IntKind.i64 (Int.tmod a2 8) == 6 then
    bif decide (0 ≤ Int.tmod a3 4) then
    bif
    IntKind.wrap IntKind.u32
    (IntKind.wrap IntKind.u32
    (a0_5 +
    IntKind.wrap IntKind.u32
    (a0_6 *
    IntKind.wrap IntKind.u32
    (IntKind.wrap IntKind.i64 (IntKind.wrap IntKind.u32 (1 * 2 ^ min (Int.toNat (Int.tmod a3 4)) 32))))) +
    a4) ==
    IntKind.wrap IntKind.u32
    (IntKind.wrap IntKind.u32
    (a0_5 + IntKind.wrap IntKind.u32 (a0_6 * IntKind.wrap IntKind.u32 (1 * 2 ^ min (Int.toNat (Int.tmod a3 4)) 32))) +
    a4) then
    some (IntKind.wrap IntKind.u32 (0 + a4) == a4)
    else some false
    else none
    else
    bif IntKind.wrap IntKind.i64 (Int.tmod a2 8) == 7 then
    bif decide (0 ≤ Int.tmod a3 4) then
    bif
    IntKind.wrap IntKind.u32
    (IntKind.wrap IntKind.u32
    (a0_5 +
    IntKind.wrap IntKind.u32
    (a0_7 *
    IntKind.wrap IntKind.u32
    (IntKind.wrap IntKind.i64 (IntKind.wrap IntKind.u32 (1 * 2 ^ min (Int.toNat (Int.tmod a3 4)) 32))))) +
    a4) ==
    IntKind.wrap IntKind.u32
    (IntKind.wrap IntKind.u32
    (a0_5 + IntKind.wrap IntKind.u32 (a0_7 * IntKind.wrap IntKind.u32 (1 * 2 ^ min (Int.toNat (Int.tmod a3 4)) 32))) +
    a4) then
    some (IntKind.wrap IntKind.u32 (0 + a4) == a4)
    else some false
    else none
    else none
    else
    bif IntKind.wrap IntKind.i64 (Int.tmod a1 8) == 6 then
    bif IntKind.wrap IntKind.i64 (Int.tmod a2 8) == 0 then
    bif decide (0 ≤ Int.tmod a3 4) then
    bif
    IntKind.wrap IntKind.u32
    (IntKind.wrap IntKind.u32
    (a0_6 +
    IntKind.wrap IntKind.u32
    (a0_0 *
    IntKind.wrap IntKind.u32
    (IntKind.wrap IntKind.i64 (IntKind.wrap IntKind.u32 (1 * 2 ^ min (Int.toNat (Int.tmod a3 4)) 32))))) +
    a4) ==
    IntKind.wrap IntKind.u32
    (IntKind.wrap IntKind.u32
    (a0_6 + IntKind.wrap IntKind.u32 (a0_0 * IntKind.wrap IntKind.u32 (1 * 2 ^ min (Int.toNat (Int.tmod a3 4)) 32))) +
    a4) then
    some (IntKind.wrap IntKind.u32 (0 + a4) == a4)
    else some false
    else none
    else
    bif IntKind.wrap IntKind.i64 (Int.tmod a2 8) == 1 then
    bif decide (0 ≤ Int.tmod a3 4) then
    bif
    IntKind.wrap IntKind.u32
    (IntKind.wrap IntKind.u32
    (a0_6 +
    IntKind.wrap IntKind.u32
    (a0_1 *
    IntKind.wrap IntKind.u32
    (IntKind.wrap IntKind.i64 (IntKind.wrap IntKind.u32 (1 * 2 ^ min (Int.toNat (Int.tmod a3 4)) 32))))) +
    a4) ==
    IntKind.wrap IntKind.u32
    (IntKind.wrap IntKind.u32
    (a0_6 + IntKind.wrap IntKind.u32 (a0_1 * IntKind.wrap IntKind.u32 (1 * 2 ^ min (Int.toNat (Int.tmod a3 4)) 32))) +
    a4) then
    some (IntKind.wrap IntKind.u32 (0 + a4) == a4)
    else some false
    else none
    else
    bif IntKind.wrap IntKind.i64 (Int.tmod a2 8) == 2 then
    bif decide (0 ≤ Int.tmod a3 4) then
    bif
    IntKind.wrap IntKind.u32
    (IntKind.wrap IntKind.u32
    (a0_6 +
    IntKind.wrap IntKind.u32
    (a0_2 *
    IntKind.wrap IntKind.u32
    (IntKind.wrap IntKind.i64 (IntKind.wrap IntKind.u32 (1 * 2 ^ min (Int.toNat (Int.tmod a3 4)) 32))))) +
    a4) ==
    IntKind.wrap IntKind.u32
    (IntKind.wrap IntKind.u32
    (a0_6 + IntKind.wrap IntKind.u32 (a0_2 * IntKind.wrap IntKind.u32 (1 * 2 ^ min (Int.toNat (Int.tmod a3 4)) 32))) +
    a4) then
    some (IntKind.wrap IntKind.u32 (0 + a4) == a4)
    else some false
    else none
    else
    bif IntKind.wrap IntKind.i64 (Int.tmod a2 8) == 3 then
    bif decide (0 ≤ Int.tmod a3 4) then
    bif
    IntKind.wrap IntKind.u32
    (IntKind.wrap IntKind.u32
    (a0_6 +
    IntKind.wrap IntKind.u32
    (a0_3 *
    IntKind.wrap IntKind.u32
    (IntKind.wrap IntKind.i64 (IntKind.wrap IntKind.u32 (1 * 2 ^ min (Int.toNat (Int.tmod a3 4)) 32))))) +
    a4) ==
    IntKind.wrap IntKind.u32
    (IntKind.wrap IntKind.u32
    (a0_6 + IntKind.wrap IntKind.u32 (a0_3 * IntKind.wrap IntKind.u32 (1 * 2 ^ min (Int.toNat (Int.tmod a3 4)) 32))) +
    a4) then
    some (IntKind.wrap IntKind.u32 (0 + a4) == a4)
    else some false
    else none
    else
    bif IntKind.wrap IntKind.i64 (Int.tmod a2 8) == 4 then
    bif decide (0 ≤ Int.tmod a3 4) then
    bif
    IntKind.wrap IntKind.u32
    (IntKind.wrap IntKind.u32
    (a0_6 +
    IntKind.wrap IntKind.u32
    (a0_4 *
    IntKind.wrap IntKind.u32
    (IntKind.wrap IntKind.i64 (IntKind.wrap IntKind.u32 (1 * 2 ^ min (Int.toNat (Int.tmod a3 4)) 32))))) +
    a4) ==
    IntKind.wrap IntKind.u32
    (IntKind.wrap IntKind.u32
    (a0_6 + IntKind.wrap IntKind.u32 (a0_4 * IntKind.wrap IntKind.u32 (1 * 2 ^ min (Int.toNat (Int.tmod a3 4)) 32))) +
    a4) then
    some (IntKind.wrap IntKind.u32 (0 + a4) == a4)
    else some false
    else none
    else
    bif IntKind.wrap IntKind.i64 (Int.tmod a2 8) == 5 then
    bif decide (0 ≤ Int.tmod a3 4) then
    bif
    IntKind.wrap IntKind.u32
    (IntKind.wrap IntKind.u32
    (a0_6 +
    IntKind.wrap IntKind.u32
    (a0_5 *
    IntKind.wrap IntKind.u32
    (IntKind.wrap IntKind.i64 (IntKind.wrap IntKind.u32 (1 * 2 ^ min (Int.toNat (Int.tmod a3 4)) 32))))) +
    a4) ==
    IntKind.wrap IntKind.u32
    (IntKind.wrap IntKind.u32
    (a0_6 + IntKind.wrap IntKind.u32 (a0_5 * IntKind.wrap IntKind.u32 (1 * 2 ^ min (Int.toNat (Int.tmod a3 4)) 32))) +
    a4) then
    some (IntKind.wrap IntKind.u32 (0 + a4) == a4)
    else some false
    else none
    else
    bif IntKind.wrap IntKind.i64 (Int.tmod a2 8) == 6 then
    bif decide (0 ≤ Int.tmod a3 4) then
    bif
    IntKind.wrap IntKind.u32
    (IntKind.wrap IntKind.u32
    (a0_6 +
    IntKind.wrap IntKind.u32
    (a0_6 *
    IntKind.wrap IntKind.u32
    (IntKind.wrap IntKind.i64 (IntKind.wrap IntKind.u32 (1 * 2 ^ min (Int.toNat (Int.tmod a3 4)) 32))))) +
    a4) ==
    IntKind.wrap IntKind.u32
    (IntKind.wrap IntKind.u32
    (a0_6 + IntKind.wrap IntKind.u32 (a0_6 * IntKind.wrap IntKind.u32 (1 * 2 ^ min (Int.toNat (Int.tmod a3 4)) 32))) +
    a4) then
    some (IntKind.wrap IntKind.u32 (0 + a4) == a4)
    else some false
    else none
    else
    bif IntKind.wrap IntKind.i64 (Int.tmod a2 8) == 7 then
    bif decide (0 ≤ Int.tmod a3 4) then
    bif
    IntKind.wrap IntKind.u32
    (IntKind.wrap IntKind.u32
    (a0_6 +
    IntKind.wrap IntKind.u32
    (a0_7 *
    IntKind.wrap IntKind.u32
    (IntKind.wrap IntKind.i64 (IntKind.wrap IntKind.u32 (1 * 2 ^ min (Int.toNat (Int.tmod a3 4)) 32))))) +
    a4) ==
    IntKind.wrap IntKind.u32
    (IntKind.wrap IntKind.u32
    (a0_6 + IntKind.wrap IntKind.u32 (a0_7 * IntKind.wrap IntKind.u32 (1 * 2 ^ min (Int.toNat (Int.tmod a3 4)) 32))) +
    a4) then
    some (IntKind.wrap IntKind.u32 (0 + a4) == a4)
    else some false
    else none
    else none
    else
    bif IntKind.wrap IntKind.i64 (Int.tmod a1 8) == 7 then
    bif IntKind.wrap IntKind.i64 (Int.tmod a2 8) == 0 then
    bif decide (0 ≤ Int.tmod a3 4) then
    bif
    IntKind.wrap IntKind.u32
    (IntKind.wrap IntKind.u32
    (a0_7 +
    IntKind.wrap IntKind.u32
    (a0_0 *
    IntKind.wrap IntKind.u32
    (IntKind.wrap IntKind.i64 (IntKind.wrap IntKind.u32 (1 * 2 ^ min (Int.toNat (Int.tmod a3 4)) 32))))) +
    a4) ==
    IntKind.wrap IntKind.u32
    (IntKind.wrap IntKind.u32
    (a0_7 + IntKind.wrap IntKind.u32 (a0_0 * IntKind.wrap IntKind.u32 (1 * 2 ^ min (Int.toNat (Int.tmod a3 4)) 32))) +
    a4) then
    some (IntKind.wrap IntKind.u32 (0 + a4) == a4)
    else some false
    else none
    else
    bif IntKind.wrap IntKind.i64 (Int.tmod a2 8) == 1 then
    bif decide (0 ≤ Int.tmod a3 4) then
    bif
    IntKind.wrap IntKind.u32
    (IntKind.wrap IntKind.u32
    (a0_7 +
    IntKind.wrap IntKind.u32
    (a0_1 *
    IntKind.wrap IntKind.u32
    (IntKind.wrap IntKind.i64 (IntKind.wrap IntKind.u32 (1 * 2 ^ min (Int.toNat (Int.tmod a3 4)) 32))))) +
    a4) ==
    IntKind.wrap IntKind.u32
    (IntKind.wrap IntKind.u32
    (a0_7 + IntKind.wrap IntKind.u32 (a0_1 * IntKind.wrap IntKind.u32 (1 * 2 ^ min (Int.toNat (Int.tmod a3 4)) 32))) +
    a4) then
    some (IntKind.wrap IntKind.u32 (0 + a4) == a4)
    else some false
    else none
    else
    bif IntKind.wrap IntKind.i64 (Int.tmod a2 8) == 2 then
    bif decide (0 ≤ Int.tmod a3 4) then
    bif
    IntKind.wrap IntKind.u32
    (IntKind.wrap IntKind.u32
    (a0_7 +
    IntKind.wrap IntKind.u32
    (a0_2 *
    IntKind.wrap IntKind.u32
    (IntKind.wrap IntKind.i64 (IntKind.wrap IntKind.u32 (1 * 2 ^ min (Int.toNat (Int.tmod a3 4)) 32))))) +
    a4) ==
    IntKind.wrap IntKind.u32
    (IntKind.wrap IntKind.u32
    (a0_7 + IntKind.wrap IntKind.u32 (a0_2 * IntKind.wrap IntKind.u32 (1 * 2 ^ min (Int.toNat (Int.tmod a3 4)) 32))) +
    a4) then
    some (IntKind.wrap IntKind.u32 (0 + a4) == a4)
    else some false
    else none
    else
    bif IntKind.wrap IntKind.i64 (Int.tmod a2 8) == 3 then
    bif decide (0 ≤ Int.tmod a3 4) then
    bif
    IntKind.wrap IntKind.u32
    (IntKind.wrap IntKind.u32
    (a0_7 +
    IntKind.wrap IntKind.u32
    (a0_3 *
    IntKind.wrap IntKind.u32
    (IntKind.wrap IntKind.i64 (IntKind.wrap IntKind.u32 (1 * 2 ^ min (Int.toNat (Int.tmod a3 4)) 32))))) +
    a4) ==
    IntKind.wrap IntKind.u32
    (IntKind.wrap IntKind.u32
    (a0_7 + IntKind.wrap IntKind.u32 (a0_3 * IntKind.wrap IntKind.u32 (1 * 2 ^ min (Int.toNat (Int.tmod a3 4)) 32))) +
    a4) then
    some (IntKind.wrap IntKind.u32 (0 + a4) == a4)
    else some false
    else none
    else
    bif IntKind.wrap IntKind.i64 (Int.tmod a2 8) == 4 then
    bif decide (0 ≤ Int.tmod a3 4) then
    bif
    IntKind.wrap IntKind.u32
    (IntKind.wrap IntKind.u32
    (a0_7 +
    IntKind.wrap IntKind.u32
    (a0_4 *
    IntKind.wrap IntKind.u32
    (IntKind.wrap IntKind.i64 (IntKind.wrap IntKind.u32 (1 * 2 ^ min (Int.toNat (Int.tmod a3 4)) 32))))) +
    a4) ==
    IntKind.wrap IntKind.u32
    (IntKind.wrap IntKind.u32
    (a0_7 + IntKind.wrap IntKind.u32 (a0_4 * IntKind.wrap IntKind.u32 (1 * 2 ^ min (Int.toNat (Int.tmod a3 4)) 32))) +
    a4) then
    some (IntKind.wrap IntKind.u32 (0 + a4) == a4)
    else some false
    else none
    else
    bif IntKind.wrap IntKind.i64 (Int.tmod a2 8) == 5 then
    bif decide (0 ≤ Int.tmod a3 4) then
    bif
    IntKind.wrap IntKind.u32
    (IntKind.wrap IntKind.u32
    (a0_7 +
    IntKind.wrap IntKind.u32
    (a0_5 *
    IntKind.wrap IntKind.u32
    (IntKind.wrap IntKind.i64 (IntKind.wrap IntKind.u32 (1 * 2 ^ min (Int.toNat (Int.tmod a3 4)) 32))))) +
    a4) ==
    IntKind.wrap IntKind.u32
    (IntKind.wrap IntKind.u32
    (a0_7 + IntKind.wrap IntKind.u32 (a0_5 * IntKind.wrap IntKind.u32 (1 * 2 ^ min (Int.toNat (Int.tmod a3 4)) 32))) +
    a4) then
    some (IntKind.wrap IntKind.u32 (0 + a4) == a4)
    else some false
    else none
    else
    bif IntKind.wrap IntKind.i64 (Int.tmod a2 8) == 6 then
    bif decide (0 ≤ Int.tmod a3 4) then
    bif
    IntKind.wrap IntKind.u32
    (IntKind.wrap IntKind.u32
    (a0_7 +
    IntKind.wrap IntKind.u32
    (a0_6 *
    IntKind.wrap IntKind.u32
    (IntKind.wrap IntKind.i64 (IntKind.wrap IntKind.u32 (1 * 2 ^ min (Int.toNat (Int.tmod a3 4)) 32))))) +
    a4) ==
    IntKind.wrap IntKind.u32
    (IntKind.wrap IntKind.u32
    (a0_7 + IntKind.wrap IntKind.u32 (a0_6 * IntKind.wrap IntKind.u32 (1 * 2 ^ min (Int.toNat (Int.tmod a3 4)) 32))) +
    a4) then
    some (IntKind.wrap IntKind.u32 (0 + a4) == a4)
    else some false
    else none
    else
    bif IntKind.wrap IntKind.i64 (Int.tmod a2 8) == 7 then
    bif decide (0 ≤ Int.tmod a3 4) then
    bif
    IntKind.wrap IntKind.u32
    (IntKind.wrap IntKind.u32
    (a0_7 +
    IntKind.wrap IntKind.u32
    (a0_7 *
    IntKind.wrap IntKind.u32
    (IntKind.wrap IntKind.i64 (IntKind.wrap IntKind.u32 (1 * 2 ^ min (Int.toNat (Int.tmod a3 4)) 32))))) +
    a4) ==
    IntKind.wrap IntKind.u32
    (IntKind.wrap IntKind.u32
    (a0_7 + IntKind.wrap IntKind.u32 (a0_7 * IntKind.wrap IntKind.u32 (1 * 2 ^ min (Int.toNat (Int.tmod a3 4)) 32))) +
    a4) then
    some (IntKind.wrap IntKind.u32 (0 + a4) == a4)
    else some false
    else none
    else none
    else none) := by kernel_rfl
theorem pure (a0_0 : Int) (a0_1 : Int) (a0_2 : Int) (a0_3 : Int) (a0_4 : Int) (a0_5 : Int) (a0_6 : Int) (a0_7 : Int) (a0_8 : Int) (a0_9 : Bool) (a0_10 : Bool) (a0_11 : Bool) (a0_12 : Bool) (a0_13 : Bool) (a0_14 : Bool) (a0_15 : Int) (a0_16 : Int) (a0_17 : Int) (a0_18 : Int) (a0_19 : Int) (a0_20 : Int) (a0_21 : Int) (a0_22 : Int) (a1 : Int) (a2 : Int) (a3 : Int) (a4 : Int) (w0_0 : (Lit.int .u32 a0_0).wf = true) (w0_1 : (Lit.int .u32 a0_1).wf = true) (w0_2 : (Lit.int .u32 a0_2).wf = true) (w0_3 : (Lit.int .u32 a0_3).wf = true) (w0_4 : (Lit.int .u32 a0_4).wf = true) (w0_5 : (Lit.int .u32 a0_5).wf = true) (w0_6 : (Lit.int .u32 a0_6).wf = true) (w0_7 : (Lit.int .u32 a0_7).wf = true) (w0_8 : (Lit.int .u32 a0_8).wf = true) (w0_15 : (Lit.int .u64 a0_15).wf = true) (w0_16 : (Lit.int .u64 a0_16).wf = true) (w0_17 : (Lit.int .u64 a0_17).wf = true) (w0_18 : (Lit.int .u64 a0_18).wf = true) (w0_19 : (Lit.int .u64 a0_19).wf = true) (w0_20 : (Lit.int .u64 a0_20).wf = true) (w0_21 : (Lit.int .u64 a0_21).wf = true) (w0_22 : (Lit.int .u64 a0_22).wf = true) (w1 : (Lit.int .u8 a1).wf = true) (w2 : (Lit.int .u8 a2).wf = true) (w3 : (Lit.int .u8 a3).wf = true) (w4 : (Lit.int .u32 a4).wf = true) :
    evF Try.prog (Γ0.cut [(57, 11, 8), (57, 12, 8)]) 400 3 [.agg [.v (.int .u32 a0_0), .v (.int .u32 a0_1), .v (.int .u32 a0_2), .v (.int .u32 a0_3), .v (.int .u32 a0_4), .v (.int .u32 a0_5), .v (.int .u32 a0_6), .v (.int .u32 a0_7), .v (.int .u32 a0_8), .v (.bool a0_9), .v (.bool a0_10), .v (.bool a0_11), .v (.bool a0_12), .v (.bool a0_13), .v (.bool a0_14), .v (.int .u64 a0_15), .v (.int .u64 a0_16), .v (.int .u64 a0_17), .v (.int .u64 a0_18), .v (.int .u64 a0_19), .v (.int .u64 a0_20), .v (.int .u64 a0_21), .v (.int .u64 a0_22)], .v (.int .u8 a1), .v (.int .u8 a2), .v (.int .u8 a3), .v (.int .u32 a4)] [] isT (fun _ _ => none) = some true := by
  rw [form]
  have b1 := wf_u8 w1
  have b2 := wf_u8 w2
  have b3 := wf_u8 w3
  have b4 := wf_u32 w4
  have e0 : IntKind.wrap IntKind.u32 (0 + a4) = a4 := by rw [Int.zero_add]; exact wr_u32_id b4.1 b4.2
  have eI : ∀ x : Int, IntKind.wrap IntKind.u32 (IntKind.wrap IntKind.i64 (IntKind.wrap IntKind.u32 x)) = IntKind.wrap IntKind.u32 x := fun x => by
    have h : 0 ≤ IntKind.wrap IntKind.u32 x ∧ IntKind.wrap IntKind.u32 x < 4294967296 := by rw [wr_u32]; omega
    rw [wr_i64_id (n := IntKind.wrap IntKind.u32 x) (by omega) (by omega), wr_u32_id h.1 h.2]
  have e3 : decide (0 ≤ Int.tmod a3 4) = true := by
    rw [Int.tmod_eq_emod_of_nonneg b3.1]; exact decide_eq_true (by omega)
  have eB : IntKind.wrap IntKind.i64 (Int.tmod a1 8) = a1 % 8 := by rw [Int.tmod_eq_emod_of_nonneg b1.1, wr_i64_id (by omega) (by omega)]
  have eX : IntKind.wrap IntKind.i64 (Int.tmod a2 8) = a2 % 8 := by rw [Int.tmod_eq_emod_of_nonneg b2.1, wr_i64_id (by omega) (by omega)]
  simp only [e0, eI, e3, eB, eX, beq_self_eq_true, cond_true]
  have hp : a1 % 8 = 0 ∨ a1 % 8 = 1 ∨ a1 % 8 = 2 ∨ a1 % 8 = 3 ∨ a1 % 8 = 4 ∨ a1 % 8 = 5 ∨ a1 % 8 = 6 ∨ a1 % 8 = 7 := by omega
  have hq : a2 % 8 = 0 ∨ a2 % 8 = 1 ∨ a2 % 8 = 2 ∨ a2 % 8 = 3 ∨ a2 % 8 = 4 ∨ a2 % 8 = 5 ∨ a2 % 8 = 6 ∨ a2 % 8 = 7 := by omega
  generalize a1 % 8 = p at *
  generalize a2 % 8 = q at *
  rcases hp with rfl | rfl | rfl | rfl | rfl | rfl | rfl | rfl <;> rcases hq with rfl | rfl | rfl | rfl | rfl | rfl | rfl | rfl <;> rfl
end Go.Proofs.Ytllfmajphmfehaa.addrRound
