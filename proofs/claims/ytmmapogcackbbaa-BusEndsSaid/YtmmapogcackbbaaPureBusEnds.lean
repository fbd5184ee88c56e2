/- BusEnds: the reckoning of the law, and that it is true. -/
import Derived.Test.YtmmapogcackbbaaCMm2
import Derived.Test.YtmmapogcackbbaaNBus
namespace Go.Proofs.Ytmmapogcackbbaa.busEnds
open Go Go.Ev
set_option linter.unusedVariables false
set_option linter.unusedSimpArgs false
set_option maxRecDepth 100000
theorem form (a0 : Int) (a1 : Int) (a2 : Int) :
    evF Try.prog ΓM2 400 8 [.v (.int .u16 a0), .v (.int .u8 a1), .v (.int .u64 a2)] [] isT (fun _ _ => none) =
    (bif decide (0 ≤ Int.tmod a1 4) && decide (Int.tmod a1 4 < 4) then
    bif
    true &&
    (in32 (IntKind.wrap IntKind.u32 (IntKind.wrap IntKind.u32 a0 + 16)) &&
    in32
    (IntKind.wrap IntKind.u32
    (IntKind.wrap IntKind.u32 (IntKind.wrap IntKind.u32 a0 + 16) -
    IntKind.wrap IntKind.u32 (selL (Int.tmod a1 4) 0 [1, 2, 4, 8])))) &&
    !4 == 1 then
    bif
    true &&
    (in32 (IntKind.wrap IntKind.u32 (IntKind.wrap IntKind.u32 a0 + 16)) &&
    in32
    (IntKind.wrap IntKind.u32
    (IntKind.wrap IntKind.u32 (IntKind.wrap IntKind.u32 a0 + 16) -
    IntKind.wrap IntKind.u32 (selL (Int.tmod a1 4) 0 [1, 2, 4, 8])))) &&
    !4 == 1 then
    bif
    true &&
    (in32 (IntKind.wrap IntKind.u32 (IntKind.wrap IntKind.u32 a0 + 16)) &&
    in32
    (IntKind.wrap IntKind.u32
    (IntKind.wrap IntKind.u32
    (IntKind.wrap IntKind.u32 (IntKind.wrap IntKind.u32 a0 + 16) -
    IntKind.wrap IntKind.u32 (selL (Int.tmod a1 4) 0 [1, 2, 4, 8])) +
    1))) &&
    !4 == 1 then
    bif decide (selL (Int.tmod a1 4) 0 [1, 2, 4, 8] < 8) then
    bif decide (0 ≤ IntKind.wrap IntKind.i64 (8 * selL (Int.tmod a1 4) 0 [1, 2, 4, 8])) then
    bif
    segE 131072 (IntKind.wrap IntKind.u32 (IntKind.wrap IntKind.u32 a0 + 16))
    (IntKind.wrap IntKind.u32
    (IntKind.wrap IntKind.u32 (IntKind.wrap IntKind.u32 a0 + 16) -
    IntKind.wrap IntKind.u32 (selL (Int.tmod a1 4) 0 [1, 2, 4, 8])))
    (↑(bytesN (selL (Int.tmod a1 4) 0 [1, 2, 4, 8]))) true ==
    0 then
    bif
    segE 131072 (IntKind.wrap IntKind.u32 (IntKind.wrap IntKind.u32 a0 + 16))
    (IntKind.wrap IntKind.u32
    (IntKind.wrap IntKind.u32 (IntKind.wrap IntKind.u32 a0 + 16) -
    IntKind.wrap IntKind.u32 (selL (Int.tmod a1 4) 0 [1, 2, 4, 8])))
    (↑(bytesN (selL (Int.tmod a1 4) 0 [1, 2, 4, 8]))) true ==
    0 then
    bif
    segE 131072 (IntKind.wrap IntKind.u32 (IntKind.wrap IntKind.u32 a0 + 16))
    (IntKind.wrap IntKind.u32
    (IntKind.wrap IntKind.u32
    (IntKind.wrap IntKind.u32 (IntKind.wrap IntKind.u32 a0 + 16) -
    IntKind.wrap IntKind.u32 (selL (Int.tmod a1 4) 0 [1, 2, 4, 8])) +
    1))
    (↑(bytesN (selL (Int.tmod a1 4) 0 [1, 2, 4, 8]))) true ==
    24 then
    bif
    ldV
    (stV (fun x => 0) 131072 (IntKind.wrap IntKind.u32 (IntKind.wrap IntKind.u32 a0 + 16))
    (IntKind.wrap IntKind.u32
    (IntKind.wrap IntKind.u32 (IntKind.wrap IntKind.u32 a0 + 16) -
    IntKind.wrap IntKind.u32 (selL (Int.tmod a1 4) 0 [1, 2, 4, 8])))
    (selL (Int.tmod a1 4) 0 [1, 2, 4, 8]) a2 true)
    131072 (IntKind.wrap IntKind.u32 (IntKind.wrap IntKind.u32 a0 + 16))
    (IntKind.wrap IntKind.u32
    (IntKind.wrap IntKind.u32 (IntKind.wrap IntKind.u32 a0 + 16) -
    IntKind.wrap IntKind.u32 (selL (Int.tmod a1 4) 0 [1, 2, 4, 8])))
    (selL (Int.tmod a1 4) 0 [1, 2, 4, 8]) true ==
    bitsL BinOp.and IntKind.u64 a2
    (IntKind.wrap IntKind.u64
    (IntKind.wrap IntKind.u64
    (1 * 2 ^ min (Int.toNat (IntKind.wrap IntKind.i64 (8 * selL (Int.tmod a1 4) 0 [1, 2, 4, 8]))) 64) -
    1)) then
    bif
    true &&
    (in32 (IntKind.wrap IntKind.u32 (IntKind.wrap IntKind.u32 a0 + 16)) &&
    in32
    (IntKind.wrap IntKind.u32
    (IntKind.wrap IntKind.u32
    (IntKind.wrap IntKind.u32 (IntKind.wrap IntKind.u32 a0 + 16) -
    IntKind.wrap IntKind.u32 (selL (Int.tmod a1 4) 0 [1, 2, 4, 8])) +
    1))) &&
    !4 == 1 then
    bif
    segE 131072 (IntKind.wrap IntKind.u32 (IntKind.wrap IntKind.u32 a0 + 16))
    (IntKind.wrap IntKind.u32
    (IntKind.wrap IntKind.u32
    (IntKind.wrap IntKind.u32 (IntKind.wrap IntKind.u32 a0 + 16) -
    IntKind.wrap IntKind.u32 (selL (Int.tmod a1 4) 0 [1, 2, 4, 8])) +
    1))
    (↑(bytesN (selL (Int.tmod a1 4) 0 [1, 2, 4, 8]))) true ==
    24 then
    bif true && (in32 (IntKind.wrap IntKind.u32 (IntKind.wrap IntKind.u32 a0 + 16)) && true) && !4 == 1 then
    bif
    segE 131072 (IntKind.wrap IntKind.u32 (IntKind.wrap IntKind.u32 a0 + 16)) 4294967295
    (↑(bytesN (selL (Int.tmod a1 4) 0 [1, 2, 4, 8]))) true ==
    24 then
    bif
    true &&
    (in32 (IntKind.wrap IntKind.u32 (IntKind.wrap IntKind.u32 a0 + 16)) &&
    in32 (IntKind.wrap IntKind.u32 (IntKind.wrap IntKind.u32 (IntKind.wrap IntKind.u32 a0 + 16) - 3))) then
    bif
    segE 5 (IntKind.wrap IntKind.u32 (IntKind.wrap IntKind.u32 a0 + 16))
    (IntKind.wrap IntKind.u32 (IntKind.wrap IntKind.u32 (IntKind.wrap IntKind.u32 a0 + 16) - 3)) 1 true !=
    0 then
    some false
    else
    bif
    in32
    (IntKind.wrap IntKind.u32
    (segA 5 (IntKind.wrap IntKind.u32 (IntKind.wrap IntKind.u32 a0 + 16))
    (IntKind.wrap IntKind.u32 (IntKind.wrap IntKind.u32 (IntKind.wrap IntKind.u32 a0 + 16) - 3)) 1 true +
    0)) then
    bif
    true &&
    (in32 (IntKind.wrap IntKind.u32 (IntKind.wrap IntKind.u32 a0 + 16)) &&
    in32 (IntKind.wrap IntKind.u32 (IntKind.wrap IntKind.u32 (IntKind.wrap IntKind.u32 a0 + 16) - 3))) then
    bif
    segE 5 (IntKind.wrap IntKind.u32 (IntKind.wrap IntKind.u32 a0 + 16))
    (IntKind.wrap IntKind.u32 (IntKind.wrap IntKind.u32 (IntKind.wrap IntKind.u32 a0 + 16) - 3)) 2 true !=
    0 then
    some false
    else
    bif
    in32
    (IntKind.wrap IntKind.u32
    (segA 5 (IntKind.wrap IntKind.u32 (IntKind.wrap IntKind.u32 a0 + 16))
    (IntKind.wrap IntKind.u32 (IntKind.wrap IntKind.u32 (IntKind.wrap IntKind.u32 a0 + 16) - 3)) 2 true +
    1)) then
    bif
    true &&
    (in32 (IntKind.wrap IntKind.u32 (IntKind.wrap IntKind.u32 a0 + 16)) &&
    in32 (IntKind.wrap IntKind.u32 (IntKind.wrap IntKind.u32 (IntKind.wrap IntKind.u32 a0 + 16) - 3))) then
    bif
    segE 5 (IntKind.wrap IntKind.u32 (IntKind.wrap IntKind.u32 a0 + 16))
    (IntKind.wrap IntKind.u32 (IntKind.wrap IntKind.u32 (IntKind.wrap IntKind.u32 a0 + 16) - 3)) 3 true !=
    0 then
    some false
    else
    bif
    in32
    (IntKind.wrap IntKind.u32
    (segA 5 (IntKind.wrap IntKind.u32 (IntKind.wrap IntKind.u32 a0 + 16))
    (IntKind.wrap IntKind.u32 (IntKind.wrap IntKind.u32 (IntKind.wrap IntKind.u32 a0 + 16) - 3)) 3 true +
    2)) then
    bif
    true &&
    (in32 (IntKind.wrap IntKind.u32 (IntKind.wrap IntKind.u32 a0 + 16)) &&
    in32 (IntKind.wrap IntKind.u32 (IntKind.wrap IntKind.u32 (IntKind.wrap IntKind.u32 a0 + 16) - 3))) then
    bif
    segE 5 (IntKind.wrap IntKind.u32 (IntKind.wrap IntKind.u32 a0 + 16))
    (IntKind.wrap IntKind.u32 (IntKind.wrap IntKind.u32 (IntKind.wrap IntKind.u32 a0 + 16) - 3)) 4 true !=
    0 then
    bif
    true &&
    (in32 (IntKind.wrap IntKind.u32 (IntKind.wrap IntKind.u32 a0 + 16)) &&
    in32 (IntKind.wrap IntKind.u32 (IntKind.wrap IntKind.u32 a0 + 16))) then
    bif
    segE 5 (IntKind.wrap IntKind.u32 (IntKind.wrap IntKind.u32 a0 + 16))
    (IntKind.wrap IntKind.u32 (IntKind.wrap IntKind.u32 a0 + 16)) 1 true !=
    0 then
    some true
    else
    bif
    in32
    (IntKind.wrap IntKind.u32
    (segA 5 (IntKind.wrap IntKind.u32 (IntKind.wrap IntKind.u32 a0 + 16))
    (IntKind.wrap IntKind.u32 (IntKind.wrap IntKind.u32 a0 + 16)) 1 true +
    0)) then
    bif
    true &&
    (in32 (IntKind.wrap IntKind.u32 (IntKind.wrap IntKind.u32 a0 + 16)) &&
    in32 (IntKind.wrap IntKind.u32 (IntKind.wrap IntKind.u32 a0 + 16))) then
    bif
    segE 5 (IntKind.wrap IntKind.u32 (IntKind.wrap IntKind.u32 a0 + 16))
    (IntKind.wrap IntKind.u32 (IntKind.wrap IntKind.u32 a0 + 16)) 2 true !=
    0 then
    some false
    else
    bif
    in32
    (IntKind.wrap IntKind.u32
    (segA 5 (IntKind.wrap IntKind.u32 (IntKind.wrap IntKind.u32 a0 + 16))
    (IntKind.wrap IntKind.u32 (IntKind.wrap IntKind.u32 a0 + 16)) 2 true +
    1)) then
    bif
    true &&
    (in32 (IntKind.wrap IntKind.u32 (IntKind.wrap IntKind.u32 a0 + 16)) &&
    in32 (IntKind.wrap IntKind.u32 (IntKind.wrap IntKind.u32 a0 + 16))) then
    bif
    segE 5 (IntKind.wrap IntKind.u32 (IntKind.wrap IntKind.u32 a0 + 16))
    (IntKind.wrap IntKind.u32 (IntKind.wrap IntKind.u32 a0 + 16)) 3 true !=
    0 then
    some false
    else
    bif
    in32
    (IntKind.wrap IntKind.u32
    (segA 5 (IntKind.wrap IntKind.u32 (IntKind.wrap IntKind.u32 a0 + 16))
    (IntKind.wrap IntKind.u32 (IntKind.wrap IntKind.u32 a0 + 16)) 3 true +
    2)) then
    bif
    true &&
    (in32 (IntKind.wrap IntKind.u32 (IntKind.wrap IntKind.u32 a0 + 16)) &&
    in32 (IntKind.wrap IntKind.u32 (IntKind.wrap IntKind.u32 a0 + 16))) then
    bif
    segE 5 (IntKind.wrap IntKind.u32 (IntKind.wrap IntKind.u32 a0 + 16))
    (IntKind.wrap IntKind.u32 (IntKind.wrap IntKind.u32 a0 + 16)) 4 true !=
    0 then
    some false
    else
    bif
    in32
    (IntKind.wrap IntKind.u32
    (segA 5 (IntKind.wrap IntKind.u32 (IntKind.wrap IntKind.u32 a0 + 16))
    (IntKind.wrap IntKind.u32 (IntKind.wrap IntKind.u32 a0 + 16)) 4 true +
    3)) then
    bif
    true &&
    (in32 (IntKind.wrap IntKind.u32 (IntKind.wrap IntKind.u32 a0 + 16)) &&
    in32 (IntKind.wrap IntKind.u32 (IntKind.wrap IntKind.u32 a0 + 16))) then
    bif
    segE 5 (IntKind.wrap IntKind.u32 (IntKind.wrap IntKind.u32 a0 + 16))
    (IntKind.wrap IntKind.u32 (IntKind.wrap IntKind.u32 a0 + 16)) 5 true !=
    0 then
    some false
    else
    bif
    in32
    (IntKind.wrap IntKind.u32
    (segA 5 (IntKind.wrap IntKind.u32 (IntKind.wrap IntKind.u32 a0 + 16))
    (IntKind.wrap IntKind.u32 (IntKind.wrap IntKind.u32 a0 + 16)) 5 true +
    4)) then
    bif
    true &&
    (in32 (IntKind.wrap IntKind.u32 (IntKind.wrap IntKind.u32 a0 + 16)) &&
    in32 (IntKind.wrap IntKind.u32 (IntKind.wrap IntKind.u32 a0 + 16))) then
    bif
    segE 5 (IntKind.wrap IntKind.u32 (IntKind.wrap IntKind.u32 a0 + 16))
    (IntKind.wrap IntKind.u32 (IntKind.wrap IntKind.u32 a0 + 16)) 6 true !=
    0 then
    some false
    else
    bif
    in32
    (IntKind.wrap IntKind.u32
    (segA 5 (IntKind.wrap IntKind.u32 (IntKind.wrap IntKind.u32 a0 + 16))
    (IntKind.wrap IntKind.u32 (IntKind.wrap IntKind.u32 a0 + 16)) 6 true +
    5)) then
    bif
    true &&
    (in32 (IntKind.wrap IntKind.u32 (IntKind.wrap IntKind.u32 a0 + 16)) &&
    in32 (IntKind.wrap IntKind.u32 (IntKind.wrap IntKind.u32 a0 + 16))) then
    bif
    segE 5 (IntKind.wrap IntKind.u32 (IntKind.wrap IntKind.u32 a0 + 16))
    (IntKind.wrap IntKind.u32 (IntKind.wrap IntKind.u32 a0 + 16)) 7 true !=
    0 then
    some false
    else
    bif
    in32
    (IntKind.wrap IntKind.u32
    (segA 5 (IntKind.wrap IntKind.u32 (IntKind.wrap IntKind.u32 a0 + 16))
    (IntKind.wrap IntKind.u32 (IntKind.wrap IntKind.u32 a0 + 16)) 7 true +
    6)) then
    bif
    true &&
    (in32 (IntKind.wrap IntKind.u32 (IntKind.wrap IntKind.u32 a0 + 16)) &&
    in32 (IntKind.wrap IntKind.u32 (IntKind.wrap IntKind.u32 a0 + 16))) then
    bif
    segE 5 (IntKind.wrap IntKind.u32 (IntKind.wrap IntKind.u32 a0 + 16))
    (IntKind.wrap IntKind.u32 (IntKind.wrap IntKind.u32 a0 + 16)) 8 true !=
    0 then
    some false
    else
    bif
    in32
    (IntKind.wrap IntKind.u32
    (segA 5 (IntKind.wrap IntKind.u32 (IntKind.wrap IntKind.u32 a0 + 16))
    (IntKind.wrap IntKind.u32 (IntKind.wrap IntKind.u32 a0 + 16)) 8 true +
    7)) then
    bif
    true &&
    (in32 (IntKind.wrap IntKind.u32 (IntKind.wrap IntKind.u32 a0 + 16)) &&
    in32 (IntKind.wrap IntKind.u32 (IntKind.wrap IntKind.u32 a0 + 16))) then
    bif
    segE 5 (IntKind.wrap IntKind.u32 (IntKind.wrap IntKind.u32 a0 + 16))
    (IntKind.wrap IntKind.u32 (IntKind.wrap IntKind.u32 a0 + 16)) 9 true !=
    0 then
    some false
    else
    bif
    in32
    (IntKind.wrap IntKind.u32
    (segA 5 (IntKind.wrap IntKind.u32 (IntKind.wrap IntKind.u32 a0 + 16))
    (IntKind.wrap IntKind.u32 (IntKind.wrap IntKind.u32 a0 + 16)) 9 true +
    8)) then
    bif
    true &&
    (in32 (IntKind.wrap IntKind.u32 (IntKind.wrap IntKind.u32 a0 + 16)) &&
    in32 (IntKind.wrap IntKind.u32 (IntKind.wrap IntKind.u32 a0 + 16))) then
    bif
    segE 5 (IntKind.wrap IntKind.u32 (IntKind.wrap IntKind.u32 a0 + 16))
    (IntKind.wrap IntKind.u32 (IntKind.wrap IntKind.u32 a0 + 16)) 10 true !=
    0 then
    some false
    else
    bif
    in32
    (IntKind.wrap IntKind.u32
    (segA 5 (IntKind.wrap IntKind.u32 (IntKind.wrap IntKind.u32 a0 + 16))
    (IntKind.wrap IntKind.u32 (IntKind.wrap IntKind.u32 a0 + 16)) 10 true +
    9)) then
    bif
    true &&
    (in32 (IntKind.wrap IntKind.u32 (IntKind.wrap IntKind.u32 a0 + 16)) &&
    in32 (IntKind.wrap IntKind.u32 (IntKind.wrap IntKind.u32 a0 + 16))) then
    bif
    segE 5 (IntKind.wrap IntKind.u32 (IntKind.wrap IntKind.u32 a0 + 16))
    (IntKind.wrap IntKind.u32 (IntKind.wrap IntKind.u32 a0 + 16)) 11 true !=
    0 then
    some false
    else
    bif
    in32
    (IntKind.wrap IntKind.u32
    (segA 5 (IntKind.wrap IntKind.u32 (IntKind.wrap IntKind.u32 a0 + 16))
    (IntKind.wrap IntKind.u32 (IntKind.wrap IntKind.u32 a0 + 16)) 11 true +
    10)) then
    bif
    true &&
    (in32 (IntKind.wrap IntKind.u32 (IntKind.wrap IntKind.u32 a0 + 16)) &&
    in32 (IntKind.wrap IntKind.u32 (IntKind.wrap IntKind.u32 a0 + 16))) then
    bif
    segE 5 (IntKind.wrap IntKind.u32 (IntKind.wrap IntKind.u32 a0 + 16))
    (IntKind.wrap IntKind.u32 (IntKind.wrap IntKind.u32 a0 + 16)) 12 true !=
    0 then
    some false
    else
    bif
    in32
    (IntKind.wrap IntKind.u32
    (segA 5 (IntKind.wrap IntKind.u32 (IntKind.wrap IntKind.u32 a0 + 16))
    (IntKind.wrap IntKind.u32 (IntKind.wrap IntKind.u32 a0 + 16)) 12 true +
    11)) then
    bif
    true &&
    (in32 (IntKind.wrap IntKind.u32 (IntKind.wrap IntKind.u32 a0 + 16)) &&
    in32 (IntKind.wrap IntKind.u32 (IntKind.wrap IntKind.u32 a0 + 16))) then
    bif
    segE 5 (IntKind.wrap IntKind.u32 (IntKind.wrap IntKind.u32 a0 + 16))
    (IntKind.wrap IntKind.u32 (IntKind.wrap IntKind.u32 a0 + 16)) 13 true !=
    0 then
    some false
    else
    bif
    in32
    (IntKind.wrap IntKind.u32
    (segA 5 (IntKind.wrap IntKind.u32 (IntKind.wrap IntKind.u32 a0 + 16))
    (IntKind.wrap IntKind.u32 (IntKind.wrap IntKind.u32 a0 + 16)) 13 true +
    12)) then
    bif
    true &&
    (in32 (IntKind.wrap IntKind.u32 (IntKind.wrap IntKind.u32 a0 + 16)) &&
    in32 (IntKind.wrap IntKind.u32 (IntKind.wrap IntKind.u32 a0 + 16))) then
    bif
    segE 5 (IntKind.wrap IntKind.u32 (IntKind.wrap IntKind.u32 a0 + 16))
    (IntKind.wrap IntKind.u32 (IntKind.wrap IntKind.u32 a0 + 16)) 14 true !=
    0 then
    some false
    else
    bif
    in32
    (IntKind.wrap IntKind.u32
    (segA 5 (IntKind.wrap IntKind.u32 (IntKind.wrap IntKind.u32 a0 + 16))
    (IntKind.wrap IntKind.u32 (IntKind.wrap IntKind.u32 a0 + 16)) 14 true +
    13)) then
    bif
    true &&
    (in32 (IntKind.wrap IntKind.u32 (IntKind.wrap IntKind.u32 a0 + 16)) &&
    in32 (IntKind.wrap IntKind.u32 (IntKind.wrap IntKind.u32 a0 + 16))) then
    bif
    segE 5 (IntKind.wrap IntKind.u32 (IntKind.wrap IntKind.u32 a0 + 16))
    (IntKind.wrap IntKind.u32 (IntKind.wrap IntKind.u32 a0 + 16)) 15 true !=
    0 then
    some false
    else
    bif
    in32
    (IntKind.wrap IntKind.u32
    (segA 5 (IntKind.wrap IntKind.u32 (IntKind.wrap IntKind.u32 a0 + 16))
    (IntKind.wrap IntKind.u32 (IntKind.wrap IntKind.u32 a0 + 16)) 15 true +
    14)) then
    some false
    else none
    else none
    else none
    else none
    else none
    else none
    else none
    else none
    else none
    else none
    else none
    else none
    else none
    else none
    else none
    else none
    else none
    else none
    else none
    else none
    else none
    else none
    else none
    else none
    else none
    else none
    else none
    else none
    else none
    else none
    else
    bif
    in32
    (IntKind.wrap IntKind.u32
    (segA 5 (IntKind.wrap IntKind.u32 (IntKind.wrap IntKind.u32 a0 + 16))
    (IntKind.wrap IntKind.u32 (IntKind.wrap IntKind.u32 (IntKind.wrap IntKind.u32 a0 + 16) - 3)) 4 true +
    3)) then
    bif
    true &&
    (in32 (IntKind.wrap IntKind.u32 (IntKind.wrap IntKind.u32 a0 + 16)) &&
    in32 (IntKind.wrap IntKind.u32 (IntKind.wrap IntKind.u32 (IntKind.wrap IntKind.u32 a0 + 16) - 3))) then
    bif
    segE 5 (IntKind.wrap IntKind.u32 (IntKind.wrap IntKind.u32 a0 + 16))
    (IntKind.wrap IntKind.u32 (IntKind.wrap IntKind.u32 (IntKind.wrap IntKind.u32 a0 + 16) - 3)) 5 true !=
    0 then
    some false
    else
    bif
    in32
    (IntKind.wrap IntKind.u32
    (segA 5 (IntKind.wrap IntKind.u32 (IntKind.wrap IntKind.u32 a0 + 16))
    (IntKind.wrap IntKind.u32 (IntKind.wrap IntKind.u32 (IntKind.wrap IntKind.u32 a0 + 16) - 3)) 5 true +
    4)) then
    bif
    true &&
    (in32 (IntKind.wrap IntKind.u32 (IntKind.wrap IntKind.u32 a0 + 16)) &&
    in32 (IntKind.wrap IntKind.u32 (IntKind.wrap IntKind.u32 (IntKind.wrap IntKind.u32 a0 + 16) - 3))) then
    bif
    segE 5 (IntKind.wrap IntKind.u32 (IntKind.wrap IntKind.u32 a0 + 16))
    (IntKind.wrap IntKind.u32 (IntKind.wrap IntKind.u32 (IntKind.wrap IntKind.u32 a0 + 16) - 3)) 6 true !=
    0 then
    some false
    else
    bif
    in32
    (IntKind.wrap IntKind.u32
    (segA 5 (IntKind.wrap IntKind.u32 (IntKind.wrap IntKind.u32 a0 + 16))
    (IntKind.wrap IntKind.u32 (IntKind.wrap IntKind.u32 (IntKind.wrap IntKind.u32 a0 + 16) - 3)) 6 true +
    5)) then
    bif
    true &&
    (in32 (IntKind.wrap IntKind.u32 (IntKind.wrap IntKind.u32 a0 + 16)) &&
    in32 (IntKind.wrap IntKind.u32 (IntKind.wrap IntKind.u32 (IntKind.wrap IntKind.u32 a0 + 16) - 3))) then
    bif
    segE 5 (IntKind.wrap IntKind.u32 (IntKind.wrap IntKind.u32 a0 + 16))
    (IntKind.wrap IntKind.u32 (IntKind.wrap IntKind.u32 (IntKind.wrap IntKind.u32 a0 + 16) - 3)) 7 true !=
    0 then
    some false
    else
    bif
    in32
    (IntKind.wrap IntKind.u32
    (segA 5 (IntKind.wrap IntKind.u32 (IntKind.wrap IntKind.u32 a0 + 16))
    (IntKind.wrap IntKind.u32 (IntKind.wrap IntKind.u32 (IntKind.wrap IntKind.u32 a0 + 16) - 3)) 7 true +
    6)) then
    bif
    true &&
    (in32 (IntKind.wrap IntKind.u32 (IntKind.wrap IntKind.u32 a0 + 16)) &&
    in32 (IntKind.wrap IntKind.u32 (IntKind.wrap IntKind.u32 (IntKind.wrap IntKind.u32 a0 + 16) - 3))) then
    bif
    segE 5 (IntKind.wrap IntKind.u32 (IntKind.wrap IntKind.u32 a0 + 16))
    (IntKind.wrap IntKind.u32 (IntKind.wrap IntKind.u32 (IntKind.wrap IntKind.u32 a0 + 16) - 3)) 8 true !=
    0 then
    some false
    else
    bif
    in32
    (IntKind.wrap IntKind.u32
    (segA 5 (IntKind.wrap IntKind.u32 (IntKind.wrap IntKind.u32 a0 + 16))
    (IntKind.wrap IntKind.u32 (IntKind.wrap IntKind.u32 (IntKind.wrap IntKind.u32 a0 + 16) - 3)) 8 true +
    7)) then
    bif
    true &&
    (in32 (IntKind.wrap IntKind.u32 (IntKind.wrap IntKind.u32 a0 + 16)) &&
    in32 (IntKind.wrap IntKind.u32 (IntKind.wrap IntKind.u32 (IntKind.wrap IntKind.u32 a0 + 16) - 3))) then
    bif
    segE 5 (IntKind.wrap IntKind.u32 (IntKind.wrap IntKind.u32 a0 + 16))
    (IntKind.wrap IntKind.u32 (IntKind.wrap IntKind.u32 (IntKind.wrap IntKind.u32 a0 + 16) - 3)) 9 true !=
    0 then
    some false
    else
    bif
    in32
    (IntKind.wrap IntKind.u32
    (segA 5 (IntKind.wrap IntKind.u32 (IntKind.wrap IntKind.u32 a0 + 16))
    (IntKind.wrap IntKind.u32 (IntKind.wrap IntKind.u32 (IntKind.wrap IntKind.u32 a0 + 16) - 3)) 9 true +
    8)) then
    bif
    true &&
    (in32 (IntKind.wrap IntKind.u32 (IntKind.wrap IntKind.u32 a0 + 16)) &&
    in32 (IntKind.wrap IntKind.u32 (IntKind.wrap IntKind.u32 (IntKind.wrap IntKind.u32 a0 + 16) - 3))) then
    bif
    segE 5 (IntKind.wrap IntKind.u32 (IntKind.wrap IntKind.u32 a0 + 16))
    (IntKind.wrap IntKind.u32 (IntKind.wrap IntKind.u32 (IntKind.wrap IntKind.u32 a0 + 16) - 3)) 10 true !=
    0 then
    some false
    else
    bif
    in32
    (IntKind.wrap IntKind.u32
    (segA 5 (IntKind.wrap IntKind.u32 (IntKind.wrap IntKind.u32 a0 + 16))
    (IntKind.wrap IntKind.u32 (IntKind.wrap IntKind.u32 (IntKind.wrap IntKind.u32 a0 + 16) - 3)) 10 true +
    9)) then
    bif
    true &&
    (in32 (IntKind.wrap IntKind.u32 (IntKind.wrap IntKind.u32 a0 + 16)) &&
    in32 (IntKind.wrap IntKind.u32 (IntKind.wrap IntKind.u32 (IntKind.wrap IntKind.u32 a0 + 16) - 3))) then
    bif
    segE 5 (IntKind.wrap IntKind.u32 (IntKind.wrap IntKind.u32 a0 + 16))
    (IntKind.wrap IntKind.u32 (IntKind.wrap IntKind.u32 (IntKind.wrap IntKind.u32 a0 + 16) - 3)) 11 true !=
    0 then
    some false
    else
    bif
    in32
    (IntKind.wrap IntKind.u32
    (segA 5 (IntKind.wrap IntKind.u32 (IntKind.wrap IntKind.u32 a0 + 16))
    (IntKind.wrap IntKind.u32 (IntKind.wrap IntKind.u32 (IntKind.wrap IntKind.u32 a0 + 16) - 3)) 11 true +
    10)) then
    bif
    true &&
    (in32 (IntKind.wrap IntKind.u32 (IntKind.wrap IntKind.u32 a0 + 16)) &&
    in32 (IntKind.wrap IntKind.u32 (IntKind.wrap IntKind.u32 (IntKind.wrap IntKind.u32 a0 + 16) - 3))) then
    bif
    segE 5 (IntKind.wrap IntKind.u32 (IntKind.wrap IntKind.u32 a0 + 16))
    (IntKind.wrap IntKind.u32 (IntKind.wrap IntKind.u32 (IntKind.wrap IntKind.u32 a0 + 16) - 3)) 12 true !=
    0 then
    some false
    else
    bif
    in32
    (IntKind.wrap IntKind.u32
    (segA 5 (IntKind.wrap IntKind.u32 (IntKind.wrap IntKind.u32 a0 + 16))
    (IntKind.wrap IntKind.u32 (IntKind.wrap IntKind.u32 (IntKind.wrap IntKind.u32 a0 + 16) - 3)) 12 true +
    11)) then
    bif
    true &&
    (in32 (IntKind.wrap IntKind.u32 (IntKind.wrap IntKind.u32 a0 + 16)) &&
    in32 (IntKind.wrap IntKind.u32 (IntKind.wrap IntKind.u32 (IntKind.wrap IntKind.u32 a0 + 16) - 3))) then
    bif
    segE 5 (IntKind.wrap IntKind.u32 (IntKind.wrap IntKind.u32 a0 + 16))
    (IntKind.wrap IntKind.u32 (IntKind.wrap IntKind.u32 (IntKind.wrap IntKind.u32 a0 + 16) - 3)) 13 true !=
    0 then
    some false
    else
    bif
    in32
    (IntKind.wrap IntKind.u32
    (segA 5 (IntKind.wrap IntKind.u32 (IntKind.wrap IntKind.u32 a0 + 16))
    (IntKind.wrap IntKind.u32 (IntKind.wrap IntKind.u32 (IntKind.wrap IntKind.u32 a0 + 16) - 3)) 13 true +
    12)) then
    bif
    true &&
    (in32 (IntKind.wrap IntKind.u32 (IntKind.wrap IntKind.u32 a0 + 16)) &&
    in32 (IntKind.wrap IntKind.u32 (IntKind.wrap IntKind.u32 (IntKind.wrap IntKind.u32 a0 + 16) - 3))) then
    bif
    segE 5 (IntKind.wrap IntKind.u32 (IntKind.wrap IntKind.u32 a0 + 16))
    (IntKind.wrap IntKind.u32 (IntKind.wrap IntKind.u32 (IntKind.wrap IntKind.u32 a0 + 16) - 3)) 14 true !=
    0 then
    some false
    else
    bif
    in32
    (IntKind.wrap IntKind.u32
    (segA 5 (IntKind.wrap IntKind.u32 (IntKind.wrap IntKind.u32 a0 + 16))
    (IntKind.wrap IntKind.u32 (IntKind.wrap IntKind.u32 (IntKind.wrap IntKind.u32 a0 + 16) - 3)) 14 true +
    13)) then
    bif
    true &&
    (in32 (IntKind.wrap IntKind.u32 (IntKind.wrap IntKind.u32 a0 + 16)) &&
    in32 (IntKind.wrap IntKind.u32 (IntKind.wrap IntKind.u32 (IntKind.wrap IntKind.u32 a0 + 16) - 3))) then
    bif
    segE 5 (IntKind.wrap IntKind.u32 (IntKind.wrap IntKind.u32 a0 + 16))
    (IntKind.wrap IntKind.u32 (IntKind.wrap IntKind.u32 (IntKind.wrap IntKind.u32 a0 + 16) - 3)) 15 true !=
    0 then
    some false
    else
    bif
    in32
    (IntKind.wrap IntKind.u32
    (segA 5 (IntKind.wrap IntKind.u32 (IntKind.wrap IntKind.u32 a0 + 16))
    (IntKind.wrap IntKind.u32 (IntKind.wrap IntKind.u32 (IntKind.wrap IntKind.u32 a0 + 16) - 3)) 15 true +
    14)) then
    some false
    else none
    else none
    else none
    else none
    else none
    else none
    else none
    else none
    else none
    else none
    else none
    else none
    else none
    else none
    else none
    else none
    else none
    else none
    else none
    else none
    else none
    else none
    else none
    else none
    else none
    else none
    else none
    else none
    else none
    else none
    else some false
    else none
    else some false
    else none
    else some false
    else some false
    else some false
    else some false
    else none
    else
    bif
    segE 131072 (IntKind.wrap IntKind.u32 (IntKind.wrap IntKind.u32 a0 + 16))
    (IntKind.wrap IntKind.u32
    (IntKind.wrap IntKind.u32 (IntKind.wrap IntKind.u32 a0 + 16) -
    IntKind.wrap IntKind.u32 (selL (Int.tmod a1 4) 0 [1, 2, 4, 8])))
    (↑(bytesN (selL (Int.tmod a1 4) 0 [1, 2, 4, 8]))) true ==
    0 then
    bif
    segE 131072 (IntKind.wrap IntKind.u32 (IntKind.wrap IntKind.u32 a0 + 16))
    (IntKind.wrap IntKind.u32
    (IntKind.wrap IntKind.u32 (IntKind.wrap IntKind.u32 a0 + 16) -
    IntKind.wrap IntKind.u32 (selL (Int.tmod a1 4) 0 [1, 2, 4, 8])))
    (↑(bytesN (selL (Int.tmod a1 4) 0 [1, 2, 4, 8]))) true ==
    0 then
    bif
    segE 131072 (IntKind.wrap IntKind.u32 (IntKind.wrap IntKind.u32 a0 + 16))
    (IntKind.wrap IntKind.u32
    (IntKind.wrap IntKind.u32
    (IntKind.wrap IntKind.u32 (IntKind.wrap IntKind.u32 a0 + 16) -
    IntKind.wrap IntKind.u32 (selL (Int.tmod a1 4) 0 [1, 2, 4, 8])) +
    1))
    (↑(bytesN (selL (Int.tmod a1 4) 0 [1, 2, 4, 8]))) true ==
    24 then
    bif
    ldV
    (stV (fun x => 0) 131072 (IntKind.wrap IntKind.u32 (IntKind.wrap IntKind.u32 a0 + 16))
    (IntKind.wrap IntKind.u32
    (IntKind.wrap IntKind.u32 (IntKind.wrap IntKind.u32 a0 + 16) -
    IntKind.wrap IntKind.u32 (selL (Int.tmod a1 4) 0 [1, 2, 4, 8])))
    (selL (Int.tmod a1 4) 0 [1, 2, 4, 8]) a2 true)
    131072 (IntKind.wrap IntKind.u32 (IntKind.wrap IntKind.u32 a0 + 16))
    (IntKind.wrap IntKind.u32
    (IntKind.wrap IntKind.u32 (IntKind.wrap IntKind.u32 a0 + 16) -
    IntKind.wrap IntKind.u32 (selL (Int.tmod a1 4) 0 [1, 2, 4, 8])))
    (selL (Int.tmod a1 4) 0 [1, 2, 4, 8]) true ==
    bitsL BinOp.and IntKind.u64 a2 18446744073709551615 then
    bif
    true &&
    (in32 (IntKind.wrap IntKind.u32 (IntKind.wrap IntKind.u32 a0 + 16)) &&
    in32
    (IntKind.wrap IntKind.u32
    (IntKind.wrap IntKind.u32
    (IntKind.wrap IntKind.u32 (IntKind.wrap IntKind.u32 a0 + 16) -
    IntKind.wrap IntKind.u32 (selL (Int.tmod a1 4) 0 [1, 2, 4, 8])) +
    1))) &&
    !4 == 1 then
    bif
    segE 131072 (IntKind.wrap IntKind.u32 (IntKind.wrap IntKind.u32 a0 + 16))
    (IntKind.wrap IntKind.u32
    (IntKind.wrap IntKind.u32
    (IntKind.wrap IntKind.u32 (IntKind.wrap IntKind.u32 a0 + 16) -
    IntKind.wrap IntKind.u32 (selL (Int.tmod a1 4) 0 [1, 2, 4, 8])) +
    1))
    (↑(bytesN (selL (Int.tmod a1 4) 0 [1, 2, 4, 8]))) true ==
    24 then
    bif true && (in32 (IntKind.wrap IntKind.u32 (IntKind.wrap IntKind.u32 a0 + 16)) && true) && !4 == 1 then
    bif
    segE 131072 (IntKind.wrap IntKind.u32 (IntKind.wrap IntKind.u32 a0 + 16)) 4294967295
    (↑(bytesN (selL (Int.tmod a1 4) 0 [1, 2, 4, 8]))) true ==
    24 then
    bif
    true &&
    (in32 (IntKind.wrap IntKind.u32 (IntKind.wrap IntKind.u32 a0 + 16)) &&
    in32 (IntKind.wrap IntKind.u32 (IntKind.wrap IntKind.u32 (IntKind.wrap IntKind.u32 a0 + 16) - 3))) then
    bif
    segE 5 (IntKind.wrap IntKind.u32 (IntKind.wrap IntKind.u32 a0 + 16))
    (IntKind.wrap IntKind.u32 (IntKind.wrap IntKind.u32 (IntKind.wrap IntKind.u32 a0 + 16) - 3)) 1 true !=
    0 then
    some false
    else
    bif
    in32
    (IntKind.wrap IntKind.u32
    (segA 5 (IntKind.wrap IntKind.u32 (IntKind.wrap IntKind.u32 a0 + 16))
    (IntKind.wrap IntKind.u32 (IntKind.wrap IntKind.u32 (IntKind.wrap IntKind.u32 a0 + 16) - 3)) 1 true +
    0)) then
    bif
    true &&
    (in32 (IntKind.wrap IntKind.u32 (IntKind.wrap IntKind.u32 a0 + 16)) &&
    in32 (IntKind.wrap IntKind.u32 (IntKind.wrap IntKind.u32 (IntKind.wrap IntKind.u32 a0 + 16) - 3))) then
    bif
    segE 5 (IntKind.wrap IntKind.u32 (IntKind.wrap IntKind.u32 a0 + 16))
    (IntKind.wrap IntKind.u32 (IntKind.wrap IntKind.u32 (IntKind.wrap IntKind.u32 a0 + 16) - 3)) 2 true !=
    0 then
    some false
    else
    bif
    in32
    (IntKind.wrap IntKind.u32
    (segA 5 (IntKind.wrap IntKind.u32 (IntKind.wrap IntKind.u32 a0 + 16))
    (IntKind.wrap IntKind.u32 (IntKind.wrap IntKind.u32 (IntKind.wrap IntKind.u32 a0 + 16) - 3)) 2 true +
    1)) then
    bif
    true &&
    (in32 (IntKind.wrap IntKind.u32 (IntKind.wrap IntKind.u32 a0 + 16)) &&
    in32 (IntKind.wrap IntKind.u32 (IntKind.wrap IntKind.u32 (IntKind.wrap IntKind.u32 a0 + 16) - 3))) then
    bif
    segE 5 (IntKind.wrap IntKind.u32 (IntKind.wrap IntKind.u32 a0 + 16))
    (IntKind.wrap IntKind.u32 (IntKind.wrap IntKind.u32 (IntKind.wrap IntKind.u32 a0 + 16) - 3)) 3 true !=
    0 then
    some false
    else
    bif
    in32
    (IntKind.wrap IntKind.u32
    (segA 5 (IntKind.wrap IntKind.u32 (IntKind.wrap IntKind.u32 a0 + 16))
    (IntKind.wrap IntKind.u32 (IntKind.wrap IntKind.u32 (IntKind.wrap IntKind.u32 a0 + 16) - 3)) 3 true +
    2)) then
    bif
    true &&
    (in32 (IntKind.wrap IntKind.u32 (IntKind.wrap IntKind.u32 a0 + 16)) &&
    in32 (IntKind.wrap IntKind.u32 (IntKind.wrap IntKind.u32 (IntKind.wrap IntKind.u32 a0 + 16) - 3))) then
    bif
    segE 5 (IntKind.wrap IntKind.u32 (IntKind.wrap IntKind.u32 a0 + 16))
    (IntKind.wrap IntKind.u32 (IntKind.wrap IntKind.u32 (IntKind.wrap IntKind.u32 a0 + 16) - 3)) 4 true !=
    0 then
    bif
    true &&
    (in32 (IntKind.wrap IntKind.u32 (IntKind.wrap IntKind.u32 a0 + 16)) &&
    in32 (IntKind.wrap IntKind.u32 (IntKind.wrap IntKind.u32 a0 + 16))) then
    bif
    segE 5 (IntKind.wrap IntKind.u32 (IntKind.wrap IntKind.u32 a0 + 16))
    (IntKind.wrap IntKind.u32 (IntKind.wrap IntKind.u32 a0 + 16)) 1 true !=
    0 then
    some true
    else
    bif
    in32
    (IntKind.wrap IntKind.u32
    (segA 5 (IntKind.wrap IntKind.u32 (IntKind.wrap IntKind.u32 a0 + 16))
    (IntKind.wrap IntKind.u32 (IntKind.wrap IntKind.u32 a0 + 16)) 1 true +
    0)) then
    bif
    true &&
    (in32 (IntKind.wrap IntKind.u32 (IntKind.wrap IntKind.u32 a0 + 16)) &&
    in32 (IntKind.wrap IntKind.u32 (IntKind.wrap IntKind.u32 a0 + 16))) then
    bif
    segE 5 (IntKind.wrap IntKind.u32 (IntKind.wrap IntKind.u32 a0 + 16))
    (IntKind.wrap IntKind.u32 (IntKind.wrap IntKind.u32 a0 + 16)) 2 true !=
    0 then
    some false
    else
    bif
    in32
    (IntKind.wrap IntKind.u32
    (segA 5 (IntKind.wrap IntKind.u32 (IntKind.wrap IntKind.u32 a0 + 16))
    (IntKind.wrap IntKind.u32 (IntKind.wrap IntKind.u32 a0 + 16)) 2 true +
    1)) then
    bif
    true &&
    (in32 (IntKind.wrap IntKind.u32 (IntKind.wrap IntKind.u32 a0 + 16)) &&
    in32 (IntKind.wrap IntKind.u32 (IntKind.wrap IntKind.u32 a0 + 16))) then
    bif
    segE 5 (IntKind.wrap IntKind.u32 (IntKind.wrap IntKind.u32 a0 + 16))
    (IntKind.wrap IntKind.u32 (IntKind.wrap IntKind.u32 a0 + 16)) 3 true !=
    0 then
    some false
    else
    bif
    in32
    (IntKind.wrap IntKind.u32
    (segA 5 (IntKind.wrap IntKind.u32 (IntKind.wrap IntKind.u32 a0 + 16))
    (IntKind.wrap IntKind.u32 (IntKind.wrap IntKind.u32 a0 + 16)) 3 true +
    2)) then
    bif
    true &&
    (in32 (IntKind.wrap IntKind.u32 (IntKind.wrap IntKind.u32 a0 + 16)) &&
    in32 (IntKind.wrap IntKind.u32 (IntKind.wrap IntKind.u32 a0 + 16))) then
    bif
    segE 5 (IntKind.wrap IntKind.u32 (IntKind.wrap IntKind.u32 a0 + 16))
    (IntKind.wrap IntKind.u32 (IntKind.wrap IntKind.u32 a0 + 16)) 4 true !=
    0 then
    some false
    else
    bif
    in32
    (IntKind.wrap IntKind.u32
    (segA 5 (IntKind.wrap IntKind.u32 (IntKind.wrap IntKind.u32 a0 + 16))
    (IntKind.wrap IntKind.u32 (IntKind.wrap IntKind.u32 a0 + 16)) 4 true +
    3)) then
    bif
    true &&
    (in32 (IntKind.wrap IntKind.u32 (IntKind.wrap IntKind.u32 a0 + 16)) &&
    in32 (IntKind.wrap IntKind.u32 (IntKind.wrap IntKind.u32 a0 + 16))) then
    bif
    segE 5 (IntKind.wrap IntKind.u32 (IntKind.wrap IntKind.u32 a0 + 16))
    (IntKind.wrap IntKind.u32 (IntKind.wrap IntKind.u32 a0 + 16)) 5 true !=
    0 then
    some false
    else
    bif
    in32
    (IntKind.wrap IntKind.u32
    (segA 5 (IntKind.wrap IntKind.u32 (IntKind.wrap IntKind.u32 a0 + 16))
    (IntKind.wrap IntKind.u32 (IntKind.wrap IntKind.u32 a0 + 16)) 5 true +
    4)) then
    bif
    true &&
    (in32 (IntKind.wrap IntKind.u32 (IntKind.wrap IntKind.u32 a0 + 16)) &&
    in32 (IntKind.wrap IntKind.u32 (IntKind.wrap IntKind.u32 a0 + 16))) then
    bif
    segE 5 (IntKind.wrap IntKind.u32 (IntKind.wrap IntKind.u32 a0 + 16))
    (IntKind.wrap IntKind.u32 (IntKind.wrap IntKind.u32 a0 + 16)) 6 true !=
    0 then
    some false
    else
    bif
    in32
    (IntKind.wrap IntKind.u32
    (segA 5 (IntKind.wrap IntKind.u32 (IntKind.wrap IntKind.u32 a0 + 16))
    (IntKind.wrap IntKind.u32 (IntKind.wrap IntKind.u32 a0 + 16)) 6 true +
    5)) then
    bif
    true &&
    (in32 (IntKind.wrap IntKind.u32 (IntKind.wrap IntKind.u32 a0 + 16)) &&
    in32 (IntKind.wrap IntKind.u32 (IntKind.wrap IntKind.u32 a0 + 16))) then
    bif
    segE 5 (IntKind.wrap IntKind.u32 (IntKind.wrap IntKind.u32 a0 + 16))
    (IntKind.wrap IntKind.u32 (IntKind.wrap IntKind.u32 a0 + 16)) 7 true !=
    0 then
    some false
    else
    bif
    in32
    (IntKind.wrap IntKind.u32
    (segA 5 (IntKind.wrap IntKind.u32 (IntKind.wrap IntKind.u32 a0 + 16))
    (IntKind.wrap IntKind.u32 (IntKind.wrap IntKind.u32 a0 + 16)) 7 true +
    6)) then
    bif
    true &&
    (in32 (IntKind.wrap IntKind.u32 (IntKind.wrap IntKind.u32 a0 + 16)) &&
    in32 (IntKind.wrap IntKind.u32 (IntKind.wrap IntKind.u32 a0 + 16))) then
    bif
    segE 5 (IntKind.wrap IntKind.u32 (IntKind.wrap IntKind.u32 a0 + 16))
    (IntKind.wrap IntKind.u32 (IntKind.wrap IntKind.u32 a0 + 16)) 8 true !=
    0 then
    some false
    else
    bif
    in32
    (IntKind.wrap IntKind.u32
    (segA 5 (IntKind.wrap IntKind.u32 (IntKind.wrap IntKind.u32 a0 + 16))
    (IntKind.wrap IntKind.u32 (IntKind.wrap IntKind.u32 a0 + 16)) 8 true +
    7)) then
    bif
    true &&
    (in32 (IntKind.wrap IntKind.u32 (IntKind.wrap IntKind.u32 a0 + 16)) &&
    in32 (IntKind.wrap IntKind.u32 (IntKind.wrap IntKind.u32 a0 + 16))) then
    bif
    segE 5 (IntKind.wrap IntKind.u32 (IntKind.wrap IntKind.u32 a0 + 16))
    (IntKind.wrap IntKind.u32 (IntKind.wrap IntKind.u32 a0 + 16)) 9 true !=
    0 then
    some false
    else
    bif
    in32
    (IntKind.wrap IntKind.u32
    (segA 5 (IntKind.wrap IntKind.u32 (IntKind.wrap IntKind.u32 a0 + 16))
    (IntKind.wrap IntKind.u32 (IntKind.wrap IntKind.u32 a0 + 16)) 9 true +
    8)) then
    bif
    true &&
    (in32 (IntKind.wrap IntKind.u32 (IntKind.wrap IntKind.u32 a0 + 16)) &&
    in32 (IntKind.wrap IntKind.u32 (IntKind.wrap IntKind.u32 a0 + 16))) then
    bif
    segE 5 (IntKind.wrap IntKind.u32 (IntKind.wrap IntKind.u32 a0 + 16))
    (IntKind.wrap IntKind.u32 (IntKind.wrap IntKind.u32 a0 + 16)) 10 true !=
    0 then
    some false
    else
    bif
    in32
    (IntKind.wrap IntKind.u32
    (segA 5 (IntKind.wrap IntKind.u32 (IntKind.wrap IntKind.u32 a0 + 16))
    (IntKind.wrap IntKind.u32 (IntKind.wrap IntKind.u32 a0 + 16)) 10 true +
    9)) then
    bif
    true &&
    (in32 (IntKind.wrap IntKind.u32 (IntKind.wrap IntKind.u32 a0 + 16)) &&
    in32 (IntKind.wrap IntKind.u32 (IntKind.wrap IntKind.u32 a0 + 16))) then
    bif
    segE 5 (IntKind.wrap IntKind.u32 (IntKind.wrap IntKind.u32 a0 + 16))
    (IntKind.wrap IntKind.u32 (IntKind.wrap IntKind.u32 a0 + 16)) 11 true !=
    0 then
    some false
    else
    bif
    in32
    (IntKind.wrap IntKind.u32
    (segA 5 (IntKind.wrap IntKind.u32 (IntKind.wrap IntKind.u32 a0 + 16))
    (IntKind.wrap IntKind.u32 (IntKind.wrap IntKind.u32 a0 + 16)) 11 true +
    10)) then
    bif
    true &&
    (in32 (IntKind.wrap IntKind.u32 (IntKind.wrap IntKind.u32 a0 + 16)) &&
    in32 (IntKind.wrap IntKind.u32 (IntKind.wrap IntKind.u32 a0 + 16))) then
    bif
    segE 5 (IntKind.wrap IntKind.u32 (IntKind.wrap IntKind.u32 a0 + 16))
    (IntKind.wrap IntKind.u32 (IntKind.wrap IntKind.u32 a0 + 16)) 12 true !=
    0 then
    some false
    else
    bif
    in32
    (IntKind.wrap IntKind.u32
    (segA 5 (IntKind.wrap IntKind.u32 (IntKind.wrap IntKind.u32 a0 + 16))
    (IntKind.wrap IntKind.u32 (IntKind.wrap IntKind.u32 a0 + 16)) 12 true +
    11)) then
    bif
    true &&
    (in32 (IntKind.wrap IntKind.u32 (IntKind.wrap IntKind.u32 a0 + 16)) &&
    in32 (IntKind.wrap IntKind.u32 (IntKind.wrap IntKind.u32 a0 + 16))) then
    bif
    segE 5 (IntKind.wrap IntKind.u32 (IntKind.wrap IntKind.u32 a0 + 16))
    (IntKind.wrap IntKind.u32 (IntKind.wrap IntKind.u32 a0 + 16)) 13 true !=
    0 then
    some false
    else
    bif
    in32
    (IntKind.wrap IntKind.u32
    (segA 5 (IntKind.wrap IntKind.u32 (IntKind.wrap IntKind.u32 a0 + 16))
    (IntKind.wrap IntKind.u32 (IntKind.wrap IntKind.u32 a0 + 16)) 13 true +
    12)) then
    bif
    true &&
    (in32 (IntKind.wrap IntKind.u32 (IntKind.wrap IntKind.u32 a0 + 16)) &&
    in32 (IntKind.wrap IntKind.u32 (IntKind.wrap IntKind.u32 a0 + 16))) then
    bif
    segE 5 (IntKind.wrap IntKind.u32 (IntKind.wrap IntKind.u32 a0 + 16))
    (IntKind.wrap IntKind.u32 (IntKind.wrap IntKind.u32 a0 + 16)) 14 true !=
    0 then
    some false
    else
    bif
    in32
    (IntKind.wrap IntKind.u32
    (segA 5 (IntKind.wrap IntKind.u32 (IntKind.wrap IntKind.u32 a0 + 16))
    (IntKind.wrap IntKind.u32 (IntKind.wrap IntKind.u32 a0 + 16)) 14 true +
    13)) then
    bif
    true &&
    (in32 (IntKind.wrap IntKind.u32 (IntKind.wrap IntKind.u32 a0 + 16)) &&
    in32 (IntKind.wrap IntKind.u32 (IntKind.wrap IntKind.u32 a0 + 16))) then
    bif
    segE 5 (IntKind.wrap IntKind.u32 (IntKind.wrap IntKind.u32 a0 + 16))
    (IntKind.wrap IntKind.u32 (IntKind.wrap IntKind.u32 a0 + 16)) 15 true !=
    0 then
    some false
    else
    bif
    in32
    (IntKind.wrap IntKind.u32
    (segA 5 (IntKind.wrap IntKind.u32 (IntKind.wrap IntKind.u32 a0 + 16))
    (IntKind.wrap IntKind.u32 (IntKind.wrap IntKind.u32 a0 + 16)) 15 true +
    14)) then
    some false
    else none
    else none
    else none
    else none
    else none
    else none
    else none
    else none
    else none
    else none
    else none
    else none
    else none
    else none
    else none
    else none
    else none
    else none
    else none
    else none
    else none
    else none
    else none
    else none
    else none
    else none
    else none
    else none
    else none
    else none
    else
    bif
    in32
    (IntKind.wrap IntKind.u32
    (segA 5 (IntKind.wrap IntKind.u32 (IntKind.wrap IntKind.u32 a0 + 16))
    (IntKind.wrap IntKind.u32 (IntKind.wrap IntKind.u32 (IntKind.wrap IntKind.u32 a0 + 16) - 3)) 4 true +
    3)) then
    bif
    true &&
    (in32 (IntKind.wrap IntKind.u32 (IntKind.wrap IntKind.u32 a0 + 16)) &&
    in32 (IntKind.wrap IntKind.u32 (IntKind.wrap IntKind.u32 (IntKind.wrap IntKind.u32 a0 + 16) - 3))) then
    bif
    segE 5 (IntKind.wrap IntKind.u32 (IntKind.wrap IntKind.u32 a0 + 16))
    (IntKind.wrap IntKind.u32 (IntKind.wrap IntKind.u32 (IntKind.wrap IntKind.u32 a0 + 16) - 3)) 5 true !=
    0 then
    some false
    else
    bif
    in32
    (IntKind.wrap IntKind.u32
    (segA 5 (IntKind.wrap IntKind.u32 (IntKind.wrap IntKind.u32 a0 + 16))
    (IntKind.wrap IntKind.u32 (IntKind.wrap IntKind.u32 (IntKind.wrap IntKind.u32 a0 + 16) - 3)) 5 true +
    4)) then
    bif
    true &&
    (in32 (IntKind.wrap IntKind.u32 (IntKind.wrap IntKind.u32 a0 + 16)) &&
    in32 (IntKind.wrap IntKind.u32 (IntKind.wrap IntKind.u32 (IntKind.wrap IntKind.u32 a0 + 16) - 3))) then
    bif
    segE 5 (IntKind.wrap IntKind.u32 (IntKind.wrap IntKind.u32 a0 + 16))
    (IntKind.wrap IntKind.u32 (IntKind.wrap IntKind.u32 (IntKind.wrap IntKind.u32 a0 + 16) - 3)) 6 true !=
    0 then
    some false
    else
    bif
    in32
    (IntKind.wrap IntKind.u32
    (segA 5 (IntKind.wrap IntKind.u32 (IntKind.wrap IntKind.u32 a0 + 16))
    (IntKind.wrap IntKind.u32 (IntKind.wrap IntKind.u32 (IntKind.wrap IntKind.u32 a0 + 16) - 3)) 6 true +
    5)) then
    bif
    true &&
    (in32 (IntKind.wrap IntKind.u32 (IntKind.wrap IntKind.u32 a0 + 16)) &&
    in32 (IntKind.wrap IntKind.u32 (IntKind.wrap IntKind.u32 (IntKind.wrap IntKind.u32 a0 + 16) - 3))) then
    bif
    segE 5 (IntKind.wrap IntKind.u32 (IntKind.wrap IntKind.u32 a0 + 16))
    (IntKind.wrap IntKind.u32 (IntKind.wrap IntKind.u32 (IntKind.wrap IntKind.u32 a0 + 16) - 3)) 7 true !=
    0 then
    some false
    else
    bif
    in32
    (IntKind.wrap IntKind.u32
    (segA 5 (IntKind.wrap IntKind.u32 (IntKind.wrap IntKind.u32 a0 + 16))
    (IntKind.wrap IntKind.u32 (IntKind.wrap IntKind.u32 (IntKind.wrap IntKind.u32 a0 + 16) - 3)) 7 true +
    6)) then
    bif
    true &&
    (in32 (IntKind.wrap IntKind.u32 (IntKind.wrap IntKind.u32 a0 + 16)) &&
    in32 (IntKind.wrap IntKind.u32 (IntKind.wrap IntKind.u32 (IntKind.wrap IntKind.u32 a0 + 16) - 3))) then
    bif
    segE 5 (IntKind.wrap IntKind.u32 (IntKind.wrap IntKind.u32 a0 + 16))
    (IntKind.wrap IntKind.u32 (IntKind.wrap IntKind.u32 (IntKind.wrap IntKind.u32 a0 + 16) - 3)) 8 true !=
    0 then
    some false
    else
    bif
    in32
    (IntKind.wrap IntKind.u32
    (segA 5 (IntKind.wrap IntKind.u32 (IntKind.wrap IntKind.u32 a0 + 16))
    (IntKind.wrap IntKind.u32 (IntKind.wrap IntKind.u32 (IntKind.wrap IntKind.u32 a0 + 16) - 3)) 8 true +
    7)) then
    bif
    true &&
    (in32 (IntKind.wrap IntKind.u32 (IntKind.wrap IntKind.u32 a0 + 16)) &&
    in32 (IntKind.wrap IntKind.u32 (IntKind.wrap IntKind.u32 (IntKind.wrap IntKind.u32 a0 + 16) - 3))) then
    bif
    segE 5 (IntKind.wrap IntKind.u32 (IntKind.wrap IntKind.u32 a0 + 16))
    (IntKind.wrap IntKind.u32 (IntKind.wrap IntKind.u32 (IntKind.wrap IntKind.u32 a0 + 16) - 3)) 9 true !=
    0 then
    some false
    else
    bif
    in32
    (IntKind.wrap IntKind.u32
    (segA 5 (IntKind.wrap IntKind.u32 (IntKind.wrap IntKind.u32 a0 + 16))
    (IntKind.wrap IntKind.u32 (IntKind.wrap IntKind.u32 (IntKind.wrap IntKind.u32 a0 + 16) - 3)) 9 true +
    8)) then
    bif
    true &&
    (in32 (IntKind.wrap IntKind.u32 (IntKind.wrap IntKind.u32 a0 + 16)) &&
    in32 (IntKind.wrap IntKind.u32 (IntKind.wrap IntKind.u32 (IntKind.wrap IntKind.u32 a0 + 16) - 3))) then
    bif
    segE 5 (IntKind.wrap IntKind.u32 (IntKind.wrap IntKind.u32 a0 + 16))
    (IntKind.wrap IntKind.u32 (IntKind.wrap IntKind.u32 (IntKind.wrap IntKind.u32 a0 + 16) - 3)) 10 true !=
    0 then
    some false
    else
    bif
    in32
    (IntKind.wrap IntKind.u32
    (segA 5 (IntKind.wrap IntKind.u32 (IntKind.wrap IntKind.u32 a0 + 16))
    (IntKind.wrap IntKind.u32 (IntKind.wrap IntKind.u32 (IntKind.wrap IntKind.u32 a0 + 16) - 3)) 10 true +
    9)) then
    bif
    true &&
    (in32 (IntKind.wrap IntKind.u32 (IntKind.wrap IntKind.u32 a0 + 16)) &&
    in32 (IntKind.wrap IntKind.u32 (IntKind.wrap IntKind.u32 (IntKind.wrap IntKind.u32 a0 + 16) - 3))) then
    bif
    segE 5 (IntKind.wrap IntKind.u32 (IntKind.wrap IntKind.u32 a0 + 16))
    (IntKind.wrap IntKind.u32 (IntKind.wrap IntKind.u32 (IntKind.wrap IntKind.u32 a0 + 16) - 3)) 11 true !=
    0 then
    some false
    else
    bif
    in32
    (IntKind.wrap IntKind.u32
    (segA 5 (IntKind.wrap IntKind.u32 (IntKind.wrap IntKind.u32 a0 + 16))
    (IntKind.wrap IntKind.u32 (IntKind.wrap IntKind.u32 (IntKind.wrap IntKind.u32 a0 + 16) - 3)) 11 true +
    10)) then
    bif
    true &&
    (in32 (IntKind.wrap IntKind.u32 (IntKind.wrap IntKind.u32 a0 + 16)) &&
    in32 (IntKind.wrap IntKind.u32 (IntKind.wrap IntKind.u32 (IntKind.wrap IntKind.u32 a0 + 16) - 3))) then
    bif
    segE 5 (IntKind.wrap IntKind.u32 (IntKind.wrap IntKind.u32 a0 + 16))
    (IntKind.wrap IntKind.u32 (IntKind.wrap IntKind.u32 (IntKind.wrap IntKind.u32 a0 + 16) - 3)) 12 true !=
    0 then
    some false
    else
    bif
    in32
    (IntKind.wrap IntKind.u32
    (segA 5 (IntKind.wrap IntKind.u32 (IntKind.wrap IntKind.u32 a0 + 16))
    (IntKind.wrap IntKind.u32 (IntKind.wrap IntKind.u32 (IntKind.wrap IntKind.u32 a0 + 16) - 3)) 12 true +
    11)) then
    bif
    true &&
    (in32 (IntKind.wrap IntKind.u32 (IntKind.wrap IntKind.u32 a0 + 16)) &&
    in32 (IntKind.wrap IntKind.u32 (IntKind.wrap IntKind.u32 (IntKind.wrap IntKind.u32 a0 + 16) - 3))) then
    bif
    segE 5 (IntKind.wrap IntKind.u32 (IntKind.wrap IntKind.u32 a0 + 16))
    (IntKind.wrap IntKind.u32 (IntKind.wrap IntKind.u32 (IntKind.wrap IntKind.u32 a0 + 16) - 3)) 13 true !=
    0 then
    some false
    else
    bif
    in32
    (IntKind.wrap IntKind.u32
    (segA 5 (IntKind.wrap IntKind.u32 (IntKind.wrap IntKind.u32 a0 + 16))
    (IntKind.wrap IntKind.u32 (IntKind.wrap IntKind.u32 (IntKind.wrap IntKind.u32 a0 + 16) - 3)) 13 true +
    12)) then
    bif
    true &&
    (in32 (IntKind.wrap IntKind.u32 (IntKind.wrap IntKind.u32 a0 + 16)) &&
    in32 (IntKind.wrap IntKind.u32 (IntKind.wrap IntKind.u32 (IntKind.wrap IntKind.u32 a0 + 16) - 3))) then
    bif
    segE 5 (IntKind.wrap IntKind.u32 (IntKind.wrap IntKind.u32 a0 + 16))
    (IntKind.wrap IntKind.u32 (IntKind.wrap IntKind.u32 (IntKind.wrap IntKind.u32 a0 + 16) - 3)) 14 true !=
    0 then
    some false
    else
    bif
    in32
    (IntKind.wrap IntKind.u32
    (segA 5 (IntKind.wrap IntKind.u32 (IntKind.wrap IntKind.u32 a0 + 16))
    (IntKind.wrap IntKind.u32 (IntKind.wrap IntKind.u32 (IntKind.wrap IntKind.u32 a0 + 16) - 3)) 14 true +
    13)) then
    bif
    true &&
    (in32 (IntKind.wrap IntKind.u32 (IntKind.wrap IntKind.u32 a0 + 16)) &&
    in32 (IntKind.wrap IntKind.u32 (IntKind.wrap IntKind.u32 (IntKind.wrap IntKind.u32 a0 + 16) - 3))) then
    bif
    segE 5 (IntKind.wrap IntKind.u32 (IntKind.wrap IntKind.u32 a0 + 16))
    (IntKind.wrap IntKind.u32 (IntKind.wrap IntKind.u32 (IntKind.wrap IntKind.u32 a0 + 16) - 3)) 15 true !=
    0 then
    some false
    else
    bif
    in32
    (IntKind.wrap IntKind.u32
    (segA 5 (IntKind.wrap IntKind.u32 (IntKind.wrap IntKind.u32 a0 + 16))
    (IntKind.wrap IntKind.u32 (IntKind.wrap IntKind.u32 (IntKind.wrap IntKind.u32 a0 + 16) - 3)) 15 true +
    14)) then
    some false
    else none
    else none
    else none
    else none
    else none
    else none
    else none
    else none
    else none
    else none
    else none
    else none
    else none
    else none
    else none
    else none
    else none
    else none
    else none
    else none
    else none
    else none
    else none
    else none
    else none
    else none
    else none
    else none
    else none
    else none
    else some false
    else none
    else some false
    else none
    else some false
    else some false
    else some false
    else some false
    else none
    else none
    else none
    else none) := by kernel_rfl
set_option maxHeartbeats 1000000 in
theorem pure (a0 : Int) (a1 : Int) (a2 : Int) (w0 : (Lit.int .u16 a0).wf = true) (w1 : (Lit.int .u8 a1).wf = true) (w2 : (Lit.int .u64 a2).wf = true) :
    evF Try.prog ΓM2 400 8 [.v (.int .u16 a0), .v (.int .u8 a1), .v (.int .u64 a2)] [] isT (fun _ _ => none) = some true := by
  rw [form]
  try simp only [bitsL_eq]
  have b0 := wf_u16 w0
  have b1 := wf_u8 w1
  have b2 := wf_u64 w2
  have hS : IntKind.wrap .u32 (IntKind.wrap .u32 a0 + 16) = a0 + 16 := by rw [wr_u32, wr_u32]; omega
  have hm := Int.tmod_eq_emod_of_nonneg (b := 4) b1.1
  have hK : selL (Int.tmod a1 4) 0 [1, 2, 4, 8] = 1 ∨ selL (Int.tmod a1 4) 0 [1, 2, 4, 8] = 2 ∨ selL (Int.tmod a1 4) 0 [1, 2, 4, 8] = 4 ∨ selL (Int.tmod a1 4) 0 [1, 2, 4, 8] = 8 := by
    rw [hm]
    have : a1 % 4 = 0 ∨ a1 % 4 = 1 ∨ a1 % 4 = 2 ∨ a1 % 4 = 3 := by omega
    rcases this with h | h | h | h <;> rw [h]
    · exact .inl rfl
    · exact .inr (.inl rfl)
    · exact .inr (.inr (.inl rfl))
    · exact .inr (.inr (.inr rfl))
  have hT : (decide (0 ≤ Int.tmod a1 4) && decide (Int.tmod a1 4 < 4)) = true := by rw [hm]; simp; omega
  simp only [hS, hT, cond_true]
  generalize selL (Int.tmod a1 4) 0 [1, 2, 4, 8] = K at *
  obtain ⟨S, hSe⟩ : ∃ S, S = a0 + 16 := ⟨_, rfl⟩
  rw [← hSe]
  have hb : ((bytesN K : Nat) : Int) = K := by rcases hK with h | h | h | h <;> subst h <;> rfl
  have hc : clampN K = K := by rcases hK with h | h | h | h <;> subst h <;> rfl
  have hK0 : 1 ≤ K ∧ K ≤ 8 := by omega
  have k1 : IntKind.wrap .u32 K = K := wr_u32_id (by omega) (by omega)
  have k2 : IntKind.wrap .u32 (S - K) = S - K := wr_u32_id (by omega) (by omega)
  have k3 : IntKind.wrap .u32 (S - K + 1) = S - K + 1 := wr_u32_id (by omega) (by omega)
  have k4 : IntKind.wrap .u32 (S - 3) = S - 3 := wr_u32_id (by omega) (by omega)
  have i1 : in32 S = true := in32_iff.2 (by omega)
  have i2 : in32 (S - K) = true := in32_iff.2 (by omega)
  have i3 : in32 (S - K + 1) = true := in32_iff.2 (by omega)
  have i4 : in32 (S - 3) = true := in32_iff.2 (by omega)
  have s1 : segE 131072 S (S - K) (bytesN K) true = 0 := by rw [hb]; exact segE_ok (by rw [hc]; omega) (by omega)
  have s2 : segE 131072 S (S - K + 1) (bytesN K) true = 24 := by rw [hb]; exact segE_no (by rw [hc]; omega)
  have s3 : segE 131072 S 4294967295 (bytesN K) true = 24 := by rw [hb]; exact segE_no (by rw [hc]; omega)
  have s4 : segE 5 S (S - 3) 1 true = 0 := segE_ok (by rw [show clampN 1 = 1 from rfl]; omega) (by omega)
  have s5 : segE 5 S (S - 3) 2 true = 0 := segE_ok (by rw [show clampN 2 = 2 from rfl]; omega) (by omega)
  have s6 : segE 5 S (S - 3) 3 true = 0 := segE_ok (by rw [show clampN 3 = 3 from rfl]; omega) (by omega)
  have s7 : segE 5 S (S - 3) 4 true = 24 := segE_no (by rw [show clampN 4 = 4 from rfl]; omega)
  have s8 : segE 5 S S 1 true = 24 := segE_no (by rw [show clampN 1 = 1 from rfl]; omega)
  have hld : ldV (stV (fun x => 0) 131072 S (S - K) K a2 true) 131072 S (S - K) K true = a2 % 2 ^ (8 * bytesN K) := by
    unfold ldV stV
    rw [s1]
    exact ld_st _ _ _ _ (by omega) b2.1 b2.2
  have e1 : ((4 : Nat) == 1) = false := rfl
  have e2 : ((0 : Int) == 0) = true := rfl
  have e3 : ((24 : Int) == 24) = true := rfl
  have e4 : ((0 : Int) != 0) = false := rfl
  have e5 : ((24 : Int) != 0) = true := rfl
  simp only [k1, k2, k3, k4, i1, i2, i3, i4, s1, s2, s3, s4, s5, s6, s7, s8, seg_in, e1, e2, e3, e4, e5, Bool.and_self, Bool.and_true, Bool.true_and, Bool.not_false, cond_true, cond_false, hld]
  rcases hK with h | h | h | h <;> subst h
  · have : bits .and .u64 a2 255 = a2 % 2 ^ 8 := and_low_64 8 b2.1 b2.2 rfl (by omega)
    have hq : IntKind.wrap .u64 (IntKind.wrap .u64 (1 * 2 ^ min (Int.toNat (IntKind.wrap .i64 (8 * 1))) 64) - 1) = 255 := rfl
    simp only [hq]
    simp (config := {decide := true}) [this, bytesN]
  · have : bits .and .u64 a2 65535 = a2 % 2 ^ 16 := and_low_64 16 b2.1 b2.2 rfl (by omega)
    have hq : IntKind.wrap .u64 (IntKind.wrap .u64 (1 * 2 ^ min (Int.toNat (IntKind.wrap .i64 (8 * 2))) 64) - 1) = 65535 := rfl
    simp only [hq]
    simp (config := {decide := true}) [this, bytesN]
  · have : bits .and .u64 a2 4294967295 = a2 % 2 ^ 32 := and_low_64 32 b2.1 b2.2 rfl (by omega)
    have hq : IntKind.wrap .u64 (IntKind.wrap .u64 (1 * 2 ^ min (Int.toNat (IntKind.wrap .i64 (8 * 4))) 64) - 1) = 4294967295 := rfl
    simp only [hq]
    simp (config := {decide := true}) [this, bytesN]
  · have : bits .and .u64 a2 18446744073709551615 = a2 % 2 ^ 64 := and_low_64 64 b2.1 b2.2 rfl (by omega)
    simp (config := {decide := true}) [this, bytesN]

end Go.Proofs.Ytmmapogcackbbaa.busEnds
