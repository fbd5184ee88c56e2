/- SegTells: the reckoning of the law, and that it is true. -/
import Derived.Test.YtllfmajphmfehaaCSegG
namespace Go.Proofs.Ytllfmajphmfehaa.segTells
open Go Go.Ev
set_option linter.unusedVariables false
set_option linter.unusedSimpArgs false
set_option maxRecDepth 100000
theorem form (a0_0 : Int) (a0_1 : Int) (a0_2 : Bool) (a0_3 : Bool) (a0_4 : Bool) (a1_0 : Int) (a1_1 : Int) (a1_2 : Bool) (a1_3 : Bool) (a1_4 : Bool) (a2 : Int) (a3 : Int) (a4 : Int) (a5 : Int) (a6 : Int) :
    evF Try.prog ΓSegG 400 10 [.agg [.v (.int .u32 a0_0), .v (.int .u32 a0_1), .v (.bool a0_2), .v (.bool a0_3), .v (.bool a0_4)], .agg [.v (.int .u32 a1_0), .v (.int .u32 a1_1), .v (.bool a1_2), .v (.bool a1_3), .v (.bool a1_4)], .v (.int .u32 a2), .v (.int .i64 a3), .v (.int .i64 a4), .v (.int .u32 a5), .v (.int .u8 a6)] [] isT (fun _ _ => none) =
    (bif decide (0 ≤ Int.tmod a6 5) && decide (Int.tmod a6 5 < 5) then
    bif
    pG a0_0 a0_1 a0_2 a0_3 a0_4
    (selL 0 0
    [a2,
    selL (Int.tmod a6 5) 0
    [a2, IntKind.wrap IntKind.u32 (a0_1 - bitsL BinOp.and IntKind.u32 a2 15), 0, a0_1,
    IntKind.wrap IntKind.u32 (4294967295 - bitsL BinOp.and IntKind.u32 a2 15)]])
    (selL 0 0 [a3, a4]) (selL 1 0 [a3, a4]) !=
    pG a0_0 a0_1 a0_2 a0_3 a0_4
    (selL 0 0
    [a2,
    selL (Int.tmod a6 5) 0
    [a2, IntKind.wrap IntKind.u32 (a0_1 - bitsL BinOp.and IntKind.u32 a2 15), 0, a0_1,
    IntKind.wrap IntKind.u32 (4294967295 - bitsL BinOp.and IntKind.u32 a2 15)]])
    (selL 0 0 [a3, a4]) (selL 1 0 [a3, a4]) then
    some false
    else
    bif
    eG a0_0 a0_1 a0_2 a0_3 a0_4
    (selL 0 0
    [a2,
    selL (Int.tmod a6 5) 0
    [a2, IntKind.wrap IntKind.u32 (a0_1 - bitsL BinOp.and IntKind.u32 a2 15), 0, a0_1,
    IntKind.wrap IntKind.u32 (4294967295 - bitsL BinOp.and IntKind.u32 a2 15)]])
    (selL 0 0 [a3, a4]) (selL 1 0 [a3, a4]) !=
    eG a0_0 a0_1 a0_2 a0_3 a0_4
    (selL 0 0
    [a2,
    selL (Int.tmod a6 5) 0
    [a2, IntKind.wrap IntKind.u32 (a0_1 - bitsL BinOp.and IntKind.u32 a2 15), 0, a0_1,
    IntKind.wrap IntKind.u32 (4294967295 - bitsL BinOp.and IntKind.u32 a2 15)]])
    (selL 0 0 [a3, a4]) (selL 1 0 [a3, a4]) then
    some false
    else
    bif
    pG a0_0 a0_1 a0_2 a0_3 a0_4
    (selL 0 0
    [a2,
    selL (Int.tmod a6 5) 0
    [a2, IntKind.wrap IntKind.u32 (a0_1 - bitsL BinOp.and IntKind.u32 a2 15), 0, a0_1,
    IntKind.wrap IntKind.u32 (4294967295 - bitsL BinOp.and IntKind.u32 a2 15)]])
    (selL 0 0 [bitsL BinOp.and IntKind.i64 a3 15, bitsL BinOp.and IntKind.i64 a4 3])
    (selL 1 0 [bitsL BinOp.and IntKind.i64 a3 15, bitsL BinOp.and IntKind.i64 a4 3]) !=
    pG a0_0 a0_1 a0_2 a0_3 a0_4
    (selL 0 0
    [a2,
    selL (Int.tmod a6 5) 0
    [a2, IntKind.wrap IntKind.u32 (a0_1 - bitsL BinOp.and IntKind.u32 a2 15), 0, a0_1,
    IntKind.wrap IntKind.u32 (4294967295 - bitsL BinOp.and IntKind.u32 a2 15)]])
    (selL 0 0 [bitsL BinOp.and IntKind.i64 a3 15, bitsL BinOp.and IntKind.i64 a4 3])
    (selL 1 0 [bitsL BinOp.and IntKind.i64 a3 15, bitsL BinOp.and IntKind.i64 a4 3]) then
    some false
    else
    bif
    eG a0_0 a0_1 a0_2 a0_3 a0_4
    (selL 0 0
    [a2,
    selL (Int.tmod a6 5) 0
    [a2, IntKind.wrap IntKind.u32 (a0_1 - bitsL BinOp.and IntKind.u32 a2 15), 0, a0_1,
    IntKind.wrap IntKind.u32 (4294967295 - bitsL BinOp.and IntKind.u32 a2 15)]])
    (selL 0 0 [bitsL BinOp.and IntKind.i64 a3 15, bitsL BinOp.and IntKind.i64 a4 3])
    (selL 1 0 [bitsL BinOp.and IntKind.i64 a3 15, bitsL BinOp.and IntKind.i64 a4 3]) !=
    eG a0_0 a0_1 a0_2 a0_3 a0_4
    (selL 0 0
    [a2,
    selL (Int.tmod a6 5) 0
    [a2, IntKind.wrap IntKind.u32 (a0_1 - bitsL BinOp.and IntKind.u32 a2 15), 0, a0_1,
    IntKind.wrap IntKind.u32 (4294967295 - bitsL BinOp.and IntKind.u32 a2 15)]])
    (selL 0 0 [bitsL BinOp.and IntKind.i64 a3 15, bitsL BinOp.and IntKind.i64 a4 3])
    (selL 1 0 [bitsL BinOp.and IntKind.i64 a3 15, bitsL BinOp.and IntKind.i64 a4 3]) then
    some false
    else
    bif
    pG a0_0 a0_1 a0_2 a0_3 a0_4
    (selL 0 0
    [a2,
    selL (Int.tmod a6 5) 0
    [a2, IntKind.wrap IntKind.u32 (a0_1 - bitsL BinOp.and IntKind.u32 a2 15), 0, a0_1,
    IntKind.wrap IntKind.u32 (4294967295 - bitsL BinOp.and IntKind.u32 a2 15)]])
    (selL 0 0 [4, IntKind.wrap IntKind.i64 (Int.tmod a6 3)]) (selL 1 0 [4, IntKind.wrap IntKind.i64 (Int.tmod a6 3)]) !=
    pG a0_0 a0_1 a0_2 a0_3 a0_4
    (selL 0 0
    [a2,
    selL (Int.tmod a6 5) 0
    [a2, IntKind.wrap IntKind.u32 (a0_1 - bitsL BinOp.and IntKind.u32 a2 15), 0, a0_1,
    IntKind.wrap IntKind.u32 (4294967295 - bitsL BinOp.and IntKind.u32 a2 15)]])
    (selL 0 0 [4, IntKind.wrap IntKind.i64 (Int.tmod a6 3)]) (selL 1 0 [4, IntKind.wrap IntKind.i64 (Int.tmod a6 3)]) then
    some false
    else
    bif
    eG a0_0 a0_1 a0_2 a0_3 a0_4
    (selL 0 0
    [a2,
    selL (Int.tmod a6 5) 0
    [a2, IntKind.wrap IntKind.u32 (a0_1 - bitsL BinOp.and IntKind.u32 a2 15), 0, a0_1,
    IntKind.wrap IntKind.u32 (4294967295 - bitsL BinOp.and IntKind.u32 a2 15)]])
    (selL 0 0 [4, IntKind.wrap IntKind.i64 (Int.tmod a6 3)]) (selL 1 0 [4, IntKind.wrap IntKind.i64 (Int.tmod a6 3)]) !=
    eG a0_0 a0_1 a0_2 a0_3 a0_4
    (selL 0 0
    [a2,
    selL (Int.tmod a6 5) 0
    [a2, IntKind.wrap IntKind.u32 (a0_1 - bitsL BinOp.and IntKind.u32 a2 15), 0, a0_1,
    IntKind.wrap IntKind.u32 (4294967295 - bitsL BinOp.and IntKind.u32 a2 15)]])
    (selL 0 0 [4, IntKind.wrap IntKind.i64 (Int.tmod a6 3)]) (selL 1 0 [4, IntKind.wrap IntKind.i64 (Int.tmod a6 3)]) then
    some false
    else
    bif
    pG a0_0 a0_1 a0_2 a0_3 a0_4
    (selL 0 0
    [a2,
    selL (Int.tmod a6 5) 0
    [a2, IntKind.wrap IntKind.u32 (a0_1 - bitsL BinOp.and IntKind.u32 a2 15), 0, a0_1,
    IntKind.wrap IntKind.u32 (4294967295 - bitsL BinOp.and IntKind.u32 a2 15)]])
    (selL 0 0 [1, IntKind.wrap IntKind.i64 (Int.tmod a6 3)]) (selL 1 0 [1, IntKind.wrap IntKind.i64 (Int.tmod a6 3)]) !=
    pG a0_0 a0_1 a0_2 a0_3 a0_4
    (selL 0 0
    [a2,
    selL (Int.tmod a6 5) 0
    [a2, IntKind.wrap IntKind.u32 (a0_1 - bitsL BinOp.and IntKind.u32 a2 15), 0, a0_1,
    IntKind.wrap IntKind.u32 (4294967295 - bitsL BinOp.and IntKind.u32 a2 15)]])
    (selL 0 0 [1, IntKind.wrap IntKind.i64 (Int.tmod a6 3)]) (selL 1 0 [1, IntKind.wrap IntKind.i64 (Int.tmod a6 3)]) then
    some false
    else
    bif
    eG a0_0 a0_1 a0_2 a0_3 a0_4
    (selL 0 0
    [a2,
    selL (Int.tmod a6 5) 0
    [a2, IntKind.wrap IntKind.u32 (a0_1 - bitsL BinOp.and IntKind.u32 a2 15), 0, a0_1,
    IntKind.wrap IntKind.u32 (4294967295 - bitsL BinOp.and IntKind.u32 a2 15)]])
    (selL 0 0 [1, IntKind.wrap IntKind.i64 (Int.tmod a6 3)]) (selL 1 0 [1, IntKind.wrap IntKind.i64 (Int.tmod a6 3)]) !=
    eG a0_0 a0_1 a0_2 a0_3 a0_4
    (selL 0 0
    [a2,
    selL (Int.tmod a6 5) 0
    [a2, IntKind.wrap IntKind.u32 (a0_1 - bitsL BinOp.and IntKind.u32 a2 15), 0, a0_1,
    IntKind.wrap IntKind.u32 (4294967295 - bitsL BinOp.and IntKind.u32 a2 15)]])
    (selL 0 0 [1, IntKind.wrap IntKind.i64 (Int.tmod a6 3)]) (selL 1 0 [1, IntKind.wrap IntKind.i64 (Int.tmod a6 3)]) then
    some false
    else
    bif
    pG a0_0 a0_1 a0_2 a0_3 a0_4
    (selL 1 0
    [a2,
    selL (Int.tmod a6 5) 0
    [a2, IntKind.wrap IntKind.u32 (a0_1 - bitsL BinOp.and IntKind.u32 a2 15), 0, a0_1,
    IntKind.wrap IntKind.u32 (4294967295 - bitsL BinOp.and IntKind.u32 a2 15)]])
    (selL 0 0 [a3, a4]) (selL 1 0 [a3, a4]) !=
    pG a0_0 a0_1 a0_2 a0_3 a0_4
    (selL 1 0
    [a2,
    selL (Int.tmod a6 5) 0
    [a2, IntKind.wrap IntKind.u32 (a0_1 - bitsL BinOp.and IntKind.u32 a2 15), 0, a0_1,
    IntKind.wrap IntKind.u32 (4294967295 - bitsL BinOp.and IntKind.u32 a2 15)]])
    (selL 0 0 [a3, a4]) (selL 1 0 [a3, a4]) then
    some false
    else
    bif
    eG a0_0 a0_1 a0_2 a0_3 a0_4
    (selL 1 0
    [a2,
    selL (Int.tmod a6 5) 0
    [a2, IntKind.wrap IntKind.u32 (a0_1 - bitsL BinOp.and IntKind.u32 a2 15), 0, a0_1,
    IntKind.wrap IntKind.u32 (4294967295 - bitsL BinOp.and IntKind.u32 a2 15)]])
    (selL 0 0 [a3, a4]) (selL 1 0 [a3, a4]) !=
    eG a0_0 a0_1 a0_2 a0_3 a0_4
    (selL 1 0
    [a2,
    selL (Int.tmod a6 5) 0
    [a2, IntKind.wrap IntKind.u32 (a0_1 - bitsL BinOp.and IntKind.u32 a2 15), 0, a0_1,
    IntKind.wrap IntKind.u32 (4294967295 - bitsL BinOp.and IntKind.u32 a2 15)]])
    (selL 0 0 [a3, a4]) (selL 1 0 [a3, a4]) then
    some false
    else
    bif
    pG a0_0 a0_1 a0_2 a0_3 a0_4
    (selL 1 0
    [a2,
    selL (Int.tmod a6 5) 0
    [a2, IntKind.wrap IntKind.u32 (a0_1 - bitsL BinOp.and IntKind.u32 a2 15), 0, a0_1,
    IntKind.wrap IntKind.u32 (4294967295 - bitsL BinOp.and IntKind.u32 a2 15)]])
    (selL 0 0 [bitsL BinOp.and IntKind.i64 a3 15, bitsL BinOp.and IntKind.i64 a4 3])
    (selL 1 0 [bitsL BinOp.and IntKind.i64 a3 15, bitsL BinOp.and IntKind.i64 a4 3]) !=
    pG a0_0 a0_1 a0_2 a0_3 a0_4
    (selL 1 0
    [a2,
    selL (Int.tmod a6 5) 0
    [a2, IntKind.wrap IntKind.u32 (a0_1 - bitsL BinOp.and IntKind.u32 a2 15), 0, a0_1,
    IntKind.wrap IntKind.u32 (4294967295 - bitsL BinOp.and IntKind.u32 a2 15)]])
    (selL 0 0 [bitsL BinOp.and IntKind.i64 a3 15, bitsL BinOp.and IntKind.i64 a4 3])
    (selL 1 0 [bitsL BinOp.and IntKind.i64 a3 15, bitsL BinOp.and IntKind.i64 a4 3]) then
    some false
    else
    bif
    eG a0_0 a0_1 a0_2 a0_3 a0_4
    (selL 1 0
    [a2,
    selL (Int.tmod a6 5) 0
    [a2, IntKind.wrap IntKind.u32 (a0_1 - bitsL BinOp.and IntKind.u32 a2 15), 0, a0_1,
    IntKind.wrap IntKind.u32 (4294967295 - bitsL BinOp.and IntKind.u32 a2 15)]])
    (selL 0 0 [bitsL BinOp.and IntKind.i64 a3 15, bitsL BinOp.and IntKind.i64 a4 3])
    (selL 1 0 [bitsL BinOp.and IntKind.i64 a3 15, bitsL BinOp.and IntKind.i64 a4 3]) !=
    eG a0_0 a0_1 a0_2 a0_3 a0_4
    (selL 1 0
    [a2,
    selL (Int.tmod a6 5) 0
    [a2, IntKind.wrap IntKind.u32 (a0_1 - bitsL BinOp.and IntKind.u32 a2 15), 0, a0_1,
    IntKind.wrap IntKind.u32 (4294967295 - bitsL BinOp.and IntKind.u32 a2 15)]])
    (selL 0 0 [bitsL BinOp.and IntKind.i64 a3 15, bitsL BinOp.and IntKind.i64 a4 3])
    (selL 1 0 [bitsL BinOp.and IntKind.i64 a3 15, bitsL BinOp.and IntKind.i64 a4 3]) then
    some false
    else
    bif
    pG a0_0 a0_1 a0_2 a0_3 a0_4
    (selL 1 0
    [a2,
    selL (Int.tmod a6 5) 0
    [a2, IntKind.wrap IntKind.u32 (a0_1 - bitsL BinOp.and IntKind.u32 a2 15), 0, a0_1,
    IntKind.wrap IntKind.u32 (4294967295 - bitsL BinOp.and IntKind.u32 a2 15)]])
    (selL 0 0 [4, IntKind.wrap IntKind.i64 (Int.tmod a6 3)]) (selL 1 0 [4, IntKind.wrap IntKind.i64 (Int.tmod a6 3)]) !=
    pG a0_0 a0_1 a0_2 a0_3 a0_4
    (selL 1 0
    [a2,
    selL (Int.tmod a6 5) 0
    [a2, IntKind.wrap IntKind.u32 (a0_1 - bitsL BinOp.and IntKind.u32 a2 15), 0, a0_1,
    IntKind.wrap IntKind.u32 (4294967295 - bitsL BinOp.and IntKind.u32 a2 15)]])
    (selL 0 0 [4, IntKind.wrap IntKind.i64 (Int.tmod a6 3)]) (selL 1 0 [4, IntKind.wrap IntKind.i64 (Int.tmod a6 3)]) then
    some false
    else
    bif
    eG a0_0 a0_1 a0_2 a0_3 a0_4
    (selL 1 0
    [a2,
    selL (Int.tmod a6 5) 0
    [a2, IntKind.wrap IntKind.u32 (a0_1 - bitsL BinOp.and IntKind.u32 a2 15), 0, a0_1,
    IntKind.wrap IntKind.u32 (4294967295 - bitsL BinOp.and IntKind.u32 a2 15)]])
    (selL 0 0 [4, IntKind.wrap IntKind.i64 (Int.tmod a6 3)]) (selL 1 0 [4, IntKind.wrap IntKind.i64 (Int.tmod a6 3)]) !=
    eG a0_0 a0_1 a0_2 a0_3 a0_4
    (selL 1 0
    [a2,
    selL (Int.tmod a6 5) 0
    [a2, IntKind.wrap IntKind.u32 (a0_1 - bitsL BinOp.and IntKind.u32 a2 15), 0, a0_1,
    IntKind.wrap IntKind.u32 (4294967295 - bitsL BinOp.and IntKind.u32 a2 15)]])
    (selL 0 0 [4, IntKind.wrap IntKind.i64 (Int.tmod a6 3)]) (selL 1 0 [4, IntKind.wrap IntKind.i64 (Int.tmod a6 3)]) then
    some false
    else
    bif
    pG a0_0 a0_1 a0_2 a0_3 a0_4
    (selL 1 0
    [a2,
    selL (Int.tmod a6 5) 0
    [a2, IntKind.wrap IntKind.u32 (a0_1 - bitsL BinOp.and IntKind.u32 a2 15), 0, a0_1,
    IntKind.wrap IntKind.u32 (4294967295 - bitsL BinOp.and IntKind.u32 a2 15)]])
    (selL 0 0 [1, IntKind.wrap IntKind.i64 (Int.tmod a6 3)]) (selL 1 0 [1, IntKind.wrap IntKind.i64 (Int.tmod a6 3)]) !=
    pG a0_0 a0_1 a0_2 a0_3 a0_4
    (selL 1 0
    [a2,
    selL (Int.tmod a6 5) 0
    [a2, IntKind.wrap IntKind.u32 (a0_1 - bitsL BinOp.and IntKind.u32 a2 15), 0, a0_1,
    IntKind.wrap IntKind.u32 (4294967295 - bitsL BinOp.and IntKind.u32 a2 15)]])
    (selL 0 0 [1, IntKind.wrap IntKind.i64 (Int.tmod a6 3)]) (selL 1 0 [1, IntKind.wrap IntKind.i64 (Int.tmod a6 3)]) then
    some false
    else
    bif
    eG a0_0 a0_1 a0_2 a0_3 a0_4
    (selL 1 0
    [a2,
    selL (Int.tmod a6 5) 0
    [a2, IntKind.wrap IntKind.u32 (a0_1 - bitsL BinOp.and IntKind.u32 a2 15), 0, a0_1,
    IntKind.wrap IntKind.u32 (4294967295 - bitsL BinOp.and IntKind.u32 a2 15)]])
    (selL 0 0 [1, IntKind.wrap IntKind.i64 (Int.tmod a6 3)]) (selL 1 0 [1, IntKind.wrap IntKind.i64 (Int.tmod a6 3)]) !=
    eG a0_0 a0_1 a0_2 a0_3 a0_4
    (selL 1 0
    [a2,
    selL (Int.tmod a6 5) 0
    [a2, IntKind.wrap IntKind.u32 (a0_1 - bitsL BinOp.and IntKind.u32 a2 15), 0, a0_1,
    IntKind.wrap IntKind.u32 (4294967295 - bitsL BinOp.and IntKind.u32 a2 15)]])
    (selL 0 0 [1, IntKind.wrap IntKind.i64 (Int.tmod a6 3)]) (selL 1 0 [1, IntKind.wrap IntKind.i64 (Int.tmod a6 3)]) then
    some false
    else
    bif
    !inG a0_0 a0_1
    (selL 0 0
    [a5, a0_0, IntKind.wrap IntKind.u32 (a0_0 + a0_1), IntKind.wrap IntKind.u32 (a0_0 - 1),
    IntKind.wrap IntKind.u32 (IntKind.wrap IntKind.u32 (a0_0 + a0_1) - 1)]) ==
    inG a0_0 a0_1
    (selL 0 0
    [a5, a0_0, IntKind.wrap IntKind.u32 (a0_0 + a0_1), IntKind.wrap IntKind.u32 (a0_0 - 1),
    IntKind.wrap IntKind.u32 (IntKind.wrap IntKind.u32 (a0_0 + a0_1) - 1)]) then
    some false
    else
    bif
    !inG a0_0 a0_1
    (selL 1 0
    [a5, a0_0, IntKind.wrap IntKind.u32 (a0_0 + a0_1), IntKind.wrap IntKind.u32 (a0_0 - 1),
    IntKind.wrap IntKind.u32 (IntKind.wrap IntKind.u32 (a0_0 + a0_1) - 1)]) ==
    inG a0_0 a0_1
    (selL 1 0
    [a5, a0_0, IntKind.wrap IntKind.u32 (a0_0 + a0_1), IntKind.wrap IntKind.u32 (a0_0 - 1),
    IntKind.wrap IntKind.u32 (IntKind.wrap IntKind.u32 (a0_0 + a0_1) - 1)]) then
    some false
    else
    bif
    !inG a0_0 a0_1
    (selL 2 0
    [a5, a0_0, IntKind.wrap IntKind.u32 (a0_0 + a0_1), IntKind.wrap IntKind.u32 (a0_0 - 1),
    IntKind.wrap IntKind.u32 (IntKind.wrap IntKind.u32 (a0_0 + a0_1) - 1)]) ==
    inG a0_0 a0_1
    (selL 2 0
    [a5, a0_0, IntKind.wrap IntKind.u32 (a0_0 + a0_1), IntKind.wrap IntKind.u32 (a0_0 - 1),
    IntKind.wrap IntKind.u32 (IntKind.wrap IntKind.u32 (a0_0 + a0_1) - 1)]) then
    some false
    else
    bif
    !inG a0_0 a0_1
    (selL 3 0
    [a5, a0_0, IntKind.wrap IntKind.u32 (a0_0 + a0_1), IntKind.wrap IntKind.u32 (a0_0 - 1),
    IntKind.wrap IntKind.u32 (IntKind.wrap IntKind.u32 (a0_0 + a0_1) - 1)]) ==
    inG a0_0 a0_1
    (selL 3 0
    [a5, a0_0, IntKind.wrap IntKind.u32 (a0_0 + a0_1), IntKind.wrap IntKind.u32 (a0_0 - 1),
    IntKind.wrap IntKind.u32 (IntKind.wrap IntKind.u32 (a0_0 + a0_1) - 1)]) then
    some false
    else
    bif
    !inG a0_0 a0_1
    (selL 4 0
    [a5, a0_0, IntKind.wrap IntKind.u32 (a0_0 + a0_1), IntKind.wrap IntKind.u32 (a0_0 - 1),
    IntKind.wrap IntKind.u32 (IntKind.wrap IntKind.u32 (a0_0 + a0_1) - 1)]) ==
    inG a0_0 a0_1
    (selL 4 0
    [a5, a0_0, IntKind.wrap IntKind.u32 (a0_0 + a0_1), IntKind.wrap IntKind.u32 (a0_0 - 1),
    IntKind.wrap IntKind.u32 (IntKind.wrap IntKind.u32 (a0_0 + a0_1) - 1)]) then
    some false
    else
    bif segG a0_0 a0_1 == segG a0_0 a0_1 then
    bif apG a0_0 a0_1 a1_0 a1_1 == apG a0_0 a0_1 a1_0 a1_1 then some (apG a0_0 a0_1 a0_0 a0_1 == apG a0_0 a0_1 a0_0 a0_1)
    else some false
    else some false
    else none) := by kernel_rfl
set_option maxHeartbeats 1000000 in
theorem pure (a0_0 : Int) (a0_1 : Int) (a0_2 : Bool) (a0_3 : Bool) (a0_4 : Bool) (a1_0 : Int) (a1_1 : Int) (a1_2 : Bool) (a1_3 : Bool) (a1_4 : Bool) (a2 : Int) (a3 : Int) (a4 : Int) (a5 : Int) (a6 : Int) (w0_0 : (Lit.int .u32 a0_0).wf = true) (w0_1 : (Lit.int .u32 a0_1).wf = true) (w1_0 : (Lit.int .u32 a1_0).wf = true) (w1_1 : (Lit.int .u32 a1_1).wf = true) (w2 : (Lit.int .u32 a2).wf = true) (w3 : (Lit.int .i64 a3).wf = true) (w4 : (Lit.int .i64 a4).wf = true) (w5 : (Lit.int .u32 a5).wf = true) (w6 : (Lit.int .u8 a6).wf = true) :
    evF Try.prog ΓSegG 400 10 [.agg [.v (.int .u32 a0_0), .v (.int .u32 a0_1), .v (.bool a0_2), .v (.bool a0_3), .v (.bool a0_4)], .agg [.v (.int .u32 a1_0), .v (.int .u32 a1_1), .v (.bool a1_2), .v (.bool a1_3), .v (.bool a1_4)], .v (.int .u32 a2), .v (.int .i64 a3), .v (.int .i64 a4), .v (.int .u32 a5), .v (.int .u8 a6)] [] isT (fun _ _ => none) = some true := by
  rw [form]
  try simp only [bitsL_eq]
  have b6 := wf_u8 w6
  have e6 : Int.tmod a6 5 = a6 % 5 := Int.tmod_eq_emod_of_nonneg b6.1
  have g1 : decide (0 ≤ Int.tmod a6 5) = true := decide_eq_true (by rw [e6]; omega)
  have g2 : decide (Int.tmod a6 5 < 5) = true := decide_eq_true (by rw [e6]; omega)
  simp only [g1, g2, Bool.and_self, cond_true, cond_false, bne_self_eq_false, beq_self_eq_true, Bool.not_true]
end Go.Proofs.Ytllfmajphmfehaa.segTells
