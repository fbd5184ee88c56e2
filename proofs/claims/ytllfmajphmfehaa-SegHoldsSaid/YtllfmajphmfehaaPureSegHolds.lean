/- SegHolds: the reckoning of the law, and that it is true. -/
import Derived.Test.YtllfmajphmfehaaCSegG
namespace Go.Proofs.Ytllfmajphmfehaa.segHolds
open Go Go.Ev
set_option linter.unusedVariables false
set_option linter.unusedSimpArgs false
set_option maxRecDepth 100000
theorem form (a0_0 : Int) (a0_1 : Int) (a0_2 : Bool) (a0_3 : Bool) (a0_4 : Bool) (a1 : Int) (a2 : Int) :
    evF Try.prog (ΓSegG.cut [(47, 7, 17)]) 400 7 [.agg [.v (.int .u32 a0_0), .v (.int .u32 a0_1), .v (.bool a0_2), .v (.bool a0_3), .v (.bool a0_4)], .v (.int .u32 a1), .v (.int .u8 a2)] [] isT (fun _ _ => none) =
    (bif IntKind.wrap IntKind.i64 (IntKind.wrap IntKind.i64 (Int.tmod a2 16) + 1) == 0 then
    bif eG a0_0 a0_1 true a0_3 a0_4 a1 0 0 != 0 then some (pG a0_0 a0_1 true a0_3 a0_4 a1 0 0 == 0)
    else some (IntKind.wrap IntKind.u32 (pG a0_0 a0_1 true a0_3 a0_4 a1 0 0 - a0_0) == a1)
    else
    bif IntKind.wrap IntKind.i64 (IntKind.wrap IntKind.i64 (Int.tmod a2 16) + 1) == 1 then
    bif eG a0_0 a0_1 true a0_3 a0_4 a1 1 0 != 0 then some (pG a0_0 a0_1 true a0_3 a0_4 a1 1 0 == 0)
    else
    bif !inG a0_0 a0_1 (IntKind.wrap IntKind.u32 (pG a0_0 a0_1 true a0_3 a0_4 a1 1 0 + 0)) then some false
    else some (IntKind.wrap IntKind.u32 (pG a0_0 a0_1 true a0_3 a0_4 a1 1 0 - a0_0) == a1)
    else
    bif IntKind.wrap IntKind.i64 (IntKind.wrap IntKind.i64 (Int.tmod a2 16) + 1) == 2 then
    bif eG a0_0 a0_1 true a0_3 a0_4 a1 2 0 != 0 then some (pG a0_0 a0_1 true a0_3 a0_4 a1 2 0 == 0)
    else
    bif !inG a0_0 a0_1 (IntKind.wrap IntKind.u32 (pG a0_0 a0_1 true a0_3 a0_4 a1 2 0 + 0)) then some false
    else
    bif !inG a0_0 a0_1 (IntKind.wrap IntKind.u32 (pG a0_0 a0_1 true a0_3 a0_4 a1 2 0 + 1)) then some false
    else some (IntKind.wrap IntKind.u32 (pG a0_0 a0_1 true a0_3 a0_4 a1 2 0 - a0_0) == a1)
    else
    bif IntKind.wrap IntKind.i64 (IntKind.wrap IntKind.i64 (Int.tmod a2 16) + 1) == 3 then
    bif eG a0_0 a0_1 true a0_3 a0_4 a1 3 0 != 0 then some (pG a0_0 a0_1 true a0_3 a0_4 a1 3 0 == 0)
    else
    bif !inG a0_0 a0_1 (IntKind.wrap IntKind.u32 (pG a0_0 a0_1 true a0_3 a0_4 a1 3 0 + 0)) then some false
    else
    bif !inG a0_0 a0_1 (IntKind.wrap IntKind.u32 (pG a0_0 a0_1 true a0_3 a0_4 a1 3 0 + 1)) then some false
    else
    bif !inG a0_0 a0_1 (IntKind.wrap IntKind.u32 (pG a0_0 a0_1 true a0_3 a0_4 a1 3 0 + 2)) then some false
    else some (IntKind.wrap IntKind.u32 (pG a0_0 a0_1 true a0_3 a0_4 a1 3 0 - a0_0) == a1)
    else
    bif IntKind.wrap IntKind.i64 (IntKind.wrap IntKind.i64 (Int.tmod a2 16) + 1) == 4 then
    bif eG a0_0 a0_1 true a0_3 a0_4 a1 4 0 != 0 then some (pG a0_0 a0_1 true a0_3 a0_4 a1 4 0 == 0)
    else
    bif !inG a0_0 a0_1 (IntKind.wrap IntKind.u32 (pG a0_0 a0_1 true a0_3 a0_4 a1 4 0 + 0)) then some false
    else
    bif !inG a0_0 a0_1 (IntKind.wrap IntKind.u32 (pG a0_0 a0_1 true a0_3 a0_4 a1 4 0 + 1)) then some false
    else
    bif !inG a0_0 a0_1 (IntKind.wrap IntKind.u32 (pG a0_0 a0_1 true a0_3 a0_4 a1 4 0 + 2)) then some false
    else
    bif !inG a0_0 a0_1 (IntKind.wrap IntKind.u32 (pG a0_0 a0_1 true a0_3 a0_4 a1 4 0 + 3)) then some false
    else some (IntKind.wrap IntKind.u32 (pG a0_0 a0_1 true a0_3 a0_4 a1 4 0 - a0_0) == a1)
    else
    bif IntKind.wrap IntKind.i64 (IntKind.wrap IntKind.i64 (Int.tmod a2 16) + 1) == 5 then
    bif eG a0_0 a0_1 true a0_3 a0_4 a1 5 0 != 0 then some (pG a0_0 a0_1 true a0_3 a0_4 a1 5 0 == 0)
    else
    bif !inG a0_0 a0_1 (IntKind.wrap IntKind.u32 (pG a0_0 a0_1 true a0_3 a0_4 a1 5 0 + 0)) then some false
    else
    bif !inG a0_0 a0_1 (IntKind.wrap IntKind.u32 (pG a0_0 a0_1 true a0_3 a0_4 a1 5 0 + 1)) then some false
    else
    bif !inG a0_0 a0_1 (IntKind.wrap IntKind.u32 (pG a0_0 a0_1 true a0_3 a0_4 a1 5 0 + 2)) then some false
    else
    bif !inG a0_0 a0_1 (IntKind.wrap IntKind.u32 (pG a0_0 a0_1 true a0_3 a0_4 a1 5 0 + 3)) then some false
    else
    bif !inG a0_0 a0_1 (IntKind.wrap IntKind.u32 (pG a0_0 a0_1 true a0_3 a0_4 a1 5 0 + 4)) then some false
    else some (IntKind.wrap IntKind.u32 (pG a0_0 a0_1 true a0_3 a0_4 a1 5 0 - a0_0) == a1)
    else
    bif IntKind.wrap IntKind.i64 (IntKind.wrap IntKind.i64 (Int.tmod a2 16) + 1) == 6 then
    bif eG a0_0 a0_1 true a0_3 a0_4 a1 6 0 != 0 then some (pG a0_0 a0_1 true a0_3 a0_4 a1 6 0 == 0)
    else
    bif !inG a0_0 a0_1 (IntKind.wrap IntKind.u32 (pG a0_0 a0_1 true a0_3 a0_4 a1 6 0 + 0)) then some false
    else
    bif !inG a0_0 a0_1 (IntKind.wrap IntKind.u32 (pG a0_0 a0_1 true a0_3 a0_4 a1 6 0 + 1)) then some false
    else
    bif !inG a0_0 a0_1 (IntKind.wrap IntKind.u32 (pG a0_0 a0_1 true a0_3 a0_4 a1 6 0 + 2)) then some false
    else
    bif !inG a0_0 a0_1 (IntKind.wrap IntKind.u32 (pG a0_0 a0_1 true a0_3 a0_4 a1 6 0 + 3)) then some false
    else
    bif !inG a0_0 a0_1 (IntKind.wrap IntKind.u32 (pG a0_0 a0_1 true a0_3 a0_4 a1 6 0 + 4)) then some false
    else
    bif !inG a0_0 a0_1 (IntKind.wrap IntKind.u32 (pG a0_0 a0_1 true a0_3 a0_4 a1 6 0 + 5)) then some false
    else some (IntKind.wrap IntKind.u32 (pG a0_0 a0_1 true a0_3 a0_4 a1 6 0 - a0_0) == a1)
    else
    bif IntKind.wrap IntKind.i64 (IntKind.wrap IntKind.i64 (Int.tmod a2 16) + 1) == 7 then
    bif eG a0_0 a0_1 true a0_3 a0_4 a1 7 0 != 0 then some (pG a0_0 a0_1 true a0_3 a0_4 a1 7 0 == 0)
    else
    bif !inG a0_0 a0_1 (IntKind.wrap IntKind.u32 (pG a0_0 a0_1 true a0_3 a0_4 a1 7 0 + 0)) then some false
    else
    bif !inG a0_0 a0_1 (IntKind.wrap IntKind.u32 (pG a0_0 a0_1 true a0_3 a0_4 a1 7 0 + 1)) then some false
    else
    bif !inG a0_0 a0_1 (IntKind.wrap IntKind.u32 (pG a0_0 a0_1 true a0_3 a0_4 a1 7 0 + 2)) then some false
    else
    bif !inG a0_0 a0_1 (IntKind.wrap IntKind.u32 (pG a0_0 a0_1 true a0_3 a0_4 a1 7 0 + 3)) then some false
    else
    bif !inG a0_0 a0_1 (IntKind.wrap IntKind.u32 (pG a0_0 a0_1 true a0_3 a0_4 a1 7 0 + 4)) then some false
    else
    bif !inG a0_0 a0_1 (IntKind.wrap IntKind.u32 (pG a0_0 a0_1 true a0_3 a0_4 a1 7 0 + 5)) then some false
    else
    bif !inG a0_0 a0_1 (IntKind.wrap IntKind.u32 (pG a0_0 a0_1 true a0_3 a0_4 a1 7 0 + 6)) then some false
    else some (IntKind.wrap IntKind.u32 (pG a0_0 a0_1 true a0_3 a0_4 a1 7 0 - a0_0) == a1)
    else
    bif IntKind.wrap IntKind.i64 (IntKind.wrap IntKind.i64 (Int.tmod a2 16) + 1) == 8 then
    bif eG a0_0 a0_1 true a0_3 a0_4 a1 8 0 != 0 then some (pG a0_0 a0_1 true a0_3 a0_4 a1 8 0 == 0)
    else
    bif !inG a0_0 a0_1 (IntKind.wrap IntKind.u32 (pG a0_0 a0_1 true a0_3 a0_4 a1 8 0 + 0)) then some false
    else
    bif !inG a0_0 a0_1 (IntKind.wrap IntKind.u32 (pG a0_0 a0_1 true a0_3 a0_4 a1 8 0 + 1)) then some false
    else
    bif !inG a0_0 a0_1 (IntKind.wrap IntKind.u32 (pG a0_0 a0_1 true a0_3 a0_4 a1 8 0 + 2)) then some false
    else
    bif !inG a0_0 a0_1 (IntKind.wrap IntKind.u32 (pG a0_0 a0_1 true a0_3 a0_4 a1 8 0 + 3)) then some false
    else
    bif !inG a0_0 a0_1 (IntKind.wrap IntKind.u32 (pG a0_0 a0_1 true a0_3 a0_4 a1 8 0 + 4)) then some false
    else
    bif !inG a0_0 a0_1 (IntKind.wrap IntKind.u32 (pG a0_0 a0_1 true a0_3 a0_4 a1 8 0 + 5)) then some false
    else
    bif !inG a0_0 a0_1 (IntKind.wrap IntKind.u32 (pG a0_0 a0_1 true a0_3 a0_4 a1 8 0 + 6)) then some false
    else
    bif !inG a0_0 a0_1 (IntKind.wrap IntKind.u32 (pG a0_0 a0_1 true a0_3 a0_4 a1 8 0 + 7)) then some false
    else some (IntKind.wrap IntKind.u32 (pG a0_0 a0_1 true a0_3 a0_4 a1 8 0 - a0_0) == a1)
    else
    bif IntKind.wrap IntKind.i64 (IntKind.wrap IntKind.i64 (Int.tmod a2 16) + 1) == 9 then
    bif eG a0_0 a0_1 true a0_3 a0_4 a1 9 0 != 0 then some (pG a0_0 a0_1 true a0_3 a0_4 a1 9 0 == 0)
    else
    bif !inG a0_0 a0_1 (IntKind.wrap IntKind.u32 (pG a0_0 a0_1 true a0_3 a0_4 a1 9 0 + 0)) then some false
    else
    bif !inG a0_0 a0_1 (IntKind.wrap IntKind.u32 (pG a0_0 a0_1 true a0_3 a0_4 a1 9 0 + 1)) then some false
    else
    bif !inG a0_0 a0_1 (IntKind.wrap IntKind.u32 (pG a0_0 a0_1 true a0_3 a0_4 a1 9 0 + 2)) then some false
    else
    bif !inG a0_0 a0_1 (IntKind.wrap IntKind.u32 (pG a0_0 a0_1 true a0_3 a0_4 a1 9 0 + 3)) then some false
    else
    bif !inG a0_0 a0_1 (IntKind.wrap IntKind.u32 (pG a0_0 a0_1 true a0_3 a0_4 a1 9 0 + 4)) then some false
    else
    bif !inG a0_0 a0_1 (IntKind.wrap IntKind.u32 (pG a0_0 a0_1 true a0_3 a0_4 a1 9 0 + 5)) then some false
    else
    bif !inG a0_0 a0_1 (IntKind.wrap IntKind.u32 (pG a0_0 a0_1 true a0_3 a0_4 a1 9 0 + 6)) then some false
    else
    bif !inG a0_0 a0_1 (IntKind.wrap IntKind.u32 (pG a0_0 a0_1 true a0_3 a0_4 a1 9 0 + 7)) then some false
    else
    bif !inG a0_0 a0_1 (IntKind.wrap IntKind.u32 (pG a0_0 a0_1 true a0_3 a0_4 a1 9 0 + 8)) then some false
    else some (IntKind.wrap IntKind.u32 (pG a0_0 a0_1 true a0_3 a0_4 a1 9 0 - a0_0) == a1)
    else
    bif IntKind.wrap IntKind.i64 (IntKind.wrap IntKind.i64 (Int.tmod a2 16) + 1) == 10 then
    bif eG a0_0 a0_1 true a0_3 a0_4 a1 10 0 != 0 then some (pG a0_0 a0_1 true a0_3 a0_4 a1 10 0 == 0)
    else
    bif !inG a0_0 a0_1 (IntKind.wrap IntKind.u32 (pG a0_0 a0_1 true a0_3 a0_4 a1 10 0 + 0)) then some false
    else
    bif !inG a0_0 a0_1 (IntKind.wrap IntKind.u32 (pG a0_0 a0_1 true a0_3 a0_4 a1 10 0 + 1)) then some false
    else
    bif !inG a0_0 a0_1 (IntKind.wrap IntKind.u32 (pG a0_0 a0_1 true a0_3 a0_4 a1 10 0 + 2)) then some false
    else
    bif !inG a0_0 a0_1 (IntKind.wrap IntKind.u32 (pG a0_0 a0_1 true a0_3 a0_4 a1 10 0 + 3)) then some false
    else
    bif !inG a0_0 a0_1 (IntKind.wrap IntKind.u32 (pG a0_0 a0_1 true a0_3 a0_4 a1 10 0 + 4)) then some false
    else
    bif !inG a0_0 a0_1 (IntKind.wrap IntKind.u32 (pG a0_0 a0_1 true a0_3 a0_4 a1 10 0 + 5)) then some false
    else
    bif !inG a0_0 a0_1 (IntKind.wrap IntKind.u32 (pG a0_0 a0_1 true a0_3 a0_4 a1 10 0 + 6)) then some false
    else
    bif !inG a0_0 a0_1 (IntKind.wrap IntKind.u32 (pG a0_0 a0_1 true a0_3 a0_4 a1 10 0 + 7)) then some false
    else
    bif !inG a0_0 a0_1 (IntKind.wrap IntKind.u32 (pG a0_0 a0_1 true a0_3 a0_4 a1 10 0 + 8)) then some false
    else
    bif !inG a0_0 a0_1 (IntKind.wrap IntKind.u32 (pG a0_0 a0_1 true a0_3 a0_4 a1 10 0 + 9)) then some false
    else some (IntKind.wrap IntKind.u32 (pG a0_0 a0_1 true a0_3 a0_4 a1 10 0 - a0_0) == a1)
    else
    bif IntKind.wrap IntKind.i64 (IntKind.wrap IntKind.i64 (Int.tmod a2 16) + 1) == 11 then
    bif eG a0_0 a0_1 true a0_3 a0_4 a1 11 0 != 0 then some (pG a0_0 a0_1 true a0_3 a0_4 a1 11 0 == 0)
    else
    bif !inG a0_0 a0_1 (IntKind.wrap IntKind.u32 (pG a0_0 a0_1 true a0_3 a0_4 a1 11 0 + 0)) then some false
    else
    bif !inG a0_0 a0_1 (IntKind.wrap IntKind.u32 (pG a0_0 a0_1 true a0_3 a0_4 a1 11 0 + 1)) then some false
    else
    bif !inG a0_0 a0_1 (IntKind.wrap IntKind.u32 (pG a0_0 a0_1 true a0_3 a0_4 a1 11 0 + 2)) then some false
    else
    bif !inG a0_0 a0_1 (IntKind.wrap IntKind.u32 (pG a0_0 a0_1 true a0_3 a0_4 a1 11 0 + 3)) then some false
    else
    bif !inG a0_0 a0_1 (IntKind.wrap IntKind.u32 (pG a0_0 a0_1 true a0_3 a0_4 a1 11 0 + 4)) then some false
    else
    bif !inG a0_0 a0_1 (IntKind.wrap IntKind.u32 (pG a0_0 a0_1 true a0_3 a0_4 a1 11 0 + 5)) then some false
    else
    bif !inG a0_0 a0_1 (IntKind.wrap IntKind.u32 (pG a0_0 a0_1 true a0_3 a0_4 a1 11 0 + 6)) then some false
    else
    bif !inG a0_0 a0_1 (IntKind.wrap IntKind.u32 (pG a0_0 a0_1 true a0_3 a0_4 a1 11 0 + 7)) then some false
    else
    bif !inG a0_0 a0_1 (IntKind.wrap IntKind.u32 (pG a0_0 a0_1 true a0_3 a0_4 a1 11 0 + 8)) then some false
    else
    bif !inG a0_0 a0_1 (IntKind.wrap IntKind.u32 (pG a0_0 a0_1 true a0_3 a0_4 a1 11 0 + 9)) then some false
    else
    bif !inG a0_0 a0_1 (IntKind.wrap IntKind.u32 (pG a0_0 a0_1 true a0_3 a0_4 a1 11 0 + 10)) then some false
    else some (IntKind.wrap IntKind.u32 (pG a0_0 a0_1 true a0_3 a0_4 a1 11 0 - a0_0) == a1)
    else
    bif IntKind.wrap IntKind.i64 (IntKind.wrap IntKind.i64 (Int.tmod a2 16) + 1) == 12 then
    bif eG a0_0 a0_1 true a0_3 a0_4 a1 12 0 != 0 then some (pG a0_0 a0_1 true a0_3 a0_4 a1 12 0 == 0)
    else
    bif !inG a0_0 a0_1 (IntKind.wrap IntKind.u32 (pG a0_0 a0_1 true a0_3 a0_4 a1 12 0 + 0)) then some false
    else
    bif !inG a0_0 a0_1 (IntKind.wrap IntKind.u32 (pG a0_0 a0_1 true a0_3 a0_4 a1 12 0 + 1)) then some false
    else
    bif !inG a0_0 a0_1 (IntKind.wrap IntKind.u32 (pG a0_0 a0_1 true a0_3 a0_4 a1 12 0 + 2)) then some false
    else
    bif !inG a0_0 a0_1 (IntKind.wrap IntKind.u32 (pG a0_0 a0_1 true a0_3 a0_4 a1 12 0 + 3)) then some false
    else
    bif !inG a0_0 a0_1 (IntKind.wrap IntKind.u32 (pG a0_0 a0_1 true a0_3 a0_4 a1 12 0 + 4)) then some false
    else
    bif !inG a0_0 a0_1 (IntKind.wrap IntKind.u32 (pG a0_0 a0_1 true a0_3 a0_4 a1 12 0 + 5)) then some false
    else
    bif !inG a0_0 a0_1 (IntKind.wrap IntKind.u32 (pG a0_0 a0_1 true a0_3 a0_4 a1 12 0 + 6)) then some false
    else
    bif !inG a0_0 a0_1 (IntKind.wrap IntKind.u32 (pG a0_0 a0_1 true a0_3 a0_4 a1 12 0 + 7)) then some false
    else
    bif !inG a0_0 a0_1 (IntKind.wrap IntKind.u32 (pG a0_0 a0_1 true a0_3 a0_4 a1 12 0 + 8)) then some false
    else
    bif !inG a0_0 a0_1 (IntKind.wrap IntKind.u32 (pG a0_0 a0_1 true a0_3 a0_4 a1 12 0 + 9)) then some false
    else
    bif !inG a0_0 a0_1 (IntKind.wrap IntKind.u32 (pG a0_0 a0_1 true a0_3 a0_4 a1 12 0 + 10)) then some false
    else
    bif !inG a0_0 a0_1 (IntKind.wrap IntKind.u32 (pG a0_0 a0_1 true a0_3 a0_4 a1 12 0 + 11)) then some false
    else some (IntKind.wrap IntKind.u32 (pG a0_0 a0_1 true a0_3 a0_4 a1 12 0 - a0_0) == a1)
    else
    bif IntKind.wrap IntKind.i64 (IntKind.wrap IntKind.i64 (Int.tmod a2 16) + 1) == 13 then
    bif eG a0_0 a0_1 true a0_3 a0_4 a1 13 0 != 0 then some (pG a0_0 a0_1 true a0_3 a0_4 a1 13 0 == 0)
    else
    bif !inG a0_0 a0_1 (IntKind.wrap IntKind.u32 (pG a0_0 a0_1 true a0_3 a0_4 a1 13 0 + 0)) then some false
    else
    bif !inG a0_0 a0_1 (IntKind.wrap IntKind.u32 (pG a0_0 a0_1 true a0_3 a0_4 a1 13 0 + 1)) then some false
    else
    bif !inG a0_0 a0_1 (IntKind.wrap IntKind.u32 (pG a0_0 a0_1 true a0_3 a0_4 a1 13 0 + 2)) then some false
    else
    bif !inG a0_0 a0_1 (IntKind.wrap IntKind.u32 (pG a0_0 a0_1 true a0_3 a0_4 a1 13 0 + 3)) then some false
    else
    bif !inG a0_0 a0_1 (IntKind.wrap IntKind.u32 (pG a0_0 a0_1 true a0_3 a0_4 a1 13 0 + 4)) then some false
    else
    bif !inG a0_0 a0_1 (IntKind.wrap IntKind.u32 (pG a0_0 a0_1 true a0_3 a0_4 a1 13 0 + 5)) then some false
    else
    bif !inG a0_0 a0_1 (IntKind.wrap IntKind.u32 (pG a0_0 a0_1 true a0_3 a0_4 a1 13 0 + 6)) then some false
    else
    bif !inG a0_0 a0_1 (IntKind.wrap IntKind.u32 (pG a0_0 a0_1 true a0_3 a0_4 a1 13 0 + 7)) then some false
    else
    bif !inG a0_0 a0_1 (IntKind.wrap IntKind.u32 (pG a0_0 a0_1 true a0_3 a0_4 a1 13 0 + 8)) then some false
    else
    bif !inG a0_0 a0_1 (IntKind.wrap IntKind.u32 (pG a0_0 a0_1 true a0_3 a0_4 a1 13 0 + 9)) then some false
    else
    bif !inG a0_0 a0_1 (IntKind.wrap IntKind.u32 (pG a0_0 a0_1 true a0_3 a0_4 a1 13 0 + 10)) then some false
    else
    bif !inG a0_0 a0_1 (IntKind.wrap IntKind.u32 (pG a0_0 a0_1 true a0_3 a0_4 a1 13 0 + 11)) then some false
    else
    bif !inG a0_0 a0_1 (IntKind.wrap IntKind.u32 (pG a0_0 a0_1 true a0_3 a0_4 a1 13 0 + 12)) then some false
    else some (IntKind.wrap IntKind.u32 (pG a0_0 a0_1 true a0_3 a0_4 a1 13 0 - a0_0) == a1)
    else
    bif IntKind.wrap IntKind.i64 (IntKind.wrap IntKind.i64 (Int.tmod a2 16) + 1) == 14 then
    bif eG a0_0 a0_1 true a0_3 a0_4 a1 14 0 != 0 then some (pG a0_0 a0_1 true a0_3 a0_4 a1 14 0 == 0)
    else
    bif !inG a0_0 a0_1 (IntKind.wrap IntKind.u32 (pG a0_0 a0_1 true a0_3 a0_4 a1 14 0 + 0)) then some false
    else
    bif !inG a0_0 a0_1 (IntKind.wrap IntKind.u32 (pG a0_0 a0_1 true a0_3 a0_4 a1 14 0 + 1)) then some false
    else
    bif !inG a0_0 a0_1 (IntKind.wrap IntKind.u32 (pG a0_0 a0_1 true a0_3 a0_4 a1 14 0 + 2)) then some false
    else
    bif !inG a0_0 a0_1 (IntKind.wrap IntKind.u32 (pG a0_0 a0_1 true a0_3 a0_4 a1 14 0 + 3)) then some false
    else
    bif !inG a0_0 a0_1 (IntKind.wrap IntKind.u32 (pG a0_0 a0_1 true a0_3 a0_4 a1 14 0 + 4)) then some false
    else
    bif !inG a0_0 a0_1 (IntKind.wrap IntKind.u32 (pG a0_0 a0_1 true a0_3 a0_4 a1 14 0 + 5)) then some false
    else
    bif !inG a0_0 a0_1 (IntKind.wrap IntKind.u32 (pG a0_0 a0_1 true a0_3 a0_4 a1 14 0 + 6)) then some false
    else
    bif !inG a0_0 a0_1 (IntKind.wrap IntKind.u32 (pG a0_0 a0_1 true a0_3 a0_4 a1 14 0 + 7)) then some false
    else
    bif !inG a0_0 a0_1 (IntKind.wrap IntKind.u32 (pG a0_0 a0_1 true a0_3 a0_4 a1 14 0 + 8)) then some false
    else
    bif !inG a0_0 a0_1 (IntKind.wrap IntKind.u32 (pG a0_0 a0_1 true a0_3 a0_4 a1 14 0 + 9)) then some false
    else
    bif !inG a0_0 a0_1 (IntKind.wrap IntKind.u32 (pG a0_0 a0_1 true a0_3 a0_4 a1 14 0 + 10)) then some false
    else
    bif !inG a0_0 a0_1 (IntKind.wrap IntKind.u32 (pG a0_0 a0_1 true a0_3 a0_4 a1 14 0 + 11)) then some false
    else
    bif !inG a0_0 a0_1 (IntKind.wrap IntKind.u32 (pG a0_0 a0_1 true a0_3 a0_4 a1 14 0 + 12)) then some false
    else
    bif !inG a0_0 a0_1 (IntKind.wrap IntKind.u32 (pG a0_0 a0_1 true a0_3 a0_4 a1 14 0 + 13)) then some false
    else some (IntKind.wrap IntKind.u32 (pG a0_0 a0_1 true a0_3 a0_4 a1 14 0 - a0_0) == a1)
    else
    bif IntKind.wrap IntKind.i64 (IntKind.wrap IntKind.i64 (Int.tmod a2 16) + 1) == 15 then
    bif eG a0_0 a0_1 true a0_3 a0_4 a1 15 0 != 0 then some (pG a0_0 a0_1 true a0_3 a0_4 a1 15 0 == 0)
    else
    bif !inG a0_0 a0_1 (IntKind.wrap IntKind.u32 (pG a0_0 a0_1 true a0_3 a0_4 a1 15 0 + 0)) then some false
    else
    bif !inG a0_0 a0_1 (IntKind.wrap IntKind.u32 (pG a0_0 a0_1 true a0_3 a0_4 a1 15 0 + 1)) then some false
    else
    bif !inG a0_0 a0_1 (IntKind.wrap IntKind.u32 (pG a0_0 a0_1 true a0_3 a0_4 a1 15 0 + 2)) then some false
    else
    bif !inG a0_0 a0_1 (IntKind.wrap IntKind.u32 (pG a0_0 a0_1 true a0_3 a0_4 a1 15 0 + 3)) then some false
    else
    bif !inG a0_0 a0_1 (IntKind.wrap IntKind.u32 (pG a0_0 a0_1 true a0_3 a0_4 a1 15 0 + 4)) then some false
    else
    bif !inG a0_0 a0_1 (IntKind.wrap IntKind.u32 (pG a0_0 a0_1 true a0_3 a0_4 a1 15 0 + 5)) then some false
    else
    bif !inG a0_0 a0_1 (IntKind.wrap IntKind.u32 (pG a0_0 a0_1 true a0_3 a0_4 a1 15 0 + 6)) then some false
    else
    bif !inG a0_0 a0_1 (IntKind.wrap IntKind.u32 (pG a0_0 a0_1 true a0_3 a0_4 a1 15 0 + 7)) then some false
    else
    bif !inG a0_0 a0_1 (IntKind.wrap IntKind.u32 (pG a0_0 a0_1 true a0_3 a0_4 a1 15 0 + 8)) then some false
    else
    bif !inG a0_0 a0_1 (IntKind.wrap IntKind.u32 (pG a0_0 a0_1 true a0_3 a0_4 a1 15 0 + 9)) then some false
    else
    bif !inG a0_0 a0_1 (IntKind.wrap IntKind.u32 (pG a0_0 a0_1 true a0_3 a0_4 a1 15 0 + 10)) then some false
    else
    bif !inG a0_0 a0_1 (IntKind.wrap IntKind.u32 (pG a0_0 a0_1 true a0_3 a0_4 a1 15 0 + 11)) then some false
    else
    bif !inG a0_0 a0_1 (IntKind.wrap IntKind.u32 (pG a0_0 a0_1 true a0_3 a0_4 a1 15 0 + 12)) then some false
    else
    bif !inG a0_0 a0_1 (IntKind.wrap IntKind.u32 (pG a0_0 a0_1 true a0_3 a0_4 a1 15 0 + 13)) then some false
    else
    bif !inG a0_0 a0_1 (IntKind.wrap IntKind.u32 (pG a0_0 a0_1 true a0_3 a0_4 a1 15 0 + 14)) then some false
    else some (IntKind.wrap IntKind.u32 (pG a0_0 a0_1 true a0_3 a0_4 a1 15 0 - a0_0) == a1)
    else
    bif IntKind.wrap IntKind.i64 (IntKind.wrap IntKind.i64 (Int.tmod a2 16) + 1) == 16 then
    bif eG a0_0 a0_1 true a0_3 a0_4 a1 16 0 != 0 then some (pG a0_0 a0_1 true a0_3 a0_4 a1 16 0 == 0)
    else
    bif !inG a0_0 a0_1 (IntKind.wrap IntKind.u32 (pG a0_0 a0_1 true a0_3 a0_4 a1 16 0 + 0)) then some false
    else
    bif !inG a0_0 a0_1 (IntKind.wrap IntKind.u32 (pG a0_0 a0_1 true a0_3 a0_4 a1 16 0 + 1)) then some false
    else
    bif !inG a0_0 a0_1 (IntKind.wrap IntKind.u32 (pG a0_0 a0_1 true a0_3 a0_4 a1 16 0 + 2)) then some false
    else
    bif !inG a0_0 a0_1 (IntKind.wrap IntKind.u32 (pG a0_0 a0_1 true a0_3 a0_4 a1 16 0 + 3)) then some false
    else
    bif !inG a0_0 a0_1 (IntKind.wrap IntKind.u32 (pG a0_0 a0_1 true a0_3 a0_4 a1 16 0 + 4)) then some false
    else
    bif !inG a0_0 a0_1 (IntKind.wrap IntKind.u32 (pG a0_0 a0_1 true a0_3 a0_4 a1 16 0 + 5)) then some false
    else
    bif !inG a0_0 a0_1 (IntKind.wrap IntKind.u32 (pG a0_0 a0_1 true a0_3 a0_4 a1 16 0 + 6)) then some false
    else
    bif !inG a0_0 a0_1 (IntKind.wrap IntKind.u32 (pG a0_0 a0_1 true a0_3 a0_4 a1 16 0 + 7)) then some false
    else
    bif !inG a0_0 a0_1 (IntKind.wrap IntKind.u32 (pG a0_0 a0_1 true a0_3 a0_4 a1 16 0 + 8)) then some false
    else
    bif !inG a0_0 a0_1 (IntKind.wrap IntKind.u32 (pG a0_0 a0_1 true a0_3 a0_4 a1 16 0 + 9)) then some false
    else
    bif !inG a0_0 a0_1 (IntKind.wrap IntKind.u32 (pG a0_0 a0_1 true a0_3 a0_4 a1 16 0 + 10)) then some false
    else
    bif !inG a0_0 a0_1 (IntKind.wrap IntKind.u32 (pG a0_0 a0_1 true a0_3 a0_4 a1 16 0 + 11)) then some false
    else
    bif !inG a0_0 a0_1 (IntKind.wrap IntKind.u32 (pG a0_0 a0_1 true a0_3 a0_4 a1 16 0 + 12)) then some false
    else
    bif !inG a0_0 a0_1 (IntKind.wrap IntKind.u32 (pG a0_0 a0_1 true a0_3 a0_4 a1 16 0 + 13)) then some false
    else
    bif !inG a0_0 a0_1 (IntKind.wrap IntKind.u32 (pG a0_0 a0_1 true a0_3 a0_4 a1 16 0 + 14)) then some false
    else
    bif !inG a0_0 a0_1 (IntKind.wrap IntKind.u32 (pG a0_0 a0_1 true a0_3 a0_4 a1 16 0 + 15)) then some false
    else some (IntKind.wrap IntKind.u32 (pG a0_0 a0_1 true a0_3 a0_4 a1 16 0 - a0_0) == a1)
    else none) := by kernel_rfl
theorem pure (a0_0 : Int) (a0_1 : Int) (a0_2 : Bool) (a0_3 : Bool) (a0_4 : Bool) (a1 : Int) (a2 : Int) (w0_0 : (Lit.int .u32 a0_0).wf = true) (w0_1 : (Lit.int .u32 a0_1).wf = true) (w1 : (Lit.int .u32 a1).wf = true) (w2 : (Lit.int .u8 a2).wf = true) :
    evF Try.prog (ΓSegG.cut [(47, 7, 17)]) 400 7 [.agg [.v (.int .u32 a0_0), .v (.int .u32 a0_1), .v (.bool a0_2), .v (.bool a0_3), .v (.bool a0_4)], .v (.int .u32 a1), .v (.int .u8 a2)] [] isT (fun _ _ => none) = some true := by
  rw [form]
  have b0 := wf_u32 w0_0
  have b1 := wf_u32 w0_1
  have b2 := wf_u32 w1
  have b3 := wf_u8 w2
  have eK : IntKind.wrap IntKind.i64 (IntKind.wrap IntKind.i64 (Int.tmod a2 16) + 1) = a2 % 16 + 1 := by
    rw [Int.tmod_eq_emod_of_nonneg b3.1, wr_i64_id (n := a2 % 16) (by omega) (by omega), wr_i64_id (by omega) (by omega)]
  rw [eK]
  generalize hk : a2 % 16 + 1 = k
  have hv : k = 1 ∨ k = 2 ∨ k = 3 ∨ k = 4 ∨ k = 5 ∨ k = 6 ∨ k = 7 ∨ k = 8 ∨ k = 9 ∨ k = 10 ∨ k = 11 ∨ k = 12 ∨ k = 13 ∨ k = 14 ∨ k = 15 ∨ k = 16 := by omega
  have main : (okG a0_0 a0_1 true a0_3 a0_4 a1 k 0 = false ∧ pG a0_0 a0_1 true a0_3 a0_4 a1 k 0 = 0) ∨ (okG a0_0 a0_1 true a0_3 a0_4 a1 k 0 = true ∧
      (∀ i, 0 ≤ i → i < k → inG a0_0 a0_1 (IntKind.wrap IntKind.u32 (pG a0_0 a0_1 true a0_3 a0_4 a1 k 0 + i)) = true) ∧ IntKind.wrap IntKind.u32 (pG a0_0 a0_1 true a0_3 a0_4 a1 k 0 - a0_0) = a1) := by
    cases h : okG a0_0 a0_1 true a0_3 a0_4 a1 k 0 with
    | false => exact .inl ⟨rfl, pG_not h⟩
    | true =>
      have hh := segHold (wr := a0_3) (x := a0_4) b0.1 b0.2 b1.1 b1.2 b2.1 b2.2 (by omega) (by omega) h
      exact .inr ⟨rfl, hh.1, hh.2⟩
  simp only [bne, eG_zero]
  rcases hv with rfl | rfl | rfl | rfl | rfl | rfl | rfl | rfl | rfl | rfl | rfl | rfl | rfl | rfl | rfl | rfl <;>
    (rcases main with ⟨m1, m2⟩ | ⟨m1, m2, m3⟩
     · simp [m1, m2]
     · have m0 := m2 0 (by decide) (by decide)
       rw [Int.add_zero] at m0
       simp [m0, m1, m2, m3])
end Go.Proofs.Ytllfmajphmfehaa.segHolds
