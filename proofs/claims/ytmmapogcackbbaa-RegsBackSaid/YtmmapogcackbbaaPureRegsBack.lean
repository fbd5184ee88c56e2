/- RegsBack: the reckoning of the law, and that it is true. -/
import Derived.Test.YtmmapogcackbbaaCRg3
import Derived.Test.YtmmapogcackbbaaNRegs2
namespace Go.Proofs.Ytmmapogcackbbaa.regsBack
open Go Go.Ev
set_option linter.unusedVariables false
set_option linter.unusedSimpArgs false
set_option maxRecDepth 100000
theorem form (a0_0 : Int) (a0_1 : Int) (a0_2 : Int) (a0_3 : Int) (a0_4 : Int) (a0_5 : Int) (a0_6 : Int) (a0_7 : Int) (a0_8 : Int) (a0_9 : Bool) (a0_10 : Bool) (a0_11 : Bool) (a0_12 : Bool) (a0_13 : Bool) (a0_14 : Bool) (a0_15 : Int) (a0_16 : Int) (a0_17 : Int) (a0_18 : Int) (a0_19 : Int) (a0_20 : Int) (a0_21 : Int) (a0_22 : Int) (a1 : Int) (a2 : Int) (a3 : Int) :
    evF Try.prog ΓRg3 400 4 [.agg [.v (.int .u32 a0_0), .v (.int .u32 a0_1), .v (.int .u32 a0_2), .v (.int .u32 a0_3), .v (.int .u32 a0_4), .v (.int .u32 a0_5), .v (.int .u32 a0_6), .v (.int .u32 a0_7), .v (.int .u32 a0_8), .v (.bool a0_9), .v (.bool a0_10), .v (.bool a0_11), .v (.bool a0_12), .v (.bool a0_13), .v (.bool a0_14), .v (.int .u64 a0_15), .v (.int .u64 a0_16), .v (.int .u64 a0_17), .v (.int .u64 a0_18), .v (.int .u64 a0_19), .v (.int .u64 a0_20), .v (.int .u64 a0_21), .v (.int .u64 a0_22)], .v (.int .u8 a1), .v (.int .u8 a2), .v (.int .u64 a3)] [] isT (fun _ _ => none) =
    (bif in32 a0_0 && (in32 a0_1 && (in32 a0_2 && (in32 a0_3 && in64 a3))) then
    bif
    in32 (setA 2 (IntKind.wrap IntKind.i64 (Int.tmod a1 8)) 0 a0_0 a3) &&
    (in32 (setA 2 (IntKind.wrap IntKind.i64 (Int.tmod a1 8)) 1 a0_1 a3) &&
    (in32 (setA 2 (IntKind.wrap IntKind.i64 (Int.tmod a1 8)) 2 a0_2 a3) &&
    (in32 (setA 2 (IntKind.wrap IntKind.i64 (Int.tmod a1 8)) 3 a0_3 a3) &&
    (in32 (setB 2 (IntKind.wrap IntKind.i64 (Int.tmod a1 8)) 4 a0_4 a3) &&
    (in32 (setB 2 (IntKind.wrap IntKind.i64 (Int.tmod a1 8)) 5 a0_5 a3) &&
    (in32 (setB 2 (IntKind.wrap IntKind.i64 (Int.tmod a1 8)) 6 a0_6 a3) &&
    (in32 (setB 2 (IntKind.wrap IntKind.i64 (Int.tmod a1 8)) 7 a0_7 a3) && true))))))) then
    bif
    getV 2 (IntKind.wrap IntKind.i64 (Int.tmod a1 8)) 0 (setA 2 (IntKind.wrap IntKind.i64 (Int.tmod a1 8)) 0 a0_0 a3)
    (setA 2 (IntKind.wrap IntKind.i64 (Int.tmod a1 8)) 1 a0_1 a3)
    (setA 2 (IntKind.wrap IntKind.i64 (Int.tmod a1 8)) 2 a0_2 a3)
    (setA 2 (IntKind.wrap IntKind.i64 (Int.tmod a1 8)) 3 a0_3 a3)
    (setB 2 (IntKind.wrap IntKind.i64 (Int.tmod a1 8)) 4 a0_4 a3)
    (setB 2 (IntKind.wrap IntKind.i64 (Int.tmod a1 8)) 5 a0_5 a3)
    (setB 2 (IntKind.wrap IntKind.i64 (Int.tmod a1 8)) 6 a0_6 a3)
    (setB 2 (IntKind.wrap IntKind.i64 (Int.tmod a1 8)) 7 a0_7 a3)
    (setX 2 (IntKind.wrap IntKind.i64 (Int.tmod a1 8)) 0 a0_15 a3)
    (setX 2 (IntKind.wrap IntKind.i64 (Int.tmod a1 8)) 1 a0_16 a3)
    (setX 2 (IntKind.wrap IntKind.i64 (Int.tmod a1 8)) 2 a0_17 a3)
    (setX 2 (IntKind.wrap IntKind.i64 (Int.tmod a1 8)) 3 a0_18 a3)
    (setX 2 (IntKind.wrap IntKind.i64 (Int.tmod a1 8)) 4 a0_19 a3)
    (setX 2 (IntKind.wrap IntKind.i64 (Int.tmod a1 8)) 5 a0_20 a3)
    (setX 2 (IntKind.wrap IntKind.i64 (Int.tmod a1 8)) 6 a0_21 a3)
    (setX 2 (IntKind.wrap IntKind.i64 (Int.tmod a1 8)) 7 a0_22 a3) !=
    bitsL BinOp.and IntKind.u64 a3 255 then
    some false
    else
    bif Int.tmod a1 8 != Int.tmod a2 8 then
    bif
    in32 (setA 2 (IntKind.wrap IntKind.i64 (Int.tmod a1 8)) 0 a0_0 a3) &&
    (in32 (setA 2 (IntKind.wrap IntKind.i64 (Int.tmod a1 8)) 1 a0_1 a3) &&
    (in32 (setA 2 (IntKind.wrap IntKind.i64 (Int.tmod a1 8)) 2 a0_2 a3) &&
    (in32 (setA 2 (IntKind.wrap IntKind.i64 (Int.tmod a1 8)) 3 a0_3 a3) &&
    (in32 (setB 2 (IntKind.wrap IntKind.i64 (Int.tmod a1 8)) 4 a0_4 a3) &&
    (in32 (setB 2 (IntKind.wrap IntKind.i64 (Int.tmod a1 8)) 5 a0_5 a3) &&
    (in32 (setB 2 (IntKind.wrap IntKind.i64 (Int.tmod a1 8)) 6 a0_6 a3) &&
    (in32 (setB 2 (IntKind.wrap IntKind.i64 (Int.tmod a1 8)) 7 a0_7 a3) && true))))))) then
    bif
    in32 a0_0 &&
    (in32 a0_1 && (in32 a0_2 && (in32 a0_3 && (in32 a0_4 && (in32 a0_5 && (in32 a0_6 && (in32 a0_7 && true))))))) then
    bif
    getV 2 (IntKind.wrap IntKind.i64 (Int.tmod a2 8)) 0 (setA 2 (IntKind.wrap IntKind.i64 (Int.tmod a1 8)) 0 a0_0 a3)
    (setA 2 (IntKind.wrap IntKind.i64 (Int.tmod a1 8)) 1 a0_1 a3)
    (setA 2 (IntKind.wrap IntKind.i64 (Int.tmod a1 8)) 2 a0_2 a3)
    (setA 2 (IntKind.wrap IntKind.i64 (Int.tmod a1 8)) 3 a0_3 a3)
    (setB 2 (IntKind.wrap IntKind.i64 (Int.tmod a1 8)) 4 a0_4 a3)
    (setB 2 (IntKind.wrap IntKind.i64 (Int.tmod a1 8)) 5 a0_5 a3)
    (setB 2 (IntKind.wrap IntKind.i64 (Int.tmod a1 8)) 6 a0_6 a3)
    (setB 2 (IntKind.wrap IntKind.i64 (Int.tmod a1 8)) 7 a0_7 a3)
    (setX 2 (IntKind.wrap IntKind.i64 (Int.tmod a1 8)) 0 a0_15 a3)
    (setX 2 (IntKind.wrap IntKind.i64 (Int.tmod a1 8)) 1 a0_16 a3)
    (setX 2 (IntKind.wrap IntKind.i64 (Int.tmod a1 8)) 2 a0_17 a3)
    (setX 2 (IntKind.wrap IntKind.i64 (Int.tmod a1 8)) 3 a0_18 a3)
    (setX 2 (IntKind.wrap IntKind.i64 (Int.tmod a1 8)) 4 a0_19 a3)
    (setX 2 (IntKind.wrap IntKind.i64 (Int.tmod a1 8)) 5 a0_20 a3)
    (setX 2 (IntKind.wrap IntKind.i64 (Int.tmod a1 8)) 6 a0_21 a3)
    (setX 2 (IntKind.wrap IntKind.i64 (Int.tmod a1 8)) 7 a0_22 a3) !=
    getV 2 (IntKind.wrap IntKind.i64 (Int.tmod a2 8)) 0 a0_0 a0_1 a0_2 a0_3 a0_4 a0_5 a0_6 a0_7 a0_15 a0_16 a0_17 a0_18
    a0_19 a0_20 a0_21 a0_22 then
    some false
    else
    bif
    !(setX 2 (IntKind.wrap IntKind.i64 (Int.tmod a1 8)) 0 a0_15 a3 == a0_15 &&
    (setX 2 (IntKind.wrap IntKind.i64 (Int.tmod a1 8)) 1 a0_16 a3 == a0_16 &&
    (setX 2 (IntKind.wrap IntKind.i64 (Int.tmod a1 8)) 2 a0_17 a3 == a0_17 &&
    (setX 2 (IntKind.wrap IntKind.i64 (Int.tmod a1 8)) 3 a0_18 a3 == a0_18 &&
    (setX 2 (IntKind.wrap IntKind.i64 (Int.tmod a1 8)) 4 a0_19 a3 == a0_19 &&
    (setX 2 (IntKind.wrap IntKind.i64 (Int.tmod a1 8)) 5 a0_20 a3 == a0_20 &&
    (setX 2 (IntKind.wrap IntKind.i64 (Int.tmod a1 8)) 6 a0_21 a3 == a0_21 &&
    (setX 2 (IntKind.wrap IntKind.i64 (Int.tmod a1 8)) 7 a0_22 a3 == a0_22 && true)))))))) then
    some false
    else
    bif
    !(a0_9 == a0_9 &&
    (a0_10 == a0_10 && (a0_11 == a0_11 && (a0_12 == a0_12 && (a0_13 == a0_13 && (a0_14 == a0_14 && true)))))) then
    some false
    else
    bif a0_8 != a0_8 then some false
    else
    bif in32 a0_0 && (in32 a0_1 && (in32 a0_2 && (in32 a0_3 && in64 a3))) then
    bif
    in32 (setA 5 (IntKind.wrap IntKind.i64 (Int.tmod a1 8)) 0 a0_0 a3) &&
    (in32 (setA 5 (IntKind.wrap IntKind.i64 (Int.tmod a1 8)) 1 a0_1 a3) &&
    (in32 (setA 5 (IntKind.wrap IntKind.i64 (Int.tmod a1 8)) 2 a0_2 a3) &&
    (in32 (setA 5 (IntKind.wrap IntKind.i64 (Int.tmod a1 8)) 3 a0_3 a3) &&
    (in32 (setB 5 (IntKind.wrap IntKind.i64 (Int.tmod a1 8)) 4 a0_4 a3) &&
    (in32 (setB 5 (IntKind.wrap IntKind.i64 (Int.tmod a1 8)) 5 a0_5 a3) &&
    (in32 (setB 5 (IntKind.wrap IntKind.i64 (Int.tmod a1 8)) 6 a0_6 a3) &&
    (in32 (setB 5 (IntKind.wrap IntKind.i64 (Int.tmod a1 8)) 7 a0_7 a3) && true))))))) then
    bif
    getV 5 (IntKind.wrap IntKind.i64 (Int.tmod a1 8)) 0 (setA 5 (IntKind.wrap IntKind.i64 (Int.tmod a1 8)) 0 a0_0 a3)
    (setA 5 (IntKind.wrap IntKind.i64 (Int.tmod a1 8)) 1 a0_1 a3)
    (setA 5 (IntKind.wrap IntKind.i64 (Int.tmod a1 8)) 2 a0_2 a3)
    (setA 5 (IntKind.wrap IntKind.i64 (Int.tmod a1 8)) 3 a0_3 a3)
    (setB 5 (IntKind.wrap IntKind.i64 (Int.tmod a1 8)) 4 a0_4 a3)
    (setB 5 (IntKind.wrap IntKind.i64 (Int.tmod a1 8)) 5 a0_5 a3)
    (setB 5 (IntKind.wrap IntKind.i64 (Int.tmod a1 8)) 6 a0_6 a3)
    (setB 5 (IntKind.wrap IntKind.i64 (Int.tmod a1 8)) 7 a0_7 a3)
    (setX 5 (IntKind.wrap IntKind.i64 (Int.tmod a1 8)) 0 a0_15 a3)
    (setX 5 (IntKind.wrap IntKind.i64 (Int.tmod a1 8)) 1 a0_16 a3)
    (setX 5 (IntKind.wrap IntKind.i64 (Int.tmod a1 8)) 2 a0_17 a3)
    (setX 5 (IntKind.wrap IntKind.i64 (Int.tmod a1 8)) 3 a0_18 a3)
    (setX 5 (IntKind.wrap IntKind.i64 (Int.tmod a1 8)) 4 a0_19 a3)
    (setX 5 (IntKind.wrap IntKind.i64 (Int.tmod a1 8)) 5 a0_20 a3)
    (setX 5 (IntKind.wrap IntKind.i64 (Int.tmod a1 8)) 6 a0_21 a3)
    (setX 5 (IntKind.wrap IntKind.i64 (Int.tmod a1 8)) 7 a0_22 a3) ==
    a3 then
    bif in32 a0_0 && (in32 a0_1 && (in32 a0_2 && (in32 a0_3 && in64 a3))) then
    bif
    in32 (setA 1 (IntKind.wrap IntKind.i64 (Int.tmod a1 8)) 0 a0_0 a3) &&
    (in32 (setA 1 (IntKind.wrap IntKind.i64 (Int.tmod a1 8)) 1 a0_1 a3) &&
    (in32 (setA 1 (IntKind.wrap IntKind.i64 (Int.tmod a1 8)) 2 a0_2 a3) &&
    (in32 (setA 1 (IntKind.wrap IntKind.i64 (Int.tmod a1 8)) 3 a0_3 a3) &&
    (in32 (setB 1 (IntKind.wrap IntKind.i64 (Int.tmod a1 8)) 4 a0_4 a3) &&
    (in32 (setB 1 (IntKind.wrap IntKind.i64 (Int.tmod a1 8)) 5 a0_5 a3) &&
    (in32 (setB 1 (IntKind.wrap IntKind.i64 (Int.tmod a1 8)) 6 a0_6 a3) &&
    (in32 (setB 1 (IntKind.wrap IntKind.i64 (Int.tmod a1 8)) 7 a0_7 a3) && true))))))) then
    bif
    getV 1 (IntKind.wrap IntKind.i64 (Int.tmod a1 8)) 0 (setA 1 (IntKind.wrap IntKind.i64 (Int.tmod a1 8)) 0 a0_0 a3)
    (setA 1 (IntKind.wrap IntKind.i64 (Int.tmod a1 8)) 1 a0_1 a3)
    (setA 1 (IntKind.wrap IntKind.i64 (Int.tmod a1 8)) 2 a0_2 a3)
    (setA 1 (IntKind.wrap IntKind.i64 (Int.tmod a1 8)) 3 a0_3 a3)
    (setB 1 (IntKind.wrap IntKind.i64 (Int.tmod a1 8)) 4 a0_4 a3)
    (setB 1 (IntKind.wrap IntKind.i64 (Int.tmod a1 8)) 5 a0_5 a3)
    (setB 1 (IntKind.wrap IntKind.i64 (Int.tmod a1 8)) 6 a0_6 a3)
    (setB 1 (IntKind.wrap IntKind.i64 (Int.tmod a1 8)) 7 a0_7 a3)
    (setX 1 (IntKind.wrap IntKind.i64 (Int.tmod a1 8)) 0 a0_15 a3)
    (setX 1 (IntKind.wrap IntKind.i64 (Int.tmod a1 8)) 1 a0_16 a3)
    (setX 1 (IntKind.wrap IntKind.i64 (Int.tmod a1 8)) 2 a0_17 a3)
    (setX 1 (IntKind.wrap IntKind.i64 (Int.tmod a1 8)) 3 a0_18 a3)
    (setX 1 (IntKind.wrap IntKind.i64 (Int.tmod a1 8)) 4 a0_19 a3)
    (setX 1 (IntKind.wrap IntKind.i64 (Int.tmod a1 8)) 5 a0_20 a3)
    (setX 1 (IntKind.wrap IntKind.i64 (Int.tmod a1 8)) 6 a0_21 a3)
    (setX 1 (IntKind.wrap IntKind.i64 (Int.tmod a1 8)) 7 a0_22 a3) ==
    bitsL BinOp.and IntKind.u64 a3 4294967295 then
    bif in32 a0_0 && (in32 a0_1 && (in32 a0_2 && (in32 a0_3 && in64 a3))) then
    some
    (setA 5 (IntKind.wrap IntKind.i64 (Int.tmod a1 8)) 0 a0_0 a3 == a0_0 &&
    (setA 5 (IntKind.wrap IntKind.i64 (Int.tmod a1 8)) 1 a0_1 a3 == a0_1 &&
    (setA 5 (IntKind.wrap IntKind.i64 (Int.tmod a1 8)) 2 a0_2 a3 == a0_2 &&
    (setA 5 (IntKind.wrap IntKind.i64 (Int.tmod a1 8)) 3 a0_3 a3 == a0_3 &&
    (setB 5 (IntKind.wrap IntKind.i64 (Int.tmod a1 8)) 4 a0_4 a3 == a0_4 &&
    (setB 5 (IntKind.wrap IntKind.i64 (Int.tmod a1 8)) 5 a0_5 a3 == a0_5 &&
    (setB 5 (IntKind.wrap IntKind.i64 (Int.tmod a1 8)) 6 a0_6 a3 == a0_6 &&
    (setB 5 (IntKind.wrap IntKind.i64 (Int.tmod a1 8)) 7 a0_7 a3 == a0_7 && true))))))))
    else none
    else some false
    else none
    else none
    else some false
    else none
    else none
    else none
    else none
    else
    bif
    !(setX 2 (IntKind.wrap IntKind.i64 (Int.tmod a1 8)) 0 a0_15 a3 == a0_15 &&
    (setX 2 (IntKind.wrap IntKind.i64 (Int.tmod a1 8)) 1 a0_16 a3 == a0_16 &&
    (setX 2 (IntKind.wrap IntKind.i64 (Int.tmod a1 8)) 2 a0_17 a3 == a0_17 &&
    (setX 2 (IntKind.wrap IntKind.i64 (Int.tmod a1 8)) 3 a0_18 a3 == a0_18 &&
    (setX 2 (IntKind.wrap IntKind.i64 (Int.tmod a1 8)) 4 a0_19 a3 == a0_19 &&
    (setX 2 (IntKind.wrap IntKind.i64 (Int.tmod a1 8)) 5 a0_20 a3 == a0_20 &&
    (setX 2 (IntKind.wrap IntKind.i64 (Int.tmod a1 8)) 6 a0_21 a3 == a0_21 &&
    (setX 2 (IntKind.wrap IntKind.i64 (Int.tmod a1 8)) 7 a0_22 a3 == a0_22 && true)))))))) then
    some false
    else
    bif
    !(a0_9 == a0_9 &&
    (a0_10 == a0_10 && (a0_11 == a0_11 && (a0_12 == a0_12 && (a0_13 == a0_13 && (a0_14 == a0_14 && true)))))) then
    some false
    else
    bif a0_8 != a0_8 then some false
    else
    bif in32 a0_0 && (in32 a0_1 && (in32 a0_2 && (in32 a0_3 && in64 a3))) then
    bif
    in32 (setA 5 (IntKind.wrap IntKind.i64 (Int.tmod a1 8)) 0 a0_0 a3) &&
    (in32 (setA 5 (IntKind.wrap IntKind.i64 (Int.tmod a1 8)) 1 a0_1 a3) &&
    (in32 (setA 5 (IntKind.wrap IntKind.i64 (Int.tmod a1 8)) 2 a0_2 a3) &&
    (in32 (setA 5 (IntKind.wrap IntKind.i64 (Int.tmod a1 8)) 3 a0_3 a3) &&
    (in32 (setB 5 (IntKind.wrap IntKind.i64 (Int.tmod a1 8)) 4 a0_4 a3) &&
    (in32 (setB 5 (IntKind.wrap IntKind.i64 (Int.tmod a1 8)) 5 a0_5 a3) &&
    (in32 (setB 5 (IntKind.wrap IntKind.i64 (Int.tmod a1 8)) 6 a0_6 a3) &&
    (in32 (setB 5 (IntKind.wrap IntKind.i64 (Int.tmod a1 8)) 7 a0_7 a3) && true))))))) then
    bif
    getV 5 (IntKind.wrap IntKind.i64 (Int.tmod a1 8)) 0 (setA 5 (IntKind.wrap IntKind.i64 (Int.tmod a1 8)) 0 a0_0 a3)
    (setA 5 (IntKind.wrap IntKind.i64 (Int.tmod a1 8)) 1 a0_1 a3)
    (setA 5 (IntKind.wrap IntKind.i64 (Int.tmod a1 8)) 2 a0_2 a3)
    (setA 5 (IntKind.wrap IntKind.i64 (Int.tmod a1 8)) 3 a0_3 a3)
    (setB 5 (IntKind.wrap IntKind.i64 (Int.tmod a1 8)) 4 a0_4 a3)
    (setB 5 (IntKind.wrap IntKind.i64 (Int.tmod a1 8)) 5 a0_5 a3)
    (setB 5 (IntKind.wrap IntKind.i64 (Int.tmod a1 8)) 6 a0_6 a3)
    (setB 5 (IntKind.wrap IntKind.i64 (Int.tmod a1 8)) 7 a0_7 a3)
    (setX 5 (IntKind.wrap IntKind.i64 (Int.tmod a1 8)) 0 a0_15 a3)
    (setX 5 (IntKind.wrap IntKind.i64 (Int.tmod a1 8)) 1 a0_16 a3)
    (setX 5 (IntKind.wrap IntKind.i64 (Int.tmod a1 8)) 2 a0_17 a3)
    (setX 5 (IntKind.wrap IntKind.i64 (Int.tmod a1 8)) 3 a0_18 a3)
    (setX 5 (IntKind.wrap IntKind.i64 (Int.tmod a1 8)) 4 a0_19 a3)
    (setX 5 (IntKind.wrap IntKind.i64 (Int.tmod a1 8)) 5 a0_20 a3)
    (setX 5 (IntKind.wrap IntKind.i64 (Int.tmod a1 8)) 6 a0_21 a3)
    (setX 5 (IntKind.wrap IntKind.i64 (Int.tmod a1 8)) 7 a0_22 a3) ==
    a3 then
    bif in32 a0_0 && (in32 a0_1 && (in32 a0_2 && (in32 a0_3 && in64 a3))) then
    bif
    in32 (setA 1 (IntKind.wrap IntKind.i64 (Int.tmod a1 8)) 0 a0_0 a3) &&
    (in32 (setA 1 (IntKind.wrap IntKind.i64 (Int.tmod a1 8)) 1 a0_1 a3) &&
    (in32 (setA 1 (IntKind.wrap IntKind.i64 (Int.tmod a1 8)) 2 a0_2 a3) &&
    (in32 (setA 1 (IntKind.wrap IntKind.i64 (Int.tmod a1 8)) 3 a0_3 a3) &&
    (in32 (setB 1 (IntKind.wrap IntKind.i64 (Int.tmod a1 8)) 4 a0_4 a3) &&
    (in32 (setB 1 (IntKind.wrap IntKind.i64 (Int.tmod a1 8)) 5 a0_5 a3) &&
    (in32 (setB 1 (IntKind.wrap IntKind.i64 (Int.tmod a1 8)) 6 a0_6 a3) &&
    (in32 (setB 1 (IntKind.wrap IntKind.i64 (Int.tmod a1 8)) 7 a0_7 a3) && true))))))) then
    bif
    getV 1 (IntKind.wrap IntKind.i64 (Int.tmod a1 8)) 0 (setA 1 (IntKind.wrap IntKind.i64 (Int.tmod a1 8)) 0 a0_0 a3)
    (setA 1 (IntKind.wrap IntKind.i64 (Int.tmod a1 8)) 1 a0_1 a3)
    (setA 1 (IntKind.wrap IntKind.i64 (Int.tmod a1 8)) 2 a0_2 a3)
    (setA 1 (IntKind.wrap IntKind.i64 (Int.tmod a1 8)) 3 a0_3 a3)
    (setB 1 (IntKind.wrap IntKind.i64 (Int.tmod a1 8)) 4 a0_4 a3)
    (setB 1 (IntKind.wrap IntKind.i64 (Int.tmod a1 8)) 5 a0_5 a3)
    (setB 1 (IntKind.wrap IntKind.i64 (Int.tmod a1 8)) 6 a0_6 a3)
    (setB 1 (IntKind.wrap IntKind.i64 (Int.tmod a1 8)) 7 a0_7 a3)
    (setX 1 (IntKind.wrap IntKind.i64 (Int.tmod a1 8)) 0 a0_15 a3)
    (setX 1 (IntKind.wrap IntKind.i64 (Int.tmod a1 8)) 1 a0_16 a3)
    (setX 1 (IntKind.wrap IntKind.i64 (Int.tmod a1 8)) 2 a0_17 a3)
    (setX 1 (IntKind.wrap IntKind.i64 (Int.tmod a1 8)) 3 a0_18 a3)
    (setX 1 (IntKind.wrap IntKind.i64 (Int.tmod a1 8)) 4 a0_19 a3)
    (setX 1 (IntKind.wrap IntKind.i64 (Int.tmod a1 8)) 5 a0_20 a3)
    (setX 1 (IntKind.wrap IntKind.i64 (Int.tmod a1 8)) 6 a0_21 a3)
    (setX 1 (IntKind.wrap IntKind.i64 (Int.tmod a1 8)) 7 a0_22 a3) ==
    bitsL BinOp.and IntKind.u64 a3 4294967295 then
    bif in32 a0_0 && (in32 a0_1 && (in32 a0_2 && (in32 a0_3 && in64 a3))) then
    some
    (setA 5 (IntKind.wrap IntKind.i64 (Int.tmod a1 8)) 0 a0_0 a3 == a0_0 &&
    (setA 5 (IntKind.wrap IntKind.i64 (Int.tmod a1 8)) 1 a0_1 a3 == a0_1 &&
    (setA 5 (IntKind.wrap IntKind.i64 (Int.tmod a1 8)) 2 a0_2 a3 == a0_2 &&
    (setA 5 (IntKind.wrap IntKind.i64 (Int.tmod a1 8)) 3 a0_3 a3 == a0_3 &&
    (setB 5 (IntKind.wrap IntKind.i64 (Int.tmod a1 8)) 4 a0_4 a3 == a0_4 &&
    (setB 5 (IntKind.wrap IntKind.i64 (Int.tmod a1 8)) 5 a0_5 a3 == a0_5 &&
    (setB 5 (IntKind.wrap IntKind.i64 (Int.tmod a1 8)) 6 a0_6 a3 == a0_6 &&
    (setB 5 (IntKind.wrap IntKind.i64 (Int.tmod a1 8)) 7 a0_7 a3 == a0_7 && true))))))))
    else none
    else some false
    else none
    else none
    else some false
    else none
    else none
    else none
    else none) := by kernel_rfl
set_option maxHeartbeats 1000000 in
theorem pure (a0_0 : Int) (a0_1 : Int) (a0_2 : Int) (a0_3 : Int) (a0_4 : Int) (a0_5 : Int) (a0_6 : Int) (a0_7 : Int) (a0_8 : Int) (a0_9 : Bool) (a0_10 : Bool) (a0_11 : Bool) (a0_12 : Bool) (a0_13 : Bool) (a0_14 : Bool) (a0_15 : Int) (a0_16 : Int) (a0_17 : Int) (a0_18 : Int) (a0_19 : Int) (a0_20 : Int) (a0_21 : Int) (a0_22 : Int) (a1 : Int) (a2 : Int) (a3 : Int) (w0_0 : (Lit.int .u32 a0_0).wf = true) (w0_1 : (Lit.int .u32 a0_1).wf = true) (w0_2 : (Lit.int .u32 a0_2).wf = true) (w0_3 : (Lit.int .u32 a0_3).wf = true) (w0_4 : (Lit.int .u32 a0_4).wf = true) (w0_5 : (Lit.int .u32 a0_5).wf = true) (w0_6 : (Lit.int .u32 a0_6).wf = true) (w0_7 : (Lit.int .u32 a0_7).wf = true) (w0_8 : (Lit.int .u32 a0_8).wf = true) (w0_15 : (Lit.int .u64 a0_15).wf = true) (w0_16 : (Lit.int .u64 a0_16).wf = true) (w0_17 : (Lit.int .u64 a0_17).wf = true) (w0_18 : (Lit.int .u64 a0_18).wf = true) (w0_19 : (Lit.int .u64 a0_19).wf = true) (w0_20 : (Lit.int .u64 a0_20).wf = true) (w0_21 : (Lit.int .u64 a0_21).wf = true) (w0_22 : (Lit.int .u64 a0_22).wf = true) (w1 : (Lit.int .u8 a1).wf = true) (w2 : (Lit.int .u8 a2).wf = true) (w3 : (Lit.int .u64 a3).wf = true) :
    evF Try.prog ΓRg3 400 4 [.agg [.v (.int .u32 a0_0), .v (.int .u32 a0_1), .v (.int .u32 a0_2), .v (.int .u32 a0_3), .v (.int .u32 a0_4), .v (.int .u32 a0_5), .v (.int .u32 a0_6), .v (.int .u32 a0_7), .v (.int .u32 a0_8), .v (.bool a0_9), .v (.bool a0_10), .v (.bool a0_11), .v (.bool a0_12), .v (.bool a0_13), .v (.bool a0_14), .v (.int .u64 a0_15), .v (.int .u64 a0_16), .v (.int .u64 a0_17), .v (.int .u64 a0_18), .v (.int .u64 a0_19), .v (.int .u64 a0_20), .v (.int .u64 a0_21), .v (.int .u64 a0_22)], .v (.int .u8 a1), .v (.int .u8 a2), .v (.int .u64 a3)] [] isT (fun _ _ => none) = some true := by
  rw [form]
  try simp only [bitsL_eq]
  have g0 := in32_iff.2 (wf_u32 w0_0)
  have g1 := in32_iff.2 (wf_u32 w0_1)
  have g2 := in32_iff.2 (wf_u32 w0_2)
  have g3 := in32_iff.2 (wf_u32 w0_3)
  have g4 := in32_iff.2 (wf_u32 w0_4)
  have g5 := in32_iff.2 (wf_u32 w0_5)
  have g6 := in32_iff.2 (wf_u32 w0_6)
  have g7 := in32_iff.2 (wf_u32 w0_7)
  have gv := in64_iff.2 (wf_u64 w3)
  have bv := wf_u64 w3
  have b1 := wf_u8 w1
  have b2 := wf_u8 w2
  have t1 : Int.tmod a1 8 = a1 % 8 := Int.tmod_eq_emod_of_nonneg b1.1
  have t2 : Int.tmod a2 8 = a2 % 8 := Int.tmod_eq_emod_of_nonneg b2.1
  have e1 : IntKind.wrap IntKind.i64 (a1 % 8) = a1 % 8 := wr_i64_id (by omega) (by omega)
  have e2 : IntKind.wrap IntKind.i64 (a2 % 8) = a2 % 8 := wr_i64_id (by omega) (by omega)
  rw [t1, t2]
  simp only [e1, e2]
  obtain ⟨r, hr⟩ : ∃ r, r = a1 % 8 := ⟨_, rfl⟩
  obtain ⟨q, hq⟩ : ∃ q, q = a2 % 8 := ⟨_, rfl⟩
  rw [← hr, ← hq]
  have vr : isV r = true := by unfold isV; simp; omega
  have vq : isV q = true := by unfold isV; simp; omega
  simp only [setX_2, setX_1, setB_2, setB_5, setA_5]
  have i0 : ∀ k, in32 (setA k r 0 a0_0 a3) = true := fun k => setA_in g0
  have i1 : ∀ k, in32 (setA k r 1 a0_1 a3) = true := fun k => setA_in g1
  have i2 : ∀ k, in32 (setA k r 2 a0_2 a3) = true := fun k => setA_in g2
  have i3 : ∀ k, in32 (setA k r 3 a0_3 a3) = true := fun k => setA_in g3
  have i4 : ∀ k, in32 (setB k r 4 a0_4 a3) = true := fun k => setB_in g4
  have i5 : ∀ k, in32 (setB k r 5 a0_5 a3) = true := fun k => setB_in g5
  have i6 : ∀ k, in32 (setB k r 6 a0_6 a3) = true := fun k => setB_in g6
  have i7 : ∀ k, in32 (setB k r 7 a0_7 a3) = true := fun k => setB_in g7
  simp only [g0, g1, g2, g3, g4, g5, g6, g7, gv, i0, i1, i2, i3, i4, i5, i6, i7, getA vr g0 g1 g2 g3, getD vr, getR vr, and_255_64 gv, and_max_64 bv.1 bv.2, Bool.and_self, Bool.and_true, cond_true, cond_false, bne_self_eq_false, beq_self_eq_true, Bool.not_true]
  by_cases hne : r = q
  · have : (r != q) = false := by simp [hne]
    simp only [this, cond_false]
  · have : (r != q) = true := by simp [hne]
    simp only [this, cond_true, getB vr vq hne g0 g1 g2 g3, bne_self_eq_false, cond_false]
end Go.Proofs.Ytmmapogcackbbaa.regsBack
