/- Contracts: shifts. -/
import Derived.Test.YtogfgmiofkgomaaCSh1
import Derived.Test.YtogfgmiofkgomaaCSh2
namespace Go.Proofs.Ytogfgmiofkgomaa
open Go Go.Ev
set_option linter.unusedVariables false
set_option linter.unusedSimpArgs false
set_option maxRecDepth 100000
theorem rshift_form (op : Int) (f_0 : Bool) (f_1 : Bool) (f_2 : Bool) (f_3 : Bool) (f_4 : Bool) (f_5 : Bool) (v : Int) (n : Int) :
    evF Try.prog ΓSh2 400 31 [.v (.int .i64 op), .agg [.v (.bool f_0), .v (.bool f_1), .v (.bool f_2), .v (.bool f_3), .v (.bool f_4), .v (.bool f_5)], .v (.int .u32 v), .v (.int .u32 n)] [] (fun x _ => some x) (fun _ _ => none) =
    (bif bitsL BinOp.and IntKind.u32 n 31 == 0 then
    some
    (Sv.tup
    [Sv.v (Value.int IntKind.u32 v),
    Sv.agg
    [Sv.v (Value.bool f_0), Sv.v (Value.bool f_1), Sv.v (Value.bool f_2), Sv.v (Value.bool f_3), Sv.v (Value.bool f_4),
    Sv.v (Value.bool f_5)]])
    else
    bif !knownV op then
    some
    (Sv.tup
    [Sv.v (Value.int IntKind.u32 v),
    Sv.agg
    [Sv.v (Value.bool f_0), Sv.v (Value.bool f_1), Sv.v (Value.bool f_2), Sv.v (Value.bool f_3), Sv.v (Value.bool f_4),
    Sv.v (Value.bool f_5)]])
    else
    bif
    knownV op &&
    (in32 v &&
    (decide (bitsL BinOp.and IntKind.u32 n 31 ≤ 31) && (decide (0 ≤ bitsL BinOp.and IntKind.u32 n 31) && true))) then
    bif op == 28 then
    bif in32 (shW op v (Int.toNat (bitsL BinOp.and IntKind.u32 n 31))) then
    bif op == 28 then
    bif op == 28 then
    some
    (Sv.tup
    [Sv.v (Value.int IntKind.u32 (shW op v (Int.toNat (bitsL BinOp.and IntKind.u32 n 31)))),
    Sv.agg
    [Sv.v (Value.bool (shC op v (Int.toNat (bitsL BinOp.and IntKind.u32 n 31)))),
    Sv.v (Value.bool (parV (cutV (shW op v (Int.toNat (bitsL BinOp.and IntKind.u32 n 31))) 4))),
    Sv.v (Value.bool (cutV (shW op v (Int.toNat (bitsL BinOp.and IntKind.u32 n 31))) 4 == 0)),
    Sv.v (Value.bool (topV (cutV (shW op v (Int.toNat (bitsL BinOp.and IntKind.u32 n 31))) 4) 4)),
    Sv.v
    (Value.bool
    !(Int.fdiv (shW op v (Int.toNat (bitsL BinOp.and IntKind.u32 n 31))) 2147483648 == 1) ==
    shC op v (Int.toNat (bitsL BinOp.and IntKind.u32 n 31))),
    Sv.v (Value.bool f_5)]])
    else
    bif op == 29 then
    some
    (Sv.tup
    [Sv.v (Value.int IntKind.u32 (shW op v (Int.toNat (bitsL BinOp.and IntKind.u32 n 31)))),
    Sv.agg
    [Sv.v (Value.bool (shC op v (Int.toNat (bitsL BinOp.and IntKind.u32 n 31)))),
    Sv.v (Value.bool (parV (cutV (shW op v (Int.toNat (bitsL BinOp.and IntKind.u32 n 31))) 4))),
    Sv.v (Value.bool (cutV (shW op v (Int.toNat (bitsL BinOp.and IntKind.u32 n 31))) 4 == 0)),
    Sv.v (Value.bool (topV (cutV (shW op v (Int.toNat (bitsL BinOp.and IntKind.u32 n 31))) 4) 4)),
    Sv.v (Value.bool (Int.fdiv v 2147483648 == 1)), Sv.v (Value.bool f_5)]])
    else
    bif op == 30 then
    some
    (Sv.tup
    [Sv.v (Value.int IntKind.u32 (shW op v (Int.toNat (bitsL BinOp.and IntKind.u32 n 31)))),
    Sv.agg
    [Sv.v (Value.bool (shC op v (Int.toNat (bitsL BinOp.and IntKind.u32 n 31)))),
    Sv.v (Value.bool (parV (cutV (shW op v (Int.toNat (bitsL BinOp.and IntKind.u32 n 31))) 4))),
    Sv.v (Value.bool (cutV (shW op v (Int.toNat (bitsL BinOp.and IntKind.u32 n 31))) 4 == 0)),
    Sv.v (Value.bool (topV (cutV (shW op v (Int.toNat (bitsL BinOp.and IntKind.u32 n 31))) 4) 4)), Sv.v (Value.bool false),
    Sv.v (Value.bool f_5)]])
    else
    some
    (Sv.tup
    [Sv.v (Value.int IntKind.u32 (shW op v (Int.toNat (bitsL BinOp.and IntKind.u32 n 31)))),
    Sv.agg
    [Sv.v (Value.bool (shC op v (Int.toNat (bitsL BinOp.and IntKind.u32 n 31)))),
    Sv.v (Value.bool (parV (cutV (shW op v (Int.toNat (bitsL BinOp.and IntKind.u32 n 31))) 4))),
    Sv.v (Value.bool (cutV (shW op v (Int.toNat (bitsL BinOp.and IntKind.u32 n 31))) 4 == 0)),
    Sv.v (Value.bool (topV (cutV (shW op v (Int.toNat (bitsL BinOp.and IntKind.u32 n 31))) 4) 4)),
    Sv.v
    (Value.bool
    (Int.fdiv (shW op v (Int.toNat (bitsL BinOp.and IntKind.u32 n 31))) 2147483648 !=
    bitsL BinOp.and IntKind.u32 (Int.fdiv (shW op v (Int.toNat (bitsL BinOp.and IntKind.u32 n 31))) 1073741824) 1)),
    Sv.v (Value.bool f_5)]])
    else
    bif op == 26 then
    some
    (Sv.tup
    [Sv.v (Value.int IntKind.u32 (shW op v (Int.toNat (bitsL BinOp.and IntKind.u32 n 31)))),
    Sv.agg
    [Sv.v (Value.bool (shC op v (Int.toNat (bitsL BinOp.and IntKind.u32 n 31)))),
    Sv.v (Value.bool (parV (cutV (shW op v (Int.toNat (bitsL BinOp.and IntKind.u32 n 31))) 4))),
    Sv.v (Value.bool (cutV (shW op v (Int.toNat (bitsL BinOp.and IntKind.u32 n 31))) 4 == 0)),
    Sv.v (Value.bool (topV (cutV (shW op v (Int.toNat (bitsL BinOp.and IntKind.u32 n 31))) 4) 4)),
    Sv.v
    (Value.bool
    !(Int.fdiv (shW op v (Int.toNat (bitsL BinOp.and IntKind.u32 n 31))) 2147483648 == 1) ==
    shC op v (Int.toNat (bitsL BinOp.and IntKind.u32 n 31))),
    Sv.v (Value.bool f_5)]])
    else
    bif op == 29 then
    some
    (Sv.tup
    [Sv.v (Value.int IntKind.u32 (shW op v (Int.toNat (bitsL BinOp.and IntKind.u32 n 31)))),
    Sv.agg
    [Sv.v (Value.bool (shC op v (Int.toNat (bitsL BinOp.and IntKind.u32 n 31)))),
    Sv.v (Value.bool (parV (cutV (shW op v (Int.toNat (bitsL BinOp.and IntKind.u32 n 31))) 4))),
    Sv.v (Value.bool (cutV (shW op v (Int.toNat (bitsL BinOp.and IntKind.u32 n 31))) 4 == 0)),
    Sv.v (Value.bool (topV (cutV (shW op v (Int.toNat (bitsL BinOp.and IntKind.u32 n 31))) 4) 4)),
    Sv.v (Value.bool (Int.fdiv v 2147483648 == 1)), Sv.v (Value.bool f_5)]])
    else
    bif op == 30 then
    some
    (Sv.tup
    [Sv.v (Value.int IntKind.u32 (shW op v (Int.toNat (bitsL BinOp.and IntKind.u32 n 31)))),
    Sv.agg
    [Sv.v (Value.bool (shC op v (Int.toNat (bitsL BinOp.and IntKind.u32 n 31)))),
    Sv.v (Value.bool (parV (cutV (shW op v (Int.toNat (bitsL BinOp.and IntKind.u32 n 31))) 4))),
    Sv.v (Value.bool (cutV (shW op v (Int.toNat (bitsL BinOp.and IntKind.u32 n 31))) 4 == 0)),
    Sv.v (Value.bool (topV (cutV (shW op v (Int.toNat (bitsL BinOp.and IntKind.u32 n 31))) 4) 4)), Sv.v (Value.bool false),
    Sv.v (Value.bool f_5)]])
    else
    some
    (Sv.tup
    [Sv.v (Value.int IntKind.u32 (shW op v (Int.toNat (bitsL BinOp.and IntKind.u32 n 31)))),
    Sv.agg
    [Sv.v (Value.bool (shC op v (Int.toNat (bitsL BinOp.and IntKind.u32 n 31)))),
    Sv.v (Value.bool (parV (cutV (shW op v (Int.toNat (bitsL BinOp.and IntKind.u32 n 31))) 4))),
    Sv.v (Value.bool (cutV (shW op v (Int.toNat (bitsL BinOp.and IntKind.u32 n 31))) 4 == 0)),
    Sv.v (Value.bool (topV (cutV (shW op v (Int.toNat (bitsL BinOp.and IntKind.u32 n 31))) 4) 4)),
    Sv.v
    (Value.bool
    (Int.fdiv (shW op v (Int.toNat (bitsL BinOp.and IntKind.u32 n 31))) 2147483648 !=
    bitsL BinOp.and IntKind.u32 (Int.fdiv (shW op v (Int.toNat (bitsL BinOp.and IntKind.u32 n 31))) 1073741824) 1)),
    Sv.v (Value.bool f_5)]])
    else none
    else
    bif op == 29 then
    bif in32 (shW op v (Int.toNat (bitsL BinOp.and IntKind.u32 n 31))) then
    bif op == 28 then
    bif op == 28 then
    some
    (Sv.tup
    [Sv.v (Value.int IntKind.u32 (shW op v (Int.toNat (bitsL BinOp.and IntKind.u32 n 31)))),
    Sv.agg
    [Sv.v (Value.bool (shC op v (Int.toNat (bitsL BinOp.and IntKind.u32 n 31)))),
    Sv.v (Value.bool (parV (cutV (shW op v (Int.toNat (bitsL BinOp.and IntKind.u32 n 31))) 4))),
    Sv.v (Value.bool (cutV (shW op v (Int.toNat (bitsL BinOp.and IntKind.u32 n 31))) 4 == 0)),
    Sv.v (Value.bool (topV (cutV (shW op v (Int.toNat (bitsL BinOp.and IntKind.u32 n 31))) 4) 4)),
    Sv.v
    (Value.bool
    !(Int.fdiv (shW op v (Int.toNat (bitsL BinOp.and IntKind.u32 n 31))) 2147483648 == 1) ==
    shC op v (Int.toNat (bitsL BinOp.and IntKind.u32 n 31))),
    Sv.v (Value.bool f_5)]])
    else
    bif op == 29 then
    some
    (Sv.tup
    [Sv.v (Value.int IntKind.u32 (shW op v (Int.toNat (bitsL BinOp.and IntKind.u32 n 31)))),
    Sv.agg
    [Sv.v (Value.bool (shC op v (Int.toNat (bitsL BinOp.and IntKind.u32 n 31)))),
    Sv.v (Value.bool (parV (cutV (shW op v (Int.toNat (bitsL BinOp.and IntKind.u32 n 31))) 4))),
    Sv.v (Value.bool (cutV (shW op v (Int.toNat (bitsL BinOp.and IntKind.u32 n 31))) 4 == 0)),
    Sv.v (Value.bool (topV (cutV (shW op v (Int.toNat (bitsL BinOp.and IntKind.u32 n 31))) 4) 4)),
    Sv.v (Value.bool (Int.fdiv v 2147483648 == 1)), Sv.v (Value.bool f_5)]])
    else
    bif op == 30 then
    some
    (Sv.tup
    [Sv.v (Value.int IntKind.u32 (shW op v (Int.toNat (bitsL BinOp.and IntKind.u32 n 31)))),
    Sv.agg
    [Sv.v (Value.bool (shC op v (Int.toNat (bitsL BinOp.and IntKind.u32 n 31)))),
    Sv.v (Value.bool (parV (cutV (shW op v (Int.toNat (bitsL BinOp.and IntKind.u32 n 31))) 4))),
    Sv.v (Value.bool (cutV (shW op v (Int.toNat (bitsL BinOp.and IntKind.u32 n 31))) 4 == 0)),
    Sv.v (Value.bool (topV (cutV (shW op v (Int.toNat (bitsL BinOp.and IntKind.u32 n 31))) 4) 4)), Sv.v (Value.bool false),
    Sv.v (Value.bool f_5)]])
    else
    some
    (Sv.tup
    [Sv.v (Value.int IntKind.u32 (shW op v (Int.toNat (bitsL BinOp.and IntKind.u32 n 31)))),
    Sv.agg
    [Sv.v (Value.bool (shC op v (Int.toNat (bitsL BinOp.and IntKind.u32 n 31)))),
    Sv.v (Value.bool (parV (cutV (shW op v (Int.toNat (bitsL BinOp.and IntKind.u32 n 31))) 4))),
    Sv.v (Value.bool (cutV (shW op v (Int.toNat (bitsL BinOp.and IntKind.u32 n 31))) 4 == 0)),
    Sv.v (Value.bool (topV (cutV (shW op v (Int.toNat (bitsL BinOp.and IntKind.u32 n 31))) 4) 4)),
    Sv.v
    (Value.bool
    (Int.fdiv (shW op v (Int.toNat (bitsL BinOp.and IntKind.u32 n 31))) 2147483648 !=
    bitsL BinOp.and IntKind.u32 (Int.fdiv (shW op v (Int.toNat (bitsL BinOp.and IntKind.u32 n 31))) 1073741824) 1)),
    Sv.v (Value.bool f_5)]])
    else
    bif op == 26 then
    some
    (Sv.tup
    [Sv.v (Value.int IntKind.u32 (shW op v (Int.toNat (bitsL BinOp.and IntKind.u32 n 31)))),
    Sv.agg
    [Sv.v (Value.bool (shC op v (Int.toNat (bitsL BinOp.and IntKind.u32 n 31)))),
    Sv.v (Value.bool (parV (cutV (shW op v (Int.toNat (bitsL BinOp.and IntKind.u32 n 31))) 4))),
    Sv.v (Value.bool (cutV (shW op v (Int.toNat (bitsL BinOp.and IntKind.u32 n 31))) 4 == 0)),
    Sv.v (Value.bool (topV (cutV (shW op v (Int.toNat (bitsL BinOp.and IntKind.u32 n 31))) 4) 4)),
    Sv.v
    (Value.bool
    !(Int.fdiv (shW op v (Int.toNat (bitsL BinOp.and IntKind.u32 n 31))) 2147483648 == 1) ==
    shC op v (Int.toNat (bitsL BinOp.and IntKind.u32 n 31))),
    Sv.v (Value.bool f_5)]])
    else
    bif op == 29 then
    some
    (Sv.tup
    [Sv.v (Value.int IntKind.u32 (shW op v (Int.toNat (bitsL BinOp.and IntKind.u32 n 31)))),
    Sv.agg
    [Sv.v (Value.bool (shC op v (Int.toNat (bitsL BinOp.and IntKind.u32 n 31)))),
    Sv.v (Value.bool (parV (cutV (shW op v (Int.toNat (bitsL BinOp.and IntKind.u32 n 31))) 4))),
    Sv.v (Value.bool (cutV (shW op v (Int.toNat (bitsL BinOp.and IntKind.u32 n 31))) 4 == 0)),
    Sv.v (Value.bool (topV (cutV (shW op v (Int.toNat (bitsL BinOp.and IntKind.u32 n 31))) 4) 4)),
    Sv.v (Value.bool (Int.fdiv v 2147483648 == 1)), Sv.v (Value.bool f_5)]])
    else
    bif op == 30 then
    some
    (Sv.tup
    [Sv.v (Value.int IntKind.u32 (shW op v (Int.toNat (bitsL BinOp.and IntKind.u32 n 31)))),
    Sv.agg
    [Sv.v (Value.bool (shC op v (Int.toNat (bitsL BinOp.and IntKind.u32 n 31)))),
    Sv.v (Value.bool (parV (cutV (shW op v (Int.toNat (bitsL BinOp.and IntKind.u32 n 31))) 4))),
    Sv.v (Value.bool (cutV (shW op v (Int.toNat (bitsL BinOp.and IntKind.u32 n 31))) 4 == 0)),
    Sv.v (Value.bool (topV (cutV (shW op v (Int.toNat (bitsL BinOp.and IntKind.u32 n 31))) 4) 4)), Sv.v (Value.bool false),
    Sv.v (Value.bool f_5)]])
    else
    some
    (Sv.tup
    [Sv.v (Value.int IntKind.u32 (shW op v (Int.toNat (bitsL BinOp.and IntKind.u32 n 31)))),
    Sv.agg
    [Sv.v (Value.bool (shC op v (Int.toNat (bitsL BinOp.and IntKind.u32 n 31)))),
    Sv.v (Value.bool (parV (cutV (shW op v (Int.toNat (bitsL BinOp.and IntKind.u32 n 31))) 4))),
    Sv.v (Value.bool (cutV (shW op v (Int.toNat (bitsL BinOp.and IntKind.u32 n 31))) 4 == 0)),
    Sv.v (Value.bool (topV (cutV (shW op v (Int.toNat (bitsL BinOp.and IntKind.u32 n 31))) 4) 4)),
    Sv.v
    (Value.bool
    (Int.fdiv (shW op v (Int.toNat (bitsL BinOp.and IntKind.u32 n 31))) 2147483648 !=
    bitsL BinOp.and IntKind.u32 (Int.fdiv (shW op v (Int.toNat (bitsL BinOp.and IntKind.u32 n 31))) 1073741824) 1)),
    Sv.v (Value.bool f_5)]])
    else none
    else
    bif op == 30 then
    bif in32 (shW op v (Int.toNat (bitsL BinOp.and IntKind.u32 n 31))) then
    bif op == 28 then
    bif op == 28 then
    some
    (Sv.tup
    [Sv.v (Value.int IntKind.u32 (shW op v (Int.toNat (bitsL BinOp.and IntKind.u32 n 31)))),
    Sv.agg
    [Sv.v (Value.bool (shC op v (Int.toNat (bitsL BinOp.and IntKind.u32 n 31)))),
    Sv.v (Value.bool (parV (cutV (shW op v (Int.toNat (bitsL BinOp.and IntKind.u32 n 31))) 4))),
    Sv.v (Value.bool (cutV (shW op v (Int.toNat (bitsL BinOp.and IntKind.u32 n 31))) 4 == 0)),
    Sv.v (Value.bool (topV (cutV (shW op v (Int.toNat (bitsL BinOp.and IntKind.u32 n 31))) 4) 4)),
    Sv.v
    (Value.bool
    !(Int.fdiv (shW op v (Int.toNat (bitsL BinOp.and IntKind.u32 n 31))) 2147483648 == 1) ==
    shC op v (Int.toNat (bitsL BinOp.and IntKind.u32 n 31))),
    Sv.v (Value.bool f_5)]])
    else
    bif op == 29 then
    some
    (Sv.tup
    [Sv.v (Value.int IntKind.u32 (shW op v (Int.toNat (bitsL BinOp.and IntKind.u32 n 31)))),
    Sv.agg
    [Sv.v (Value.bool (shC op v (Int.toNat (bitsL BinOp.and IntKind.u32 n 31)))),
    Sv.v (Value.bool (parV (cutV (shW op v (Int.toNat (bitsL BinOp.and IntKind.u32 n 31))) 4))),
    Sv.v (Value.bool (cutV (shW op v (Int.toNat (bitsL BinOp.and IntKind.u32 n 31))) 4 == 0)),
    Sv.v (Value.bool (topV (cutV (shW op v (Int.toNat (bitsL BinOp.and IntKind.u32 n 31))) 4) 4)),
    Sv.v (Value.bool (Int.fdiv v 2147483648 == 1)), Sv.v (Value.bool f_5)]])
    else
    bif op == 30 then
    some
    (Sv.tup
    [Sv.v (Value.int IntKind.u32 (shW op v (Int.toNat (bitsL BinOp.and IntKind.u32 n 31)))),
    Sv.agg
    [Sv.v (Value.bool (shC op v (Int.toNat (bitsL BinOp.and IntKind.u32 n 31)))),
    Sv.v (Value.bool (parV (cutV (shW op v (Int.toNat (bitsL BinOp.and IntKind.u32 n 31))) 4))),
    Sv.v (Value.bool (cutV (shW op v (Int.toNat (bitsL BinOp.and IntKind.u32 n 31))) 4 == 0)),
    Sv.v (Value.bool (topV (cutV (shW op v (Int.toNat (bitsL BinOp.and IntKind.u32 n 31))) 4) 4)), Sv.v (Value.bool false),
    Sv.v (Value.bool f_5)]])
    else
    some
    (Sv.tup
    [Sv.v (Value.int IntKind.u32 (shW op v (Int.toNat (bitsL BinOp.and IntKind.u32 n 31)))),
    Sv.agg
    [Sv.v (Value.bool (shC op v (Int.toNat (bitsL BinOp.and IntKind.u32 n 31)))),
    Sv.v (Value.bool (parV (cutV (shW op v (Int.toNat (bitsL BinOp.and IntKind.u32 n 31))) 4))),
    Sv.v (Value.bool (cutV (shW op v (Int.toNat (bitsL BinOp.and IntKind.u32 n 31))) 4 == 0)),
    Sv.v (Value.bool (topV (cutV (shW op v (Int.toNat (bitsL BinOp.and IntKind.u32 n 31))) 4) 4)),
    Sv.v
    (Value.bool
    (Int.fdiv (shW op v (Int.toNat (bitsL BinOp.and IntKind.u32 n 31))) 2147483648 !=
    bitsL BinOp.and IntKind.u32 (Int.fdiv (shW op v (Int.toNat (bitsL BinOp.and IntKind.u32 n 31))) 1073741824) 1)),
    Sv.v (Value.bool f_5)]])
    else
    bif op == 26 then
    some
    (Sv.tup
    [Sv.v (Value.int IntKind.u32 (shW op v (Int.toNat (bitsL BinOp.and IntKind.u32 n 31)))),
    Sv.agg
    [Sv.v (Value.bool (shC op v (Int.toNat (bitsL BinOp.and IntKind.u32 n 31)))),
    Sv.v (Value.bool (parV (cutV (shW op v (Int.toNat (bitsL BinOp.and IntKind.u32 n 31))) 4))),
    Sv.v (Value.bool (cutV (shW op v (Int.toNat (bitsL BinOp.and IntKind.u32 n 31))) 4 == 0)),
    Sv.v (Value.bool (topV (cutV (shW op v (Int.toNat (bitsL BinOp.and IntKind.u32 n 31))) 4) 4)),
    Sv.v
    (Value.bool
    !(Int.fdiv (shW op v (Int.toNat (bitsL BinOp.and IntKind.u32 n 31))) 2147483648 == 1) ==
    shC op v (Int.toNat (bitsL BinOp.and IntKind.u32 n 31))),
    Sv.v (Value.bool f_5)]])
    else
    bif op == 29 then
    some
    (Sv.tup
    [Sv.v (Value.int IntKind.u32 (shW op v (Int.toNat (bitsL BinOp.and IntKind.u32 n 31)))),
    Sv.agg
    [Sv.v (Value.bool (shC op v (Int.toNat (bitsL BinOp.and IntKind.u32 n 31)))),
    Sv.v (Value.bool (parV (cutV (shW op v (Int.toNat (bitsL BinOp.and IntKind.u32 n 31))) 4))),
    Sv.v (Value.bool (cutV (shW op v (Int.toNat (bitsL BinOp.and IntKind.u32 n 31))) 4 == 0)),
    Sv.v (Value.bool (topV (cutV (shW op v (Int.toNat (bitsL BinOp.and IntKind.u32 n 31))) 4) 4)),
    Sv.v (Value.bool (Int.fdiv v 2147483648 == 1)), Sv.v (Value.bool f_5)]])
    else
    bif op == 30 then
    some
    (Sv.tup
    [Sv.v (Value.int IntKind.u32 (shW op v (Int.toNat (bitsL BinOp.and IntKind.u32 n 31)))),
    Sv.agg
    [Sv.v (Value.bool (shC op v (Int.toNat (bitsL BinOp.and IntKind.u32 n 31)))),
    Sv.v (Value.bool (parV (cutV (shW op v (Int.toNat (bitsL BinOp.and IntKind.u32 n 31))) 4))),
    Sv.v (Value.bool (cutV (shW op v (Int.toNat (bitsL BinOp.and IntKind.u32 n 31))) 4 == 0)),
    Sv.v (Value.bool (topV (cutV (shW op v (Int.toNat (bitsL BinOp.and IntKind.u32 n 31))) 4) 4)), Sv.v (Value.bool false),
    Sv.v (Value.bool f_5)]])
    else
    some
    (Sv.tup
    [Sv.v (Value.int IntKind.u32 (shW op v (Int.toNat (bitsL BinOp.and IntKind.u32 n 31)))),
    Sv.agg
    [Sv.v (Value.bool (shC op v (Int.toNat (bitsL BinOp.and IntKind.u32 n 31)))),
    Sv.v (Value.bool (parV (cutV (shW op v (Int.toNat (bitsL BinOp.and IntKind.u32 n 31))) 4))),
    Sv.v (Value.bool (cutV (shW op v (Int.toNat (bitsL BinOp.and IntKind.u32 n 31))) 4 == 0)),
    Sv.v (Value.bool (topV (cutV (shW op v (Int.toNat (bitsL BinOp.and IntKind.u32 n 31))) 4) 4)),
    Sv.v
    (Value.bool
    (Int.fdiv (shW op v (Int.toNat (bitsL BinOp.and IntKind.u32 n 31))) 2147483648 !=
    bitsL BinOp.and IntKind.u32 (Int.fdiv (shW op v (Int.toNat (bitsL BinOp.and IntKind.u32 n 31))) 1073741824) 1)),
    Sv.v (Value.bool f_5)]])
    else none
    else
    bif op == 28 then
    bif op == 28 then
    some
    (Sv.tup
    [Sv.v (Value.int IntKind.u32 (shW op v (Int.toNat (bitsL BinOp.and IntKind.u32 n 31)))),
    Sv.agg
    [Sv.v (Value.bool (shC op v (Int.toNat (bitsL BinOp.and IntKind.u32 n 31)))), Sv.v (Value.bool f_1),
    Sv.v (Value.bool f_2), Sv.v (Value.bool f_3),
    Sv.v
    (Value.bool
    !(Int.fdiv (shW op v (Int.toNat (bitsL BinOp.and IntKind.u32 n 31))) 2147483648 == 1) ==
    shC op v (Int.toNat (bitsL BinOp.and IntKind.u32 n 31))),
    Sv.v (Value.bool f_5)]])
    else
    bif op == 29 then
    some
    (Sv.tup
    [Sv.v (Value.int IntKind.u32 (shW op v (Int.toNat (bitsL BinOp.and IntKind.u32 n 31)))),
    Sv.agg
    [Sv.v (Value.bool (shC op v (Int.toNat (bitsL BinOp.and IntKind.u32 n 31)))), Sv.v (Value.bool f_1),
    Sv.v (Value.bool f_2), Sv.v (Value.bool f_3), Sv.v (Value.bool (Int.fdiv v 2147483648 == 1)), Sv.v (Value.bool f_5)]])
    else
    bif op == 30 then
    some
    (Sv.tup
    [Sv.v (Value.int IntKind.u32 (shW op v (Int.toNat (bitsL BinOp.and IntKind.u32 n 31)))),
    Sv.agg
    [Sv.v (Value.bool (shC op v (Int.toNat (bitsL BinOp.and IntKind.u32 n 31)))), Sv.v (Value.bool f_1),
    Sv.v (Value.bool f_2), Sv.v (Value.bool f_3), Sv.v (Value.bool false), Sv.v (Value.bool f_5)]])
    else
    some
    (Sv.tup
    [Sv.v (Value.int IntKind.u32 (shW op v (Int.toNat (bitsL BinOp.and IntKind.u32 n 31)))),
    Sv.agg
    [Sv.v (Value.bool (shC op v (Int.toNat (bitsL BinOp.and IntKind.u32 n 31)))), Sv.v (Value.bool f_1),
    Sv.v (Value.bool f_2), Sv.v (Value.bool f_3),
    Sv.v
    (Value.bool
    (Int.fdiv (shW op v (Int.toNat (bitsL BinOp.and IntKind.u32 n 31))) 2147483648 !=
    bitsL BinOp.and IntKind.u32 (Int.fdiv (shW op v (Int.toNat (bitsL BinOp.and IntKind.u32 n 31))) 1073741824) 1)),
    Sv.v (Value.bool f_5)]])
    else
    bif op == 26 then
    some
    (Sv.tup
    [Sv.v (Value.int IntKind.u32 (shW op v (Int.toNat (bitsL BinOp.and IntKind.u32 n 31)))),
    Sv.agg
    [Sv.v (Value.bool (shC op v (Int.toNat (bitsL BinOp.and IntKind.u32 n 31)))), Sv.v (Value.bool f_1),
    Sv.v (Value.bool f_2), Sv.v (Value.bool f_3),
    Sv.v
    (Value.bool
    !(Int.fdiv (shW op v (Int.toNat (bitsL BinOp.and IntKind.u32 n 31))) 2147483648 == 1) ==
    shC op v (Int.toNat (bitsL BinOp.and IntKind.u32 n 31))),
    Sv.v (Value.bool f_5)]])
    else
    bif op == 29 then
    some
    (Sv.tup
    [Sv.v (Value.int IntKind.u32 (shW op v (Int.toNat (bitsL BinOp.and IntKind.u32 n 31)))),
    Sv.agg
    [Sv.v (Value.bool (shC op v (Int.toNat (bitsL BinOp.and IntKind.u32 n 31)))), Sv.v (Value.bool f_1),
    Sv.v (Value.bool f_2), Sv.v (Value.bool f_3), Sv.v (Value.bool (Int.fdiv v 2147483648 == 1)), Sv.v (Value.bool f_5)]])
    else
    bif op == 30 then
    some
    (Sv.tup
    [Sv.v (Value.int IntKind.u32 (shW op v (Int.toNat (bitsL BinOp.and IntKind.u32 n 31)))),
    Sv.agg
    [Sv.v (Value.bool (shC op v (Int.toNat (bitsL BinOp.and IntKind.u32 n 31)))), Sv.v (Value.bool f_1),
    Sv.v (Value.bool f_2), Sv.v (Value.bool f_3), Sv.v (Value.bool false), Sv.v (Value.bool f_5)]])
    else
    some
    (Sv.tup
    [Sv.v (Value.int IntKind.u32 (shW op v (Int.toNat (bitsL BinOp.and IntKind.u32 n 31)))),
    Sv.agg
    [Sv.v (Value.bool (shC op v (Int.toNat (bitsL BinOp.and IntKind.u32 n 31)))), Sv.v (Value.bool f_1),
    Sv.v (Value.bool f_2), Sv.v (Value.bool f_3),
    Sv.v
    (Value.bool
    (Int.fdiv (shW op v (Int.toNat (bitsL BinOp.and IntKind.u32 n 31))) 2147483648 !=
    bitsL BinOp.and IntKind.u32 (Int.fdiv (shW op v (Int.toNat (bitsL BinOp.and IntKind.u32 n 31))) 1073741824) 1)),
    Sv.v (Value.bool f_5)]])
    else none) := by kernel_rfl
theorem rshift_nice (op : Int) (f_0 : Bool) (f_1 : Bool) (f_2 : Bool) (f_3 : Bool) (f_4 : Bool) (f_5 : Bool) (v : Int) (n : Int) (hg : (in32 v && (in32 n)) = true) :
    evF Try.prog ΓSh2 400 31 [.v (.int .i64 op), .agg [.v (.bool f_0), .v (.bool f_1), .v (.bool f_2), .v (.bool f_3), .v (.bool f_4), .v (.bool f_5)], .v (.int .u32 v), .v (.int .u32 n)] [] (fun x _ => some x) (fun _ _ => none) = some (.tup [.v (.int .u32 (rV op v n)), .agg [.v (.bool (rC op v n f_0)), .v (.bool (rP op v n f_1)), .v (.bool (rZ op v n f_2)), .v (.bool (rS op v n f_3)), .v (.bool (rO op v n f_4)), .v (.bool f_5)]]) := by
  rw [rshift_form]
  try simp only [bitsL_eq]
  simp only [Bool.and_eq_true, in32_iff] at hg
  obtain ⟨⟨h0, h1⟩, n0, n1⟩ := hg
  have en : bits BinOp.and IntKind.u32 n 31 = n % 32 := and_mask31 n0 n1
  have gi : (knownV op && (in32 v && (decide (n % 32 ≤ 31) && (decide (0 ≤ n % 32) && true)))) = knownV op := by
    have e1 : decide (n % 32 ≤ 31) = true := decide_eq_true (by omega)
    have e2 : decide (0 ≤ n % 32) = true := decide_eq_true (by omega)
    rw [e1, e2, in32_iff.2 ⟨h0, h1⟩]; simp
  rw [en, shK_toNat, gi]
  have kl := shK_lt n
  by_cases hz : n % 32 = 0
  · have hz' : (n % 32 == 0) = true := by rw [hz]; rfl
    have hoff : shOn op n = false := by simp [shOn, hz']
    obtain ⟨r1, r2, r3, r4, r5, r6⟩ := r_off (v := v) hoff f_0 f_1 f_2 f_3 f_4
    rw [hz', cond_true, r1, r2, r3, r4, r5, r6]
  have hz' : (n % 32 == 0) = false := by simpa using hz
  rw [hz', cond_false]
  cases ho : knownV op with
  | false =>
    have hoff : shOn op n = false := by simp [shOn, ho]
    obtain ⟨r1, r2, r3, r4, r5, r6⟩ := r_off (v := v) hoff f_0 f_1 f_2 f_3 f_4
    rw [Bool.not_false, cond_true, r1, r2, r3, r4, r5, r6]
  | true =>
  have hon : shOn op n = true := by simp [shOn, ho, hz']
  have hk0 : 0 < shK n := by have := shK_eq n; omega
  have hw := sh_bd ho h0 h1 (shK n) kl
  have hwi := in32_iff.2 hw
  obtain ⟨r1, r2, r6⟩ := r_on (v := v) hon f_0 f_1 f_2 f_3 f_4
  rw [r1, r2, r6, Bool.not_true, cond_false]
  have lit : ((28 : Int) == 28) = true ∧ ((29 : Int) == 28) = false ∧ ((29 : Int) == 29) = true ∧ ((29 : Int) == 26) = false ∧ ((30 : Int) == 28) = false ∧ ((30 : Int) == 29) = false ∧ ((30 : Int) == 30) = true ∧ ((30 : Int) == 26) = false ∧ ((26 : Int) == 28) = false ∧ ((26 : Int) == 29) = false ∧ ((26 : Int) == 30) = false ∧ ((26 : Int) == 26) = true ∧
    ((27 : Int) == 28) = false ∧ ((27 : Int) == 29) = false ∧ ((27 : Int) == 30) = false ∧ ((27 : Int) == 26) = false := by decide
  obtain ⟨l1, l2, l3, l4, l5, l6, l7, l8, l9, l10, l11, l12, l13, l14, l15, l16⟩ := lit
  rw [cond_true]
  rcases knownV_cases ho with rfl | rfl | rfl | rfl | rfl
  · obtain ⟨r3, r4, r5⟩ := r_on3 (v := v) hon (by decide) f_1 f_2 f_3
    rw [r3, r4, r5]
    simp only [l1, cond_true, hwi, cut4 hw.1 hw.2, top4 hw.1 hw.2, fdiv31, b31_div hw.1 hw.2]; rfl
  · obtain ⟨r3, r4, r5⟩ := r_on3 (v := v) hon (by decide) f_1 f_2 f_3
    rw [r3, r4, r5]
    simp only [l2, l3, l4, cond_true, cond_false, hwi, cut4 hw.1 hw.2, top4 hw.1 hw.2, fdiv31, b31_div h0 h1]; rfl
  · obtain ⟨r3, r4, r5⟩ := r_on3 (v := v) hon (by decide) f_1 f_2 f_3
    rw [r3, r4, r5]
    simp only [l5, l6, l7, l8, cond_true, cond_false, hwi, cut4 hw.1 hw.2, top4 hw.1 hw.2]; rfl
  · obtain ⟨r3, r4, r5⟩ := r_on0 (v := v) (n := n) (op := 26) (by decide) f_1 f_2 f_3
    rw [r3, r4, r5]
    simp only [l9, l10, l11, l12, cond_true, cond_false, fdiv31, b31_div hw.1 hw.2]; rfl
  · obtain ⟨r3, r4, r5⟩ := r_on0 (v := v) (n := n) (op := 27) (by decide) f_1 f_2 f_3
    rw [r3, r4, r5]
    have hd : 0 ≤ shW 27 v (shK n) / 1073741824 ∧ shW 27 v (shK n) / 1073741824 < 4294967296 := by omega
    simp only [l13, l14, l15, l16, cond_true, cond_false, fdiv31, fdiv30, and_1 hd.1 hd.2]
    rw [neq01 (by omega) (by omega), b31_div hw.1 hw.2]; rfl
def rshiftS : Nice := fun R args kv => match args with
  | [.v (.int .i64 op), .agg [.v (.bool f_0), .v (.bool f_1), .v (.bool f_2), .v (.bool f_3), .v (.bool f_4), .v (.bool f_5)], .v (.int .u32 v), .v (.int .u32 n)] => bif in32 v && (in32 n) then kv (.tup [.v (.int .u32 (rV op v n)), .agg [.v (.bool (rC op v n f_0)), .v (.bool (rP op v n f_1)), .v (.bool (rZ op v n f_2)), .v (.bool (rS op v n f_3)), .v (.bool (rO op v n f_4)), .v (.bool f_5)]]) else none
  | _ => none
theorem rshiftS_ok : NiceOk Try.prog ΓSh2 400 31 rshiftS := by
  intro R args kv r h
  unfold rshiftS at h
  split at h
  · obtain ⟨hg, h⟩ := cond_some h
    exact ⟨_, h, rfl, rfl, rshift_nice _ _ _ _ _ _ _ _ _ hg⟩
  · cases h
theorem shift_form (op : Int) (f_0 : Bool) (f_1 : Bool) (f_2 : Bool) (f_3 : Bool) (f_4 : Bool) (f_5 : Bool) (v : Int) (n : Int) :
    evF Try.prog ΓSh2 400 30 [.v (.int .i64 op), .agg [.v (.bool f_0), .v (.bool f_1), .v (.bool f_2), .v (.bool f_3), .v (.bool f_4), .v (.bool f_5)], .v (.int .u32 v), .v (.int .u32 n)] [] (fun x _ => some x) (fun _ _ => none) =
    (bif IntKind.wrap IntKind.u64 (bitsL BinOp.and IntKind.u32 n 31) == 0 then
    some
    (Sv.tup
    [Sv.v (Value.int IntKind.u32 v),
    Sv.agg
    [Sv.v (Value.bool f_0), Sv.v (Value.bool f_1), Sv.v (Value.bool f_2), Sv.v (Value.bool f_3), Sv.v (Value.bool f_4),
    Sv.v (Value.bool f_5)]])
    else
    bif !knownV op then
    some
    (Sv.tup
    [Sv.v (Value.int IntKind.u32 v),
    Sv.agg
    [Sv.v (Value.bool f_0), Sv.v (Value.bool f_1), Sv.v (Value.bool f_2), Sv.v (Value.bool f_3), Sv.v (Value.bool f_4),
    Sv.v (Value.bool f_5)]])
    else
    bif op == 28 then
    bif decide (0 ≤ IntKind.wrap IntKind.u64 (bitsL BinOp.and IntKind.u32 n 31)) then
    bif decide (0 ≤ IntKind.wrap IntKind.u64 (32 - IntKind.wrap IntKind.u64 (bitsL BinOp.and IntKind.u32 n 31))) then
    bif
    in32
    (IntKind.wrap IntKind.u32
    (v * 2 ^ min (Int.toNat (IntKind.wrap IntKind.u64 (bitsL BinOp.and IntKind.u32 n 31))) 32)) then
    some
    (Sv.tup
    [Sv.v
    (Value.int IntKind.u32
    (cutV
    (IntKind.wrap IntKind.u32 (v * 2 ^ min (Int.toNat (IntKind.wrap IntKind.u64 (bitsL BinOp.and IntKind.u32 n 31))) 32))
    4)),
    Sv.agg
    [Sv.v
    (Value.bool
    (bitsL BinOp.and IntKind.u32
    (Int.fdiv v
    (2 ^ min (Int.toNat (IntKind.wrap IntKind.u64 (32 - IntKind.wrap IntKind.u64 (bitsL BinOp.and IntKind.u32 n 31)))) 32))
    1 ==
    1)),
    Sv.v
    (Value.bool
    (parV
    (cutV
    (IntKind.wrap IntKind.u32 (v * 2 ^ min (Int.toNat (IntKind.wrap IntKind.u64 (bitsL BinOp.and IntKind.u32 n 31))) 32))
    4))),
    Sv.v
    (Value.bool
    (cutV
    (IntKind.wrap IntKind.u32 (v * 2 ^ min (Int.toNat (IntKind.wrap IntKind.u64 (bitsL BinOp.and IntKind.u32 n 31))) 32))
    4 ==
    0)),
    Sv.v
    (Value.bool
    (topV
    (cutV
    (IntKind.wrap IntKind.u32 (v * 2 ^ min (Int.toNat (IntKind.wrap IntKind.u64 (bitsL BinOp.and IntKind.u32 n 31))) 32)) 4)
    4)),
    Sv.v
    (Value.bool
    !(bitsL BinOp.and IntKind.u32
    (Int.fdiv
    (IntKind.wrap IntKind.u32 (v * 2 ^ min (Int.toNat (IntKind.wrap IntKind.u64 (bitsL BinOp.and IntKind.u32 n 31))) 32))
    2147483648)
    1 ==
    1) ==
    (bitsL BinOp.and IntKind.u32
    (Int.fdiv v
    (2 ^ min (Int.toNat (IntKind.wrap IntKind.u64 (32 - IntKind.wrap IntKind.u64 (bitsL BinOp.and IntKind.u32 n 31)))) 32))
    1 ==
    1)),
    Sv.v (Value.bool f_5)]])
    else none
    else none
    else none
    else
    bif op == 29 then
    bif decide (0 ≤ IntKind.wrap IntKind.u64 (bitsL BinOp.and IntKind.u32 n 31)) then
    bif decide (0 ≤ IntKind.wrap IntKind.u64 (IntKind.wrap IntKind.u64 (bitsL BinOp.and IntKind.u32 n 31) - 1)) then
    bif in32 (Int.fdiv v (2 ^ min (Int.toNat (IntKind.wrap IntKind.u64 (bitsL BinOp.and IntKind.u32 n 31))) 32)) then
    some
    (Sv.tup
    [Sv.v
    (Value.int IntKind.u32
    (cutV (Int.fdiv v (2 ^ min (Int.toNat (IntKind.wrap IntKind.u64 (bitsL BinOp.and IntKind.u32 n 31))) 32)) 4)),
    Sv.agg
    [Sv.v
    (Value.bool
    (bitsL BinOp.and IntKind.u32
    (Int.fdiv v
    (2 ^ min (Int.toNat (IntKind.wrap IntKind.u64 (IntKind.wrap IntKind.u64 (bitsL BinOp.and IntKind.u32 n 31) - 1))) 32))
    1 ==
    1)),
    Sv.v
    (Value.bool
    (parV (cutV (Int.fdiv v (2 ^ min (Int.toNat (IntKind.wrap IntKind.u64 (bitsL BinOp.and IntKind.u32 n 31))) 32)) 4))),
    Sv.v
    (Value.bool
    (cutV (Int.fdiv v (2 ^ min (Int.toNat (IntKind.wrap IntKind.u64 (bitsL BinOp.and IntKind.u32 n 31))) 32)) 4 == 0)),
    Sv.v
    (Value.bool
    (topV (cutV (Int.fdiv v (2 ^ min (Int.toNat (IntKind.wrap IntKind.u64 (bitsL BinOp.and IntKind.u32 n 31))) 32)) 4) 4)),
    Sv.v (Value.bool (bitsL BinOp.and IntKind.u32 (Int.fdiv v 2147483648) 1 == 1)), Sv.v (Value.bool f_5)]])
    else none
    else none
    else none
    else
    bif op == 30 then
    bif decide (0 ≤ IntKind.wrap IntKind.u64 (bitsL BinOp.and IntKind.u32 n 31)) then
    bif decide (0 ≤ IntKind.wrap IntKind.u64 (IntKind.wrap IntKind.u64 (bitsL BinOp.and IntKind.u32 n 31) - 1)) then
    bif
    in32
    (IntKind.wrap IntKind.u32
    (Int.fdiv (IntKind.wrap IntKind.i32 v)
    (2 ^ min (Int.toNat (IntKind.wrap IntKind.u64 (bitsL BinOp.and IntKind.u32 n 31))) 32))) then
    some
    (Sv.tup
    [Sv.v
    (Value.int IntKind.u32
    (cutV
    (IntKind.wrap IntKind.u32
    (Int.fdiv (IntKind.wrap IntKind.i32 v)
    (2 ^ min (Int.toNat (IntKind.wrap IntKind.u64 (bitsL BinOp.and IntKind.u32 n 31))) 32)))
    4)),
    Sv.agg
    [Sv.v
    (Value.bool
    (bitsL BinOp.and IntKind.u32
    (Int.fdiv v
    (2 ^ min (Int.toNat (IntKind.wrap IntKind.u64 (IntKind.wrap IntKind.u64 (bitsL BinOp.and IntKind.u32 n 31) - 1))) 32))
    1 ==
    1)),
    Sv.v
    (Value.bool
    (parV
    (cutV
    (IntKind.wrap IntKind.u32
    (Int.fdiv (IntKind.wrap IntKind.i32 v)
    (2 ^ min (Int.toNat (IntKind.wrap IntKind.u64 (bitsL BinOp.and IntKind.u32 n 31))) 32)))
    4))),
    Sv.v
    (Value.bool
    (cutV
    (IntKind.wrap IntKind.u32
    (Int.fdiv (IntKind.wrap IntKind.i32 v)
    (2 ^ min (Int.toNat (IntKind.wrap IntKind.u64 (bitsL BinOp.and IntKind.u32 n 31))) 32)))
    4 ==
    0)),
    Sv.v
    (Value.bool
    (topV
    (cutV
    (IntKind.wrap IntKind.u32
    (Int.fdiv (IntKind.wrap IntKind.i32 v)
    (2 ^ min (Int.toNat (IntKind.wrap IntKind.u64 (bitsL BinOp.and IntKind.u32 n 31))) 32)))
    4)
    4)),
    Sv.v (Value.bool false), Sv.v (Value.bool f_5)]])
    else none
    else none
    else none
    else
    bif op == 26 then
    bif
    decide
    (0 ≤
    bitsL BinOp.and IntKind.u64
    (IntKind.wrap IntKind.u64 (IntKind.wrap IntKind.i64 (IntKind.wrap IntKind.u64 (bitsL BinOp.and IntKind.u32 n 31))))
    31) then
    bif
    decide
    (0 ≤
    IntKind.wrap IntKind.u64
    (32 -
    bitsL BinOp.and IntKind.u64
    (IntKind.wrap IntKind.u64 (IntKind.wrap IntKind.i64 (IntKind.wrap IntKind.u64 (bitsL BinOp.and IntKind.u32 n 31))))
    31)) then
    some
    (Sv.tup
    [Sv.v
    (Value.int IntKind.u32
    (bitsL BinOp.or IntKind.u32
    (IntKind.wrap IntKind.u32
    (v *
    2 ^
    min
    (Int.toNat
    (bitsL BinOp.and IntKind.u64
    (IntKind.wrap IntKind.u64 (IntKind.wrap IntKind.i64 (IntKind.wrap IntKind.u64 (bitsL BinOp.and IntKind.u32 n 31)))) 31))
    32))
    (Int.fdiv v
    (2 ^
    min
    (Int.toNat
    (IntKind.wrap IntKind.u64
    (32 -
    bitsL BinOp.and IntKind.u64
    (IntKind.wrap IntKind.u64 (IntKind.wrap IntKind.i64 (IntKind.wrap IntKind.u64 (bitsL BinOp.and IntKind.u32 n 31))))
    31)))
    32)))),
    Sv.agg
    [Sv.v
    (Value.bool
    (bitsL BinOp.and IntKind.u32
    (Int.fdiv
    (bitsL BinOp.or IntKind.u32
    (IntKind.wrap IntKind.u32
    (v *
    2 ^
    min
    (Int.toNat
    (bitsL BinOp.and IntKind.u64
    (IntKind.wrap IntKind.u64 (IntKind.wrap IntKind.i64 (IntKind.wrap IntKind.u64 (bitsL BinOp.and IntKind.u32 n 31)))) 31))
    32))
    (Int.fdiv v
    (2 ^
    min
    (Int.toNat
    (IntKind.wrap IntKind.u64
    (32 -
    bitsL BinOp.and IntKind.u64
    (IntKind.wrap IntKind.u64 (IntKind.wrap IntKind.i64 (IntKind.wrap IntKind.u64 (bitsL BinOp.and IntKind.u32 n 31))))
    31)))
    32)))
    1)
    1 ==
    1)),
    Sv.v (Value.bool f_1), Sv.v (Value.bool f_2), Sv.v (Value.bool f_3),
    Sv.v
    (Value.bool
    !(bitsL BinOp.and IntKind.u32
    (Int.fdiv
    (bitsL BinOp.or IntKind.u32
    (IntKind.wrap IntKind.u32
    (v *
    2 ^
    min
    (Int.toNat
    (bitsL BinOp.and IntKind.u64
    (IntKind.wrap IntKind.u64 (IntKind.wrap IntKind.i64 (IntKind.wrap IntKind.u64 (bitsL BinOp.and IntKind.u32 n 31)))) 31))
    32))
    (Int.fdiv v
    (2 ^
    min
    (Int.toNat
    (IntKind.wrap IntKind.u64
    (32 -
    bitsL BinOp.and IntKind.u64
    (IntKind.wrap IntKind.u64 (IntKind.wrap IntKind.i64 (IntKind.wrap IntKind.u64 (bitsL BinOp.and IntKind.u32 n 31))))
    31)))
    32)))
    2147483648)
    1 ==
    1) ==
    (bitsL BinOp.and IntKind.u32
    (Int.fdiv
    (bitsL BinOp.or IntKind.u32
    (IntKind.wrap IntKind.u32
    (v *
    2 ^
    min
    (Int.toNat
    (bitsL BinOp.and IntKind.u64
    (IntKind.wrap IntKind.u64 (IntKind.wrap IntKind.i64 (IntKind.wrap IntKind.u64 (bitsL BinOp.and IntKind.u32 n 31)))) 31))
    32))
    (Int.fdiv v
    (2 ^
    min
    (Int.toNat
    (IntKind.wrap IntKind.u64
    (32 -
    bitsL BinOp.and IntKind.u64
    (IntKind.wrap IntKind.u64 (IntKind.wrap IntKind.i64 (IntKind.wrap IntKind.u64 (bitsL BinOp.and IntKind.u32 n 31))))
    31)))
    32)))
    1)
    1 ==
    1)),
    Sv.v (Value.bool f_5)]])
    else none
    else none
    else
    bif
    decide
    (0 ≤
    bitsL BinOp.and IntKind.u64
    (IntKind.wrap IntKind.u64
    (IntKind.wrap IntKind.i64 (0 - IntKind.wrap IntKind.i64 (IntKind.wrap IntKind.u64 (bitsL BinOp.and IntKind.u32 n 31)))))
    31) then
    bif
    decide
    (0 ≤
    IntKind.wrap IntKind.u64
    (32 -
    bitsL BinOp.and IntKind.u64
    (IntKind.wrap IntKind.u64
    (IntKind.wrap IntKind.i64 (0 - IntKind.wrap IntKind.i64 (IntKind.wrap IntKind.u64 (bitsL BinOp.and IntKind.u32 n 31)))))
    31)) then
    some
    (Sv.tup
    [Sv.v
    (Value.int IntKind.u32
    (bitsL BinOp.or IntKind.u32
    (IntKind.wrap IntKind.u32
    (v *
    2 ^
    min
    (Int.toNat
    (bitsL BinOp.and IntKind.u64
    (IntKind.wrap IntKind.u64
    (IntKind.wrap IntKind.i64 (0 - IntKind.wrap IntKind.i64 (IntKind.wrap IntKind.u64 (bitsL BinOp.and IntKind.u32 n 31)))))
    31))
    32))
    (Int.fdiv v
    (2 ^
    min
    (Int.toNat
    (IntKind.wrap IntKind.u64
    (32 -
    bitsL BinOp.and IntKind.u64
    (IntKind.wrap IntKind.u64
    (IntKind.wrap IntKind.i64 (0 - IntKind.wrap IntKind.i64 (IntKind.wrap IntKind.u64 (bitsL BinOp.and IntKind.u32 n 31)))))
    31)))
    32)))),
    Sv.agg
    [Sv.v
    (Value.bool
    (bitsL BinOp.and IntKind.u32
    (Int.fdiv
    (bitsL BinOp.or IntKind.u32
    (IntKind.wrap IntKind.u32
    (v *
    2 ^
    min
    (Int.toNat
    (bitsL BinOp.and IntKind.u64
    (IntKind.wrap IntKind.u64
    (IntKind.wrap IntKind.i64 (0 - IntKind.wrap IntKind.i64 (IntKind.wrap IntKind.u64 (bitsL BinOp.and IntKind.u32 n 31)))))
    31))
    32))
    (Int.fdiv v
    (2 ^
    min
    (Int.toNat
    (IntKind.wrap IntKind.u64
    (32 -
    bitsL BinOp.and IntKind.u64
    (IntKind.wrap IntKind.u64
    (IntKind.wrap IntKind.i64 (0 - IntKind.wrap IntKind.i64 (IntKind.wrap IntKind.u64 (bitsL BinOp.and IntKind.u32 n 31)))))
    31)))
    32)))
    2147483648)
    1 ==
    1)),
    Sv.v (Value.bool f_1), Sv.v (Value.bool f_2), Sv.v (Value.bool f_3),
    Sv.v
    (Value.bool
    !(bitsL BinOp.and IntKind.u32
    (Int.fdiv
    (bitsL BinOp.or IntKind.u32
    (IntKind.wrap IntKind.u32
    (v *
    2 ^
    min
    (Int.toNat
    (bitsL BinOp.and IntKind.u64
    (IntKind.wrap IntKind.u64
    (IntKind.wrap IntKind.i64 (0 - IntKind.wrap IntKind.i64 (IntKind.wrap IntKind.u64 (bitsL BinOp.and IntKind.u32 n 31)))))
    31))
    32))
    (Int.fdiv v
    (2 ^
    min
    (Int.toNat
    (IntKind.wrap IntKind.u64
    (32 -
    bitsL BinOp.and IntKind.u64
    (IntKind.wrap IntKind.u64
    (IntKind.wrap IntKind.i64 (0 - IntKind.wrap IntKind.i64 (IntKind.wrap IntKind.u64 (bitsL BinOp.and IntKind.u32 n 31)))))
    31)))
    32)))
    2147483648)
    1 ==
    1) ==
    (bitsL BinOp.and IntKind.u32
    (Int.fdiv
    (bitsL BinOp.or IntKind.u32
    (IntKind.wrap IntKind.u32
    (v *
    2 ^
    min
    (Int.toNat
    (bitsL BinOp.and IntKind.u64
    (IntKind.wrap IntKind.u64
    (IntKind.wrap IntKind.i64 (0 - IntKind.wrap IntKind.i64 (IntKind.wrap IntKind.u64 (bitsL BinOp.and IntKind.u32 n 31)))))
    31))
    32))
    (Int.fdiv v
    (2 ^
    min
    (Int.toNat
    (IntKind.wrap IntKind.u64
    (32 -
    bitsL BinOp.and IntKind.u64
    (IntKind.wrap IntKind.u64
    (IntKind.wrap IntKind.i64 (0 - IntKind.wrap IntKind.i64 (IntKind.wrap IntKind.u64 (bitsL BinOp.and IntKind.u32 n 31)))))
    31)))
    32)))
    1073741824)
    1 ==
    1)),
    Sv.v (Value.bool f_5)]])
    else none
    else none) := by kernel_rfl
theorem shift_nice (op : Int) (f_0 : Bool) (f_1 : Bool) (f_2 : Bool) (f_3 : Bool) (f_4 : Bool) (f_5 : Bool) (v : Int) (n : Int) (hg : (in32 v && (in32 n)) = true) :
    evF Try.prog ΓSh2 400 30 [.v (.int .i64 op), .agg [.v (.bool f_0), .v (.bool f_1), .v (.bool f_2), .v (.bool f_3), .v (.bool f_4), .v (.bool f_5)], .v (.int .u32 v), .v (.int .u32 n)] [] (fun x _ => some x) (fun _ _ => none) = some (.tup [.v (.int .u32 (rV op v n)), .agg [.v (.bool (rC op v n f_0)), .v (.bool (rP op v n f_1)), .v (.bool (rZ op v n f_2)), .v (.bool (rS op v n f_3)), .v (.bool (rO op v n f_4)), .v (.bool f_5)]]) := by
  rw [shift_form]
  try simp only [bitsL_eq]
  simp only [Bool.and_eq_true, in32_iff] at hg
  obtain ⟨⟨h0, h1⟩, n0, n1⟩ := hg
  have en : bits BinOp.and IntKind.u32 n 31 = n % 32 := and_mask31 n0 n1
  have e1 : IntKind.wrap IntKind.u64 (n % 32) = n % 32 := wr_u64_id (by omega) (by omega)
  rw [en, e1]
  have kl := shK_lt n
  by_cases hz : n % 32 = 0
  · have hz' : (n % 32 == 0) = true := by rw [hz]; rfl
    have hoff : shOn op n = false := by simp [shOn, hz']
    obtain ⟨r1, r2, r3, r4, r5, r6⟩ := r_off (v := v) hoff f_0 f_1 f_2 f_3 f_4
    rw [hz', cond_true, r1, r2, r3, r4, r5, r6]
  have hz' : (n % 32 == 0) = false := by simpa using hz
  rw [hz', cond_false]
  cases ho : knownV op with
  | false =>
    have hoff : shOn op n = false := by simp [shOn, ho]
    obtain ⟨r1, r2, r3, r4, r5, r6⟩ := r_off (v := v) hoff f_0 f_1 f_2 f_3 f_4
    rw [Bool.not_false, cond_true, r1, r2, r3, r4, r5, r6]
  | true =>
  have hon : shOn op n = true := by simp [shOn, ho, hz']
  have hk0 : 0 < shK n := by have := shK_eq n; omega
  have hw := sh_bd ho h0 h1 (shK n) kl
  have hwi := in32_iff.2 hw
  obtain ⟨r1, r2, r6⟩ := r_on (v := v) hon f_0 f_1 f_2 f_3 f_4
  rw [r1, r2, r6, Bool.not_true, cond_false]
  have lit : ((28 : Int) == 28) = true ∧ ((29 : Int) == 28) = false ∧ ((29 : Int) == 29) = true ∧ ((29 : Int) == 26) = false ∧ ((30 : Int) == 28) = false ∧ ((30 : Int) == 29) = false ∧ ((30 : Int) == 30) = true ∧ ((30 : Int) == 26) = false ∧ ((26 : Int) == 28) = false ∧ ((26 : Int) == 29) = false ∧ ((26 : Int) == 30) = false ∧ ((26 : Int) == 26) = true ∧
    ((27 : Int) == 28) = false ∧ ((27 : Int) == 29) = false ∧ ((27 : Int) == 30) = false ∧ ((27 : Int) == 26) = false := by decide
  obtain ⟨l1, l2, l3, l4, l5, l6, l7, l8, l9, l10, l11, l12, l13, l14, l15, l16⟩ := lit
  have g0 : decide (0 ≤ n % 32) = true := decide_eq_true (by omega)
  have e2 : IntKind.wrap IntKind.u64 (32 - n % 32) = 32 - n % 32 := wr_u64_id (by omega) (by omega)
  have g2 : decide (0 ≤ 32 - n % 32) = true := decide_eq_true (by omega)
  have e3 : IntKind.wrap IntKind.u64 (n % 32 - 1) = n % 32 - 1 := wr_u64_id (by omega) (by omega)
  have g3 : decide (0 ≤ n % 32 - 1) = true := decide_eq_true (by omega)
  have e4 : IntKind.wrap IntKind.i64 (n % 32) = n % 32 := wr_i64_id (by omega) (by omega)
  have e5 : bits BinOp.and IntKind.u64 (n % 32) 31 = n % 32 := by rw [and_mask31_64 (by omega) (by omega)]; omega
  have e6 : bits BinOp.and IntKind.u64 (IntKind.wrap IntKind.u64 (IntKind.wrap IntKind.i64 (0 - n % 32))) 31 = 32 - n % 32 := by
    have : IntKind.wrap IntKind.u64 (IntKind.wrap IntKind.i64 (0 - n % 32)) = 18446744073709551616 - n % 32 := by rw [wr_i64_id (by omega) (by omega), wr_u64]; omega
    rw [this, and_mask31_64 (by omega) (by omega)]; omega
  have e7 : IntKind.wrap IntKind.u64 (32 - (32 - n % 32)) = n % 32 := by rw [wr_u64_id (by omega) (by omega)]; omega
  have p2 : ∀ j : Nat, (0 : Int) < 2 ^ j := fun j => Int.pow_pos (by decide)
  have dv : ∀ j : Nat, 0 ≤ v / 2 ^ j ∧ v / 2 ^ j < 4294967296 := fun j => ⟨Int.ediv_nonneg h0 (Int.le_of_lt (p2 j)), Int.lt_of_le_of_lt (Int.ediv_le_self _ h0) h1⟩
  have c1 : ∀ j : Nat, bits BinOp.and IntKind.u32 (v / 2 ^ j) 1 = v / 2 ^ j % 2 := fun j => and_1 (dv j).1 (dv j).2
  rcases knownV_cases ho with rfl | rfl | rfl | rfl | rfl
  · obtain ⟨r3, r4, r5⟩ := r_on3 (v := v) hon (by decide) f_1 f_2 f_3
    have w0 : IntKind.wrap IntKind.u32 (v * 2 ^ shK n) = shW 28 v (shK n) := by rw [wr_u32]; rfl
    have q : bits BinOp.and IntKind.u32 (shW 28 v (shK n) / 2147483648) 1 = shW 28 v (shK n) / 2147483648 % 2 := and_1 (by omega) (by omega)
    rw [r3, r4, r5]
    simp only [l1, cond_true, g0, e2, g2, shK_min, shK_min', w0, hwi, cut4 hw.1 hw.2, top4 hw.1 hw.2, fdiv31, fdiv_pow, c1, q, b31_and hw.1 hw.2, ← shC28 v hk0]; rfl
  · obtain ⟨r3, r4, r5⟩ := r_on3 (v := v) hon (by decide) f_1 f_2 f_3
    have w0 : v / 2 ^ shK n = shW 29 v (shK n) := rfl
    have q : bits BinOp.and IntKind.u32 (v / 2147483648) 1 = v / 2147483648 % 2 := and_1 (by omega) (by omega)
    rw [r3, r4, r5]
    simp only [l2, l3, cond_true, cond_false, g0, e3, g3, shK_min, shK_min1, fdiv31, fdiv_pow, c1, q, b31_and h0 h1, ← shC29 v hk0]
    simp only [w0, hwi, cond_true, cut4 hw.1 hw.2, top4 hw.1 hw.2]; rfl
  · obtain ⟨r3, r4, r5⟩ := r_on3 (v := v) hon (by decide) f_1 f_2 f_3
    have w0 : IntKind.wrap IntKind.u32 (s32 v / 2 ^ shK n) = shW 30 v (shK n) := by rw [wr_u32]; rfl
    rw [r3, r4, r5]
    simp only [l5, l6, l7, cond_true, cond_false, g0, e3, g3, shK_min, shK_min1, wr_i32_s h0 h1, fdiv_pow, c1, ← shC30 v hk0, w0, hwi, cut4 hw.1 hw.2, top4 hw.1 hw.2]; rfl
  · obtain ⟨r3, r4, r5⟩ := r_on0 (v := v) (n := n) (op := 26) (by decide) f_1 f_2 f_3
    have w0 := turn26 h0 h1 (shK n) kl hk0
    have q1 : bits BinOp.and IntKind.u32 (shW 26 v (shK n)) 1 = shW 26 v (shK n) % 2 := and_1 hw.1 hw.2
    have q2 : bits BinOp.and IntKind.u32 (shW 26 v (shK n) / 2147483648) 1 = shW 26 v (shK n) / 2147483648 % 2 := and_1 (by omega) (by omega)
    rw [r3, r4, r5]
    simp only [l9, l10, l11, l12, cond_true, cond_false, e4, e1, e5, g0, e2, g2, shK_min, shK_min', fdiv_pow, w0, fdiv1, fdiv31, q1, q2, b31_and hw.1 hw.2, ← shC26 v hk0]; rfl
  · obtain ⟨r3, r4, r5⟩ := r_on0 (v := v) (n := n) (op := 27) (by decide) f_1 f_2 f_3
    have w0 := turn27 h0 h1 (shK n) kl hk0
    have q1 : bits BinOp.and IntKind.u32 (shW 27 v (shK n) / 1073741824) 1 = shW 27 v (shK n) / 1073741824 % 2 := and_1 (by omega) (by omega)
    have q2 : bits BinOp.and IntKind.u32 (shW 27 v (shK n) / 2147483648) 1 = shW 27 v (shK n) / 2147483648 % 2 := and_1 (by omega) (by omega)
    rw [r3, r4, r5]
    simp only [l13, l14, l15, l16, cond_true, cond_false, e4, e6, e7, g0, g2, shK_min, shK_min', fdiv_pow, w0, fdiv30, fdiv31, q1, q2, b31_and hw.1 hw.2, shC27 v hk0]; rfl
def shiftS : Nice := fun R args kv => match args with
  | [.v (.int .i64 op), .agg [.v (.bool f_0), .v (.bool f_1), .v (.bool f_2), .v (.bool f_3), .v (.bool f_4), .v (.bool f_5)], .v (.int .u32 v), .v (.int .u32 n)] => bif in32 v && (in32 n) then kv (.tup [.v (.int .u32 (rV op v n)), .agg [.v (.bool (rC op v n f_0)), .v (.bool (rP op v n f_1)), .v (.bool (rZ op v n f_2)), .v (.bool (rS op v n f_3)), .v (.bool (rO op v n f_4)), .v (.bool f_5)]]) else none
  | _ => none
theorem shiftS_ok : NiceOk Try.prog ΓSh2 400 30 shiftS := by
  intro R args kv r h
  unfold shiftS at h
  split at h
  · obtain ⟨hg, h⟩ := cond_some h
    exact ⟨_, h, rfl, rfl, shift_nice _ _ _ _ _ _ _ _ _ hg⟩
  · cases h
noncomputable def ΓSh3 : Env := ((ΓSh2.add 31 (pureSpec rshiftS)).add 30 (pureSpec shiftS))
theorem ΓSh3_ok : EnvOk Try.prog X0 ΓSh3 := ((ΓSh2_ok.add (by kernel_rfl) (specOk_of_nice ΓSh2_ok rshiftS_ok)).add (by kernel_rfl) (specOk_of_nice ΓSh2_ok shiftS_ok))
end Go.Proofs.Ytogfgmiofkgomaa
