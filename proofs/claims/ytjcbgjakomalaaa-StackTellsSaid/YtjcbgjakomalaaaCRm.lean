/- A byte of operands: what salternref9.RM comes to. -/
import Derived.Test.YtjcbgjakomalaaaEvV
import Derived.Test.YtjcbgjakomalaaaCMm6
import Derived.Test.YtjcbgjakomalaaaNLoop
namespace Go.Proofs.Ytjcbgjakomalaaa
open Go Go.Ev
set_option linter.unusedVariables false
set_option linter.unusedSimpArgs false
set_option maxRecDepth 100000
noncomputable def rmT (b0 b1 b2 : Int) (T : TypeId) : Option (Sv × List SObj) := lockI b1 (evF Try.prog ΓM6 400 75 [.sa 0 1 1 7] [.buf 1 [.v (.int .u8 b0), .v (.int .u8 b1), .v (.int .u8 b2), .v (.int .u8 0), .v (.int .u8 0), .v (.int .u8 0), .v (.int .u8 0), .v (.int .u8 0)] T, .dead] (kTk 2) kNo)
theorem rm_tree (b0 b1 b2 : Int) (T : TypeId) : rmT b0 b1 b2 T = (bif Int.fdiv b1 64 == 3 then
some
(Sv.tup
[Sv.agg
[vi 1,
vi ((IntKind.wrap IntKind.i64 (bitsL BinOp.and IntKind.u8 b1 7))),
vi ((-1)), vi ((-1)), vi 1,
vw 0],
vi ((IntKind.wrap IntKind.i64 (bitsL BinOp.and IntKind.u8 (Int.fdiv b1 8) 7))),
vi 1, vi 0],
[SObj.buf 1
[vy b0, vy b1, vy b2,
vy 0, vy 0, vy 0,
vy 0, vy 0]
T,
SObj.dead])
else
bif IntKind.wrap IntKind.i64 (bitsL BinOp.and IntKind.u8 b1 7) == 4 then
bif IntKind.wrap IntKind.i64 (bitsL BinOp.and IntKind.u8 (Int.fdiv b2 8) 7) != 4 then
bif decide (0 ≤ Int.fdiv b2 64) then
bif decide (0 ≤ Int.fdiv b1 64) && decide (Int.fdiv b1 64 < 3) then
bif Int.fdiv b1 64 == 0 then
bif IntKind.wrap IntKind.i64 (bitsL BinOp.and IntKind.u8 b2 7) == 5 then
some
(Sv.tup
[Sv.agg
[vi 3, vi 0, vi ((-1)),
vi ((IntKind.wrap IntKind.i64 (bitsL BinOp.and IntKind.u8 (Int.fdiv b2 8) 7))),
vi ((IntKind.wrap IntKind.i64 (1 * 2 ^ min (Int.toNat (Int.fdiv b2 64)) 64))),
vw 0],
vi ((IntKind.wrap IntKind.i64 (bitsL BinOp.and IntKind.u8 (Int.fdiv b1 8) 7))),
vi 6, vi 0],
[SObj.buf 1
[vy b0, vy b1, vy b2,
vy 0, vy 0, vy 0,
vy 0, vy 0]
T,
SObj.dead])
else
bif decide (7 < IntKind.wrap IntKind.i64 (2 + selL (Int.fdiv b1 64) 0 [0, 1, 4])) then
some
(Sv.tup
[Sv.agg
[vi 0, vi 0, vi 0,
vi 0, vi 0, vw 0],
vi 0, vi 0, vi 21],
[SObj.buf 1
[vy b0, vy b1, vy b2,
vy 0, vy 0, vy 0,
vy 0, vy 0]
T,
SObj.dead])
else
bif selL (Int.fdiv b1 64) 0 [0, 1, 4] == 1 then
some
(Sv.tup
[Sv.agg
[vi 3, vi 0,
vi ((IntKind.wrap IntKind.i64 (bitsL BinOp.and IntKind.u8 b2 7))),
vi ((IntKind.wrap IntKind.i64 (bitsL BinOp.and IntKind.u8 (Int.fdiv b2 8) 7))),
vi ((IntKind.wrap IntKind.i64 (1 * 2 ^ min (Int.toNat (Int.fdiv b2 64)) 64))),
vw ((IntKind.wrap IntKind.u32 (IntKind.wrap IntKind.i32 (IntKind.wrap IntKind.i8 0))))],
vi ((IntKind.wrap IntKind.i64 (bitsL BinOp.and IntKind.u8 (Int.fdiv b1 8) 7))),
vi ((IntKind.wrap IntKind.i64 (2 + selL (Int.fdiv b1 64) 0 [0, 1, 4]))),
vi 0],
[SObj.buf 1
[vy b0, vy b1, vy b2,
vy 0, vy 0, vy 0,
vy 0, vy 0]
T,
SObj.dead])
else
bif selL (Int.fdiv b1 64) 0 [0, 1, 4] == 4 then
some
(Sv.tup
[Sv.agg
[vi 3, vi 0,
vi ((IntKind.wrap IntKind.i64 (bitsL BinOp.and IntKind.u8 b2 7))),
vi ((IntKind.wrap IntKind.i64 (bitsL BinOp.and IntKind.u8 (Int.fdiv b2 8) 7))),
vi ((IntKind.wrap IntKind.i64 (1 * 2 ^ min (Int.toNat (Int.fdiv b2 64)) 64))),
vw 0],
vi ((IntKind.wrap IntKind.i64 (bitsL BinOp.and IntKind.u8 (Int.fdiv b1 8) 7))),
vi ((IntKind.wrap IntKind.i64 (2 + selL (Int.fdiv b1 64) 0 [0, 1, 4]))),
vi 0],
[SObj.buf 1
[vy b0, vy b1, vy b2,
vy 0, vy 0, vy 0,
vy 0, vy 0]
T,
SObj.dead])
else
some
(Sv.tup
[Sv.agg
[vi 3, vi 0,
vi ((IntKind.wrap IntKind.i64 (bitsL BinOp.and IntKind.u8 b2 7))),
vi ((IntKind.wrap IntKind.i64 (bitsL BinOp.and IntKind.u8 (Int.fdiv b2 8) 7))),
vi ((IntKind.wrap IntKind.i64 (1 * 2 ^ min (Int.toNat (Int.fdiv b2 64)) 64))),
vw 0],
vi ((IntKind.wrap IntKind.i64 (bitsL BinOp.and IntKind.u8 (Int.fdiv b1 8) 7))),
vi ((IntKind.wrap IntKind.i64 (2 + selL (Int.fdiv b1 64) 0 [0, 1, 4]))),
vi 0],
[SObj.buf 1
[vy b0, vy b1, vy b2,
vy 0, vy 0, vy 0,
vy 0, vy 0]
T,
SObj.dead])
else
bif decide (7 < IntKind.wrap IntKind.i64 (2 + selL (Int.fdiv b1 64) 0 [0, 1, 4])) then
some
(Sv.tup
[Sv.agg
[vi 0, vi 0, vi 0,
vi 0, vi 0, vw 0],
vi 0, vi 0, vi 21],
[SObj.buf 1
[vy b0, vy b1, vy b2,
vy 0, vy 0, vy 0,
vy 0, vy 0]
T,
SObj.dead])
else
bif selL (Int.fdiv b1 64) 0 [0, 1, 4] == 1 then
some
(Sv.tup
[Sv.agg
[vi 3, vi 0,
vi ((IntKind.wrap IntKind.i64 (bitsL BinOp.and IntKind.u8 b2 7))),
vi ((IntKind.wrap IntKind.i64 (bitsL BinOp.and IntKind.u8 (Int.fdiv b2 8) 7))),
vi ((IntKind.wrap IntKind.i64 (1 * 2 ^ min (Int.toNat (Int.fdiv b2 64)) 64))),
vw ((IntKind.wrap IntKind.u32 (IntKind.wrap IntKind.i32 (IntKind.wrap IntKind.i8 0))))],
vi ((IntKind.wrap IntKind.i64 (bitsL BinOp.and IntKind.u8 (Int.fdiv b1 8) 7))),
vi ((IntKind.wrap IntKind.i64 (2 + selL (Int.fdiv b1 64) 0 [0, 1, 4]))),
vi 0],
[SObj.buf 1
[vy b0, vy b1, vy b2,
vy 0, vy 0, vy 0,
vy 0, vy 0]
T,
SObj.dead])
else
bif selL (Int.fdiv b1 64) 0 [0, 1, 4] == 4 then
some
(Sv.tup
[Sv.agg
[vi 3, vi 0,
vi ((IntKind.wrap IntKind.i64 (bitsL BinOp.and IntKind.u8 b2 7))),
vi ((IntKind.wrap IntKind.i64 (bitsL BinOp.and IntKind.u8 (Int.fdiv b2 8) 7))),
vi ((IntKind.wrap IntKind.i64 (1 * 2 ^ min (Int.toNat (Int.fdiv b2 64)) 64))),
vw 0],
vi ((IntKind.wrap IntKind.i64 (bitsL BinOp.and IntKind.u8 (Int.fdiv b1 8) 7))),
vi ((IntKind.wrap IntKind.i64 (2 + selL (Int.fdiv b1 64) 0 [0, 1, 4]))),
vi 0],
[SObj.buf 1
[vy b0, vy b1, vy b2,
vy 0, vy 0, vy 0,
vy 0, vy 0]
T,
SObj.dead])
else
some
(Sv.tup
[Sv.agg
[vi 3, vi 0,
vi ((IntKind.wrap IntKind.i64 (bitsL BinOp.and IntKind.u8 b2 7))),
vi ((IntKind.wrap IntKind.i64 (bitsL BinOp.and IntKind.u8 (Int.fdiv b2 8) 7))),
vi ((IntKind.wrap IntKind.i64 (1 * 2 ^ min (Int.toNat (Int.fdiv b2 64)) 64))),
vw 0],
vi ((IntKind.wrap IntKind.i64 (bitsL BinOp.and IntKind.u8 (Int.fdiv b1 8) 7))),
vi ((IntKind.wrap IntKind.i64 (2 + selL (Int.fdiv b1 64) 0 [0, 1, 4]))),
vi 0],
[SObj.buf 1
[vy b0, vy b1, vy b2,
vy 0, vy 0, vy 0,
vy 0, vy 0]
T,
SObj.dead])
else none
else none
else
bif decide (0 ≤ Int.fdiv b1 64) && decide (Int.fdiv b1 64 < 3) then
bif Int.fdiv b1 64 == 0 then
bif IntKind.wrap IntKind.i64 (bitsL BinOp.and IntKind.u8 b2 7) == 5 then
some
(Sv.tup
[Sv.agg
[vi 3, vi 0, vi ((-1)),
vi ((-1)), vi 1, vw 0],
vi ((IntKind.wrap IntKind.i64 (bitsL BinOp.and IntKind.u8 (Int.fdiv b1 8) 7))),
vi 6, vi 0],
[SObj.buf 1
[vy b0, vy b1, vy b2,
vy 0, vy 0, vy 0,
vy 0, vy 0]
T,
SObj.dead])
else
bif decide (7 < IntKind.wrap IntKind.i64 (2 + selL (Int.fdiv b1 64) 0 [0, 1, 4])) then
some
(Sv.tup
[Sv.agg
[vi 0, vi 0, vi 0,
vi 0, vi 0, vw 0],
vi 0, vi 0, vi 21],
[SObj.buf 1
[vy b0, vy b1, vy b2,
vy 0, vy 0, vy 0,
vy 0, vy 0]
T,
SObj.dead])
else
bif selL (Int.fdiv b1 64) 0 [0, 1, 4] == 1 then
some
(Sv.tup
[Sv.agg
[vi 3, vi 0,
vi ((IntKind.wrap IntKind.i64 (bitsL BinOp.and IntKind.u8 b2 7))),
vi ((-1)), vi 1,
vw ((IntKind.wrap IntKind.u32 (IntKind.wrap IntKind.i32 (IntKind.wrap IntKind.i8 0))))],
vi ((IntKind.wrap IntKind.i64 (bitsL BinOp.and IntKind.u8 (Int.fdiv b1 8) 7))),
vi ((IntKind.wrap IntKind.i64 (2 + selL (Int.fdiv b1 64) 0 [0, 1, 4]))),
vi 0],
[SObj.buf 1
[vy b0, vy b1, vy b2,
vy 0, vy 0, vy 0,
vy 0, vy 0]
T,
SObj.dead])
else
bif selL (Int.fdiv b1 64) 0 [0, 1, 4] == 4 then
some
(Sv.tup
[Sv.agg
[vi 3, vi 0,
vi ((IntKind.wrap IntKind.i64 (bitsL BinOp.and IntKind.u8 b2 7))),
vi ((-1)), vi 1, vw 0],
vi ((IntKind.wrap IntKind.i64 (bitsL BinOp.and IntKind.u8 (Int.fdiv b1 8) 7))),
vi ((IntKind.wrap IntKind.i64 (2 + selL (Int.fdiv b1 64) 0 [0, 1, 4]))),
vi 0],
[SObj.buf 1
[vy b0, vy b1, vy b2,
vy 0, vy 0, vy 0,
vy 0, vy 0]
T,
SObj.dead])
else
some
(Sv.tup
[Sv.agg
[vi 3, vi 0,
vi ((IntKind.wrap IntKind.i64 (bitsL BinOp.and IntKind.u8 b2 7))),
vi ((-1)), vi 1, vw 0],
vi ((IntKind.wrap IntKind.i64 (bitsL BinOp.and IntKind.u8 (Int.fdiv b1 8) 7))),
vi ((IntKind.wrap IntKind.i64 (2 + selL (Int.fdiv b1 64) 0 [0, 1, 4]))),
vi 0],
[SObj.buf 1
[vy b0, vy b1, vy b2,
vy 0, vy 0, vy 0,
vy 0, vy 0]
T,
SObj.dead])
else
bif decide (7 < IntKind.wrap IntKind.i64 (2 + selL (Int.fdiv b1 64) 0 [0, 1, 4])) then
some
(Sv.tup
[Sv.agg
[vi 0, vi 0, vi 0,
vi 0, vi 0, vw 0],
vi 0, vi 0, vi 21],
[SObj.buf 1
[vy b0, vy b1, vy b2,
vy 0, vy 0, vy 0,
vy 0, vy 0]
T,
SObj.dead])
else
bif selL (Int.fdiv b1 64) 0 [0, 1, 4] == 1 then
some
(Sv.tup
[Sv.agg
[vi 3, vi 0,
vi ((IntKind.wrap IntKind.i64 (bitsL BinOp.and IntKind.u8 b2 7))),
vi ((-1)), vi 1,
vw ((IntKind.wrap IntKind.u32 (IntKind.wrap IntKind.i32 (IntKind.wrap IntKind.i8 0))))],
vi ((IntKind.wrap IntKind.i64 (bitsL BinOp.and IntKind.u8 (Int.fdiv b1 8) 7))),
vi ((IntKind.wrap IntKind.i64 (2 + selL (Int.fdiv b1 64) 0 [0, 1, 4]))),
vi 0],
[SObj.buf 1
[vy b0, vy b1, vy b2,
vy 0, vy 0, vy 0,
vy 0, vy 0]
T,
SObj.dead])
else
bif selL (Int.fdiv b1 64) 0 [0, 1, 4] == 4 then
some
(Sv.tup
[Sv.agg
[vi 3, vi 0,
vi ((IntKind.wrap IntKind.i64 (bitsL BinOp.and IntKind.u8 b2 7))),
vi ((-1)), vi 1, vw 0],
vi ((IntKind.wrap IntKind.i64 (bitsL BinOp.and IntKind.u8 (Int.fdiv b1 8) 7))),
vi ((IntKind.wrap IntKind.i64 (2 + selL (Int.fdiv b1 64) 0 [0, 1, 4]))),
vi 0],
[SObj.buf 1
[vy b0, vy b1, vy b2,
vy 0, vy 0, vy 0,
vy 0, vy 0]
T,
SObj.dead])
else
some
(Sv.tup
[Sv.agg
[vi 3, vi 0,
vi ((IntKind.wrap IntKind.i64 (bitsL BinOp.and IntKind.u8 b2 7))),
vi ((-1)), vi 1, vw 0],
vi ((IntKind.wrap IntKind.i64 (bitsL BinOp.and IntKind.u8 (Int.fdiv b1 8) 7))),
vi ((IntKind.wrap IntKind.i64 (2 + selL (Int.fdiv b1 64) 0 [0, 1, 4]))),
vi 0],
[SObj.buf 1
[vy b0, vy b1, vy b2,
vy 0, vy 0, vy 0,
vy 0, vy 0]
T,
SObj.dead])
else none
else
bif decide (0 ≤ Int.fdiv b1 64) && decide (Int.fdiv b1 64 < 3) then
bif Int.fdiv b1 64 == 0 then
bif IntKind.wrap IntKind.i64 (bitsL BinOp.and IntKind.u8 b1 7) == 5 then
some
(Sv.tup
[Sv.agg
[vi 3, vi 0, vi ((-1)),
vi ((-1)), vi 1,
Sv.v
(Value.int IntKind.u32
(bitsL BinOp.or IntKind.u32
(bitsL BinOp.or IntKind.u32
(bitsL BinOp.or IntKind.u32 (IntKind.wrap IntKind.u32 b2) (IntKind.wrap IntKind.u32 (IntKind.wrap IntKind.u32 0 * 256)))
(IntKind.wrap IntKind.u32 (IntKind.wrap IntKind.u32 0 * 65536)))
(IntKind.wrap IntKind.u32 (IntKind.wrap IntKind.u32 0 * 16777216))))],
vi ((IntKind.wrap IntKind.i64 (bitsL BinOp.and IntKind.u8 (Int.fdiv b1 8) 7))),
vi 5, vi 0],
[SObj.buf 1
[vy b0, vy b1, vy b2,
vy 0, vy 0, vy 0,
vy 0, vy 0]
T,
SObj.dead])
else
bif decide (7 < IntKind.wrap IntKind.i64 (1 + selL (Int.fdiv b1 64) 0 [0, 1, 4])) then
some
(Sv.tup
[Sv.agg
[vi 0, vi 0, vi 0,
vi 0, vi 0, vw 0],
vi 0, vi 0, vi 21],
[SObj.buf 1
[vy b0, vy b1, vy b2,
vy 0, vy 0, vy 0,
vy 0, vy 0]
T,
SObj.dead])
else
bif selL (Int.fdiv b1 64) 0 [0, 1, 4] == 1 then
some
(Sv.tup
[Sv.agg
[vi 3, vi 0,
vi ((IntKind.wrap IntKind.i64 (bitsL BinOp.and IntKind.u8 b1 7))),
vi ((-1)), vi 1,
vw ((IntKind.wrap IntKind.u32 (IntKind.wrap IntKind.i32 (IntKind.wrap IntKind.i8 b2))))],
vi ((IntKind.wrap IntKind.i64 (bitsL BinOp.and IntKind.u8 (Int.fdiv b1 8) 7))),
vi ((IntKind.wrap IntKind.i64 (1 + selL (Int.fdiv b1 64) 0 [0, 1, 4]))),
vi 0],
[SObj.buf 1
[vy b0, vy b1, vy b2,
vy 0, vy 0, vy 0,
vy 0, vy 0]
T,
SObj.dead])
else
bif selL (Int.fdiv b1 64) 0 [0, 1, 4] == 4 then
some
(Sv.tup
[Sv.agg
[vi 3, vi 0,
vi ((IntKind.wrap IntKind.i64 (bitsL BinOp.and IntKind.u8 b1 7))),
vi ((-1)), vi 1,
Sv.v
(Value.int IntKind.u32
(bitsL BinOp.or IntKind.u32
(bitsL BinOp.or IntKind.u32
(bitsL BinOp.or IntKind.u32 (IntKind.wrap IntKind.u32 b2) (IntKind.wrap IntKind.u32 (IntKind.wrap IntKind.u32 0 * 256)))
(IntKind.wrap IntKind.u32 (IntKind.wrap IntKind.u32 0 * 65536)))
(IntKind.wrap IntKind.u32 (IntKind.wrap IntKind.u32 0 * 16777216))))],
vi ((IntKind.wrap IntKind.i64 (bitsL BinOp.and IntKind.u8 (Int.fdiv b1 8) 7))),
vi ((IntKind.wrap IntKind.i64 (1 + selL (Int.fdiv b1 64) 0 [0, 1, 4]))),
vi 0],
[SObj.buf 1
[vy b0, vy b1, vy b2,
vy 0, vy 0, vy 0,
vy 0, vy 0]
T,
SObj.dead])
else
some
(Sv.tup
[Sv.agg
[vi 3, vi 0,
vi ((IntKind.wrap IntKind.i64 (bitsL BinOp.and IntKind.u8 b1 7))),
vi ((-1)), vi 1, vw 0],
vi ((IntKind.wrap IntKind.i64 (bitsL BinOp.and IntKind.u8 (Int.fdiv b1 8) 7))),
vi ((IntKind.wrap IntKind.i64 (1 + selL (Int.fdiv b1 64) 0 [0, 1, 4]))),
vi 0],
[SObj.buf 1
[vy b0, vy b1, vy b2,
vy 0, vy 0, vy 0,
vy 0, vy 0]
T,
SObj.dead])
else
bif decide (7 < IntKind.wrap IntKind.i64 (1 + selL (Int.fdiv b1 64) 0 [0, 1, 4])) then
some
(Sv.tup
[Sv.agg
[vi 0, vi 0, vi 0,
vi 0, vi 0, vw 0],
vi 0, vi 0, vi 21],
[SObj.buf 1
[vy b0, vy b1, vy b2,
vy 0, vy 0, vy 0,
vy 0, vy 0]
T,
SObj.dead])
else
bif selL (Int.fdiv b1 64) 0 [0, 1, 4] == 1 then
some
(Sv.tup
[Sv.agg
[vi 3, vi 0,
vi ((IntKind.wrap IntKind.i64 (bitsL BinOp.and IntKind.u8 b1 7))),
vi ((-1)), vi 1,
vw ((IntKind.wrap IntKind.u32 (IntKind.wrap IntKind.i32 (IntKind.wrap IntKind.i8 b2))))],
vi ((IntKind.wrap IntKind.i64 (bitsL BinOp.and IntKind.u8 (Int.fdiv b1 8) 7))),
vi ((IntKind.wrap IntKind.i64 (1 + selL (Int.fdiv b1 64) 0 [0, 1, 4]))),
vi 0],
[SObj.buf 1
[vy b0, vy b1, vy b2,
vy 0, vy 0, vy 0,
vy 0, vy 0]
T,
SObj.dead])
else
bif selL (Int.fdiv b1 64) 0 [0, 1, 4] == 4 then
some
(Sv.tup
[Sv.agg
[vi 3, vi 0,
vi ((IntKind.wrap IntKind.i64 (bitsL BinOp.and IntKind.u8 b1 7))),
vi ((-1)), vi 1,
Sv.v
(Value.int IntKind.u32
(bitsL BinOp.or IntKind.u32
(bitsL BinOp.or IntKind.u32
(bitsL BinOp.or IntKind.u32 (IntKind.wrap IntKind.u32 b2) (IntKind.wrap IntKind.u32 (IntKind.wrap IntKind.u32 0 * 256)))
(IntKind.wrap IntKind.u32 (IntKind.wrap IntKind.u32 0 * 65536)))
(IntKind.wrap IntKind.u32 (IntKind.wrap IntKind.u32 0 * 16777216))))],
vi ((IntKind.wrap IntKind.i64 (bitsL BinOp.and IntKind.u8 (Int.fdiv b1 8) 7))),
vi ((IntKind.wrap IntKind.i64 (1 + selL (Int.fdiv b1 64) 0 [0, 1, 4]))),
vi 0],
[SObj.buf 1
[vy b0, vy b1, vy b2,
vy 0, vy 0, vy 0,
vy 0, vy 0]
T,
SObj.dead])
else
some
(Sv.tup
[Sv.agg
[vi 3, vi 0,
vi ((IntKind.wrap IntKind.i64 (bitsL BinOp.and IntKind.u8 b1 7))),
vi ((-1)), vi 1, vw 0],
vi ((IntKind.wrap IntKind.i64 (bitsL BinOp.and IntKind.u8 (Int.fdiv b1 8) 7))),
vi ((IntKind.wrap IntKind.i64 (1 + selL (Int.fdiv b1 64) 0 [0, 1, 4]))),
vi 0],
[SObj.buf 1
[vy b0, vy b1, vy b2,
vy 0, vy 0, vy 0,
vy 0, vy 0]
T,
SObj.dead])
else none) := (lockI_eq _ _).trans (by kernel_rfl)
noncomputable def rmF (b0 b1 b2 : Int) (T : TypeId) (X : Option (Sv × List SObj)) : Option (Sv × List SObj) := some (.tup [.agg [.v (.int .i64 (ansI (X) 0)), .v (.int .i64 (ansI (X) 1)), .v (.int .i64 (ansI (X) 2)), .v (.int .i64 (ansI (X) 3)), .v (.int .i64 (ansI (X) 4)), .v (.int .u32 (ansI (X) 5))], .v (.int .i64 (ansI (X) 6)), .v (.int .i64 (ansI (X) 7)), .v (.int .i64 (ansI (X) 8))], [.buf 1 [.v (.int .u8 b0), .v (.int .u8 b1), .v (.int .u8 b2), .v (.int .u8 0), .v (.int .u8 0), .v (.int .u8 0), .v (.int .u8 0), .v (.int .u8 0)] T, .dead])
theorem fd64 {b : Int} (h : in8 b = true) : (0 ≤ Int.fdiv b 64) ∧ Int.fdiv b 64 < 4 := by
  rw [in8_iff] at h
  rw [Int.fdiv_eq_ediv_of_nonneg _ (by decide)]; omega
theorem rm_is (b0 b1 b2 : Int) (T : TypeId) (hg : (in8 b1 && in8 b2) = true) : rmT b0 b1 b2 T = rmF b0 b1 b2 T (rmT b0 b1 b2 T) := by
  have h := rm_tree b0 b1 b2 T
  rw [Bool.and_eq_true] at hg
  have f1 := fd64 hg.1
  have f2 := fd64 hg.2
  have d0 : decide (0 ≤ Int.fdiv b1 64) = true := decide_eq_true f1.1
  have d2 : decide (0 ≤ Int.fdiv b2 64) = true := decide_eq_true f2.1
  rw [d0, d2] at h
  cases h3 : Int.fdiv b1 64 == 3
  · have hne : Int.fdiv b1 64 ≠ 3 := by simpa using h3
    have d1 : decide (Int.fdiv b1 64 < 3) = true := decide_eq_true (by omega)
    rw [h3, d1] at h
    simp only [Bool.and_self, cond_true, cond_false] at h
    rw [h]
    repeat' (first | exact rfl | refine ans_cond (F := rmF b0 b1 b2 T) ?_ ?_)
  · rw [h3] at h
    simp only [cond_true] at h
    rw [h]
    rfl
theorem rm_ev (b0 b1 b2 : Int) (T : TypeId) (hg : (in8 b1 && in8 b2) = true) : evF Try.prog ΓM6 400 75 [.sa 0 1 1 7] [.buf 1 [.v (.int .u8 b0), .v (.int .u8 b1), .v (.int .u8 b2), .v (.int .u8 0), .v (.int .u8 0), .v (.int .u8 0), .v (.int .u8 0), .v (.int .u8 0)] T, .dead] (kTk 2) kNo = some (.tup [.agg [.v (.int .i64 (ansI (rmT b0 b1 b2 T) 0)), .v (.int .i64 (ansI (rmT b0 b1 b2 T) 1)), .v (.int .i64 (ansI (rmT b0 b1 b2 T) 2)), .v (.int .i64 (ansI (rmT b0 b1 b2 T) 3)), .v (.int .i64 (ansI (rmT b0 b1 b2 T) 4)), .v (.int .u32 (ansI (rmT b0 b1 b2 T) 5))], .v (.int .i64 (ansI (rmT b0 b1 b2 T) 6)), .v (.int .i64 (ansI (rmT b0 b1 b2 T) 7)), .v (.int .i64 (ansI (rmT b0 b1 b2 T) 8))], [.buf 1 [.v (.int .u8 b0), .v (.int .u8 b1), .v (.int .u8 b2), .v (.int .u8 0), .v (.int .u8 0), .v (.int .u8 0), .v (.int .u8 0), .v (.int .u8 0)] T, .dead]) := (lockI_eq _ _).symm.trans (rm_is b0 b1 b2 T hg)
theorem in_none {j : Nat} : in32 (ansI none j) = true := rfl
theorem in_cond {c : Bool} {A B : Option (Sv × List SObj)} {j : Nat} (ha : in32 (ansI A j) = true) (hb : in32 (ansI B j) = true) : in32 (ansI (bif c then A else B) j) = true := by cases c; exact hb; exact ha
theorem in32_orL {a b : Int} (ha : in32 a = true) (hb : in32 b = true) : in32 (bitsL .or .u32 a b) = true := by
  rw [bitsL_eq]
  rw [in32_iff] at ha hb ⊢
  rw [u32_or _ _ ha.1 ha.2 hb.1 hb.2]
  have : a.toNat ||| b.toNat < 2 ^ 32 := Nat.or_lt_two_pow (by omega) (by omega)
  omega
theorem rm_in (b0 b1 b2 : Int) (T : TypeId) : in32 (ansI (rmT b0 b1 b2 T) 5) = true := by
  rw [rm_tree]
  repeat' refine in_cond ?_ ?_
  all_goals (simp only [vw, vi, ansI, flatS, flatL, List.cons_append, List.nil_append, List.getElem?_cons_succ, List.getElem?_cons_zero]; first | with_reducible exact in32_orL (in32_orL (in32_orL (in32_wr _) (in32_wr _)) (in32_wr _)) (in32_wr _) | with_reducible exact in32_wr _ | rfl)
noncomputable def rmS : Ev.Spec := fun R args m k kp => match args with
  | [.sa b c o n] => (match m[b]? with
    | some (.buf c2 cs T) => (match m[c]? with
      | some .dead => (match cs with
        | [.v (.int .u8 b0), .v (.int .u8 b1), .v (.int .u8 b2), .v (.int .u8 z0), .v (.int .u8 z1), .v (.int .u8 z2), .v (.int .u8 z3), .v (.int .u8 z4)] => bif Nat.beq o 1 && (Nat.beq n 7 && (Nat.beq c2 c && (!Nat.beq b c && (in8 b1 && (in8 b2 && ((z0 == 0) && ((z1 == 0) && ((z2 == 0) && ((z3 == 0) && ((z4 == 0))))))))))) then (k (.tup [.agg [.v (.int .i64 (ansI (rmT b0 b1 b2 T) 0)), .v (.int .i64 (ansI (rmT b0 b1 b2 T) 1)), .v (.int .i64 (ansI (rmT b0 b1 b2 T) 2)), .v (.int .i64 (ansI (rmT b0 b1 b2 T) 3)), .v (.int .i64 (ansI (rmT b0 b1 b2 T) 4)), .v (.int .u32 (ansI (rmT b0 b1 b2 T) 5))], .v (.int .i64 (ansI (rmT b0 b1 b2 T) 6)), .v (.int .i64 (ansI (rmT b0 b1 b2 T) 7)), .v (.int .i64 (ansI (rmT b0 b1 b2 T) 8))]) (((m.set b (.buf c [.v (.int .u8 b0), .v (.int .u8 b1), .v (.int .u8 b2), .v (.int .u8 0), .v (.int .u8 0), .v (.int .u8 0), .v (.int .u8 0), .v (.int .u8 0)] T)).set c .dead) ++ [])) else none
        | _ => none)
      | _ => none)
    | _ => none)
  | _ => none
set_option maxHeartbeats 4000000 in
theorem rmS_ok : SpecOk Try.prog XM 75 rmS := by
  intro R args m k kp r h
  unfold rmS at h
  split at h
  · rename_i _ b c o n
    split at h
    · rename_i _ c2 cs T hb
      split at h
      · rename_i _ hc
        split at h
        · rename_i _ b0 b1 b2 z0 z1 z2 z3 z4
          obtain ⟨hg, h5⟩ := cond_some h
          clear h
          rename _ = some r => h
          simp only [Bool.and_eq_true, Bool.not_eq_true', beq_iff_eq] at hg
          obtain ⟨g3, g4, g5, g6, g1, g2, rfl, rfl, rfl, rfl, rfl⟩ := hg
          have g3 := Nat.eq_of_beq_eq_true g3
          have g4 := Nat.eq_of_beq_eq_true g4
          have g5 := Nat.eq_of_beq_eq_true g5
          subst g3 g4 g5
          have hbc : ¬ b = c2 := fun e => by rw [e] at g6; simp at g6
          first
          | (
            exact .inl ⟨_, _, h, (callR_evT ΓM6_ok (by kernel_rfl) (rm_ev b0 b1 b2 T (by rw [g1, g2]; rfl)) rfl rfl rfl rfl).frameL [b, c2] (by simpa using hbc) ⟨hb, hc, trivial⟩ rfl rfl rfl rfl rfl rfl rfl⟩
          )
        · cases h
      · cases h
    · cases h
  · cases h
noncomputable def ΓRm : Env := ΓM6.add 75 rmS
theorem ΓRm_ok : EnvOk Try.prog X0 ΓRm := ΓM6_ok.add (by kernel_rfl) rmS_ok
end Go.Proofs.Ytjcbgjakomalaaa
