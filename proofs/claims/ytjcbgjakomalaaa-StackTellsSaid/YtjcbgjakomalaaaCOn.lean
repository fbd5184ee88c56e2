/- Instructions that lay down, over bytes of which two are not told. -/
import Derived.Test.YtjcbgjakomalaaaEvV
import Derived.Test.YtjcbgjakomalaaaCRm
namespace Go.Proofs.Ytjcbgjakomalaaa
open Go Go.Ev
set_option linter.unusedVariables false
set_option linter.unusedSimpArgs false
set_option maxRecDepth 100000
theorem on50_form (b1 b2 : Int) (T : TypeId) :
    evF Try.prog ΓRm 400 41 [.sa 0 1 0 8] [.buf 1 [.v (.int .u8 80), .v (.int .u8 b1), .v (.int .u8 b2), .v (.int .u8 0), .v (.int .u8 0), .v (.int .u8 0), .v (.int .u8 0), .v (.int .u8 0)] T, .dead] (kTk 2) kNo =
    (some
(Sv.tup
[Sv.agg
[vi 23, vi 0, vi 4,
vi 1,
vi ((IntKind.wrap IntKind.i64 (bitsL BinOp.and IntKind.u8 80 7))),
vi ((-1)), vi ((-1)), vi 1,
vw 0, vi 0, vi 0,
vi ((-1)), vi ((-1)), vi 1,
vw 0, vw 0, vb false,
vi 1],
vi 0],
[SObj.buf 1
[vy 80, vy b1, vy b2,
vy 0, vy 0, vy 0,
vy 0, vy 0]
T,
SObj.dead])) := by kernel_rfl
theorem on50_ev (b1 b2 : Int) (T : TypeId) (hg : (in8 b1 && in8 b2) = true) : evF Try.prog ΓRm 400 41 [.sa 0 1 0 8] [.buf 1 [.v (.int .u8 80), .v (.int .u8 b1), .v (.int .u8 b2), .v (.int .u8 0), .v (.int .u8 0), .v (.int .u8 0), .v (.int .u8 0), .v (.int .u8 0)] T, .dead] (kTk 2) kNo = some ((Sv.tup [Sv.agg [vi 23, vi 0, vi 4, vi 1, vi ((IntKind.wrap IntKind.i64 (bitsL BinOp.and IntKind.u8 80 7))), vi ((-1)), vi ((-1)), vi 1, vw 0, vi 0, vi 0, vi ((-1)), vi ((-1)), vi 1, vw 0, vw 0, vb false, vi 1], vi 0]), [.buf 1 [.v (.int .u8 80), .v (.int .u8 b1), .v (.int .u8 b2), .v (.int .u8 0), .v (.int .u8 0), .v (.int .u8 0), .v (.int .u8 0), .v (.int .u8 0)] T, .dead]) := on50_form b1 b2 T
theorem on51_form (b1 b2 : Int) (T : TypeId) :
    evF Try.prog ΓRm 400 41 [.sa 0 1 0 8] [.buf 1 [.v (.int .u8 81), .v (.int .u8 b1), .v (.int .u8 b2), .v (.int .u8 0), .v (.int .u8 0), .v (.int .u8 0), .v (.int .u8 0), .v (.int .u8 0)] T, .dead] (kTk 2) kNo =
    (some
(Sv.tup
[Sv.agg
[vi 23, vi 0, vi 4,
vi 1,
vi ((IntKind.wrap IntKind.i64 (bitsL BinOp.and IntKind.u8 81 7))),
vi ((-1)), vi ((-1)), vi 1,
vw 0, vi 0, vi 0,
vi ((-1)), vi ((-1)), vi 1,
vw 0, vw 0, vb false,
vi 1],
vi 0],
[SObj.buf 1
[vy 81, vy b1, vy b2,
vy 0, vy 0, vy 0,
vy 0, vy 0]
T,
SObj.dead])) := by kernel_rfl
theorem on51_ev (b1 b2 : Int) (T : TypeId) (hg : (in8 b1 && in8 b2) = true) : evF Try.prog ΓRm 400 41 [.sa 0 1 0 8] [.buf 1 [.v (.int .u8 81), .v (.int .u8 b1), .v (.int .u8 b2), .v (.int .u8 0), .v (.int .u8 0), .v (.int .u8 0), .v (.int .u8 0), .v (.int .u8 0)] T, .dead] (kTk 2) kNo = some ((Sv.tup [Sv.agg [vi 23, vi 0, vi 4, vi 1, vi ((IntKind.wrap IntKind.i64 (bitsL BinOp.and IntKind.u8 81 7))), vi ((-1)), vi ((-1)), vi 1, vw 0, vi 0, vi 0, vi ((-1)), vi ((-1)), vi 1, vw 0, vw 0, vb false, vi 1], vi 0]), [.buf 1 [.v (.int .u8 81), .v (.int .u8 b1), .v (.int .u8 b2), .v (.int .u8 0), .v (.int .u8 0), .v (.int .u8 0), .v (.int .u8 0), .v (.int .u8 0)] T, .dead]) := on51_form b1 b2 T
theorem on54_form (b1 b2 : Int) (T : TypeId) :
    evF Try.prog ΓRm 400 41 [.sa 0 1 0 8] [.buf 1 [.v (.int .u8 84), .v (.int .u8 b1), .v (.int .u8 b2), .v (.int .u8 0), .v (.int .u8 0), .v (.int .u8 0), .v (.int .u8 0), .v (.int .u8 0)] T, .dead] (kTk 2) kNo =
    (some
(Sv.tup
[Sv.agg
[vi 23, vi 0, vi 4,
vi 1,
vi ((IntKind.wrap IntKind.i64 (bitsL BinOp.and IntKind.u8 84 7))),
vi ((-1)), vi ((-1)), vi 1,
vw 0, vi 0, vi 0,
vi ((-1)), vi ((-1)), vi 1,
vw 0, vw 0, vb false,
vi 1],
vi 0],
[SObj.buf 1
[vy 84, vy b1, vy b2,
vy 0, vy 0, vy 0,
vy 0, vy 0]
T,
SObj.dead])) := by kernel_rfl
theorem on54_ev (b1 b2 : Int) (T : TypeId) (hg : (in8 b1 && in8 b2) = true) : evF Try.prog ΓRm 400 41 [.sa 0 1 0 8] [.buf 1 [.v (.int .u8 84), .v (.int .u8 b1), .v (.int .u8 b2), .v (.int .u8 0), .v (.int .u8 0), .v (.int .u8 0), .v (.int .u8 0), .v (.int .u8 0)] T, .dead] (kTk 2) kNo = some ((Sv.tup [Sv.agg [vi 23, vi 0, vi 4, vi 1, vi ((IntKind.wrap IntKind.i64 (bitsL BinOp.and IntKind.u8 84 7))), vi ((-1)), vi ((-1)), vi 1, vw 0, vi 0, vi 0, vi ((-1)), vi ((-1)), vi 1, vw 0, vw 0, vb false, vi 1], vi 0]), [.buf 1 [.v (.int .u8 84), .v (.int .u8 b1), .v (.int .u8 b2), .v (.int .u8 0), .v (.int .u8 0), .v (.int .u8 0), .v (.int .u8 0), .v (.int .u8 0)] T, .dead]) := on54_form b1 b2 T
theorem on58_form (b1 b2 : Int) (T : TypeId) :
    evF Try.prog ΓRm 400 41 [.sa 0 1 0 8] [.buf 1 [.v (.int .u8 88), .v (.int .u8 b1), .v (.int .u8 b2), .v (.int .u8 0), .v (.int .u8 0), .v (.int .u8 0), .v (.int .u8 0), .v (.int .u8 0)] T, .dead] (kTk 2) kNo =
    (some
(Sv.tup
[Sv.agg
[vi 24, vi 0, vi 4,
vi 1,
vi ((IntKind.wrap IntKind.i64 (bitsL BinOp.and IntKind.u8 88 7))),
vi ((-1)), vi ((-1)), vi 1,
vw 0, vi 0, vi 0,
vi ((-1)), vi ((-1)), vi 1,
vw 0, vw 0, vb false,
vi 1],
vi 0],
[SObj.buf 1
[vy 88, vy b1, vy b2,
vy 0, vy 0, vy 0,
vy 0, vy 0]
T,
SObj.dead])) := by kernel_rfl
theorem on58_ev (b1 b2 : Int) (T : TypeId) (hg : (in8 b1 && in8 b2) = true) : evF Try.prog ΓRm 400 41 [.sa 0 1 0 8] [.buf 1 [.v (.int .u8 88), .v (.int .u8 b1), .v (.int .u8 b2), .v (.int .u8 0), .v (.int .u8 0), .v (.int .u8 0), .v (.int .u8 0), .v (.int .u8 0)] T, .dead] (kTk 2) kNo = some ((Sv.tup [Sv.agg [vi 24, vi 0, vi 4, vi 1, vi ((IntKind.wrap IntKind.i64 (bitsL BinOp.and IntKind.u8 88 7))), vi ((-1)), vi ((-1)), vi 1, vw 0, vi 0, vi 0, vi ((-1)), vi ((-1)), vi 1, vw 0, vw 0, vb false, vi 1], vi 0]), [.buf 1 [.v (.int .u8 88), .v (.int .u8 b1), .v (.int .u8 b2), .v (.int .u8 0), .v (.int .u8 0), .v (.int .u8 0), .v (.int .u8 0), .v (.int .u8 0)] T, .dead]) := on58_form b1 b2 T
theorem on5c_form (b1 b2 : Int) (T : TypeId) :
    evF Try.prog ΓRm 400 41 [.sa 0 1 0 8] [.buf 1 [.v (.int .u8 92), .v (.int .u8 b1), .v (.int .u8 b2), .v (.int .u8 0), .v (.int .u8 0), .v (.int .u8 0), .v (.int .u8 0), .v (.int .u8 0)] T, .dead] (kTk 2) kNo =
    (some
(Sv.tup
[Sv.agg
[vi 24, vi 0, vi 4,
vi 1,
vi ((IntKind.wrap IntKind.i64 (bitsL BinOp.and IntKind.u8 92 7))),
vi ((-1)), vi ((-1)), vi 1,
vw 0, vi 0, vi 0,
vi ((-1)), vi ((-1)), vi 1,
vw 0, vw 0, vb false,
vi 1],
vi 0],
[SObj.buf 1
[vy 92, vy b1, vy b2,
vy 0, vy 0, vy 0,
vy 0, vy 0]
T,
SObj.dead])) := by kernel_rfl
theorem on5c_ev (b1 b2 : Int) (T : TypeId) (hg : (in8 b1 && in8 b2) = true) : evF Try.prog ΓRm 400 41 [.sa 0 1 0 8] [.buf 1 [.v (.int .u8 92), .v (.int .u8 b1), .v (.int .u8 b2), .v (.int .u8 0), .v (.int .u8 0), .v (.int .u8 0), .v (.int .u8 0), .v (.int .u8 0)] T, .dead] (kTk 2) kNo = some ((Sv.tup [Sv.agg [vi 24, vi 0, vi 4, vi 1, vi ((IntKind.wrap IntKind.i64 (bitsL BinOp.and IntKind.u8 92 7))), vi ((-1)), vi ((-1)), vi 1, vw 0, vi 0, vi 0, vi ((-1)), vi ((-1)), vi 1, vw 0, vw 0, vb false, vi 1], vi 0]), [.buf 1 [.v (.int .u8 92), .v (.int .u8 b1), .v (.int .u8 b2), .v (.int .u8 0), .v (.int .u8 0), .v (.int .u8 0), .v (.int .u8 0), .v (.int .u8 0)] T, .dead]) := on5c_form b1 b2 T
theorem on5d_form (b1 b2 : Int) (T : TypeId) :
    evF Try.prog ΓRm 400 41 [.sa 0 1 0 8] [.buf 1 [.v (.int .u8 93), .v (.int .u8 b1), .v (.int .u8 b2), .v (.int .u8 0), .v (.int .u8 0), .v (.int .u8 0), .v (.int .u8 0), .v (.int .u8 0)] T, .dead] (kTk 2) kNo =
    (some
(Sv.tup
[Sv.agg
[vi 24, vi 0, vi 4,
vi 1,
vi ((IntKind.wrap IntKind.i64 (bitsL BinOp.and IntKind.u8 93 7))),
vi ((-1)), vi ((-1)), vi 1,
vw 0, vi 0, vi 0,
vi ((-1)), vi ((-1)), vi 1,
vw 0, vw 0, vb false,
vi 1],
vi 0],
[SObj.buf 1
[vy 93, vy b1, vy b2,
vy 0, vy 0, vy 0,
vy 0, vy 0]
T,
SObj.dead])) := by kernel_rfl
theorem on5d_ev (b1 b2 : Int) (T : TypeId) (hg : (in8 b1 && in8 b2) = true) : evF Try.prog ΓRm 400 41 [.sa 0 1 0 8] [.buf 1 [.v (.int .u8 93), .v (.int .u8 b1), .v (.int .u8 b2), .v (.int .u8 0), .v (.int .u8 0), .v (.int .u8 0), .v (.int .u8 0), .v (.int .u8 0)] T, .dead] (kTk 2) kNo = some ((Sv.tup [Sv.agg [vi 24, vi 0, vi 4, vi 1, vi ((IntKind.wrap IntKind.i64 (bitsL BinOp.and IntKind.u8 93 7))), vi ((-1)), vi ((-1)), vi 1, vw 0, vi 0, vi 0, vi ((-1)), vi ((-1)), vi 1, vw 0, vw 0, vb false, vi 1], vi 0]), [.buf 1 [.v (.int .u8 93), .v (.int .u8 b1), .v (.int .u8 b2), .v (.int .u8 0), .v (.int .u8 0), .v (.int .u8 0), .v (.int .u8 0), .v (.int .u8 0)] T, .dead]) := on5d_form b1 b2 T
theorem onc9_form (b1 b2 : Int) (T : TypeId) :
    evF Try.prog ΓRm 400 41 [.sa 0 1 0 8] [.buf 1 [.v (.int .u8 201), .v (.int .u8 b1), .v (.int .u8 b2), .v (.int .u8 0), .v (.int .u8 0), .v (.int .u8 0), .v (.int .u8 0), .v (.int .u8 0)] T, .dead] (kTk 2) kNo =
    (some
(Sv.tup
[Sv.agg
[vi 49, vi 0, vi 0,
vi 0, vi 0, vi ((-1)),
vi ((-1)), vi 1, vw 0,
vi 0, vi 0, vi ((-1)),
vi ((-1)), vi 1, vw 0,
vw 0, vb false, vi 1],
vi 0],
[SObj.buf 1
[vy 201, vy b1, vy b2,
vy 0, vy 0, vy 0,
vy 0, vy 0]
T,
SObj.dead])) := by kernel_rfl
theorem onc9_ev (b1 b2 : Int) (T : TypeId) (hg : (in8 b1 && in8 b2) = true) : evF Try.prog ΓRm 400 41 [.sa 0 1 0 8] [.buf 1 [.v (.int .u8 201), .v (.int .u8 b1), .v (.int .u8 b2), .v (.int .u8 0), .v (.int .u8 0), .v (.int .u8 0), .v (.int .u8 0), .v (.int .u8 0)] T, .dead] (kTk 2) kNo = some ((Sv.tup [Sv.agg [vi 49, vi 0, vi 0, vi 0, vi 0, vi ((-1)), vi ((-1)), vi 1, vw 0, vi 0, vi 0, vi ((-1)), vi ((-1)), vi 1, vw 0, vw 0, vb false, vi 1], vi 0]), [.buf 1 [.v (.int .u8 201), .v (.int .u8 b1), .v (.int .u8 b2), .v (.int .u8 0), .v (.int .u8 0), .v (.int .u8 0), .v (.int .u8 0), .v (.int .u8 0)] T, .dead]) := onc9_form b1 b2 T
theorem on68_form (b1 b2 : Int) (T : TypeId) :
    evF Try.prog ΓRm 400 41 [.sa 0 1 0 8] [.buf 1 [.v (.int .u8 104), .v (.int .u8 b1), .v (.int .u8 b2), .v (.int .u8 0), .v (.int .u8 0), .v (.int .u8 0), .v (.int .u8 0), .v (.int .u8 0)] T, .dead] (kTk 2) kNo =
    (some
(Sv.tup
[Sv.agg
[vi 23, vi 0, vi 4,
vi 4, vi 0, vi ((-1)),
vi ((-1)), vi 1,
Sv.v
(Value.int IntKind.u32
(bitsL BinOp.or IntKind.u32
(bitsL BinOp.or IntKind.u32
(bitsL BinOp.or IntKind.u32 (IntKind.wrap IntKind.u32 b1)
(IntKind.wrap IntKind.u32 (IntKind.wrap IntKind.u32 b2 * 256)))
(IntKind.wrap IntKind.u32 (IntKind.wrap IntKind.u32 0 * 65536)))
(IntKind.wrap IntKind.u32 (IntKind.wrap IntKind.u32 0 * 16777216)))),
vi 0, vi 0, vi ((-1)),
vi ((-1)), vi 1, vw 0,
vw 0, vb false, vi 5],
vi 0],
[SObj.buf 1
[vy 104, vy b1, vy b2,
vy 0, vy 0, vy 0,
vy 0, vy 0]
T,
SObj.dead])) := by kernel_rfl
theorem on68_ev (b1 b2 : Int) (T : TypeId) (hg : (in8 b1 && in8 b2) = true) : evF Try.prog ΓRm 400 41 [.sa 0 1 0 8] [.buf 1 [.v (.int .u8 104), .v (.int .u8 b1), .v (.int .u8 b2), .v (.int .u8 0), .v (.int .u8 0), .v (.int .u8 0), .v (.int .u8 0), .v (.int .u8 0)] T, .dead] (kTk 2) kNo = some ((Sv.tup [Sv.agg [vi 23, vi 0, vi 4, vi 4, vi 0, vi ((-1)), vi ((-1)), vi 1, vw ((bitsL BinOp.or IntKind.u32 (bitsL BinOp.or IntKind.u32 (bitsL BinOp.or IntKind.u32 (IntKind.wrap IntKind.u32 b1) (IntKind.wrap IntKind.u32 (IntKind.wrap IntKind.u32 b2 * 256))) (IntKind.wrap IntKind.u32 (IntKind.wrap IntKind.u32 0 * 65536))) (IntKind.wrap IntKind.u32 (IntKind.wrap IntKind.u32 0 * 16777216)))), vi 0, vi 0, vi ((-1)), vi ((-1)), vi 1, vw 0, vw 0, vb false, vi 5], vi 0]), [.buf 1 [.v (.int .u8 104), .v (.int .u8 b1), .v (.int .u8 b2), .v (.int .u8 0), .v (.int .u8 0), .v (.int .u8 0), .v (.int .u8 0), .v (.int .u8 0)] T, .dead]) := on68_form b1 b2 T
theorem on6a_form (b1 b2 : Int) (T : TypeId) :
    evF Try.prog ΓRm 400 41 [.sa 0 1 0 8] [.buf 1 [.v (.int .u8 106), .v (.int .u8 b1), .v (.int .u8 b2), .v (.int .u8 0), .v (.int .u8 0), .v (.int .u8 0), .v (.int .u8 0), .v (.int .u8 0)] T, .dead] (kTk 2) kNo =
    (some
(Sv.tup
[Sv.agg
[vi 23, vi 0, vi 4,
vi 4, vi 0, vi ((-1)),
vi ((-1)), vi 1,
vw ((IntKind.wrap IntKind.u32 (IntKind.wrap IntKind.i32 (IntKind.wrap IntKind.i8 b1)))),
vi 0, vi 0, vi ((-1)),
vi ((-1)), vi 1, vw 0,
vw 0, vb false, vi 2],
vi 0],
[SObj.buf 1
[vy 106, vy b1, vy b2,
vy 0, vy 0, vy 0,
vy 0, vy 0]
T,
SObj.dead])) := by kernel_rfl
theorem on6a_ev (b1 b2 : Int) (T : TypeId) (hg : (in8 b1 && in8 b2) = true) : evF Try.prog ΓRm 400 41 [.sa 0 1 0 8] [.buf 1 [.v (.int .u8 106), .v (.int .u8 b1), .v (.int .u8 b2), .v (.int .u8 0), .v (.int .u8 0), .v (.int .u8 0), .v (.int .u8 0), .v (.int .u8 0)] T, .dead] (kTk 2) kNo = some ((Sv.tup [Sv.agg [vi 23, vi 0, vi 4, vi 4, vi 0, vi ((-1)), vi ((-1)), vi 1, vw ((IntKind.wrap IntKind.u32 (IntKind.wrap IntKind.i32 (IntKind.wrap IntKind.i8 b1)))), vi 0, vi 0, vi ((-1)), vi ((-1)), vi 1, vw 0, vw 0, vb false, vi 2], vi 0]), [.buf 1 [.v (.int .u8 106), .v (.int .u8 b1), .v (.int .u8 b2), .v (.int .u8 0), .v (.int .u8 0), .v (.int .u8 0), .v (.int .u8 0), .v (.int .u8 0)] T, .dead]) := on6a_form b1 b2 T
noncomputable def on8fT (b1 b2 : Int) (T : TypeId) : Option (Sv × List SObj) := lockI b1 (evF Try.prog ΓRm 400 41 [.sa 0 1 0 8] [.buf 1 [.v (.int .u8 143), .v (.int .u8 b1), .v (.int .u8 b2), .v (.int .u8 0), .v (.int .u8 0), .v (.int .u8 0), .v (.int .u8 0), .v (.int .u8 0)] T, .dead] (kTk 2) kNo)
theorem on8f_tree (b1 b2 : Int) (T : TypeId) : on8fT b1 b2 T = (bif decide (IntKind.wrap IntKind.i64 (bitsL BinOp.and IntKind.u8 (Int.fdiv b1 8) 7) < 0) then
some
(Sv.tup
[Sv.agg
[vi 0, vi 0, vi 0,
vi 0, vi 0, vi 0,
vi 0, vi 0, vw 0,
vi 0, vi 0, vi 0,
vi 0, vi 0, vw 0,
vw 0, vb false, vi 0],
vi 21],
[SObj.buf 1
[vy 143, vy b1, vy b2,
vy 0, vy 0, vy 0,
vy 0, vy 0]
T,
SObj.dead])
else
bif decide (IntKind.wrap IntKind.i64 (bitsL BinOp.and IntKind.u8 (Int.fdiv b1 8) 7) < 1) then
bif
decide (0 ≤ IntKind.wrap IntKind.i64 (bitsL BinOp.and IntKind.u8 (Int.fdiv b1 8) 7)) &&
decide (IntKind.wrap IntKind.i64 (bitsL BinOp.and IntKind.u8 (Int.fdiv b1 8) 7) < 1) then
bif true && (true && (true && (true && (in8 b1 && (in8 b2 && true))))) then
bif ansI (rmT 143 b1 b2 T) 8 != 0 then
some
(Sv.tup
[Sv.agg
[vi 0, vi 0, vi 0,
vi 0, vi 0, vi 0,
vi 0, vi 0, vw 0,
vi 0, vi 0, vi 0,
vi 0, vi 0, vw 0,
vw 0, vb false, vi 0],
vi ((ansI (rmT 143 b1 b2 T) 8))],
[SObj.buf 1
[vy 143, vy b1, vy b2,
vy 0, vy 0, vy 0,
vy 0, vy 0]
T,
SObj.dead])
else
bif decide (8 < IntKind.wrap IntKind.i64 (IntKind.wrap IntKind.i64 (1 + ansI (rmT 143 b1 b2 T) 7) + 0)) then
some
(Sv.tup
[Sv.agg
[vi 0, vi 0, vi 0,
vi 0, vi 0, vi 0,
vi 0, vi 0, vw 0,
vi 0, vi 0, vi 0,
vi 0, vi 0, vw 0,
vw 0, vb false, vi 0],
vi 21],
[SObj.buf 1
[vy 143, vy b1, vy b2,
vy 0, vy 0, vy 0,
vy 0, vy 0]
T,
SObj.dead])
else
some
(Sv.tup
[Sv.agg
[vi ((selL (IntKind.wrap IntKind.i64 (bitsL BinOp.and IntKind.u8 (Int.fdiv b1 8) 7)) 0 [24])),
vi 0, vi 4, vi ((ansI (rmT 143 b1 b2 T) 0)),
vi ((ansI (rmT 143 b1 b2 T) 1)), vi ((ansI (rmT 143 b1 b2 T) 2)),
vi ((ansI (rmT 143 b1 b2 T) 3)), vi ((ansI (rmT 143 b1 b2 T) 4)),
vw ((ansI (rmT 143 b1 b2 T) 5)), vi 0, vi 0,
vi ((-1)), vi ((-1)), vi 1,
vw 0, vw 0, vb false,
vi ((IntKind.wrap IntKind.i64 (IntKind.wrap IntKind.i64 (1 + ansI (rmT 143 b1 b2 T) 7) + 0)))],
vi 0],
[SObj.buf 1
[vy 143, vy b1, vy b2,
vy 0, vy 0, vy 0,
vy 0, vy 0]
T,
SObj.dead])
else none
else none
else
some
(Sv.tup
[Sv.agg
[vi 0, vi 0, vi 0,
vi 0, vi 0, vi 0,
vi 0, vi 0, vw 0,
vi 0, vi 0, vi 0,
vi 0, vi 0, vw 0,
vw 0, vb false, vi 0],
vi 22],
[SObj.buf 1
[vy 143, vy b1, vy b2,
vy 0, vy 0, vy 0,
vy 0, vy 0]
T,
SObj.dead])) := (lockI_eq _ _).trans (by kernel_rfl)
noncomputable def on8fF (b1 b2 : Int) (T : TypeId) (X : Option (Sv × List SObj)) : Option (Sv × List SObj) := some (.tup [.agg [.v (.int .i64 (ansI (X) 0)), .v (.int .i64 (ansI (X) 1)), .v (.int .i64 (ansI (X) 2)), .v (.int .i64 (ansI (X) 3)), .v (.int .i64 (ansI (X) 4)), .v (.int .i64 (ansI (X) 5)), .v (.int .i64 (ansI (X) 6)), .v (.int .i64 (ansI (X) 7)), .v (.int .u32 (ansI (X) 8)), .v (.int .i64 (ansI (X) 9)), .v (.int .i64 (ansI (X) 10)), .v (.int .i64 (ansI (X) 11)), .v (.int .i64 (ansI (X) 12)), .v (.int .i64 (ansI (X) 13)), .v (.int .u32 (ansI (X) 14)), .v (.int .u32 (ansI (X) 15)), .v (.bool (ansB (X) 16)), .v (.int .i64 (ansI (X) 17))], .v (.int .i64 (ansI (X) 18))], [.buf 1 [.v (.int .u8 143), .v (.int .u8 b1), .v (.int .u8 b2), .v (.int .u8 0), .v (.int .u8 0), .v (.int .u8 0), .v (.int .u8 0), .v (.int .u8 0)] T, .dead])
theorem on8f_is (b1 b2 : Int) (T : TypeId) (hg : (in8 b1 && in8 b2) = true) : on8fT b1 b2 T = on8fF b1 b2 T (on8fT b1 b2 T) := by
  have h := on8f_tree b1 b2 T
  rw [Bool.and_eq_true] at hg
  simp only [hg.1, hg.2, Bool.and_self, Bool.and_true, Bool.true_and, cond_true] at h
  generalize IntKind.wrap .i64 (bitsL .and .u8 (Int.fdiv b1 8) 7) = r at h
  by_cases q0 : r < 0
  · rw [show decide (r < 0) = true from decide_eq_true q0] at h
    simp only [cond_true] at h
    rw [h]
    rfl
  · rw [show decide (r < 0) = false from decide_eq_false q0] at h
    simp only [show decide (0 ≤ r) = true from decide_eq_true (by omega), Bool.true_and, cond_false] at h
    cases hc : decide (r < 1) <;> rw [hc] at h <;> simp only [cond_true, cond_false] at h <;> rw [h] <;> repeat' (first | exact rfl | refine ans_cond (F := on8fF b1 b2 T) ?_ ?_)
theorem on8f_ev (b1 b2 : Int) (T : TypeId) (hg : (in8 b1 && in8 b2) = true) : evF Try.prog ΓRm 400 41 [.sa 0 1 0 8] [.buf 1 [.v (.int .u8 143), .v (.int .u8 b1), .v (.int .u8 b2), .v (.int .u8 0), .v (.int .u8 0), .v (.int .u8 0), .v (.int .u8 0), .v (.int .u8 0)] T, .dead] (kTk 2) kNo = some (.tup [.agg [.v (.int .i64 (ansI (on8fT b1 b2 T) 0)), .v (.int .i64 (ansI (on8fT b1 b2 T) 1)), .v (.int .i64 (ansI (on8fT b1 b2 T) 2)), .v (.int .i64 (ansI (on8fT b1 b2 T) 3)), .v (.int .i64 (ansI (on8fT b1 b2 T) 4)), .v (.int .i64 (ansI (on8fT b1 b2 T) 5)), .v (.int .i64 (ansI (on8fT b1 b2 T) 6)), .v (.int .i64 (ansI (on8fT b1 b2 T) 7)), .v (.int .u32 (ansI (on8fT b1 b2 T) 8)), .v (.int .i64 (ansI (on8fT b1 b2 T) 9)), .v (.int .i64 (ansI (on8fT b1 b2 T) 10)), .v (.int .i64 (ansI (on8fT b1 b2 T) 11)), .v (.int .i64 (ansI (on8fT b1 b2 T) 12)), .v (.int .i64 (ansI (on8fT b1 b2 T) 13)), .v (.int .u32 (ansI (on8fT b1 b2 T) 14)), .v (.int .u32 (ansI (on8fT b1 b2 T) 15)), .v (.bool (ansB (on8fT b1 b2 T) 16)), .v (.int .i64 (ansI (on8fT b1 b2 T) 17))], .v (.int .i64 (ansI (on8fT b1 b2 T) 18))], [.buf 1 [.v (.int .u8 143), .v (.int .u8 b1), .v (.int .u8 b2), .v (.int .u8 0), .v (.int .u8 0), .v (.int .u8 0), .v (.int .u8 0), .v (.int .u8 0)] T, .dead]) := (lockI_eq _ _).symm.trans (on8f_is b1 b2 T hg)
theorem on8f_in (b1 b2 : Int) (T : TypeId) : in32 (ansI (on8fT b1 b2 T) 8) = true := by
  rw [on8f_tree]
  have hr := rm_in 143 b1 b2 T
  generalize ansI (rmT 143 b1 b2 T) 5 = y at hr ⊢
  repeat' refine in_cond ?_ ?_
  all_goals (simp only [vw, vi, vb, ansI, flatS, flatL, List.cons_append, List.nil_append, List.getElem?_cons_succ, List.getElem?_cons_zero]; first | with_reducible exact hr | rfl | with_reducible exact in_none)
noncomputable def onffT (b1 b2 : Int) (T : TypeId) : Option (Sv × List SObj) := lockI b1 (evF Try.prog ΓRm 400 41 [.sa 0 1 0 8] [.buf 1 [.v (.int .u8 255), .v (.int .u8 b1), .v (.int .u8 b2), .v (.int .u8 0), .v (.int .u8 0), .v (.int .u8 0), .v (.int .u8 0), .v (.int .u8 0)] T, .dead] (kTk 2) kNo)
theorem onff_tree (b1 b2 : Int) (T : TypeId) : onffT b1 b2 T = (bif decide (IntKind.wrap IntKind.i64 (bitsL BinOp.and IntKind.u8 (Int.fdiv b1 8) 7) < 0) then
some
(Sv.tup
[Sv.agg
[vi 0, vi 0, vi 0,
vi 0, vi 0, vi 0,
vi 0, vi 0, vw 0,
vi 0, vi 0, vi 0,
vi 0, vi 0, vw 0,
vw 0, vb false, vi 0],
vi 21],
[SObj.buf 1
[vy 255, vy b1, vy b2,
vy 0, vy 0, vy 0,
vy 0, vy 0]
T,
SObj.dead])
else
bif decide (IntKind.wrap IntKind.i64 (bitsL BinOp.and IntKind.u8 (Int.fdiv b1 8) 7) < 7) then
bif
decide (0 ≤ IntKind.wrap IntKind.i64 (bitsL BinOp.and IntKind.u8 (Int.fdiv b1 8) 7)) &&
decide (IntKind.wrap IntKind.i64 (bitsL BinOp.and IntKind.u8 (Int.fdiv b1 8) 7) < 7) then
bif
!selL (IntKind.wrap IntKind.i64 (bitsL BinOp.and IntKind.u8 (Int.fdiv b1 8) 7)) 0 [16, 17, 33, 0, 32, 0, 23] != 0 then
some
(Sv.tup
[Sv.agg
[vi 0, vi 0, vi 0,
vi 0, vi 0, vi 0,
vi 0, vi 0, vw 0,
vi 0, vi 0, vi 0,
vi 0, vi 0, vw 0,
vw 0, vb false, vi 0],
vi 22],
[SObj.buf 1
[vy 255, vy b1, vy b2,
vy 0, vy 0, vy 0,
vy 0, vy 0]
T,
SObj.dead])
else
bif true && (true && (true && (true && (in8 b1 && (in8 b2 && true))))) then
bif ansI (rmT 255 b1 b2 T) 8 != 0 then
some
(Sv.tup
[Sv.agg
[vi 0, vi 0, vi 0,
vi 0, vi 0, vi 0,
vi 0, vi 0, vw 0,
vi 0, vi 0, vi 0,
vi 0, vi 0, vw 0,
vw 0, vb false, vi 0],
vi ((ansI (rmT 255 b1 b2 T) 8))],
[SObj.buf 1
[vy 255, vy b1, vy b2,
vy 0, vy 0, vy 0,
vy 0, vy 0]
T,
SObj.dead])
else
bif decide (8 < IntKind.wrap IntKind.i64 (IntKind.wrap IntKind.i64 (1 + ansI (rmT 255 b1 b2 T) 7) + 0)) then
some
(Sv.tup
[Sv.agg
[vi 0, vi 0, vi 0,
vi 0, vi 0, vi 0,
vi 0, vi 0, vw 0,
vi 0, vi 0, vi 0,
vi 0, vi 0, vw 0,
vw 0, vb false, vi 0],
vi 21],
[SObj.buf 1
[vy 255, vy b1, vy b2,
vy 0, vy 0, vy 0,
vy 0, vy 0]
T,
SObj.dead])
else
some
(Sv.tup
[Sv.agg
[Sv.v
(Value.int IntKind.i64
(selL (IntKind.wrap IntKind.i64 (bitsL BinOp.and IntKind.u8 (Int.fdiv b1 8) 7)) 0 [16, 17, 33, 0, 32, 0, 23])),
vi 0, vi 4, vi ((ansI (rmT 255 b1 b2 T) 0)),
vi ((ansI (rmT 255 b1 b2 T) 1)), vi ((ansI (rmT 255 b1 b2 T) 2)),
vi ((ansI (rmT 255 b1 b2 T) 3)), vi ((ansI (rmT 255 b1 b2 T) 4)),
vw ((ansI (rmT 255 b1 b2 T) 5)), vi 0, vi 0,
vi ((-1)), vi ((-1)), vi 1,
vw 0, vw 0, vb false,
vi ((IntKind.wrap IntKind.i64 (IntKind.wrap IntKind.i64 (1 + ansI (rmT 255 b1 b2 T) 7) + 0)))],
vi 0],
[SObj.buf 1
[vy 255, vy b1, vy b2,
vy 0, vy 0, vy 0,
vy 0, vy 0]
T,
SObj.dead])
else none
else none
else
some
(Sv.tup
[Sv.agg
[vi 0, vi 0, vi 0,
vi 0, vi 0, vi 0,
vi 0, vi 0, vw 0,
vi 0, vi 0, vi 0,
vi 0, vi 0, vw 0,
vw 0, vb false, vi 0],
vi 22],
[SObj.buf 1
[vy 255, vy b1, vy b2,
vy 0, vy 0, vy 0,
vy 0, vy 0]
T,
SObj.dead])) := (lockI_eq _ _).trans (by kernel_rfl)
noncomputable def onffF (b1 b2 : Int) (T : TypeId) (X : Option (Sv × List SObj)) : Option (Sv × List SObj) := some (.tup [.agg [.v (.int .i64 (ansI (X) 0)), .v (.int .i64 (ansI (X) 1)), .v (.int .i64 (ansI (X) 2)), .v (.int .i64 (ansI (X) 3)), .v (.int .i64 (ansI (X) 4)), .v (.int .i64 (ansI (X) 5)), .v (.int .i64 (ansI (X) 6)), .v (.int .i64 (ansI (X) 7)), .v (.int .u32 (ansI (X) 8)), .v (.int .i64 (ansI (X) 9)), .v (.int .i64 (ansI (X) 10)), .v (.int .i64 (ansI (X) 11)), .v (.int .i64 (ansI (X) 12)), .v (.int .i64 (ansI (X) 13)), .v (.int .u32 (ansI (X) 14)), .v (.int .u32 (ansI (X) 15)), .v (.bool (ansB (X) 16)), .v (.int .i64 (ansI (X) 17))], .v (.int .i64 (ansI (X) 18))], [.buf 1 [.v (.int .u8 255), .v (.int .u8 b1), .v (.int .u8 b2), .v (.int .u8 0), .v (.int .u8 0), .v (.int .u8 0), .v (.int .u8 0), .v (.int .u8 0)] T, .dead])
theorem onff_is (b1 b2 : Int) (T : TypeId) (hg : (in8 b1 && in8 b2) = true) : onffT b1 b2 T = onffF b1 b2 T (onffT b1 b2 T) := by
  have h := onff_tree b1 b2 T
  rw [Bool.and_eq_true] at hg
  simp only [hg.1, hg.2, Bool.and_self, Bool.and_true, Bool.true_and, cond_true] at h
  generalize IntKind.wrap .i64 (bitsL .and .u8 (Int.fdiv b1 8) 7) = r at h
  by_cases q0 : r < 0
  · rw [show decide (r < 0) = true from decide_eq_true q0] at h
    simp only [cond_true] at h
    rw [h]
    rfl
  · rw [show decide (r < 0) = false from decide_eq_false q0] at h
    simp only [show decide (0 ≤ r) = true from decide_eq_true (by omega), Bool.true_and, cond_false] at h
    cases hc : decide (r < 7) <;> rw [hc] at h <;> simp only [cond_true, cond_false] at h <;> rw [h] <;> repeat' (first | exact rfl | refine ans_cond (F := onffF b1 b2 T) ?_ ?_)
theorem onff_ev (b1 b2 : Int) (T : TypeId) (hg : (in8 b1 && in8 b2) = true) : evF Try.prog ΓRm 400 41 [.sa 0 1 0 8] [.buf 1 [.v (.int .u8 255), .v (.int .u8 b1), .v (.int .u8 b2), .v (.int .u8 0), .v (.int .u8 0), .v (.int .u8 0), .v (.int .u8 0), .v (.int .u8 0)] T, .dead] (kTk 2) kNo = some (.tup [.agg [.v (.int .i64 (ansI (onffT b1 b2 T) 0)), .v (.int .i64 (ansI (onffT b1 b2 T) 1)), .v (.int .i64 (ansI (onffT b1 b2 T) 2)), .v (.int .i64 (ansI (onffT b1 b2 T) 3)), .v (.int .i64 (ansI (onffT b1 b2 T) 4)), .v (.int .i64 (ansI (onffT b1 b2 T) 5)), .v (.int .i64 (ansI (onffT b1 b2 T) 6)), .v (.int .i64 (ansI (onffT b1 b2 T) 7)), .v (.int .u32 (ansI (onffT b1 b2 T) 8)), .v (.int .i64 (ansI (onffT b1 b2 T) 9)), .v (.int .i64 (ansI (onffT b1 b2 T) 10)), .v (.int .i64 (ansI (onffT b1 b2 T) 11)), .v (.int .i64 (ansI (onffT b1 b2 T) 12)), .v (.int .i64 (ansI (onffT b1 b2 T) 13)), .v (.int .u32 (ansI (onffT b1 b2 T) 14)), .v (.int .u32 (ansI (onffT b1 b2 T) 15)), .v (.bool (ansB (onffT b1 b2 T) 16)), .v (.int .i64 (ansI (onffT b1 b2 T) 17))], .v (.int .i64 (ansI (onffT b1 b2 T) 18))], [.buf 1 [.v (.int .u8 255), .v (.int .u8 b1), .v (.int .u8 b2), .v (.int .u8 0), .v (.int .u8 0), .v (.int .u8 0), .v (.int .u8 0), .v (.int .u8 0)] T, .dead]) := (lockI_eq _ _).symm.trans (onff_is b1 b2 T hg)
theorem onff_in (b1 b2 : Int) (T : TypeId) : in32 (ansI (onffT b1 b2 T) 8) = true := by
  rw [onff_tree]
  have hr := rm_in 255 b1 b2 T
  generalize ansI (rmT 255 b1 b2 T) 5 = y at hr ⊢
  repeat' refine in_cond ?_ ?_
  all_goals (simp only [vw, vi, vb, ansI, flatS, flatL, List.cons_append, List.nil_append, List.getElem?_cons_succ, List.getElem?_cons_zero]; first | with_reducible exact hr | rfl | with_reducible exact in_none)
noncomputable def one8S : Ev.Spec := fun R args m k kp => match args with
  | [.sa b c o n] => (match m[b]? with
    | some (.buf c2 cs T) => (match m[c]? with
      | some .dead => (match cs with
        | [.v (.int .u8 b0), .v (.int .u8 b1), .v (.int .u8 b2), .v (.int .u8 z0), .v (.int .u8 z1), .v (.int .u8 z2), .v (.int .u8 z3), .v (.int .u8 z4)] => bif Nat.beq o 0 && (Nat.beq n 8 && (Nat.beq c2 c && (!Nat.beq b c && (in8 b1 && (in8 b2 && ((z0 == 0) && ((z1 == 0) && ((z2 == 0) && ((z3 == 0) && ((z4 == 0))))))))))) then (bif b0 == 80 then k ((Sv.tup [Sv.agg [vi 23, vi 0, vi 4, vi 1, vi ((IntKind.wrap IntKind.i64 (bitsL BinOp.and IntKind.u8 80 7))), vi ((-1)), vi ((-1)), vi 1, vw 0, vi 0, vi 0, vi ((-1)), vi ((-1)), vi 1, vw 0, vw 0, vb false, vi 1], vi 0])) (((m.set b (.buf c [.v (.int .u8 80), .v (.int .u8 b1), .v (.int .u8 b2), .v (.int .u8 0), .v (.int .u8 0), .v (.int .u8 0), .v (.int .u8 0), .v (.int .u8 0)] T)).set c .dead) ++ []) else bif b0 == 81 then k ((Sv.tup [Sv.agg [vi 23, vi 0, vi 4, vi 1, vi ((IntKind.wrap IntKind.i64 (bitsL BinOp.and IntKind.u8 81 7))), vi ((-1)), vi ((-1)), vi 1, vw 0, vi 0, vi 0, vi ((-1)), vi ((-1)), vi 1, vw 0, vw 0, vb false, vi 1], vi 0])) (((m.set b (.buf c [.v (.int .u8 81), .v (.int .u8 b1), .v (.int .u8 b2), .v (.int .u8 0), .v (.int .u8 0), .v (.int .u8 0), .v (.int .u8 0), .v (.int .u8 0)] T)).set c .dead) ++ []) else bif b0 == 84 then k ((Sv.tup [Sv.agg [vi 23, vi 0, vi 4, vi 1, vi ((IntKind.wrap IntKind.i64 (bitsL BinOp.and IntKind.u8 84 7))), vi ((-1)), vi ((-1)), vi 1, vw 0, vi 0, vi 0, vi ((-1)), vi ((-1)), vi 1, vw 0, vw 0, vb false, vi 1], vi 0])) (((m.set b (.buf c [.v (.int .u8 84), .v (.int .u8 b1), .v (.int .u8 b2), .v (.int .u8 0), .v (.int .u8 0), .v (.int .u8 0), .v (.int .u8 0), .v (.int .u8 0)] T)).set c .dead) ++ []) else bif b0 == 88 then k ((Sv.tup [Sv.agg [vi 24, vi 0, vi 4, vi 1, vi ((IntKind.wrap IntKind.i64 (bitsL BinOp.and IntKind.u8 88 7))), vi ((-1)), vi ((-1)), vi 1, vw 0, vi 0, vi 0, vi ((-1)), vi ((-1)), vi 1, vw 0, vw 0, vb false, vi 1], vi 0])) (((m.set b (.buf c [.v (.int .u8 88), .v (.int .u8 b1), .v (.int .u8 b2), .v (.int .u8 0), .v (.int .u8 0), .v (.int .u8 0), .v (.int .u8 0), .v (.int .u8 0)] T)).set c .dead) ++ []) else bif b0 == 92 then k ((Sv.tup [Sv.agg [vi 24, vi 0, vi 4, vi 1, vi ((IntKind.wrap IntKind.i64 (bitsL BinOp.and IntKind.u8 92 7))), vi ((-1)), vi ((-1)), vi 1, vw 0, vi 0, vi 0, vi ((-1)), vi ((-1)), vi 1, vw 0, vw 0, vb false, vi 1], vi 0])) (((m.set b (.buf c [.v (.int .u8 92), .v (.int .u8 b1), .v (.int .u8 b2), .v (.int .u8 0), .v (.int .u8 0), .v (.int .u8 0), .v (.int .u8 0), .v (.int .u8 0)] T)).set c .dead) ++ []) else bif b0 == 93 then k ((Sv.tup [Sv.agg [vi 24, vi 0, vi 4, vi 1, vi ((IntKind.wrap IntKind.i64 (bitsL BinOp.and IntKind.u8 93 7))), vi ((-1)), vi ((-1)), vi 1, vw 0, vi 0, vi 0, vi ((-1)), vi ((-1)), vi 1, vw 0, vw 0, vb false, vi 1], vi 0])) (((m.set b (.buf c [.v (.int .u8 93), .v (.int .u8 b1), .v (.int .u8 b2), .v (.int .u8 0), .v (.int .u8 0), .v (.int .u8 0), .v (.int .u8 0), .v (.int .u8 0)] T)).set c .dead) ++ []) else bif b0 == 201 then k ((Sv.tup [Sv.agg [vi 49, vi 0, vi 0, vi 0, vi 0, vi ((-1)), vi ((-1)), vi 1, vw 0, vi 0, vi 0, vi ((-1)), vi ((-1)), vi 1, vw 0, vw 0, vb false, vi 1], vi 0])) (((m.set b (.buf c [.v (.int .u8 201), .v (.int .u8 b1), .v (.int .u8 b2), .v (.int .u8 0), .v (.int .u8 0), .v (.int .u8 0), .v (.int .u8 0), .v (.int .u8 0)] T)).set c .dead) ++ []) else bif b0 == 104 then k ((Sv.tup [Sv.agg [vi 23, vi 0, vi 4, vi 4, vi 0, vi ((-1)), vi ((-1)), vi 1, vw ((bitsL BinOp.or IntKind.u32 (bitsL BinOp.or IntKind.u32 (bitsL BinOp.or IntKind.u32 (IntKind.wrap IntKind.u32 b1) (IntKind.wrap IntKind.u32 (IntKind.wrap IntKind.u32 b2 * 256))) (IntKind.wrap IntKind.u32 (IntKind.wrap IntKind.u32 0 * 65536))) (IntKind.wrap IntKind.u32 (IntKind.wrap IntKind.u32 0 * 16777216)))), vi 0, vi 0, vi ((-1)), vi ((-1)), vi 1, vw 0, vw 0, vb false, vi 5], vi 0])) (((m.set b (.buf c [.v (.int .u8 104), .v (.int .u8 b1), .v (.int .u8 b2), .v (.int .u8 0), .v (.int .u8 0), .v (.int .u8 0), .v (.int .u8 0), .v (.int .u8 0)] T)).set c .dead) ++ []) else bif b0 == 106 then k ((Sv.tup [Sv.agg [vi 23, vi 0, vi 4, vi 4, vi 0, vi ((-1)), vi ((-1)), vi 1, vw ((IntKind.wrap IntKind.u32 (IntKind.wrap IntKind.i32 (IntKind.wrap IntKind.i8 b1)))), vi 0, vi 0, vi ((-1)), vi ((-1)), vi 1, vw 0, vw 0, vb false, vi 2], vi 0])) (((m.set b (.buf c [.v (.int .u8 106), .v (.int .u8 b1), .v (.int .u8 b2), .v (.int .u8 0), .v (.int .u8 0), .v (.int .u8 0), .v (.int .u8 0), .v (.int .u8 0)] T)).set c .dead) ++ []) else bif b0 == 143 then k (.tup [.agg [.v (.int .i64 (ansI (on8fT b1 b2 T) 0)), .v (.int .i64 (ansI (on8fT b1 b2 T) 1)), .v (.int .i64 (ansI (on8fT b1 b2 T) 2)), .v (.int .i64 (ansI (on8fT b1 b2 T) 3)), .v (.int .i64 (ansI (on8fT b1 b2 T) 4)), .v (.int .i64 (ansI (on8fT b1 b2 T) 5)), .v (.int .i64 (ansI (on8fT b1 b2 T) 6)), .v (.int .i64 (ansI (on8fT b1 b2 T) 7)), .v (.int .u32 (ansI (on8fT b1 b2 T) 8)), .v (.int .i64 (ansI (on8fT b1 b2 T) 9)), .v (.int .i64 (ansI (on8fT b1 b2 T) 10)), .v (.int .i64 (ansI (on8fT b1 b2 T) 11)), .v (.int .i64 (ansI (on8fT b1 b2 T) 12)), .v (.int .i64 (ansI (on8fT b1 b2 T) 13)), .v (.int .u32 (ansI (on8fT b1 b2 T) 14)), .v (.int .u32 (ansI (on8fT b1 b2 T) 15)), .v (.bool (ansB (on8fT b1 b2 T) 16)), .v (.int .i64 (ansI (on8fT b1 b2 T) 17))], .v (.int .i64 (ansI (on8fT b1 b2 T) 18))]) (((m.set b (.buf c [.v (.int .u8 143), .v (.int .u8 b1), .v (.int .u8 b2), .v (.int .u8 0), .v (.int .u8 0), .v (.int .u8 0), .v (.int .u8 0), .v (.int .u8 0)] T)).set c .dead) ++ []) else bif b0 == 255 then k (.tup [.agg [.v (.int .i64 (ansI (onffT b1 b2 T) 0)), .v (.int .i64 (ansI (onffT b1 b2 T) 1)), .v (.int .i64 (ansI (onffT b1 b2 T) 2)), .v (.int .i64 (ansI (onffT b1 b2 T) 3)), .v (.int .i64 (ansI (onffT b1 b2 T) 4)), .v (.int .i64 (ansI (onffT b1 b2 T) 5)), .v (.int .i64 (ansI (onffT b1 b2 T) 6)), .v (.int .i64 (ansI (onffT b1 b2 T) 7)), .v (.int .u32 (ansI (onffT b1 b2 T) 8)), .v (.int .i64 (ansI (onffT b1 b2 T) 9)), .v (.int .i64 (ansI (onffT b1 b2 T) 10)), .v (.int .i64 (ansI (onffT b1 b2 T) 11)), .v (.int .i64 (ansI (onffT b1 b2 T) 12)), .v (.int .i64 (ansI (onffT b1 b2 T) 13)), .v (.int .u32 (ansI (onffT b1 b2 T) 14)), .v (.int .u32 (ansI (onffT b1 b2 T) 15)), .v (.bool (ansB (onffT b1 b2 T) 16)), .v (.int .i64 (ansI (onffT b1 b2 T) 17))], .v (.int .i64 (ansI (onffT b1 b2 T) 18))]) (((m.set b (.buf c [.v (.int .u8 255), .v (.int .u8 b1), .v (.int .u8 b2), .v (.int .u8 0), .v (.int .u8 0), .v (.int .u8 0), .v (.int .u8 0), .v (.int .u8 0)] T)).set c .dead) ++ []) else none) else none
        | _ => none)
      | _ => none)
    | _ => none)
  | _ => none
set_option maxHeartbeats 4000000 in
theorem one8S_ok : SpecOk Try.prog XM 41 one8S := by
  intro R args m k kp r h
  unfold one8S at h
  split at h
  · rename_i _ b c o n
    split at h
    · rename_i _ c2 cs T hb
      split at h
      · rename_i _ hc
        split at h
        · rename_i _ b0 b1 b2 z0 z1 z2 z3 z4
          obtain ⟨hg, h5⟩ := cond_some h
          clear h
          rename _ = some r => h
          simp only [Bool.and_eq_true, Bool.not_eq_true', beq_iff_eq] at hg
          obtain ⟨g3, g4, g5, g6, g1, g2, rfl, rfl, rfl, rfl, rfl⟩ := hg
          have g3 := Nat.eq_of_beq_eq_true g3
          have g4 := Nat.eq_of_beq_eq_true g4
          have g5 := Nat.eq_of_beq_eq_true g5
          subst g3 g4 g5
          have hbc : ¬ b = c2 := fun e => by rw [e] at g6; simp at g6
          first
          | (
            rcases cond_two h with ⟨hq, h5⟩ | ⟨hq, h5⟩ <;> clear h <;> rename _ = some r => h
            · obtain rfl := eq_of_beq hq
              exact .inl ⟨_, _, h, (callR_evT ΓRm_ok (by kernel_rfl) (on50_ev b1 b2 T (by rw [g1, g2]; rfl)) rfl rfl rfl rfl).frameL [b, c2] (by simpa using hbc) ⟨hb, hc, trivial⟩ rfl rfl rfl rfl rfl rfl rfl⟩
            rcases cond_two h with ⟨hq, h5⟩ | ⟨hq, h5⟩ <;> clear h <;> rename _ = some r => h
            · obtain rfl := eq_of_beq hq
              exact .inl ⟨_, _, h, (callR_evT ΓRm_ok (by kernel_rfl) (on51_ev b1 b2 T (by rw [g1, g2]; rfl)) rfl rfl rfl rfl).frameL [b, c2] (by simpa using hbc) ⟨hb, hc, trivial⟩ rfl rfl rfl rfl rfl rfl rfl⟩
            rcases cond_two h with ⟨hq, h5⟩ | ⟨hq, h5⟩ <;> clear h <;> rename _ = some r => h
            · obtain rfl := eq_of_beq hq
              exact .inl ⟨_, _, h, (callR_evT ΓRm_ok (by kernel_rfl) (on54_ev b1 b2 T (by rw [g1, g2]; rfl)) rfl rfl rfl rfl).frameL [b, c2] (by simpa using hbc) ⟨hb, hc, trivial⟩ rfl rfl rfl rfl rfl rfl rfl⟩
            rcases cond_two h with ⟨hq, h5⟩ | ⟨hq, h5⟩ <;> clear h <;> rename _ = some r => h
            · obtain rfl := eq_of_beq hq
              exact .inl ⟨_, _, h, (callR_evT ΓRm_ok (by kernel_rfl) (on58_ev b1 b2 T (by rw [g1, g2]; rfl)) rfl rfl rfl rfl).frameL [b, c2] (by simpa using hbc) ⟨hb, hc, trivial⟩ rfl rfl rfl rfl rfl rfl rfl⟩
            rcases cond_two h with ⟨hq, h5⟩ | ⟨hq, h5⟩ <;> clear h <;> rename _ = some r => h
            · obtain rfl := eq_of_beq hq
              exact .inl ⟨_, _, h, (callR_evT ΓRm_ok (by kernel_rfl) (on5c_ev b1 b2 T (by rw [g1, g2]; rfl)) rfl rfl rfl rfl).frameL [b, c2] (by simpa using hbc) ⟨hb, hc, trivial⟩ rfl rfl rfl rfl rfl rfl rfl⟩
            rcases cond_two h with ⟨hq, h5⟩ | ⟨hq, h5⟩ <;> clear h <;> rename _ = some r => h
            · obtain rfl := eq_of_beq hq
              exact .inl ⟨_, _, h, (callR_evT ΓRm_ok (by kernel_rfl) (on5d_ev b1 b2 T (by rw [g1, g2]; rfl)) rfl rfl rfl rfl).frameL [b, c2] (by simpa using hbc) ⟨hb, hc, trivial⟩ rfl rfl rfl rfl rfl rfl rfl⟩
            rcases cond_two h with ⟨hq, h5⟩ | ⟨hq, h5⟩ <;> clear h <;> rename _ = some r => h
            · obtain rfl := eq_of_beq hq
              exact .inl ⟨_, _, h, (callR_evT ΓRm_ok (by kernel_rfl) (onc9_ev b1 b2 T (by rw [g1, g2]; rfl)) rfl rfl rfl rfl).frameL [b, c2] (by simpa using hbc) ⟨hb, hc, trivial⟩ rfl rfl rfl rfl rfl rfl rfl⟩
            rcases cond_two h with ⟨hq, h5⟩ | ⟨hq, h5⟩ <;> clear h <;> rename _ = some r => h
            · obtain rfl := eq_of_beq hq
              exact .inl ⟨_, _, h, (callR_evT ΓRm_ok (by kernel_rfl) (on68_ev b1 b2 T (by rw [g1, g2]; rfl)) rfl rfl rfl rfl).frameL [b, c2] (by simpa using hbc) ⟨hb, hc, trivial⟩ rfl rfl rfl rfl rfl rfl rfl⟩
            rcases cond_two h with ⟨hq, h5⟩ | ⟨hq, h5⟩ <;> clear h <;> rename _ = some r => h
            · obtain rfl := eq_of_beq hq
              exact .inl ⟨_, _, h, (callR_evT ΓRm_ok (by kernel_rfl) (on6a_ev b1 b2 T (by rw [g1, g2]; rfl)) rfl rfl rfl rfl).frameL [b, c2] (by simpa using hbc) ⟨hb, hc, trivial⟩ rfl rfl rfl rfl rfl rfl rfl⟩
            rcases cond_two h with ⟨hq, h5⟩ | ⟨hq, h5⟩ <;> clear h <;> rename _ = some r => h
            · obtain rfl := eq_of_beq hq
              exact .inl ⟨_, _, h, (callR_evT ΓRm_ok (by kernel_rfl) (on8f_ev b1 b2 T (by rw [g1, g2]; rfl)) rfl rfl rfl rfl).frameL [b, c2] (by simpa using hbc) ⟨hb, hc, trivial⟩ rfl rfl rfl rfl rfl rfl rfl⟩
            rcases cond_two h with ⟨hq, h5⟩ | ⟨hq, h5⟩ <;> clear h <;> rename _ = some r => h
            · obtain rfl := eq_of_beq hq
              exact .inl ⟨_, _, h, (callR_evT ΓRm_ok (by kernel_rfl) (onff_ev b1 b2 T (by rw [g1, g2]; rfl)) rfl rfl rfl rfl).frameL [b, c2] (by simpa using hbc) ⟨hb, hc, trivial⟩ rfl rfl rfl rfl rfl rfl rfl⟩
            cases h
          )
        · cases h
      · cases h
    · cases h
  · cases h
end Go.Proofs.Ytjcbgjakomalaaa
