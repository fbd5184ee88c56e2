/- A byte of operands: what salternref9.RM comes to. -/
import Derived.Test.YtpgdpoloipifeaaEvV
import Derived.Test.YtpgdpoloipifeaaCMm6
import Derived.Test.YtpgdpoloipifeaaNLoop
import Derived.Test.YtpgdpoloipifeaaNFpu
namespace Go.Proofs.Ytpgdpoloipifeaa
open Go Go.Ev
set_option linter.unusedVariables false
set_option linter.unusedSimpArgs false
set_option maxRecDepth 100000
theorem fd64 {b : Int} (h : in8 b = true) : (0 ≤ Int.fdiv b 64) ∧ Int.fdiv b 64 < 4 := by
  rw [in8_iff] at h
  rw [Int.fdiv_eq_ediv_of_nonneg _ (by decide)]; omega
theorem in_none {j : Nat} : in32 (ansI none j) = true := rfl
theorem in_cond {c : Bool} {A B : Option (Sv × List SObj)} {j : Nat} (ha : in32 (ansI A j) = true) (hb : in32 (ansI B j) = true) : in32 (ansI (bif c then A else B) j) = true := by cases c; exact hb; exact ha
theorem in32_orL {a b : Int} (ha : in32 a = true) (hb : in32 b = true) : in32 (bitsL .or .u32 a b) = true := by
  rw [bitsL_eq]
  rw [in32_iff] at ha hb ⊢
  rw [u32_or _ _ ha.1 ha.2 hb.1 hb.2]
  have : a.toNat ||| b.toNat < 2 ^ 32 := Nat.or_lt_two_pow (by omega) (by omega)
  omega
abbrev cCRqz1 (a0 a1 a2 b1 b2 : Int) : List Sv := [.v (.int .u8 a0), .v (.int .u8 a1), .v (.int .u8 a2), .v (.int .u8 b1), .v (.int .u8 b2), .v (.int .u8 0), .v (.int .u8 0), .v (.int .u8 0), .v (.int .u8 0), .v (.int .u8 0), .v (.int .u8 0)]
noncomputable def rm11T (a0 a1 a2 b1 b2 : Int) (T : TypeId) : Option (Sv × List SObj) := lockI b1 (evF Try.prog ΓM6 400 48 [.sl 0 3 8 8] [.cells (cCRqz1 a0 a1 a2 b1 b2) T] (kTk 1) kNo)
abbrev cCRqz0 (b2 : Int) : List Sv := [vi 3, vi 0, vi ((IntKind.wrap IntKind.i64 (bitsL BinOp.and IntKind.u8 b2 7))), vi ((IntKind.wrap IntKind.i64 (bitsL BinOp.and IntKind.u8 (Int.fdiv b2 8) 7))), vi ((IntKind.wrap IntKind.i64 (1 * 2 ^ min (Int.toNat (Int.fdiv b2 64)) 64))), vw 0]
abbrev cCRqz2 (b2 : Int) : List Sv := [vi 3, vi 0, vi ((IntKind.wrap IntKind.i64 (bitsL BinOp.and IntKind.u8 b2 7))), vi ((-1)), vi 1, vw 0]
theorem rm11_tree (a0 a1 a2 b1 b2 : Int) (T : TypeId) : rm11T a0 a1 a2 b1 b2 T = (bif Int.fdiv b1 64 == 3 then
some
(Sv.tup
[Sv.agg
[vi 1,
vi ((IntKind.wrap IntKind.i64 (bitsL BinOp.and IntKind.u8 b1 7))),
vi ((-1)), vi ((-1)), vi 1,
vw 0],
vi ((IntKind.wrap IntKind.i64 (bitsL BinOp.and IntKind.u8 (Int.fdiv b1 8) 7))),
vi 1, vi 0],
[SObj.cells
[vy a0, vy a1, vy a2,
vy b1, vy b2, vy 0,
vy 0, vy 0, vy 0,
vy 0, vy 0]
T])
else
bif IntKind.wrap IntKind.i64 (bitsL BinOp.and IntKind.u8 b1 7) == 4 then
bif IntKind.wrap IntKind.i64 (bitsL BinOp.and IntKind.u8 (Int.fdiv b2 8) 7) != 4 then
bif decide (0 ≤ Int.fdiv b2 64) then
bif decide (0 ≤ Int.fdiv b1 64) && decide (Int.fdiv b1 64 < 3) then
bif Int.fdiv b1 64 == 0 then
bif IntKind.wrap IntKind.i64 (bitsL BinOp.and IntKind.u8 b2 7) == 5 then
some
(Sv.tup
[Sv.agg
[vi 3, vi 0, vi ((-1)),
vi ((IntKind.wrap IntKind.i64 (bitsL BinOp.and IntKind.u8 (Int.fdiv b2 8) 7))),
vi ((IntKind.wrap IntKind.i64 (1 * 2 ^ min (Int.toNat (Int.fdiv b2 64)) 64))),
vw 0],
vi ((IntKind.wrap IntKind.i64 (bitsL BinOp.and IntKind.u8 (Int.fdiv b1 8) 7))),
vi 6, vi 0],
[SObj.cells
[vy a0, vy a1, vy a2,
vy b1, vy b2, vy 0,
vy 0, vy 0, vy 0,
vy 0, vy 0]
T])
else
bif decide (8 < IntKind.wrap IntKind.i64 (2 + selL (Int.fdiv b1 64) 0 [0, 1, 4])) then
some
(Sv.tup
[Sv.agg
[vi 0, vi 0, vi 0,
vi 0, vi 0, vw 0],
vi 0, vi 0, vi 21],
[SObj.cells
[vy a0, vy a1, vy a2,
vy b1, vy b2, vy 0,
vy 0, vy 0, vy 0,
vy 0, vy 0]
T])
else
bif selL (Int.fdiv b1 64) 0 [0, 1, 4] == 1 then
some
(Sv.tup
[Sv.agg
[vi 3, vi 0,
vi ((IntKind.wrap IntKind.i64 (bitsL BinOp.and IntKind.u8 b2 7))),
vi ((IntKind.wrap IntKind.i64 (bitsL BinOp.and IntKind.u8 (Int.fdiv b2 8) 7))),
vi ((IntKind.wrap IntKind.i64 (1 * 2 ^ min (Int.toNat (Int.fdiv b2 64)) 64))),
vw ((IntKind.wrap IntKind.u32 (IntKind.wrap IntKind.i32 (IntKind.wrap IntKind.i8 0))))],
vi ((IntKind.wrap IntKind.i64 (bitsL BinOp.and IntKind.u8 (Int.fdiv b1 8) 7))),
vi ((IntKind.wrap IntKind.i64 (2 + selL (Int.fdiv b1 64) 0 [0, 1, 4]))),
vi 0],
[SObj.cells
[vy a0, vy a1, vy a2,
vy b1, vy b2, vy 0,
vy 0, vy 0, vy 0,
vy 0, vy 0]
T])
else
bif selL (Int.fdiv b1 64) 0 [0, 1, 4] == 4 then
some
(Sv.tup
[Sv.agg
(cCRqz0 b2),
vi ((IntKind.wrap IntKind.i64 (bitsL BinOp.and IntKind.u8 (Int.fdiv b1 8) 7))),
vi ((IntKind.wrap IntKind.i64 (2 + selL (Int.fdiv b1 64) 0 [0, 1, 4]))),
vi 0],
[SObj.cells
[vy a0, vy a1, vy a2,
vy b1, vy b2, vy 0,
vy 0, vy 0, vy 0,
vy 0, vy 0]
T])
else
some
(Sv.tup
[Sv.agg
(cCRqz0 b2),
vi ((IntKind.wrap IntKind.i64 (bitsL BinOp.and IntKind.u8 (Int.fdiv b1 8) 7))),
vi ((IntKind.wrap IntKind.i64 (2 + selL (Int.fdiv b1 64) 0 [0, 1, 4]))),
vi 0],
[SObj.cells
[vy a0, vy a1, vy a2,
vy b1, vy b2, vy 0,
vy 0, vy 0, vy 0,
vy 0, vy 0]
T])
else
bif decide (8 < IntKind.wrap IntKind.i64 (2 + selL (Int.fdiv b1 64) 0 [0, 1, 4])) then
some
(Sv.tup
[Sv.agg
[vi 0, vi 0, vi 0,
vi 0, vi 0, vw 0],
vi 0, vi 0, vi 21],
[SObj.cells
[vy a0, vy a1, vy a2,
vy b1, vy b2, vy 0,
vy 0, vy 0, vy 0,
vy 0, vy 0]
T])
else
bif selL (Int.fdiv b1 64) 0 [0, 1, 4] == 1 then
some
(Sv.tup
[Sv.agg
[vi 3, vi 0,
vi ((IntKind.wrap IntKind.i64 (bitsL BinOp.and IntKind.u8 b2 7))),
vi ((IntKind.wrap IntKind.i64 (bitsL BinOp.and IntKind.u8 (Int.fdiv b2 8) 7))),
vi ((IntKind.wrap IntKind.i64 (1 * 2 ^ min (Int.toNat (Int.fdiv b2 64)) 64))),
vw ((IntKind.wrap IntKind.u32 (IntKind.wrap IntKind.i32 (IntKind.wrap IntKind.i8 0))))],
vi ((IntKind.wrap IntKind.i64 (bitsL BinOp.and IntKind.u8 (Int.fdiv b1 8) 7))),
vi ((IntKind.wrap IntKind.i64 (2 + selL (Int.fdiv b1 64) 0 [0, 1, 4]))),
vi 0],
[SObj.cells
[vy a0, vy a1, vy a2,
vy b1, vy b2, vy 0,
vy 0, vy 0, vy 0,
vy 0, vy 0]
T])
else
bif selL (Int.fdiv b1 64) 0 [0, 1, 4] == 4 then
some
(Sv.tup
[Sv.agg
(cCRqz0 b2),
vi ((IntKind.wrap IntKind.i64 (bitsL BinOp.and IntKind.u8 (Int.fdiv b1 8) 7))),
vi ((IntKind.wrap IntKind.i64 (2 + selL (Int.fdiv b1 64) 0 [0, 1, 4]))),
vi 0],
[SObj.cells
[vy a0, vy a1, vy a2,
vy b1, vy b2, vy 0,
vy 0, vy 0, vy 0,
vy 0, vy 0]
T])
else
some
(Sv.tup
[Sv.agg
(cCRqz0 b2),
vi ((IntKind.wrap IntKind.i64 (bitsL BinOp.and IntKind.u8 (Int.fdiv b1 8) 7))),
vi ((IntKind.wrap IntKind.i64 (2 + selL (Int.fdiv b1 64) 0 [0, 1, 4]))),
vi 0],
[SObj.cells
[vy a0, vy a1, vy a2,
vy b1, vy b2, vy 0,
vy 0, vy 0, vy 0,
vy 0, vy 0]
T])
else none
else none
else
bif decide (0 ≤ Int.fdiv b1 64) && decide (Int.fdiv b1 64 < 3) then
bif Int.fdiv b1 64 == 0 then
bif IntKind.wrap IntKind.i64 (bitsL BinOp.and IntKind.u8 b2 7) == 5 then
some
(Sv.tup
[Sv.agg
[vi 3, vi 0, vi ((-1)),
vi ((-1)), vi 1, vw 0],
vi ((IntKind.wrap IntKind.i64 (bitsL BinOp.and IntKind.u8 (Int.fdiv b1 8) 7))),
vi 6, vi 0],
[SObj.cells
[vy a0, vy a1, vy a2,
vy b1, vy b2, vy 0,
vy 0, vy 0, vy 0,
vy 0, vy 0]
T])
else
bif decide (8 < IntKind.wrap IntKind.i64 (2 + selL (Int.fdiv b1 64) 0 [0, 1, 4])) then
some
(Sv.tup
[Sv.agg
[vi 0, vi 0, vi 0,
vi 0, vi 0, vw 0],
vi 0, vi 0, vi 21],
[SObj.cells
[vy a0, vy a1, vy a2,
vy b1, vy b2, vy 0,
vy 0, vy 0, vy 0,
vy 0, vy 0]
T])
else
bif selL (Int.fdiv b1 64) 0 [0, 1, 4] == 1 then
some
(Sv.tup
[Sv.agg
[vi 3, vi 0,
vi ((IntKind.wrap IntKind.i64 (bitsL BinOp.and IntKind.u8 b2 7))),
vi ((-1)), vi 1,
vw ((IntKind.wrap IntKind.u32 (IntKind.wrap IntKind.i32 (IntKind.wrap IntKind.i8 0))))],
vi ((IntKind.wrap IntKind.i64 (bitsL BinOp.and IntKind.u8 (Int.fdiv b1 8) 7))),
vi ((IntKind.wrap IntKind.i64 (2 + selL (Int.fdiv b1 64) 0 [0, 1, 4]))),
vi 0],
[SObj.cells
[vy a0, vy a1, vy a2,
vy b1, vy b2, vy 0,
vy 0, vy 0, vy 0,
vy 0, vy 0]
T])
else
bif selL (Int.fdiv b1 64) 0 [0, 1, 4] == 4 then
some
(Sv.tup
[Sv.agg
(cCRqz2 b2),
vi ((IntKind.wrap IntKind.i64 (bitsL BinOp.and IntKind.u8 (Int.fdiv b1 8) 7))),
vi ((IntKind.wrap IntKind.i64 (2 + selL (Int.fdiv b1 64) 0 [0, 1, 4]))),
vi 0],
[SObj.cells
[vy a0, vy a1, vy a2,
vy b1, vy b2, vy 0,
vy 0, vy 0, vy 0,
vy 0, vy 0]
T])
else
some
(Sv.tup
[Sv.agg
(cCRqz2 b2),
vi ((IntKind.wrap IntKind.i64 (bitsL BinOp.and IntKind.u8 (Int.fdiv b1 8) 7))),
vi ((IntKind.wrap IntKind.i64 (2 + selL (Int.fdiv b1 64) 0 [0, 1, 4]))),
vi 0],
[SObj.cells
[vy a0, vy a1, vy a2,
vy b1, vy b2, vy 0,
vy 0, vy 0, vy 0,
vy 0, vy 0]
T])
else
bif decide (8 < IntKind.wrap IntKind.i64 (2 + selL (Int.fdiv b1 64) 0 [0, 1, 4])) then
some
(Sv.tup
[Sv.agg
[vi 0, vi 0, vi 0,
vi 0, vi 0, vw 0],
vi 0, vi 0, vi 21],
[SObj.cells
[vy a0, vy a1, vy a2,
vy b1, vy b2, vy 0,
vy 0, vy 0, vy 0,
vy 0, vy 0]
T])
else
bif selL (Int.fdiv b1 64) 0 [0, 1, 4] == 1 then
some
(Sv.tup
[Sv.agg
[vi 3, vi 0,
vi ((IntKind.wrap IntKind.i64 (bitsL BinOp.and IntKind.u8 b2 7))),
vi ((-1)), vi 1,
vw ((IntKind.wrap IntKind.u32 (IntKind.wrap IntKind.i32 (IntKind.wrap IntKind.i8 0))))],
vi ((IntKind.wrap IntKind.i64 (bitsL BinOp.and IntKind.u8 (Int.fdiv b1 8) 7))),
vi ((IntKind.wrap IntKind.i64 (2 + selL (Int.fdiv b1 64) 0 [0, 1, 4]))),
vi 0],
[SObj.cells
[vy a0, vy a1, vy a2,
vy b1, vy b2, vy 0,
vy 0, vy 0, vy 0,
vy 0, vy 0]
T])
else
bif selL (Int.fdiv b1 64) 0 [0, 1, 4] == 4 then
some
(Sv.tup
[Sv.agg
(cCRqz2 b2),
vi ((IntKind.wrap IntKind.i64 (bitsL BinOp.and IntKind.u8 (Int.fdiv b1 8) 7))),
vi ((IntKind.wrap IntKind.i64 (2 + selL (Int.fdiv b1 64) 0 [0, 1, 4]))),
vi 0],
[SObj.cells
[vy a0, vy a1, vy a2,
vy b1, vy b2, vy 0,
vy 0, vy 0, vy 0,
vy 0, vy 0]
T])
else
some
(Sv.tup
[Sv.agg
(cCRqz2 b2),
vi ((IntKind.wrap IntKind.i64 (bitsL BinOp.and IntKind.u8 (Int.fdiv b1 8) 7))),
vi ((IntKind.wrap IntKind.i64 (2 + selL (Int.fdiv b1 64) 0 [0, 1, 4]))),
vi 0],
[SObj.cells
[vy a0, vy a1, vy a2,
vy b1, vy b2, vy 0,
vy 0, vy 0, vy 0,
vy 0, vy 0]
T])
else none
else
bif decide (0 ≤ Int.fdiv b1 64) && decide (Int.fdiv b1 64 < 3) then
bif Int.fdiv b1 64 == 0 then
bif IntKind.wrap IntKind.i64 (bitsL BinOp.and IntKind.u8 b1 7) == 5 then
some
(Sv.tup
[Sv.agg
[vi 3, vi 0, vi ((-1)),
vi ((-1)), vi 1,
Sv.v
(Value.int IntKind.u32
(bitsL BinOp.or IntKind.u32
(bitsL BinOp.or IntKind.u32
(bitsL BinOp.or IntKind.u32 (IntKind.wrap IntKind.u32 b2) (IntKind.wrap IntKind.u32 (IntKind.wrap IntKind.u32 0 * 256)))
(IntKind.wrap IntKind.u32 (IntKind.wrap IntKind.u32 0 * 65536)))
(IntKind.wrap IntKind.u32 (IntKind.wrap IntKind.u32 0 * 16777216))))],
vi ((IntKind.wrap IntKind.i64 (bitsL BinOp.and IntKind.u8 (Int.fdiv b1 8) 7))),
vi 5, vi 0],
[SObj.cells
[vy a0, vy a1, vy a2,
vy b1, vy b2, vy 0,
vy 0, vy 0, vy 0,
vy 0, vy 0]
T])
else
bif decide (8 < IntKind.wrap IntKind.i64 (1 + selL (Int.fdiv b1 64) 0 [0, 1, 4])) then
some
(Sv.tup
[Sv.agg
[vi 0, vi 0, vi 0,
vi 0, vi 0, vw 0],
vi 0, vi 0, vi 21],
[SObj.cells
[vy a0, vy a1, vy a2,
vy b1, vy b2, vy 0,
vy 0, vy 0, vy 0,
vy 0, vy 0]
T])
else
bif selL (Int.fdiv b1 64) 0 [0, 1, 4] == 1 then
some
(Sv.tup
[Sv.agg
[vi 3, vi 0,
vi ((IntKind.wrap IntKind.i64 (bitsL BinOp.and IntKind.u8 b1 7))),
vi ((-1)), vi 1,
vw ((IntKind.wrap IntKind.u32 (IntKind.wrap IntKind.i32 (IntKind.wrap IntKind.i8 b2))))],
vi ((IntKind.wrap IntKind.i64 (bitsL BinOp.and IntKind.u8 (Int.fdiv b1 8) 7))),
vi ((IntKind.wrap IntKind.i64 (1 + selL (Int.fdiv b1 64) 0 [0, 1, 4]))),
vi 0],
[SObj.cells
[vy a0, vy a1, vy a2,
vy b1, vy b2, vy 0,
vy 0, vy 0, vy 0,
vy 0, vy 0]
T])
else
bif selL (Int.fdiv b1 64) 0 [0, 1, 4] == 4 then
some
(Sv.tup
[Sv.agg
[vi 3, vi 0,
vi ((IntKind.wrap IntKind.i64 (bitsL BinOp.and IntKind.u8 b1 7))),
vi ((-1)), vi 1,
Sv.v
(Value.int IntKind.u32
(bitsL BinOp.or IntKind.u32
(bitsL BinOp.or IntKind.u32
(bitsL BinOp.or IntKind.u32 (IntKind.wrap IntKind.u32 b2) (IntKind.wrap IntKind.u32 (IntKind.wrap IntKind.u32 0 * 256)))
(IntKind.wrap IntKind.u32 (IntKind.wrap IntKind.u32 0 * 65536)))
(IntKind.wrap IntKind.u32 (IntKind.wrap IntKind.u32 0 * 16777216))))],
vi ((IntKind.wrap IntKind.i64 (bitsL BinOp.and IntKind.u8 (Int.fdiv b1 8) 7))),
vi ((IntKind.wrap IntKind.i64 (1 + selL (Int.fdiv b1 64) 0 [0, 1, 4]))),
vi 0],
[SObj.cells
[vy a0, vy a1, vy a2,
vy b1, vy b2, vy 0,
vy 0, vy 0, vy 0,
vy 0, vy 0]
T])
else
some
(Sv.tup
[Sv.agg
[vi 3, vi 0,
vi ((IntKind.wrap IntKind.i64 (bitsL BinOp.and IntKind.u8 b1 7))),
vi ((-1)), vi 1, vw 0],
vi ((IntKind.wrap IntKind.i64 (bitsL BinOp.and IntKind.u8 (Int.fdiv b1 8) 7))),
vi ((IntKind.wrap IntKind.i64 (1 + selL (Int.fdiv b1 64) 0 [0, 1, 4]))),
vi 0],
[SObj.cells
[vy a0, vy a1, vy a2,
vy b1, vy b2, vy 0,
vy 0, vy 0, vy 0,
vy 0, vy 0]
T])
else
bif decide (8 < IntKind.wrap IntKind.i64 (1 + selL (Int.fdiv b1 64) 0 [0, 1, 4])) then
some
(Sv.tup
[Sv.agg
[vi 0, vi 0, vi 0,
vi 0, vi 0, vw 0],
vi 0, vi 0, vi 21],
[SObj.cells
[vy a0, vy a1, vy a2,
vy b1, vy b2, vy 0,
vy 0, vy 0, vy 0,
vy 0, vy 0]
T])
else
bif selL (Int.fdiv b1 64) 0 [0, 1, 4] == 1 then
some
(Sv.tup
[Sv.agg
[vi 3, vi 0,
vi ((IntKind.wrap IntKind.i64 (bitsL BinOp.and IntKind.u8 b1 7))),
vi ((-1)), vi 1,
vw ((IntKind.wrap IntKind.u32 (IntKind.wrap IntKind.i32 (IntKind.wrap IntKind.i8 b2))))],
vi ((IntKind.wrap IntKind.i64 (bitsL BinOp.and IntKind.u8 (Int.fdiv b1 8) 7))),
vi ((IntKind.wrap IntKind.i64 (1 + selL (Int.fdiv b1 64) 0 [0, 1, 4]))),
vi 0],
[SObj.cells
[vy a0, vy a1, vy a2,
vy b1, vy b2, vy 0,
vy 0, vy 0, vy 0,
vy 0, vy 0]
T])
else
bif selL (Int.fdiv b1 64) 0 [0, 1, 4] == 4 then
some
(Sv.tup
[Sv.agg
[vi 3, vi 0,
vi ((IntKind.wrap IntKind.i64 (bitsL BinOp.and IntKind.u8 b1 7))),
vi ((-1)), vi 1,
Sv.v
(Value.int IntKind.u32
(bitsL BinOp.or IntKind.u32
(bitsL BinOp.or IntKind.u32
(bitsL BinOp.or IntKind.u32 (IntKind.wrap IntKind.u32 b2) (IntKind.wrap IntKind.u32 (IntKind.wrap IntKind.u32 0 * 256)))
(IntKind.wrap IntKind.u32 (IntKind.wrap IntKind.u32 0 * 65536)))
(IntKind.wrap IntKind.u32 (IntKind.wrap IntKind.u32 0 * 16777216))))],
vi ((IntKind.wrap IntKind.i64 (bitsL BinOp.and IntKind.u8 (Int.fdiv b1 8) 7))),
vi ((IntKind.wrap IntKind.i64 (1 + selL (Int.fdiv b1 64) 0 [0, 1, 4]))),
vi 0],
[SObj.cells
[vy a0, vy a1, vy a2,
vy b1, vy b2, vy 0,
vy 0, vy 0, vy 0,
vy 0, vy 0]
T])
else
some
(Sv.tup
[Sv.agg
[vi 3, vi 0,
vi ((IntKind.wrap IntKind.i64 (bitsL BinOp.and IntKind.u8 b1 7))),
vi ((-1)), vi 1, vw 0],
vi ((IntKind.wrap IntKind.i64 (bitsL BinOp.and IntKind.u8 (Int.fdiv b1 8) 7))),
vi ((IntKind.wrap IntKind.i64 (1 + selL (Int.fdiv b1 64) 0 [0, 1, 4]))),
vi 0],
[SObj.cells
[vy a0, vy a1, vy a2,
vy b1, vy b2, vy 0,
vy 0, vy 0, vy 0,
vy 0, vy 0]
T])
else none) := (lockI_eq _ _).trans (by kernel_rfl)
noncomputable def rm11F (a0 a1 a2 b1 b2 : Int) (T : TypeId) (X : Option (Sv × List SObj)) : Option (Sv × List SObj) := some (.tup [.agg [.v (.int .i64 (ansI (X) 0)), .v (.int .i64 (ansI (X) 1)), .v (.int .i64 (ansI (X) 2)), .v (.int .i64 (ansI (X) 3)), .v (.int .i64 (ansI (X) 4)), .v (.int .u32 (ansI (X) 5))], .v (.int .i64 (ansI (X) 6)), .v (.int .i64 (ansI (X) 7)), .v (.int .i64 (ansI (X) 8))], [.cells (cCRqz1 a0 a1 a2 b1 b2) T])
theorem rm11_is (a0 a1 a2 b1 b2 : Int) (T : TypeId) (hg : (in8 b1 && in8 b2) = true) : rm11T a0 a1 a2 b1 b2 T = rm11F a0 a1 a2 b1 b2 T (rm11T a0 a1 a2 b1 b2 T) := by
  have h := rm11_tree a0 a1 a2 b1 b2 T
  rw [Bool.and_eq_true] at hg
  have f1 := fd64 hg.1
  have f2 := fd64 hg.2
  have d0 : decide (0 ≤ Int.fdiv b1 64) = true := decide_eq_true f1.1
  have d2 : decide (0 ≤ Int.fdiv b2 64) = true := decide_eq_true f2.1
  rw [d0, d2] at h
  cases h3 : Int.fdiv b1 64 == 3
  · have hne : Int.fdiv b1 64 ≠ 3 := by simpa using h3
    have d1 : decide (Int.fdiv b1 64 < 3) = true := decide_eq_true (by omega)
    rw [h3, d1] at h
    simp only [Bool.and_self, cond_true, cond_false] at h
    rw [h]
    repeat' (first | exact rfl | refine ans_cond (F := rm11F a0 a1 a2 b1 b2 T) ?_ ?_)
  · rw [h3] at h
    simp only [cond_true] at h
    rw [h]
    rfl
theorem rm11_ev (a0 a1 a2 b1 b2 : Int) (T : TypeId) (hg : (in8 b1 && in8 b2) = true) : evF Try.prog ΓM6 400 48 [.sl 0 3 8 8] [.cells (cCRqz1 a0 a1 a2 b1 b2) T] (kTk 1) kNo = some (.tup [.agg [.v (.int .i64 (ansI (rm11T a0 a1 a2 b1 b2 T) 0)), .v (.int .i64 (ansI (rm11T a0 a1 a2 b1 b2 T) 1)), .v (.int .i64 (ansI (rm11T a0 a1 a2 b1 b2 T) 2)), .v (.int .i64 (ansI (rm11T a0 a1 a2 b1 b2 T) 3)), .v (.int .i64 (ansI (rm11T a0 a1 a2 b1 b2 T) 4)), .v (.int .u32 (ansI (rm11T a0 a1 a2 b1 b2 T) 5))], .v (.int .i64 (ansI (rm11T a0 a1 a2 b1 b2 T) 6)), .v (.int .i64 (ansI (rm11T a0 a1 a2 b1 b2 T) 7)), .v (.int .i64 (ansI (rm11T a0 a1 a2 b1 b2 T) 8))], [.cells (cCRqz1 a0 a1 a2 b1 b2) T]) := (lockI_eq _ _).symm.trans (rm11_is a0 a1 a2 b1 b2 T hg)
theorem rm11_in (a0 a1 a2 b1 b2 : Int) (T : TypeId) : in32 (ansI (rm11T a0 a1 a2 b1 b2 T) 5) = true := by
  rw [rm11_tree]
  repeat' refine in_cond ?_ ?_
  all_goals (simp only [vw, vi, ansI, flatS, flatL, List.cons_append, List.nil_append, List.getElem?_cons_succ, List.getElem?_cons_zero]; first | with_reducible exact in32_orL (in32_orL (in32_orL (in32_wr _) (in32_wr _)) (in32_wr _)) (in32_wr _) | with_reducible exact in32_wr _ | rfl)
noncomputable def rm11S : Ev.Spec := fun R args m k kp => match args with
  | [.sl b o n q] => (match m[b]? with
    | some (.cells cs T) => (match cs with
      | [.v (.int .u8 a0), .v (.int .u8 a1), .v (.int .u8 a2), .v (.int .u8 b1), .v (.int .u8 b2), .v (.int .u8 z5), .v (.int .u8 z6), .v (.int .u8 z7), .v (.int .u8 z8), .v (.int .u8 z9), .v (.int .u8 z10)] => bif Nat.beq o 3 && (Nat.beq n 8 && (Nat.beq q 8 && ((z5 == 0) && ((z6 == 0) && ((z7 == 0) && ((z8 == 0) && ((z9 == 0) && ((z10 == 0))))))))) then (bif in8 b1 && (in8 b2 && (true)) then k (.tup [.agg [.v (.int .i64 (ansI (rm11T a0 a1 a2 b1 b2 T) 0)), .v (.int .i64 (ansI (rm11T a0 a1 a2 b1 b2 T) 1)), .v (.int .i64 (ansI (rm11T a0 a1 a2 b1 b2 T) 2)), .v (.int .i64 (ansI (rm11T a0 a1 a2 b1 b2 T) 3)), .v (.int .i64 (ansI (rm11T a0 a1 a2 b1 b2 T) 4)), .v (.int .u32 (ansI (rm11T a0 a1 a2 b1 b2 T) 5))], .v (.int .i64 (ansI (rm11T a0 a1 a2 b1 b2 T) 6)), .v (.int .i64 (ansI (rm11T a0 a1 a2 b1 b2 T) 7)), .v (.int .i64 (ansI (rm11T a0 a1 a2 b1 b2 T) 8))]) ((m.set b (.cells [.v (.int .u8 a0), .v (.int .u8 a1), .v (.int .u8 a2), .v (.int .u8 b1), .v (.int .u8 b2), .v (.int .u8 0), .v (.int .u8 0), .v (.int .u8 0), .v (.int .u8 0), .v (.int .u8 0), .v (.int .u8 0)] T)) ++ []) else none) else none
      | _ => none)
    | _ => none)
  | _ => none
set_option maxHeartbeats 4000000 in
theorem rm11S_ok : SpecOk Try.prog XM 48 rm11S := by
  intro R args m k kp r h
  unfold rm11S at h
  split at h
  · rename_i _ b o n q
    split at h
    · rename_i _ cs T hb
      split at h
      · rename_i _ a0 a1 a2 b1 b2 z5 z6 z7 z8 z9 z10
        obtain ⟨hg, h5⟩ := cond_some h
        clear h
        rename _ = some r => h
        simp only [Bool.and_eq_true, Bool.not_eq_true', beq_iff_eq] at hg
        obtain ⟨g3, g4, g5, rfl, rfl, rfl, rfl, rfl, rfl⟩ := hg
        have g3 := Nat.eq_of_beq_eq_true g3
        have g4 := Nat.eq_of_beq_eq_true g4
        have g5 := Nat.eq_of_beq_eq_true g5
        subst g3 g4 g5
        rcases cond_two h with ⟨hq, h5⟩ | ⟨hq, h5⟩ <;> clear h <;> rename _ = some r => h
        · simp only [Bool.and_eq_true, beq_iff_eq] at hq
          obtain ⟨e0, e1, _⟩ := hq
          exact .inl ⟨_, _, h, (callR_evT ΓM6_ok (by kernel_rfl) (rm11_ev a0 a1 a2 b1 b2 T (by rw [e0, e1]; rfl)) rfl rfl rfl rfl).frameL [b] (by simp) ⟨hb, trivial⟩ rfl rfl rfl rfl rfl rfl rfl⟩
        cases h
      · cases h
    · cases h
  · cases h
def kOk (A : Option (Sv × List SObj)) : Prop := (ansI A 0 = 1 ∨ ansI A 0 = 3) ∧ (ansI A 8 = 0 ∧ (1 ≤ ansI A 7 ∧ ansI A 7 ≤ 6))
theorem kOk_cond {c : Bool} {A B : Option (Sv × List SObj)} (ha : kOk A) (hb : kOk B) : kOk (bif c then A else B) := by cases c; exact hb; exact ha
theorem kOk_t {c : Bool} {A B : Option (Sv × List SObj)} (h : c = true) (ha : kOk A) : kOk (bif c then A else B) := by rw [h]; exact ha
theorem kOk_f {c : Bool} {A B : Option (Sv × List SObj)} (h : c = false) (hb : kOk B) : kOk (bif c then A else B) := by rw [h]; exact hb
theorem rm11_kind (a0 a1 a2 b1 b2 : Int) (T : TypeId) (hg : (in8 b1 && in8 b2) = true) : kOk (rm11T a0 a1 a2 b1 b2 T) := by
  have h := rm11_tree a0 a1 a2 b1 b2 T
  rw [Bool.and_eq_true] at hg
  have f1 := fd64 hg.1
  have f2 := fd64 hg.2
  have d2 : decide (0 ≤ Int.fdiv b2 64) = true := decide_eq_true f2.1
  rw [d2] at h
  have hq : Int.fdiv b1 64 = 0 ∨ Int.fdiv b1 64 = 1 ∨ Int.fdiv b1 64 = 2 ∨ Int.fdiv b1 64 = 3 := by omega
  rcases hq with hq | hq | hq | hq <;> (
    rw [hq] at h
    rw [h]
    repeat' (first | exact ⟨Or.inr rfl, rfl, of_decide_eq_true rfl, of_decide_eq_true rfl⟩ | exact ⟨Or.inl rfl, rfl, of_decide_eq_true rfl, of_decide_eq_true rfl⟩ | refine kOk_f (by rfl) ?_ | refine kOk_t (by rfl) ?_ | refine kOk_cond ?_ ?_))
noncomputable def ΓRq : Env := ΓM6.add 48 rm11S
theorem ΓRq_ok : EnvOk Try.prog X0 ΓRq := ΓM6_ok.add (by kernel_rfl) rm11S_ok
end Go.Proofs.Ytpgdpoloipifeaa
