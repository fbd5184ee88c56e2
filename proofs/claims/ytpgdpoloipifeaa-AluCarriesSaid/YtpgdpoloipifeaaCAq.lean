/- What sums of registers come to. -/
import Derived.Test.YtpgdpoloipifeaaEvV
import Derived.Test.YtpgdpoloipifeaaCMl
import Derived.Test.YtpgdpoloipifeaaCAc
import Derived.Test.YtpgdpoloipifeaaCAp
namespace Go.Proofs.Ytpgdpoloipifeaa
open Go Go.Ev
set_option linter.unusedVariables false
set_option linter.unusedSimpArgs false
set_option maxRecDepth 100000
theorem al1_form (cb cs : Int) (cr cw cx : Bool) (db ds : Int) (dr dw dx : Bool) (T : TypeId) (M : Int → Int) (r0 r1 r2 r3 r4 r5 r6 r7 ip : Int) (fc fp fz fs fo fd : Bool) (x0 x1 x2 x3 x4 x5 x6 x7 : Int) (cond : Int) (ar : Int) (ab : Int) (ai : Int) (aq : Int) (ad : Int) (br : Int) (bb : Int) (bi : Int) (bq : Int) (bd : Int) (c : Int) (rep : Bool) (len : Int) :
    guardE Try.prog ΓMl 400 alA alC Try.f34.results.toList 9 22 2 alCatch ([.ptr 0 0, .agg [.v (.int .u32 r0), .v (.int .u32 r1), .v (.int .u32 r2), .v (.int .u32 r3), .v (.int .u32 r4), .v (.int .u32 r5), .v (.int .u32 r6), .v (.int .u32 r7), .v (.int .u32 ip), .v (.bool fc), .v (.bool fp), .v (.bool fz), .v (.bool fs), .v (.bool fo), .v (.bool fd), .v (.int .u64 x0), .v (.int .u64 x1), .v (.int .u64 x2), .v (.int .u64 x3), .v (.int .u64 x4), .v (.int .u64 x5), .v (.int .u64 x6), .v (.int .u64 x7)], .agg [.v (.int .i64 1), .v (.int .i64 cond), .v (.int .i64 4), .v (.int .i64 1), .v (.int .i64 ar), .v (.int .i64 ab), .v (.int .i64 ai), .v (.int .i64 aq), .v (.int .u32 ad), .v (.int .i64 1), .v (.int .i64 br), .v (.int .i64 bb), .v (.int .i64 bi), .v (.int .i64 bq), .v (.int .u32 bd), .v (.int .u32 c), .v (.bool rep), .v (.int .i64 len)]] ++ List.replicate (Try.f34.ntmps - 3) (.v undef)) [.cells [.ptr 1 0, .v (.int .u32 cb), .v (.int .u32 cs), .v (.bool cr), .v (.bool cw), .v (.bool cx), .v (.int .u32 db), .v (.int .u32 ds), .v (.bool dr), .v (.bool dw), .v (.bool dx)] T, .ext 0 M] =
    (bif
in32 r0 &&
(in32 r1 &&
(in32 r2 && (in32 r3 && (in32 r4 && (in32 r5 && (in32 r6 && (in32 r7 && (in32 ad && (in32 db && in32 ds))))))))) &&
(!7 == 0 && (!7 == 1 && true)) then
bif
in32 r0 &&
(in32 r1 &&
(in32 r2 && (in32 r3 && (in32 r4 && (in32 r5 && (in32 r6 && (in32 r7 && (in32 bd && (in32 db && in32 ds))))))))) &&
(!7 == 0 && (!7 == 1 && true)) then
bif
in32
(lvlV 1 (ldV M db ds (ofV ab ai aq ad [r0, r1, r2, r3, r4, r5, r6, r7]) 4 (mayV dr dw dx 0))
(getV 1 ar ad r0 r1 r2 r3 r4 r5 r6 r7 x0 x1 x2 x3 x4 x5 x6 x7)) &&
in32
(lvlV 1 (ldV M db ds (ofV bb bi bq bd [r0, r1, r2, r3, r4, r5, r6, r7]) 4 (mayV dr dw dx 0))
(getV 1 br bd r0 r1 r2 r3 r4 r5 r6 r7 x0 x1 x2 x3 x4 x5 x6 x7)) &&
(!7 == 0 && (!7 == 1 && true)) then
bif
in32 r0 &&
(in32 r1 &&
(in32 r2 &&
(in32 r3 &&
(in32 r4 &&
(in32 r5 &&
(in32 r6 &&
(in32 r7 &&
(in32 ad &&
(in32 db &&
(in32 ds &&
in64
(IntKind.wrap IntKind.u64
(twoV 1 fc
(lvlV 1 (ldV M db ds (ofV ab ai aq ad [r0, r1, r2, r3, r4, r5, r6, r7]) 4 (mayV dr dw dx 0))
(getV 1 ar ad r0 r1 r2 r3 r4 r5 r6 r7 x0 x1 x2 x3 x4 x5 x6 x7))
(lvlV 1 (ldV M db ds (ofV bb bi bq bd [r0, r1, r2, r3, r4, r5, r6, r7]) 4 (mayV dr dw dx 0))
(getV 1 br bd r0 r1 r2 r3 r4 r5 r6 r7 x0 x1 x2 x3 x4 x5 x6 x7))
4)))))))))))) &&
true then
some
(Sv.tup
[Sv.agg
[Sv.v
(Value.int IntKind.u32
(bif true && ar == 0 then
IntKind.wrap IntKind.u64
(twoV 1 fc
(lvlV 1 (ldV M db ds (ofV ab ai aq ad [r0, r1, r2, r3, r4, r5, r6, r7]) 4 (mayV dr dw dx 0))
(getV 1 ar ad r0 r1 r2 r3 r4 r5 r6 r7 x0 x1 x2 x3 x4 x5 x6 x7))
(lvlV 1 (ldV M db ds (ofV bb bi bq bd [r0, r1, r2, r3, r4, r5, r6, r7]) 4 (mayV dr dw dx 0))
(getV 1 br bd r0 r1 r2 r3 r4 r5 r6 r7 x0 x1 x2 x3 x4 x5 x6 x7))
4) %
4294967296
else
bif false && ar == 0 then
r0 - r0 % 256 +
IntKind.wrap IntKind.u64
(twoV 1 fc
(lvlV 1 (ldV M db ds (ofV ab ai aq ad [r0, r1, r2, r3, r4, r5, r6, r7]) 4 (mayV dr dw dx 0))
(getV 1 ar ad r0 r1 r2 r3 r4 r5 r6 r7 x0 x1 x2 x3 x4 x5 x6 x7))
(lvlV 1 (ldV M db ds (ofV bb bi bq bd [r0, r1, r2, r3, r4, r5, r6, r7]) 4 (mayV dr dw dx 0))
(getV 1 br bd r0 r1 r2 r3 r4 r5 r6 r7 x0 x1 x2 x3 x4 x5 x6 x7))
4) %
256
else
bif false && ar == 4 then
r0 - r0 / 256 % 256 * 256 +
IntKind.wrap IntKind.u64
(twoV 1 fc
(lvlV 1 (ldV M db ds (ofV ab ai aq ad [r0, r1, r2, r3, r4, r5, r6, r7]) 4 (mayV dr dw dx 0))
(getV 1 ar ad r0 r1 r2 r3 r4 r5 r6 r7 x0 x1 x2 x3 x4 x5 x6 x7))
(lvlV 1 (ldV M db ds (ofV bb bi bq bd [r0, r1, r2, r3, r4, r5, r6, r7]) 4 (mayV dr dw dx 0))
(getV 1 br bd r0 r1 r2 r3 r4 r5 r6 r7 x0 x1 x2 x3 x4 x5 x6 x7))
4) %
256 *
256
else r0)),
Sv.v
(Value.int IntKind.u32
(bif true && ar == 1 then
IntKind.wrap IntKind.u64
(twoV 1 fc
(lvlV 1 (ldV M db ds (ofV ab ai aq ad [r0, r1, r2, r3, r4, r5, r6, r7]) 4 (mayV dr dw dx 0))
(getV 1 ar ad r0 r1 r2 r3 r4 r5 r6 r7 x0 x1 x2 x3 x4 x5 x6 x7))
(lvlV 1 (ldV M db ds (ofV bb bi bq bd [r0, r1, r2, r3, r4, r5, r6, r7]) 4 (mayV dr dw dx 0))
(getV 1 br bd r0 r1 r2 r3 r4 r5 r6 r7 x0 x1 x2 x3 x4 x5 x6 x7))
4) %
4294967296
else
bif false && ar == 1 then
r1 - r1 % 256 +
IntKind.wrap IntKind.u64
(twoV 1 fc
(lvlV 1 (ldV M db ds (ofV ab ai aq ad [r0, r1, r2, r3, r4, r5, r6, r7]) 4 (mayV dr dw dx 0))
(getV 1 ar ad r0 r1 r2 r3 r4 r5 r6 r7 x0 x1 x2 x3 x4 x5 x6 x7))
(lvlV 1 (ldV M db ds (ofV bb bi bq bd [r0, r1, r2, r3, r4, r5, r6, r7]) 4 (mayV dr dw dx 0))
(getV 1 br bd r0 r1 r2 r3 r4 r5 r6 r7 x0 x1 x2 x3 x4 x5 x6 x7))
4) %
256
else
bif false && ar == 5 then
r1 - r1 / 256 % 256 * 256 +
IntKind.wrap IntKind.u64
(twoV 1 fc
(lvlV 1 (ldV M db ds (ofV ab ai aq ad [r0, r1, r2, r3, r4, r5, r6, r7]) 4 (mayV dr dw dx 0))
(getV 1 ar ad r0 r1 r2 r3 r4 r5 r6 r7 x0 x1 x2 x3 x4 x5 x6 x7))
(lvlV 1 (ldV M db ds (ofV bb bi bq bd [r0, r1, r2, r3, r4, r5, r6, r7]) 4 (mayV dr dw dx 0))
(getV 1 br bd r0 r1 r2 r3 r4 r5 r6 r7 x0 x1 x2 x3 x4 x5 x6 x7))
4) %
256 *
256
else r1)),
Sv.v
(Value.int IntKind.u32
(bif true && ar == 2 then
IntKind.wrap IntKind.u64
(twoV 1 fc
(lvlV 1 (ldV M db ds (ofV ab ai aq ad [r0, r1, r2, r3, r4, r5, r6, r7]) 4 (mayV dr dw dx 0))
(getV 1 ar ad r0 r1 r2 r3 r4 r5 r6 r7 x0 x1 x2 x3 x4 x5 x6 x7))
(lvlV 1 (ldV M db ds (ofV bb bi bq bd [r0, r1, r2, r3, r4, r5, r6, r7]) 4 (mayV dr dw dx 0))
(getV 1 br bd r0 r1 r2 r3 r4 r5 r6 r7 x0 x1 x2 x3 x4 x5 x6 x7))
4) %
4294967296
else
bif false && ar == 2 then
r2 - r2 % 256 +
IntKind.wrap IntKind.u64
(twoV 1 fc
(lvlV 1 (ldV M db ds (ofV ab ai aq ad [r0, r1, r2, r3, r4, r5, r6, r7]) 4 (mayV dr dw dx 0))
(getV 1 ar ad r0 r1 r2 r3 r4 r5 r6 r7 x0 x1 x2 x3 x4 x5 x6 x7))
(lvlV 1 (ldV M db ds (ofV bb bi bq bd [r0, r1, r2, r3, r4, r5, r6, r7]) 4 (mayV dr dw dx 0))
(getV 1 br bd r0 r1 r2 r3 r4 r5 r6 r7 x0 x1 x2 x3 x4 x5 x6 x7))
4) %
256
else
bif false && ar == 6 then
r2 - r2 / 256 % 256 * 256 +
IntKind.wrap IntKind.u64
(twoV 1 fc
(lvlV 1 (ldV M db ds (ofV ab ai aq ad [r0, r1, r2, r3, r4, r5, r6, r7]) 4 (mayV dr dw dx 0))
(getV 1 ar ad r0 r1 r2 r3 r4 r5 r6 r7 x0 x1 x2 x3 x4 x5 x6 x7))
(lvlV 1 (ldV M db ds (ofV bb bi bq bd [r0, r1, r2, r3, r4, r5, r6, r7]) 4 (mayV dr dw dx 0))
(getV 1 br bd r0 r1 r2 r3 r4 r5 r6 r7 x0 x1 x2 x3 x4 x5 x6 x7))
4) %
256 *
256
else r2)),
Sv.v
(Value.int IntKind.u32
(bif true && ar == 3 then
IntKind.wrap IntKind.u64
(twoV 1 fc
(lvlV 1 (ldV M db ds (ofV ab ai aq ad [r0, r1, r2, r3, r4, r5, r6, r7]) 4 (mayV dr dw dx 0))
(getV 1 ar ad r0 r1 r2 r3 r4 r5 r6 r7 x0 x1 x2 x3 x4 x5 x6 x7))
(lvlV 1 (ldV M db ds (ofV bb bi bq bd [r0, r1, r2, r3, r4, r5, r6, r7]) 4 (mayV dr dw dx 0))
(getV 1 br bd r0 r1 r2 r3 r4 r5 r6 r7 x0 x1 x2 x3 x4 x5 x6 x7))
4) %
4294967296
else
bif false && ar == 3 then
r3 - r3 % 256 +
IntKind.wrap IntKind.u64
(twoV 1 fc
(lvlV 1 (ldV M db ds (ofV ab ai aq ad [r0, r1, r2, r3, r4, r5, r6, r7]) 4 (mayV dr dw dx 0))
(getV 1 ar ad r0 r1 r2 r3 r4 r5 r6 r7 x0 x1 x2 x3 x4 x5 x6 x7))
(lvlV 1 (ldV M db ds (ofV bb bi bq bd [r0, r1, r2, r3, r4, r5, r6, r7]) 4 (mayV dr dw dx 0))
(getV 1 br bd r0 r1 r2 r3 r4 r5 r6 r7 x0 x1 x2 x3 x4 x5 x6 x7))
4) %
256
else
bif false && ar == 7 then
r3 - r3 / 256 % 256 * 256 +
IntKind.wrap IntKind.u64
(twoV 1 fc
(lvlV 1 (ldV M db ds (ofV ab ai aq ad [r0, r1, r2, r3, r4, r5, r6, r7]) 4 (mayV dr dw dx 0))
(getV 1 ar ad r0 r1 r2 r3 r4 r5 r6 r7 x0 x1 x2 x3 x4 x5 x6 x7))
(lvlV 1 (ldV M db ds (ofV bb bi bq bd [r0, r1, r2, r3, r4, r5, r6, r7]) 4 (mayV dr dw dx 0))
(getV 1 br bd r0 r1 r2 r3 r4 r5 r6 r7 x0 x1 x2 x3 x4 x5 x6 x7))
4) %
256 *
256
else r3)),
Sv.v
(Value.int IntKind.u32
(bif true && ar == 4 then
IntKind.wrap IntKind.u64
(twoV 1 fc
(lvlV 1 (ldV M db ds (ofV ab ai aq ad [r0, r1, r2, r3, r4, r5, r6, r7]) 4 (mayV dr dw dx 0))
(getV 1 ar ad r0 r1 r2 r3 r4 r5 r6 r7 x0 x1 x2 x3 x4 x5 x6 x7))
(lvlV 1 (ldV M db ds (ofV bb bi bq bd [r0, r1, r2, r3, r4, r5, r6, r7]) 4 (mayV dr dw dx 0))
(getV 1 br bd r0 r1 r2 r3 r4 r5 r6 r7 x0 x1 x2 x3 x4 x5 x6 x7))
4) %
4294967296
else r4)),
Sv.v
(Value.int IntKind.u32
(bif true && ar == 5 then
IntKind.wrap IntKind.u64
(twoV 1 fc
(lvlV 1 (ldV M db ds (ofV ab ai aq ad [r0, r1, r2, r3, r4, r5, r6, r7]) 4 (mayV dr dw dx 0))
(getV 1 ar ad r0 r1 r2 r3 r4 r5 r6 r7 x0 x1 x2 x3 x4 x5 x6 x7))
(lvlV 1 (ldV M db ds (ofV bb bi bq bd [r0, r1, r2, r3, r4, r5, r6, r7]) 4 (mayV dr dw dx 0))
(getV 1 br bd r0 r1 r2 r3 r4 r5 r6 r7 x0 x1 x2 x3 x4 x5 x6 x7))
4) %
4294967296
else r5)),
Sv.v
(Value.int IntKind.u32
(bif true && ar == 6 then
IntKind.wrap IntKind.u64
(twoV 1 fc
(lvlV 1 (ldV M db ds (ofV ab ai aq ad [r0, r1, r2, r3, r4, r5, r6, r7]) 4 (mayV dr dw dx 0))
(getV 1 ar ad r0 r1 r2 r3 r4 r5 r6 r7 x0 x1 x2 x3 x4 x5 x6 x7))
(lvlV 1 (ldV M db ds (ofV bb bi bq bd [r0, r1, r2, r3, r4, r5, r6, r7]) 4 (mayV dr dw dx 0))
(getV 1 br bd r0 r1 r2 r3 r4 r5 r6 r7 x0 x1 x2 x3 x4 x5 x6 x7))
4) %
4294967296
else r6)),
Sv.v
(Value.int IntKind.u32
(bif true && ar == 7 then
IntKind.wrap IntKind.u64
(twoV 1 fc
(lvlV 1 (ldV M db ds (ofV ab ai aq ad [r0, r1, r2, r3, r4, r5, r6, r7]) 4 (mayV dr dw dx 0))
(getV 1 ar ad r0 r1 r2 r3 r4 r5 r6 r7 x0 x1 x2 x3 x4 x5 x6 x7))
(lvlV 1 (ldV M db ds (ofV bb bi bq bd [r0, r1, r2, r3, r4, r5, r6, r7]) 4 (mayV dr dw dx 0))
(getV 1 br bd r0 r1 r2 r3 r4 r5 r6 r7 x0 x1 x2 x3 x4 x5 x6 x7))
4) %
4294967296
else r7)),
vw ip,
Sv.v
(Value.bool
(twoC 1 fc
(lvlV 1 (ldV M db ds (ofV ab ai aq ad [r0, r1, r2, r3, r4, r5, r6, r7]) 4 (mayV dr dw dx 0))
(getV 1 ar ad r0 r1 r2 r3 r4 r5 r6 r7 x0 x1 x2 x3 x4 x5 x6 x7))
(lvlV 1 (ldV M db ds (ofV bb bi bq bd [r0, r1, r2, r3, r4, r5, r6, r7]) 4 (mayV dr dw dx 0))
(getV 1 br bd r0 r1 r2 r3 r4 r5 r6 r7 x0 x1 x2 x3 x4 x5 x6 x7))
4)),
Sv.v
(Value.bool
(parV
(twoV 1 fc
(lvlV 1 (ldV M db ds (ofV ab ai aq ad [r0, r1, r2, r3, r4, r5, r6, r7]) 4 (mayV dr dw dx 0))
(getV 1 ar ad r0 r1 r2 r3 r4 r5 r6 r7 x0 x1 x2 x3 x4 x5 x6 x7))
(lvlV 1 (ldV M db ds (ofV bb bi bq bd [r0, r1, r2, r3, r4, r5, r6, r7]) 4 (mayV dr dw dx 0))
(getV 1 br bd r0 r1 r2 r3 r4 r5 r6 r7 x0 x1 x2 x3 x4 x5 x6 x7))
4))),
Sv.v
(Value.bool
(twoV 1 fc
(lvlV 1 (ldV M db ds (ofV ab ai aq ad [r0, r1, r2, r3, r4, r5, r6, r7]) 4 (mayV dr dw dx 0))
(getV 1 ar ad r0 r1 r2 r3 r4 r5 r6 r7 x0 x1 x2 x3 x4 x5 x6 x7))
(lvlV 1 (ldV M db ds (ofV bb bi bq bd [r0, r1, r2, r3, r4, r5, r6, r7]) 4 (mayV dr dw dx 0))
(getV 1 br bd r0 r1 r2 r3 r4 r5 r6 r7 x0 x1 x2 x3 x4 x5 x6 x7))
4 ==
0)),
Sv.v
(Value.bool
(topV
(twoV 1 fc
(lvlV 1 (ldV M db ds (ofV ab ai aq ad [r0, r1, r2, r3, r4, r5, r6, r7]) 4 (mayV dr dw dx 0))
(getV 1 ar ad r0 r1 r2 r3 r4 r5 r6 r7 x0 x1 x2 x3 x4 x5 x6 x7))
(lvlV 1 (ldV M db ds (ofV bb bi bq bd [r0, r1, r2, r3, r4, r5, r6, r7]) 4 (mayV dr dw dx 0))
(getV 1 br bd r0 r1 r2 r3 r4 r5 r6 r7 x0 x1 x2 x3 x4 x5 x6 x7))
4)
4)),
Sv.v
(Value.bool
(twoO 1 fc
(lvlV 1 (ldV M db ds (ofV ab ai aq ad [r0, r1, r2, r3, r4, r5, r6, r7]) 4 (mayV dr dw dx 0))
(getV 1 ar ad r0 r1 r2 r3 r4 r5 r6 r7 x0 x1 x2 x3 x4 x5 x6 x7))
(lvlV 1 (ldV M db ds (ofV bb bi bq bd [r0, r1, r2, r3, r4, r5, r6, r7]) 4 (mayV dr dw dx 0))
(getV 1 br bd r0 r1 r2 r3 r4 r5 r6 r7 x0 x1 x2 x3 x4 x5 x6 x7))
4)),
vb fd, vd x0, vd x1, vd x2,
vd x3, vd x4, vd x5,
vd x6, vd x7],
vi 0],
[SObj.cells
[Sv.ptr 1 0, vw cb, vw cs, vb cr,
vb cw, vb cx, vw db, vw ds,
vb dr, vb dw, vb dx]
T,
SObj.ext 0 M])
else none
else none
else none
else none) := by kernel_rfl
set_option maxHeartbeats 4000000 in
theorem al1_ev (cb cs : Int) (cr cw cx : Bool) (db ds : Int) (dr dw dx : Bool) (T : TypeId) (M : Int → Int) (r0 r1 r2 r3 r4 r5 r6 r7 ip : Int) (fc fp fz fs fo fd : Bool) (x0 x1 x2 x3 x4 x5 x6 x7 : Int) (cond : Int) (ar : Int) (ab : Int) (ai : Int) (aq : Int) (ad : Int) (br : Int) (bb : Int) (bi : Int) (bq : Int) (bd : Int) (c : Int) (rep : Bool) (len : Int) (hg : (in32 r0 && (in32 r1 && (in32 r2 && (in32 r3 && (in32 r4 && (in32 r5 && (in32 r6 && (in32 r7 && (in32 db && (in32 ds && (in32 ad && (in32 bd && (in64 x0 && (in64 x1 && (in64 x2 && (in64 x3 && (in64 x4 && (in64 x5 && (in64 x6 && (in64 x7)))))))))))))))))))) = true) : guardE Try.prog ΓMl 400 alA alC Try.f34.results.toList 9 22 2 alCatch ([.ptr 0 0, .agg [.v (.int .u32 r0), .v (.int .u32 r1), .v (.int .u32 r2), .v (.int .u32 r3), .v (.int .u32 r4), .v (.int .u32 r5), .v (.int .u32 r6), .v (.int .u32 r7), .v (.int .u32 ip), .v (.bool fc), .v (.bool fp), .v (.bool fz), .v (.bool fs), .v (.bool fo), .v (.bool fd), .v (.int .u64 x0), .v (.int .u64 x1), .v (.int .u64 x2), .v (.int .u64 x3), .v (.int .u64 x4), .v (.int .u64 x5), .v (.int .u64 x6), .v (.int .u64 x7)], .agg [.v (.int .i64 1), .v (.int .i64 cond), .v (.int .i64 4), .v (.int .i64 1), .v (.int .i64 ar), .v (.int .i64 ab), .v (.int .i64 ai), .v (.int .i64 aq), .v (.int .u32 ad), .v (.int .i64 1), .v (.int .i64 br), .v (.int .i64 bb), .v (.int .i64 bi), .v (.int .i64 bq), .v (.int .u32 bd), .v (.int .u32 c), .v (.bool rep), .v (.int .i64 len)]] ++ List.replicate (Try.f34.ntmps - 3) (.v undef)) [.cells [.ptr 1 0, .v (.int .u32 cb), .v (.int .u32 cs), .v (.bool cr), .v (.bool cw), .v (.bool cx), .v (.int .u32 db), .v (.int .u32 ds), .v (.bool dr), .v (.bool dw), .v (.bool dx)] T, .ext 0 M] = some ((Sv.tup [Sv.agg [vw ((bif true && ar == 0 then IntKind.wrap IntKind.u64 (twoV 1 fc (lvlV 1 (ldV M db ds (ofV ab ai aq ad [r0, r1, r2, r3, r4, r5, r6, r7]) 4 (mayV dr dw dx 0)) (getV 1 ar ad r0 r1 r2 r3 r4 r5 r6 r7 x0 x1 x2 x3 x4 x5 x6 x7)) (lvlV 1 (ldV M db ds (ofV bb bi bq bd [r0, r1, r2, r3, r4, r5, r6, r7]) 4 (mayV dr dw dx 0)) (getV 1 br bd r0 r1 r2 r3 r4 r5 r6 r7 x0 x1 x2 x3 x4 x5 x6 x7)) 4) % 4294967296 else bif false && ar == 0 then r0 - r0 % 256 + IntKind.wrap IntKind.u64 (twoV 1 fc (lvlV 1 (ldV M db ds (ofV ab ai aq ad [r0, r1, r2, r3, r4, r5, r6, r7]) 4 (mayV dr dw dx 0)) (getV 1 ar ad r0 r1 r2 r3 r4 r5 r6 r7 x0 x1 x2 x3 x4 x5 x6 x7)) (lvlV 1 (ldV M db ds (ofV bb bi bq bd [r0, r1, r2, r3, r4, r5, r6, r7]) 4 (mayV dr dw dx 0)) (getV 1 br bd r0 r1 r2 r3 r4 r5 r6 r7 x0 x1 x2 x3 x4 x5 x6 x7)) 4) % 256 else bif false && ar == 4 then r0 - r0 / 256 % 256 * 256 + IntKind.wrap IntKind.u64 (twoV 1 fc (lvlV 1 (ldV M db ds (ofV ab ai aq ad [r0, r1, r2, r3, r4, r5, r6, r7]) 4 (mayV dr dw dx 0)) (getV 1 ar ad r0 r1 r2 r3 r4 r5 r6 r7 x0 x1 x2 x3 x4 x5 x6 x7)) (lvlV 1 (ldV M db ds (ofV bb bi bq bd [r0, r1, r2, r3, r4, r5, r6, r7]) 4 (mayV dr dw dx 0)) (getV 1 br bd r0 r1 r2 r3 r4 r5 r6 r7 x0 x1 x2 x3 x4 x5 x6 x7)) 4) % 256 * 256 else r0)), vw ((bif true && ar == 1 then IntKind.wrap IntKind.u64 (twoV 1 fc (lvlV 1 (ldV M db ds (ofV ab ai aq ad [r0, r1, r2, r3, r4, r5, r6, r7]) 4 (mayV dr dw dx 0)) (getV 1 ar ad r0 r1 r2 r3 r4 r5 r6 r7 x0 x1 x2 x3 x4 x5 x6 x7)) (lvlV 1 (ldV M db ds (ofV bb bi bq bd [r0, r1, r2, r3, r4, r5, r6, r7]) 4 (mayV dr dw dx 0)) (getV 1 br bd r0 r1 r2 r3 r4 r5 r6 r7 x0 x1 x2 x3 x4 x5 x6 x7)) 4) % 4294967296 else bif false && ar == 1 then r1 - r1 % 256 + IntKind.wrap IntKind.u64 (twoV 1 fc (lvlV 1 (ldV M db ds (ofV ab ai aq ad [r0, r1, r2, r3, r4, r5, r6, r7]) 4 (mayV dr dw dx 0)) (getV 1 ar ad r0 r1 r2 r3 r4 r5 r6 r7 x0 x1 x2 x3 x4 x5 x6 x7)) (lvlV 1 (ldV M db ds (ofV bb bi bq bd [r0, r1, r2, r3, r4, r5, r6, r7]) 4 (mayV dr dw dx 0)) (getV 1 br bd r0 r1 r2 r3 r4 r5 r6 r7 x0 x1 x2 x3 x4 x5 x6 x7)) 4) % 256 else bif false && ar == 5 then r1 - r1 / 256 % 256 * 256 + IntKind.wrap IntKind.u64 (twoV 1 fc (lvlV 1 (ldV M db ds (ofV ab ai aq ad [r0, r1, r2, r3, r4, r5, r6, r7]) 4 (mayV dr dw dx 0)) (getV 1 ar ad r0 r1 r2 r3 r4 r5 r6 r7 x0 x1 x2 x3 x4 x5 x6 x7)) (lvlV 1 (ldV M db ds (ofV bb bi bq bd [r0, r1, r2, r3, r4, r5, r6, r7]) 4 (mayV dr dw dx 0)) (getV 1 br bd r0 r1 r2 r3 r4 r5 r6 r7 x0 x1 x2 x3 x4 x5 x6 x7)) 4) % 256 * 256 else r1)), vw ((bif true && ar == 2 then IntKind.wrap IntKind.u64 (twoV 1 fc (lvlV 1 (ldV M db ds (ofV ab ai aq ad [r0, r1, r2, r3, r4, r5, r6, r7]) 4 (mayV dr dw dx 0)) (getV 1 ar ad r0 r1 r2 r3 r4 r5 r6 r7 x0 x1 x2 x3 x4 x5 x6 x7)) (lvlV 1 (ldV M db ds (ofV bb bi bq bd [r0, r1, r2, r3, r4, r5, r6, r7]) 4 (mayV dr dw dx 0)) (getV 1 br bd r0 r1 r2 r3 r4 r5 r6 r7 x0 x1 x2 x3 x4 x5 x6 x7)) 4) % 4294967296 else bif false && ar == 2 then r2 - r2 % 256 + IntKind.wrap IntKind.u64 (twoV 1 fc (lvlV 1 (ldV M db ds (ofV ab ai aq ad [r0, r1, r2, r3, r4, r5, r6, r7]) 4 (mayV dr dw dx 0)) (getV 1 ar ad r0 r1 r2 r3 r4 r5 r6 r7 x0 x1 x2 x3 x4 x5 x6 x7)) (lvlV 1 (ldV M db ds (ofV bb bi bq bd [r0, r1, r2, r3, r4, r5, r6, r7]) 4 (mayV dr dw dx 0)) (getV 1 br bd r0 r1 r2 r3 r4 r5 r6 r7 x0 x1 x2 x3 x4 x5 x6 x7)) 4) % 256 else bif false && ar == 6 then r2 - r2 / 256 % 256 * 256 + IntKind.wrap IntKind.u64 (twoV 1 fc (lvlV 1 (ldV M db ds (ofV ab ai aq ad [r0, r1, r2, r3, r4, r5, r6, r7]) 4 (mayV dr dw dx 0)) (getV 1 ar ad r0 r1 r2 r3 r4 r5 r6 r7 x0 x1 x2 x3 x4 x5 x6 x7)) (lvlV 1 (ldV M db ds (ofV bb bi bq bd [r0, r1, r2, r3, r4, r5, r6, r7]) 4 (mayV dr dw dx 0)) (getV 1 br bd r0 r1 r2 r3 r4 r5 r6 r7 x0 x1 x2 x3 x4 x5 x6 x7)) 4) % 256 * 256 else r2)), vw ((bif true && ar == 3 then IntKind.wrap IntKind.u64 (twoV 1 fc (lvlV 1 (ldV M db ds (ofV ab ai aq ad [r0, r1, r2, r3, r4, r5, r6, r7]) 4 (mayV dr dw dx 0)) (getV 1 ar ad r0 r1 r2 r3 r4 r5 r6 r7 x0 x1 x2 x3 x4 x5 x6 x7)) (lvlV 1 (ldV M db ds (ofV bb bi bq bd [r0, r1, r2, r3, r4, r5, r6, r7]) 4 (mayV dr dw dx 0)) (getV 1 br bd r0 r1 r2 r3 r4 r5 r6 r7 x0 x1 x2 x3 x4 x5 x6 x7)) 4) % 4294967296 else bif false && ar == 3 then r3 - r3 % 256 + IntKind.wrap IntKind.u64 (twoV 1 fc (lvlV 1 (ldV M db ds (ofV ab ai aq ad [r0, r1, r2, r3, r4, r5, r6, r7]) 4 (mayV dr dw dx 0)) (getV 1 ar ad r0 r1 r2 r3 r4 r5 r6 r7 x0 x1 x2 x3 x4 x5 x6 x7)) (lvlV 1 (ldV M db ds (ofV bb bi bq bd [r0, r1, r2, r3, r4, r5, r6, r7]) 4 (mayV dr dw dx 0)) (getV 1 br bd r0 r1 r2 r3 r4 r5 r6 r7 x0 x1 x2 x3 x4 x5 x6 x7)) 4) % 256 else bif false && ar == 7 then r3 - r3 / 256 % 256 * 256 + IntKind.wrap IntKind.u64 (twoV 1 fc (lvlV 1 (ldV M db ds (ofV ab ai aq ad [r0, r1, r2, r3, r4, r5, r6, r7]) 4 (mayV dr dw dx 0)) (getV 1 ar ad r0 r1 r2 r3 r4 r5 r6 r7 x0 x1 x2 x3 x4 x5 x6 x7)) (lvlV 1 (ldV M db ds (ofV bb bi bq bd [r0, r1, r2, r3, r4, r5, r6, r7]) 4 (mayV dr dw dx 0)) (getV 1 br bd r0 r1 r2 r3 r4 r5 r6 r7 x0 x1 x2 x3 x4 x5 x6 x7)) 4) % 256 * 256 else r3)), vw ((bif true && ar == 4 then IntKind.wrap IntKind.u64 (twoV 1 fc (lvlV 1 (ldV M db ds (ofV ab ai aq ad [r0, r1, r2, r3, r4, r5, r6, r7]) 4 (mayV dr dw dx 0)) (getV 1 ar ad r0 r1 r2 r3 r4 r5 r6 r7 x0 x1 x2 x3 x4 x5 x6 x7)) (lvlV 1 (ldV M db ds (ofV bb bi bq bd [r0, r1, r2, r3, r4, r5, r6, r7]) 4 (mayV dr dw dx 0)) (getV 1 br bd r0 r1 r2 r3 r4 r5 r6 r7 x0 x1 x2 x3 x4 x5 x6 x7)) 4) % 4294967296 else r4)), vw ((bif true && ar == 5 then IntKind.wrap IntKind.u64 (twoV 1 fc (lvlV 1 (ldV M db ds (ofV ab ai aq ad [r0, r1, r2, r3, r4, r5, r6, r7]) 4 (mayV dr dw dx 0)) (getV 1 ar ad r0 r1 r2 r3 r4 r5 r6 r7 x0 x1 x2 x3 x4 x5 x6 x7)) (lvlV 1 (ldV M db ds (ofV bb bi bq bd [r0, r1, r2, r3, r4, r5, r6, r7]) 4 (mayV dr dw dx 0)) (getV 1 br bd r0 r1 r2 r3 r4 r5 r6 r7 x0 x1 x2 x3 x4 x5 x6 x7)) 4) % 4294967296 else r5)), vw ((bif true && ar == 6 then IntKind.wrap IntKind.u64 (twoV 1 fc (lvlV 1 (ldV M db ds (ofV ab ai aq ad [r0, r1, r2, r3, r4, r5, r6, r7]) 4 (mayV dr dw dx 0)) (getV 1 ar ad r0 r1 r2 r3 r4 r5 r6 r7 x0 x1 x2 x3 x4 x5 x6 x7)) (lvlV 1 (ldV M db ds (ofV bb bi bq bd [r0, r1, r2, r3, r4, r5, r6, r7]) 4 (mayV dr dw dx 0)) (getV 1 br bd r0 r1 r2 r3 r4 r5 r6 r7 x0 x1 x2 x3 x4 x5 x6 x7)) 4) % 4294967296 else r6)), vw ((bif true && ar == 7 then IntKind.wrap IntKind.u64 (twoV 1 fc (lvlV 1 (ldV M db ds (ofV ab ai aq ad [r0, r1, r2, r3, r4, r5, r6, r7]) 4 (mayV dr dw dx 0)) (getV 1 ar ad r0 r1 r2 r3 r4 r5 r6 r7 x0 x1 x2 x3 x4 x5 x6 x7)) (lvlV 1 (ldV M db ds (ofV bb bi bq bd [r0, r1, r2, r3, r4, r5, r6, r7]) 4 (mayV dr dw dx 0)) (getV 1 br bd r0 r1 r2 r3 r4 r5 r6 r7 x0 x1 x2 x3 x4 x5 x6 x7)) 4) % 4294967296 else r7)), vw ip, vb ((twoC 1 fc (lvlV 1 (ldV M db ds (ofV ab ai aq ad [r0, r1, r2, r3, r4, r5, r6, r7]) 4 (mayV dr dw dx 0)) (getV 1 ar ad r0 r1 r2 r3 r4 r5 r6 r7 x0 x1 x2 x3 x4 x5 x6 x7)) (lvlV 1 (ldV M db ds (ofV bb bi bq bd [r0, r1, r2, r3, r4, r5, r6, r7]) 4 (mayV dr dw dx 0)) (getV 1 br bd r0 r1 r2 r3 r4 r5 r6 r7 x0 x1 x2 x3 x4 x5 x6 x7)) 4)), vb ((parV (twoV 1 fc (lvlV 1 (ldV M db ds (ofV ab ai aq ad [r0, r1, r2, r3, r4, r5, r6, r7]) 4 (mayV dr dw dx 0)) (getV 1 ar ad r0 r1 r2 r3 r4 r5 r6 r7 x0 x1 x2 x3 x4 x5 x6 x7)) (lvlV 1 (ldV M db ds (ofV bb bi bq bd [r0, r1, r2, r3, r4, r5, r6, r7]) 4 (mayV dr dw dx 0)) (getV 1 br bd r0 r1 r2 r3 r4 r5 r6 r7 x0 x1 x2 x3 x4 x5 x6 x7)) 4))), vb ((twoV 1 fc (lvlV 1 (ldV M db ds (ofV ab ai aq ad [r0, r1, r2, r3, r4, r5, r6, r7]) 4 (mayV dr dw dx 0)) (getV 1 ar ad r0 r1 r2 r3 r4 r5 r6 r7 x0 x1 x2 x3 x4 x5 x6 x7)) (lvlV 1 (ldV M db ds (ofV bb bi bq bd [r0, r1, r2, r3, r4, r5, r6, r7]) 4 (mayV dr dw dx 0)) (getV 1 br bd r0 r1 r2 r3 r4 r5 r6 r7 x0 x1 x2 x3 x4 x5 x6 x7)) 4 == 0)), vb ((topV (twoV 1 fc (lvlV 1 (ldV M db ds (ofV ab ai aq ad [r0, r1, r2, r3, r4, r5, r6, r7]) 4 (mayV dr dw dx 0)) (getV 1 ar ad r0 r1 r2 r3 r4 r5 r6 r7 x0 x1 x2 x3 x4 x5 x6 x7)) (lvlV 1 (ldV M db ds (ofV bb bi bq bd [r0, r1, r2, r3, r4, r5, r6, r7]) 4 (mayV dr dw dx 0)) (getV 1 br bd r0 r1 r2 r3 r4 r5 r6 r7 x0 x1 x2 x3 x4 x5 x6 x7)) 4) 4)), vb ((twoO 1 fc (lvlV 1 (ldV M db ds (ofV ab ai aq ad [r0, r1, r2, r3, r4, r5, r6, r7]) 4 (mayV dr dw dx 0)) (getV 1 ar ad r0 r1 r2 r3 r4 r5 r6 r7 x0 x1 x2 x3 x4 x5 x6 x7)) (lvlV 1 (ldV M db ds (ofV bb bi bq bd [r0, r1, r2, r3, r4, r5, r6, r7]) 4 (mayV dr dw dx 0)) (getV 1 br bd r0 r1 r2 r3 r4 r5 r6 r7 x0 x1 x2 x3 x4 x5 x6 x7)) 4)), vb fd, vd x0, vd x1, vd x2, vd x3, vd x4, vd x5, vd x6, vd x7], vi 0]), [.cells [.ptr 1 0, .v (.int .u32 cb), .v (.int .u32 cs), .v (.bool cr), .v (.bool cw), .v (.bool cx), .v (.int .u32 db), .v (.int .u32 ds), .v (.bool dr), .v (.bool dw), .v (.bool dx)] T, .ext 0 M]) := by
  rw [al1_form]
  simp only [Bool.and_eq_true] at hg
  simp only [hg, ofV_in, in32_wr, in64_wr, ldW_in64, ldV_in64, getV_in64, twoV_in, lvlV_in, Bool.and_self, Bool.and_true, Bool.true_and, cond_true]
  rfl
-- al1
theorem al3_form (cb cs : Int) (cr cw cx : Bool) (db ds : Int) (dr dw dx : Bool) (T : TypeId) (M : Int → Int) (r0 r1 r2 r3 r4 r5 r6 r7 ip : Int) (fc fp fz fs fo fd : Bool) (x0 x1 x2 x3 x4 x5 x6 x7 : Int) (cond : Int) (ar : Int) (ab : Int) (ai : Int) (aq : Int) (ad : Int) (br : Int) (bb : Int) (bi : Int) (bq : Int) (bd : Int) (c : Int) (rep : Bool) (len : Int) :
    guardE Try.prog ΓMl 400 alA alC Try.f34.results.toList 9 22 2 alCatch ([.ptr 0 0, .agg [.v (.int .u32 r0), .v (.int .u32 r1), .v (.int .u32 r2), .v (.int .u32 r3), .v (.int .u32 r4), .v (.int .u32 r5), .v (.int .u32 r6), .v (.int .u32 r7), .v (.int .u32 ip), .v (.bool fc), .v (.bool fp), .v (.bool fz), .v (.bool fs), .v (.bool fo), .v (.bool fd), .v (.int .u64 x0), .v (.int .u64 x1), .v (.int .u64 x2), .v (.int .u64 x3), .v (.int .u64 x4), .v (.int .u64 x5), .v (.int .u64 x6), .v (.int .u64 x7)], .agg [.v (.int .i64 3), .v (.int .i64 cond), .v (.int .i64 4), .v (.int .i64 1), .v (.int .i64 ar), .v (.int .i64 ab), .v (.int .i64 ai), .v (.int .i64 aq), .v (.int .u32 ad), .v (.int .i64 1), .v (.int .i64 br), .v (.int .i64 bb), .v (.int .i64 bi), .v (.int .i64 bq), .v (.int .u32 bd), .v (.int .u32 c), .v (.bool rep), .v (.int .i64 len)]] ++ List.replicate (Try.f34.ntmps - 3) (.v undef)) [.cells [.ptr 1 0, .v (.int .u32 cb), .v (.int .u32 cs), .v (.bool cr), .v (.bool cw), .v (.bool cx), .v (.int .u32 db), .v (.int .u32 ds), .v (.bool dr), .v (.bool dw), .v (.bool dx)] T, .ext 0 M] =
    (bif
in32 r0 &&
(in32 r1 &&
(in32 r2 && (in32 r3 && (in32 r4 && (in32 r5 && (in32 r6 && (in32 r7 && (in32 ad && (in32 db && in32 ds))))))))) &&
(!7 == 0 && (!7 == 1 && true)) then
bif
in32 r0 &&
(in32 r1 &&
(in32 r2 && (in32 r3 && (in32 r4 && (in32 r5 && (in32 r6 && (in32 r7 && (in32 bd && (in32 db && in32 ds))))))))) &&
(!7 == 0 && (!7 == 1 && true)) then
bif
in32
(lvlV 1 (ldV M db ds (ofV ab ai aq ad [r0, r1, r2, r3, r4, r5, r6, r7]) 4 (mayV dr dw dx 0))
(getV 1 ar ad r0 r1 r2 r3 r4 r5 r6 r7 x0 x1 x2 x3 x4 x5 x6 x7)) &&
in32
(lvlV 1 (ldV M db ds (ofV bb bi bq bd [r0, r1, r2, r3, r4, r5, r6, r7]) 4 (mayV dr dw dx 0))
(getV 1 br bd r0 r1 r2 r3 r4 r5 r6 r7 x0 x1 x2 x3 x4 x5 x6 x7)) &&
(!7 == 0 && (!7 == 1 && true)) then
bif
in32 r0 &&
(in32 r1 &&
(in32 r2 &&
(in32 r3 &&
(in32 r4 &&
(in32 r5 &&
(in32 r6 &&
(in32 r7 &&
(in32 ad &&
(in32 db &&
(in32 ds &&
in64
(IntKind.wrap IntKind.u64
(twoV 3 fc
(lvlV 1 (ldV M db ds (ofV ab ai aq ad [r0, r1, r2, r3, r4, r5, r6, r7]) 4 (mayV dr dw dx 0))
(getV 1 ar ad r0 r1 r2 r3 r4 r5 r6 r7 x0 x1 x2 x3 x4 x5 x6 x7))
(lvlV 1 (ldV M db ds (ofV bb bi bq bd [r0, r1, r2, r3, r4, r5, r6, r7]) 4 (mayV dr dw dx 0))
(getV 1 br bd r0 r1 r2 r3 r4 r5 r6 r7 x0 x1 x2 x3 x4 x5 x6 x7))
4)))))))))))) &&
true then
some
(Sv.tup
[Sv.agg
[Sv.v
(Value.int IntKind.u32
(bif true && ar == 0 then
IntKind.wrap IntKind.u64
(twoV 3 fc
(lvlV 1 (ldV M db ds (ofV ab ai aq ad [r0, r1, r2, r3, r4, r5, r6, r7]) 4 (mayV dr dw dx 0))
(getV 1 ar ad r0 r1 r2 r3 r4 r5 r6 r7 x0 x1 x2 x3 x4 x5 x6 x7))
(lvlV 1 (ldV M db ds (ofV bb bi bq bd [r0, r1, r2, r3, r4, r5, r6, r7]) 4 (mayV dr dw dx 0))
(getV 1 br bd r0 r1 r2 r3 r4 r5 r6 r7 x0 x1 x2 x3 x4 x5 x6 x7))
4) %
4294967296
else
bif false && ar == 0 then
r0 - r0 % 256 +
IntKind.wrap IntKind.u64
(twoV 3 fc
(lvlV 1 (ldV M db ds (ofV ab ai aq ad [r0, r1, r2, r3, r4, r5, r6, r7]) 4 (mayV dr dw dx 0))
(getV 1 ar ad r0 r1 r2 r3 r4 r5 r6 r7 x0 x1 x2 x3 x4 x5 x6 x7))
(lvlV 1 (ldV M db ds (ofV bb bi bq bd [r0, r1, r2, r3, r4, r5, r6, r7]) 4 (mayV dr dw dx 0))
(getV 1 br bd r0 r1 r2 r3 r4 r5 r6 r7 x0 x1 x2 x3 x4 x5 x6 x7))
4) %
256
else
bif false && ar == 4 then
r0 - r0 / 256 % 256 * 256 +
IntKind.wrap IntKind.u64
(twoV 3 fc
(lvlV 1 (ldV M db ds (ofV ab ai aq ad [r0, r1, r2, r3, r4, r5, r6, r7]) 4 (mayV dr dw dx 0))
(getV 1 ar ad r0 r1 r2 r3 r4 r5 r6 r7 x0 x1 x2 x3 x4 x5 x6 x7))
(lvlV 1 (ldV M db ds (ofV bb bi bq bd [r0, r1, r2, r3, r4, r5, r6, r7]) 4 (mayV dr dw dx 0))
(getV 1 br bd r0 r1 r2 r3 r4 r5 r6 r7 x0 x1 x2 x3 x4 x5 x6 x7))
4) %
256 *
256
else r0)),
Sv.v
(Value.int IntKind.u32
(bif true && ar == 1 then
IntKind.wrap IntKind.u64
(twoV 3 fc
(lvlV 1 (ldV M db ds (ofV ab ai aq ad [r0, r1, r2, r3, r4, r5, r6, r7]) 4 (mayV dr dw dx 0))
(getV 1 ar ad r0 r1 r2 r3 r4 r5 r6 r7 x0 x1 x2 x3 x4 x5 x6 x7))
(lvlV 1 (ldV M db ds (ofV bb bi bq bd [r0, r1, r2, r3, r4, r5, r6, r7]) 4 (mayV dr dw dx 0))
(getV 1 br bd r0 r1 r2 r3 r4 r5 r6 r7 x0 x1 x2 x3 x4 x5 x6 x7))
4) %
4294967296
else
bif false && ar == 1 then
r1 - r1 % 256 +
IntKind.wrap IntKind.u64
(twoV 3 fc
(lvlV 1 (ldV M db ds (ofV ab ai aq ad [r0, r1, r2, r3, r4, r5, r6, r7]) 4 (mayV dr dw dx 0))
(getV 1 ar ad r0 r1 r2 r3 r4 r5 r6 r7 x0 x1 x2 x3 x4 x5 x6 x7))
(lvlV 1 (ldV M db ds (ofV bb bi bq bd [r0, r1, r2, r3, r4, r5, r6, r7]) 4 (mayV dr dw dx 0))
(getV 1 br bd r0 r1 r2 r3 r4 r5 r6 r7 x0 x1 x2 x3 x4 x5 x6 x7))
4) %
256
else
bif false && ar == 5 then
r1 - r1 / 256 % 256 * 256 +
IntKind.wrap IntKind.u64
(twoV 3 fc
(lvlV 1 (ldV M db ds (ofV ab ai aq ad [r0, r1, r2, r3, r4, r5, r6, r7]) 4 (mayV dr dw dx 0))
(getV 1 ar ad r0 r1 r2 r3 r4 r5 r6 r7 x0 x1 x2 x3 x4 x5 x6 x7))
(lvlV 1 (ldV M db ds (ofV bb bi bq bd [r0, r1, r2, r3, r4, r5, r6, r7]) 4 (mayV dr dw dx 0))
(getV 1 br bd r0 r1 r2 r3 r4 r5 r6 r7 x0 x1 x2 x3 x4 x5 x6 x7))
4) %
256 *
256
else r1)),
Sv.v
(Value.int IntKind.u32
(bif true && ar == 2 then
IntKind.wrap IntKind.u64
(twoV 3 fc
(lvlV 1 (ldV M db ds (ofV ab ai aq ad [r0, r1, r2, r3, r4, r5, r6, r7]) 4 (mayV dr dw dx 0))
(getV 1 ar ad r0 r1 r2 r3 r4 r5 r6 r7 x0 x1 x2 x3 x4 x5 x6 x7))
(lvlV 1 (ldV M db ds (ofV bb bi bq bd [r0, r1, r2, r3, r4, r5, r6, r7]) 4 (mayV dr dw dx 0))
(getV 1 br bd r0 r1 r2 r3 r4 r5 r6 r7 x0 x1 x2 x3 x4 x5 x6 x7))
4) %
4294967296
else
bif false && ar == 2 then
r2 - r2 % 256 +
IntKind.wrap IntKind.u64
(twoV 3 fc
(lvlV 1 (ldV M db ds (ofV ab ai aq ad [r0, r1, r2, r3, r4, r5, r6, r7]) 4 (mayV dr dw dx 0))
(getV 1 ar ad r0 r1 r2 r3 r4 r5 r6 r7 x0 x1 x2 x3 x4 x5 x6 x7))
(lvlV 1 (ldV M db ds (ofV bb bi bq bd [r0, r1, r2, r3, r4, r5, r6, r7]) 4 (mayV dr dw dx 0))
(getV 1 br bd r0 r1 r2 r3 r4 r5 r6 r7 x0 x1 x2 x3 x4 x5 x6 x7))
4) %
256
else
bif false && ar == 6 then
r2 - r2 / 256 % 256 * 256 +
IntKind.wrap IntKind.u64
(twoV 3 fc
(lvlV 1 (ldV M db ds (ofV ab ai aq ad [r0, r1, r2, r3, r4, r5, r6, r7]) 4 (mayV dr dw dx 0))
(getV 1 ar ad r0 r1 r2 r3 r4 r5 r6 r7 x0 x1 x2 x3 x4 x5 x6 x7))
(lvlV 1 (ldV M db ds (ofV bb bi bq bd [r0, r1, r2, r3, r4, r5, r6, r7]) 4 (mayV dr dw dx 0))
(getV 1 br bd r0 r1 r2 r3 r4 r5 r6 r7 x0 x1 x2 x3 x4 x5 x6 x7))
4) %
256 *
256
else r2)),
Sv.v
(Value.int IntKind.u32
(bif true && ar == 3 then
IntKind.wrap IntKind.u64
(twoV 3 fc
(lvlV 1 (ldV M db ds (ofV ab ai aq ad [r0, r1, r2, r3, r4, r5, r6, r7]) 4 (mayV dr dw dx 0))
(getV 1 ar ad r0 r1 r2 r3 r4 r5 r6 r7 x0 x1 x2 x3 x4 x5 x6 x7))
(lvlV 1 (ldV M db ds (ofV bb bi bq bd [r0, r1, r2, r3, r4, r5, r6, r7]) 4 (mayV dr dw dx 0))
(getV 1 br bd r0 r1 r2 r3 r4 r5 r6 r7 x0 x1 x2 x3 x4 x5 x6 x7))
4) %
4294967296
else
bif false && ar == 3 then
r3 - r3 % 256 +
IntKind.wrap IntKind.u64
(twoV 3 fc
(lvlV 1 (ldV M db ds (ofV ab ai aq ad [r0, r1, r2, r3, r4, r5, r6, r7]) 4 (mayV dr dw dx 0))
(getV 1 ar ad r0 r1 r2 r3 r4 r5 r6 r7 x0 x1 x2 x3 x4 x5 x6 x7))
(lvlV 1 (ldV M db ds (ofV bb bi bq bd [r0, r1, r2, r3, r4, r5, r6, r7]) 4 (mayV dr dw dx 0))
(getV 1 br bd r0 r1 r2 r3 r4 r5 r6 r7 x0 x1 x2 x3 x4 x5 x6 x7))
4) %
256
else
bif false && ar == 7 then
r3 - r3 / 256 % 256 * 256 +
IntKind.wrap IntKind.u64
(twoV 3 fc
(lvlV 1 (ldV M db ds (ofV ab ai aq ad [r0, r1, r2, r3, r4, r5, r6, r7]) 4 (mayV dr dw dx 0))
(getV 1 ar ad r0 r1 r2 r3 r4 r5 r6 r7 x0 x1 x2 x3 x4 x5 x6 x7))
(lvlV 1 (ldV M db ds (ofV bb bi bq bd [r0, r1, r2, r3, r4, r5, r6, r7]) 4 (mayV dr dw dx 0))
(getV 1 br bd r0 r1 r2 r3 r4 r5 r6 r7 x0 x1 x2 x3 x4 x5 x6 x7))
4) %
256 *
256
else r3)),
Sv.v
(Value.int IntKind.u32
(bif true && ar == 4 then
IntKind.wrap IntKind.u64
(twoV 3 fc
(lvlV 1 (ldV M db ds (ofV ab ai aq ad [r0, r1, r2, r3, r4, r5, r6, r7]) 4 (mayV dr dw dx 0))
(getV 1 ar ad r0 r1 r2 r3 r4 r5 r6 r7 x0 x1 x2 x3 x4 x5 x6 x7))
(lvlV 1 (ldV M db ds (ofV bb bi bq bd [r0, r1, r2, r3, r4, r5, r6, r7]) 4 (mayV dr dw dx 0))
(getV 1 br bd r0 r1 r2 r3 r4 r5 r6 r7 x0 x1 x2 x3 x4 x5 x6 x7))
4) %
4294967296
else r4)),
Sv.v
(Value.int IntKind.u32
(bif true && ar == 5 then
IntKind.wrap IntKind.u64
(twoV 3 fc
(lvlV 1 (ldV M db ds (ofV ab ai aq ad [r0, r1, r2, r3, r4, r5, r6, r7]) 4 (mayV dr dw dx 0))
(getV 1 ar ad r0 r1 r2 r3 r4 r5 r6 r7 x0 x1 x2 x3 x4 x5 x6 x7))
(lvlV 1 (ldV M db ds (ofV bb bi bq bd [r0, r1, r2, r3, r4, r5, r6, r7]) 4 (mayV dr dw dx 0))
(getV 1 br bd r0 r1 r2 r3 r4 r5 r6 r7 x0 x1 x2 x3 x4 x5 x6 x7))
4) %
4294967296
else r5)),
Sv.v
(Value.int IntKind.u32
(bif true && ar == 6 then
IntKind.wrap IntKind.u64
(twoV 3 fc
(lvlV 1 (ldV M db ds (ofV ab ai aq ad [r0, r1, r2, r3, r4, r5, r6, r7]) 4 (mayV dr dw dx 0))
(getV 1 ar ad r0 r1 r2 r3 r4 r5 r6 r7 x0 x1 x2 x3 x4 x5 x6 x7))
(lvlV 1 (ldV M db ds (ofV bb bi bq bd [r0, r1, r2, r3, r4, r5, r6, r7]) 4 (mayV dr dw dx 0))
(getV 1 br bd r0 r1 r2 r3 r4 r5 r6 r7 x0 x1 x2 x3 x4 x5 x6 x7))
4) %
4294967296
else r6)),
Sv.v
(Value.int IntKind.u32
(bif true && ar == 7 then
IntKind.wrap IntKind.u64
(twoV 3 fc
(lvlV 1 (ldV M db ds (ofV ab ai aq ad [r0, r1, r2, r3, r4, r5, r6, r7]) 4 (mayV dr dw dx 0))
(getV 1 ar ad r0 r1 r2 r3 r4 r5 r6 r7 x0 x1 x2 x3 x4 x5 x6 x7))
(lvlV 1 (ldV M db ds (ofV bb bi bq bd [r0, r1, r2, r3, r4, r5, r6, r7]) 4 (mayV dr dw dx 0))
(getV 1 br bd r0 r1 r2 r3 r4 r5 r6 r7 x0 x1 x2 x3 x4 x5 x6 x7))
4) %
4294967296
else r7)),
vw ip,
Sv.v
(Value.bool
(twoC 3 fc
(lvlV 1 (ldV M db ds (ofV ab ai aq ad [r0, r1, r2, r3, r4, r5, r6, r7]) 4 (mayV dr dw dx 0))
(getV 1 ar ad r0 r1 r2 r3 r4 r5 r6 r7 x0 x1 x2 x3 x4 x5 x6 x7))
(lvlV 1 (ldV M db ds (ofV bb bi bq bd [r0, r1, r2, r3, r4, r5, r6, r7]) 4 (mayV dr dw dx 0))
(getV 1 br bd r0 r1 r2 r3 r4 r5 r6 r7 x0 x1 x2 x3 x4 x5 x6 x7))
4)),
Sv.v
(Value.bool
(parV
(twoV 3 fc
(lvlV 1 (ldV M db ds (ofV ab ai aq ad [r0, r1, r2, r3, r4, r5, r6, r7]) 4 (mayV dr dw dx 0))
(getV 1 ar ad r0 r1 r2 r3 r4 r5 r6 r7 x0 x1 x2 x3 x4 x5 x6 x7))
(lvlV 1 (ldV M db ds (ofV bb bi bq bd [r0, r1, r2, r3, r4, r5, r6, r7]) 4 (mayV dr dw dx 0))
(getV 1 br bd r0 r1 r2 r3 r4 r5 r6 r7 x0 x1 x2 x3 x4 x5 x6 x7))
4))),
Sv.v
(Value.bool
(twoV 3 fc
(lvlV 1 (ldV M db ds (ofV ab ai aq ad [r0, r1, r2, r3, r4, r5, r6, r7]) 4 (mayV dr dw dx 0))
(getV 1 ar ad r0 r1 r2 r3 r4 r5 r6 r7 x0 x1 x2 x3 x4 x5 x6 x7))
(lvlV 1 (ldV M db ds (ofV bb bi bq bd [r0, r1, r2, r3, r4, r5, r6, r7]) 4 (mayV dr dw dx 0))
(getV 1 br bd r0 r1 r2 r3 r4 r5 r6 r7 x0 x1 x2 x3 x4 x5 x6 x7))
4 ==
0)),
Sv.v
(Value.bool
(topV
(twoV 3 fc
(lvlV 1 (ldV M db ds (ofV ab ai aq ad [r0, r1, r2, r3, r4, r5, r6, r7]) 4 (mayV dr dw dx 0))
(getV 1 ar ad r0 r1 r2 r3 r4 r5 r6 r7 x0 x1 x2 x3 x4 x5 x6 x7))
(lvlV 1 (ldV M db ds (ofV bb bi bq bd [r0, r1, r2, r3, r4, r5, r6, r7]) 4 (mayV dr dw dx 0))
(getV 1 br bd r0 r1 r2 r3 r4 r5 r6 r7 x0 x1 x2 x3 x4 x5 x6 x7))
4)
4)),
Sv.v
(Value.bool
(twoO 3 fc
(lvlV 1 (ldV M db ds (ofV ab ai aq ad [r0, r1, r2, r3, r4, r5, r6, r7]) 4 (mayV dr dw dx 0))
(getV 1 ar ad r0 r1 r2 r3 r4 r5 r6 r7 x0 x1 x2 x3 x4 x5 x6 x7))
(lvlV 1 (ldV M db ds (ofV bb bi bq bd [r0, r1, r2, r3, r4, r5, r6, r7]) 4 (mayV dr dw dx 0))
(getV 1 br bd r0 r1 r2 r3 r4 r5 r6 r7 x0 x1 x2 x3 x4 x5 x6 x7))
4)),
vb fd, vd x0, vd x1, vd x2,
vd x3, vd x4, vd x5,
vd x6, vd x7],
vi 0],
[SObj.cells
[Sv.ptr 1 0, vw cb, vw cs, vb cr,
vb cw, vb cx, vw db, vw ds,
vb dr, vb dw, vb dx]
T,
SObj.ext 0 M])
else none
else none
else none
else none) := by kernel_rfl
set_option maxHeartbeats 4000000 in
theorem al3_ev (cb cs : Int) (cr cw cx : Bool) (db ds : Int) (dr dw dx : Bool) (T : TypeId) (M : Int → Int) (r0 r1 r2 r3 r4 r5 r6 r7 ip : Int) (fc fp fz fs fo fd : Bool) (x0 x1 x2 x3 x4 x5 x6 x7 : Int) (cond : Int) (ar : Int) (ab : Int) (ai : Int) (aq : Int) (ad : Int) (br : Int) (bb : Int) (bi : Int) (bq : Int) (bd : Int) (c : Int) (rep : Bool) (len : Int) (hg : (in32 r0 && (in32 r1 && (in32 r2 && (in32 r3 && (in32 r4 && (in32 r5 && (in32 r6 && (in32 r7 && (in32 db && (in32 ds && (in32 ad && (in32 bd && (in64 x0 && (in64 x1 && (in64 x2 && (in64 x3 && (in64 x4 && (in64 x5 && (in64 x6 && (in64 x7)))))))))))))))))))) = true) : guardE Try.prog ΓMl 400 alA alC Try.f34.results.toList 9 22 2 alCatch ([.ptr 0 0, .agg [.v (.int .u32 r0), .v (.int .u32 r1), .v (.int .u32 r2), .v (.int .u32 r3), .v (.int .u32 r4), .v (.int .u32 r5), .v (.int .u32 r6), .v (.int .u32 r7), .v (.int .u32 ip), .v (.bool fc), .v (.bool fp), .v (.bool fz), .v (.bool fs), .v (.bool fo), .v (.bool fd), .v (.int .u64 x0), .v (.int .u64 x1), .v (.int .u64 x2), .v (.int .u64 x3), .v (.int .u64 x4), .v (.int .u64 x5), .v (.int .u64 x6), .v (.int .u64 x7)], .agg [.v (.int .i64 3), .v (.int .i64 cond), .v (.int .i64 4), .v (.int .i64 1), .v (.int .i64 ar), .v (.int .i64 ab), .v (.int .i64 ai), .v (.int .i64 aq), .v (.int .u32 ad), .v (.int .i64 1), .v (.int .i64 br), .v (.int .i64 bb), .v (.int .i64 bi), .v (.int .i64 bq), .v (.int .u32 bd), .v (.int .u32 c), .v (.bool rep), .v (.int .i64 len)]] ++ List.replicate (Try.f34.ntmps - 3) (.v undef)) [.cells [.ptr 1 0, .v (.int .u32 cb), .v (.int .u32 cs), .v (.bool cr), .v (.bool cw), .v (.bool cx), .v (.int .u32 db), .v (.int .u32 ds), .v (.bool dr), .v (.bool dw), .v (.bool dx)] T, .ext 0 M] = some ((Sv.tup [Sv.agg [vw ((bif true && ar == 0 then IntKind.wrap IntKind.u64 (twoV 3 fc (lvlV 1 (ldV M db ds (ofV ab ai aq ad [r0, r1, r2, r3, r4, r5, r6, r7]) 4 (mayV dr dw dx 0)) (getV 1 ar ad r0 r1 r2 r3 r4 r5 r6 r7 x0 x1 x2 x3 x4 x5 x6 x7)) (lvlV 1 (ldV M db ds (ofV bb bi bq bd [r0, r1, r2, r3, r4, r5, r6, r7]) 4 (mayV dr dw dx 0)) (getV 1 br bd r0 r1 r2 r3 r4 r5 r6 r7 x0 x1 x2 x3 x4 x5 x6 x7)) 4) % 4294967296 else bif false && ar == 0 then r0 - r0 % 256 + IntKind.wrap IntKind.u64 (twoV 3 fc (lvlV 1 (ldV M db ds (ofV ab ai aq ad [r0, r1, r2, r3, r4, r5, r6, r7]) 4 (mayV dr dw dx 0)) (getV 1 ar ad r0 r1 r2 r3 r4 r5 r6 r7 x0 x1 x2 x3 x4 x5 x6 x7)) (lvlV 1 (ldV M db ds (ofV bb bi bq bd [r0, r1, r2, r3, r4, r5, r6, r7]) 4 (mayV dr dw dx 0)) (getV 1 br bd r0 r1 r2 r3 r4 r5 r6 r7 x0 x1 x2 x3 x4 x5 x6 x7)) 4) % 256 else bif false && ar == 4 then r0 - r0 / 256 % 256 * 256 + IntKind.wrap IntKind.u64 (twoV 3 fc (lvlV 1 (ldV M db ds (ofV ab ai aq ad [r0, r1, r2, r3, r4, r5, r6, r7]) 4 (mayV dr dw dx 0)) (getV 1 ar ad r0 r1 r2 r3 r4 r5 r6 r7 x0 x1 x2 x3 x4 x5 x6 x7)) (lvlV 1 (ldV M db ds (ofV bb bi bq bd [r0, r1, r2, r3, r4, r5, r6, r7]) 4 (mayV dr dw dx 0)) (getV 1 br bd r0 r1 r2 r3 r4 r5 r6 r7 x0 x1 x2 x3 x4 x5 x6 x7)) 4) % 256 * 256 else r0)), vw ((bif true && ar == 1 then IntKind.wrap IntKind.u64 (twoV 3 fc (lvlV 1 (ldV M db ds (ofV ab ai aq ad [r0, r1, r2, r3, r4, r5, r6, r7]) 4 (mayV dr dw dx 0)) (getV 1 ar ad r0 r1 r2 r3 r4 r5 r6 r7 x0 x1 x2 x3 x4 x5 x6 x7)) (lvlV 1 (ldV M db ds (ofV bb bi bq bd [r0, r1, r2, r3, r4, r5, r6, r7]) 4 (mayV dr dw dx 0)) (getV 1 br bd r0 r1 r2 r3 r4 r5 r6 r7 x0 x1 x2 x3 x4 x5 x6 x7)) 4) % 4294967296 else bif false && ar == 1 then r1 - r1 % 256 + IntKind.wrap IntKind.u64 (twoV 3 fc (lvlV 1 (ldV M db ds (ofV ab ai aq ad [r0, r1, r2, r3, r4, r5, r6, r7]) 4 (mayV dr dw dx 0)) (getV 1 ar ad r0 r1 r2 r3 r4 r5 r6 r7 x0 x1 x2 x3 x4 x5 x6 x7)) (lvlV 1 (ldV M db ds (ofV bb bi bq bd [r0, r1, r2, r3, r4, r5, r6, r7]) 4 (mayV dr dw dx 0)) (getV 1 br bd r0 r1 r2 r3 r4 r5 r6 r7 x0 x1 x2 x3 x4 x5 x6 x7)) 4) % 256 else bif false && ar == 5 then r1 - r1 / 256 % 256 * 256 + IntKind.wrap IntKind.u64 (twoV 3 fc (lvlV 1 (ldV M db ds (ofV ab ai aq ad [r0, r1, r2, r3, r4, r5, r6, r7]) 4 (mayV dr dw dx 0)) (getV 1 ar ad r0 r1 r2 r3 r4 r5 r6 r7 x0 x1 x2 x3 x4 x5 x6 x7)) (lvlV 1 (ldV M db ds (ofV bb bi bq bd [r0, r1, r2, r3, r4, r5, r6, r7]) 4 (mayV dr dw dx 0)) (getV 1 br bd r0 r1 r2 r3 r4 r5 r6 r7 x0 x1 x2 x3 x4 x5 x6 x7)) 4) % 256 * 256 else r1)), vw ((bif true && ar == 2 then IntKind.wrap IntKind.u64 (twoV 3 fc (lvlV 1 (ldV M db ds (ofV ab ai aq ad [r0, r1, r2, r3, r4, r5, r6, r7]) 4 (mayV dr dw dx 0)) (getV 1 ar ad r0 r1 r2 r3 r4 r5 r6 r7 x0 x1 x2 x3 x4 x5 x6 x7)) (lvlV 1 (ldV M db ds (ofV bb bi bq bd [r0, r1, r2, r3, r4, r5, r6, r7]) 4 (mayV dr dw dx 0)) (getV 1 br bd r0 r1 r2 r3 r4 r5 r6 r7 x0 x1 x2 x3 x4 x5 x6 x7)) 4) % 4294967296 else bif false && ar == 2 then r2 - r2 % 256 + IntKind.wrap IntKind.u64 (twoV 3 fc (lvlV 1 (ldV M db ds (ofV ab ai aq ad [r0, r1, r2, r3, r4, r5, r6, r7]) 4 (mayV dr dw dx 0)) (getV 1 ar ad r0 r1 r2 r3 r4 r5 r6 r7 x0 x1 x2 x3 x4 x5 x6 x7)) (lvlV 1 (ldV M db ds (ofV bb bi bq bd [r0, r1, r2, r3, r4, r5, r6, r7]) 4 (mayV dr dw dx 0)) (getV 1 br bd r0 r1 r2 r3 r4 r5 r6 r7 x0 x1 x2 x3 x4 x5 x6 x7)) 4) % 256 else bif false && ar == 6 then r2 - r2 / 256 % 256 * 256 + IntKind.wrap IntKind.u64 (twoV 3 fc (lvlV 1 (ldV M db ds (ofV ab ai aq ad [r0, r1, r2, r3, r4, r5, r6, r7]) 4 (mayV dr dw dx 0)) (getV 1 ar ad r0 r1 r2 r3 r4 r5 r6 r7 x0 x1 x2 x3 x4 x5 x6 x7)) (lvlV 1 (ldV M db ds (ofV bb bi bq bd [r0, r1, r2, r3, r4, r5, r6, r7]) 4 (mayV dr dw dx 0)) (getV 1 br bd r0 r1 r2 r3 r4 r5 r6 r7 x0 x1 x2 x3 x4 x5 x6 x7)) 4) % 256 * 256 else r2)), vw ((bif true && ar == 3 then IntKind.wrap IntKind.u64 (twoV 3 fc (lvlV 1 (ldV M db ds (ofV ab ai aq ad [r0, r1, r2, r3, r4, r5, r6, r7]) 4 (mayV dr dw dx 0)) (getV 1 ar ad r0 r1 r2 r3 r4 r5 r6 r7 x0 x1 x2 x3 x4 x5 x6 x7)) (lvlV 1 (ldV M db ds (ofV bb bi bq bd [r0, r1, r2, r3, r4, r5, r6, r7]) 4 (mayV dr dw dx 0)) (getV 1 br bd r0 r1 r2 r3 r4 r5 r6 r7 x0 x1 x2 x3 x4 x5 x6 x7)) 4) % 4294967296 else bif false && ar == 3 then r3 - r3 % 256 + IntKind.wrap IntKind.u64 (twoV 3 fc (lvlV 1 (ldV M db ds (ofV ab ai aq ad [r0, r1, r2, r3, r4, r5, r6, r7]) 4 (mayV dr dw dx 0)) (getV 1 ar ad r0 r1 r2 r3 r4 r5 r6 r7 x0 x1 x2 x3 x4 x5 x6 x7)) (lvlV 1 (ldV M db ds (ofV bb bi bq bd [r0, r1, r2, r3, r4, r5, r6, r7]) 4 (mayV dr dw dx 0)) (getV 1 br bd r0 r1 r2 r3 r4 r5 r6 r7 x0 x1 x2 x3 x4 x5 x6 x7)) 4) % 256 else bif false && ar == 7 then r3 - r3 / 256 % 256 * 256 + IntKind.wrap IntKind.u64 (twoV 3 fc (lvlV 1 (ldV M db ds (ofV ab ai aq ad [r0, r1, r2, r3, r4, r5, r6, r7]) 4 (mayV dr dw dx 0)) (getV 1 ar ad r0 r1 r2 r3 r4 r5 r6 r7 x0 x1 x2 x3 x4 x5 x6 x7)) (lvlV 1 (ldV M db ds (ofV bb bi bq bd [r0, r1, r2, r3, r4, r5, r6, r7]) 4 (mayV dr dw dx 0)) (getV 1 br bd r0 r1 r2 r3 r4 r5 r6 r7 x0 x1 x2 x3 x4 x5 x6 x7)) 4) % 256 * 256 else r3)), vw ((bif true && ar == 4 then IntKind.wrap IntKind.u64 (twoV 3 fc (lvlV 1 (ldV M db ds (ofV ab ai aq ad [r0, r1, r2, r3, r4, r5, r6, r7]) 4 (mayV dr dw dx 0)) (getV 1 ar ad r0 r1 r2 r3 r4 r5 r6 r7 x0 x1 x2 x3 x4 x5 x6 x7)) (lvlV 1 (ldV M db ds (ofV bb bi bq bd [r0, r1, r2, r3, r4, r5, r6, r7]) 4 (mayV dr dw dx 0)) (getV 1 br bd r0 r1 r2 r3 r4 r5 r6 r7 x0 x1 x2 x3 x4 x5 x6 x7)) 4) % 4294967296 else r4)), vw ((bif true && ar == 5 then IntKind.wrap IntKind.u64 (twoV 3 fc (lvlV 1 (ldV M db ds (ofV ab ai aq ad [r0, r1, r2, r3, r4, r5, r6, r7]) 4 (mayV dr dw dx 0)) (getV 1 ar ad r0 r1 r2 r3 r4 r5 r6 r7 x0 x1 x2 x3 x4 x5 x6 x7)) (lvlV 1 (ldV M db ds (ofV bb bi bq bd [r0, r1, r2, r3, r4, r5, r6, r7]) 4 (mayV dr dw dx 0)) (getV 1 br bd r0 r1 r2 r3 r4 r5 r6 r7 x0 x1 x2 x3 x4 x5 x6 x7)) 4) % 4294967296 else r5)), vw ((bif true && ar == 6 then IntKind.wrap IntKind.u64 (twoV 3 fc (lvlV 1 (ldV M db ds (ofV ab ai aq ad [r0, r1, r2, r3, r4, r5, r6, r7]) 4 (mayV dr dw dx 0)) (getV 1 ar ad r0 r1 r2 r3 r4 r5 r6 r7 x0 x1 x2 x3 x4 x5 x6 x7)) (lvlV 1 (ldV M db ds (ofV bb bi bq bd [r0, r1, r2, r3, r4, r5, r6, r7]) 4 (mayV dr dw dx 0)) (getV 1 br bd r0 r1 r2 r3 r4 r5 r6 r7 x0 x1 x2 x3 x4 x5 x6 x7)) 4) % 4294967296 else r6)), vw ((bif true && ar == 7 then IntKind.wrap IntKind.u64 (twoV 3 fc (lvlV 1 (ldV M db ds (ofV ab ai aq ad [r0, r1, r2, r3, r4, r5, r6, r7]) 4 (mayV dr dw dx 0)) (getV 1 ar ad r0 r1 r2 r3 r4 r5 r6 r7 x0 x1 x2 x3 x4 x5 x6 x7)) (lvlV 1 (ldV M db ds (ofV bb bi bq bd [r0, r1, r2, r3, r4, r5, r6, r7]) 4 (mayV dr dw dx 0)) (getV 1 br bd r0 r1 r2 r3 r4 r5 r6 r7 x0 x1 x2 x3 x4 x5 x6 x7)) 4) % 4294967296 else r7)), vw ip, vb ((twoC 3 fc (lvlV 1 (ldV M db ds (ofV ab ai aq ad [r0, r1, r2, r3, r4, r5, r6, r7]) 4 (mayV dr dw dx 0)) (getV 1 ar ad r0 r1 r2 r3 r4 r5 r6 r7 x0 x1 x2 x3 x4 x5 x6 x7)) (lvlV 1 (ldV M db ds (ofV bb bi bq bd [r0, r1, r2, r3, r4, r5, r6, r7]) 4 (mayV dr dw dx 0)) (getV 1 br bd r0 r1 r2 r3 r4 r5 r6 r7 x0 x1 x2 x3 x4 x5 x6 x7)) 4)), vb ((parV (twoV 3 fc (lvlV 1 (ldV M db ds (ofV ab ai aq ad [r0, r1, r2, r3, r4, r5, r6, r7]) 4 (mayV dr dw dx 0)) (getV 1 ar ad r0 r1 r2 r3 r4 r5 r6 r7 x0 x1 x2 x3 x4 x5 x6 x7)) (lvlV 1 (ldV M db ds (ofV bb bi bq bd [r0, r1, r2, r3, r4, r5, r6, r7]) 4 (mayV dr dw dx 0)) (getV 1 br bd r0 r1 r2 r3 r4 r5 r6 r7 x0 x1 x2 x3 x4 x5 x6 x7)) 4))), vb ((twoV 3 fc (lvlV 1 (ldV M db ds (ofV ab ai aq ad [r0, r1, r2, r3, r4, r5, r6, r7]) 4 (mayV dr dw dx 0)) (getV 1 ar ad r0 r1 r2 r3 r4 r5 r6 r7 x0 x1 x2 x3 x4 x5 x6 x7)) (lvlV 1 (ldV M db ds (ofV bb bi bq bd [r0, r1, r2, r3, r4, r5, r6, r7]) 4 (mayV dr dw dx 0)) (getV 1 br bd r0 r1 r2 r3 r4 r5 r6 r7 x0 x1 x2 x3 x4 x5 x6 x7)) 4 == 0)), vb ((topV (twoV 3 fc (lvlV 1 (ldV M db ds (ofV ab ai aq ad [r0, r1, r2, r3, r4, r5, r6, r7]) 4 (mayV dr dw dx 0)) (getV 1 ar ad r0 r1 r2 r3 r4 r5 r6 r7 x0 x1 x2 x3 x4 x5 x6 x7)) (lvlV 1 (ldV M db ds (ofV bb bi bq bd [r0, r1, r2, r3, r4, r5, r6, r7]) 4 (mayV dr dw dx 0)) (getV 1 br bd r0 r1 r2 r3 r4 r5 r6 r7 x0 x1 x2 x3 x4 x5 x6 x7)) 4) 4)), vb ((twoO 3 fc (lvlV 1 (ldV M db ds (ofV ab ai aq ad [r0, r1, r2, r3, r4, r5, r6, r7]) 4 (mayV dr dw dx 0)) (getV 1 ar ad r0 r1 r2 r3 r4 r5 r6 r7 x0 x1 x2 x3 x4 x5 x6 x7)) (lvlV 1 (ldV M db ds (ofV bb bi bq bd [r0, r1, r2, r3, r4, r5, r6, r7]) 4 (mayV dr dw dx 0)) (getV 1 br bd r0 r1 r2 r3 r4 r5 r6 r7 x0 x1 x2 x3 x4 x5 x6 x7)) 4)), vb fd, vd x0, vd x1, vd x2, vd x3, vd x4, vd x5, vd x6, vd x7], vi 0]), [.cells [.ptr 1 0, .v (.int .u32 cb), .v (.int .u32 cs), .v (.bool cr), .v (.bool cw), .v (.bool cx), .v (.int .u32 db), .v (.int .u32 ds), .v (.bool dr), .v (.bool dw), .v (.bool dx)] T, .ext 0 M]) := by
  rw [al3_form]
  simp only [Bool.and_eq_true] at hg
  simp only [hg, ofV_in, in32_wr, in64_wr, ldW_in64, ldV_in64, getV_in64, twoV_in, lvlV_in, Bool.and_self, Bool.and_true, Bool.true_and, cond_true]
  rfl
-- al3
theorem al4_form (cb cs : Int) (cr cw cx : Bool) (db ds : Int) (dr dw dx : Bool) (T : TypeId) (M : Int → Int) (r0 r1 r2 r3 r4 r5 r6 r7 ip : Int) (fc fp fz fs fo fd : Bool) (x0 x1 x2 x3 x4 x5 x6 x7 : Int) (cond : Int) (ar : Int) (ab : Int) (ai : Int) (aq : Int) (ad : Int) (br : Int) (bb : Int) (bi : Int) (bq : Int) (bd : Int) (c : Int) (rep : Bool) (len : Int) :
    guardE Try.prog ΓMl 400 alA alC Try.f34.results.toList 9 22 2 alCatch ([.ptr 0 0, .agg [.v (.int .u32 r0), .v (.int .u32 r1), .v (.int .u32 r2), .v (.int .u32 r3), .v (.int .u32 r4), .v (.int .u32 r5), .v (.int .u32 r6), .v (.int .u32 r7), .v (.int .u32 ip), .v (.bool fc), .v (.bool fp), .v (.bool fz), .v (.bool fs), .v (.bool fo), .v (.bool fd), .v (.int .u64 x0), .v (.int .u64 x1), .v (.int .u64 x2), .v (.int .u64 x3), .v (.int .u64 x4), .v (.int .u64 x5), .v (.int .u64 x6), .v (.int .u64 x7)], .agg [.v (.int .i64 4), .v (.int .i64 cond), .v (.int .i64 4), .v (.int .i64 1), .v (.int .i64 ar), .v (.int .i64 ab), .v (.int .i64 ai), .v (.int .i64 aq), .v (.int .u32 ad), .v (.int .i64 1), .v (.int .i64 br), .v (.int .i64 bb), .v (.int .i64 bi), .v (.int .i64 bq), .v (.int .u32 bd), .v (.int .u32 c), .v (.bool rep), .v (.int .i64 len)]] ++ List.replicate (Try.f34.ntmps - 3) (.v undef)) [.cells [.ptr 1 0, .v (.int .u32 cb), .v (.int .u32 cs), .v (.bool cr), .v (.bool cw), .v (.bool cx), .v (.int .u32 db), .v (.int .u32 ds), .v (.bool dr), .v (.bool dw), .v (.bool dx)] T, .ext 0 M] =
    (bif
in32 r0 &&
(in32 r1 &&
(in32 r2 && (in32 r3 && (in32 r4 && (in32 r5 && (in32 r6 && (in32 r7 && (in32 ad && (in32 db && in32 ds))))))))) &&
(!7 == 0 && (!7 == 1 && true)) then
bif
in32 r0 &&
(in32 r1 &&
(in32 r2 && (in32 r3 && (in32 r4 && (in32 r5 && (in32 r6 && (in32 r7 && (in32 bd && (in32 db && in32 ds))))))))) &&
(!7 == 0 && (!7 == 1 && true)) then
bif
in32
(lvlV 1 (ldV M db ds (ofV ab ai aq ad [r0, r1, r2, r3, r4, r5, r6, r7]) 4 (mayV dr dw dx 0))
(getV 1 ar ad r0 r1 r2 r3 r4 r5 r6 r7 x0 x1 x2 x3 x4 x5 x6 x7)) &&
in32
(lvlV 1 (ldV M db ds (ofV bb bi bq bd [r0, r1, r2, r3, r4, r5, r6, r7]) 4 (mayV dr dw dx 0))
(getV 1 br bd r0 r1 r2 r3 r4 r5 r6 r7 x0 x1 x2 x3 x4 x5 x6 x7)) &&
(!7 == 0 && (!7 == 1 && true)) then
bif
in32 r0 &&
(in32 r1 &&
(in32 r2 &&
(in32 r3 &&
(in32 r4 &&
(in32 r5 &&
(in32 r6 &&
(in32 r7 &&
(in32 ad &&
(in32 db &&
(in32 ds &&
in64
(IntKind.wrap IntKind.u64
(twoV 4 fc
(lvlV 1 (ldV M db ds (ofV ab ai aq ad [r0, r1, r2, r3, r4, r5, r6, r7]) 4 (mayV dr dw dx 0))
(getV 1 ar ad r0 r1 r2 r3 r4 r5 r6 r7 x0 x1 x2 x3 x4 x5 x6 x7))
(lvlV 1 (ldV M db ds (ofV bb bi bq bd [r0, r1, r2, r3, r4, r5, r6, r7]) 4 (mayV dr dw dx 0))
(getV 1 br bd r0 r1 r2 r3 r4 r5 r6 r7 x0 x1 x2 x3 x4 x5 x6 x7))
4)))))))))))) &&
true then
some
(Sv.tup
[Sv.agg
[Sv.v
(Value.int IntKind.u32
(bif true && ar == 0 then
IntKind.wrap IntKind.u64
(twoV 4 fc
(lvlV 1 (ldV M db ds (ofV ab ai aq ad [r0, r1, r2, r3, r4, r5, r6, r7]) 4 (mayV dr dw dx 0))
(getV 1 ar ad r0 r1 r2 r3 r4 r5 r6 r7 x0 x1 x2 x3 x4 x5 x6 x7))
(lvlV 1 (ldV M db ds (ofV bb bi bq bd [r0, r1, r2, r3, r4, r5, r6, r7]) 4 (mayV dr dw dx 0))
(getV 1 br bd r0 r1 r2 r3 r4 r5 r6 r7 x0 x1 x2 x3 x4 x5 x6 x7))
4) %
4294967296
else
bif false && ar == 0 then
r0 - r0 % 256 +
IntKind.wrap IntKind.u64
(twoV 4 fc
(lvlV 1 (ldV M db ds (ofV ab ai aq ad [r0, r1, r2, r3, r4, r5, r6, r7]) 4 (mayV dr dw dx 0))
(getV 1 ar ad r0 r1 r2 r3 r4 r5 r6 r7 x0 x1 x2 x3 x4 x5 x6 x7))
(lvlV 1 (ldV M db ds (ofV bb bi bq bd [r0, r1, r2, r3, r4, r5, r6, r7]) 4 (mayV dr dw dx 0))
(getV 1 br bd r0 r1 r2 r3 r4 r5 r6 r7 x0 x1 x2 x3 x4 x5 x6 x7))
4) %
256
else
bif false && ar == 4 then
r0 - r0 / 256 % 256 * 256 +
IntKind.wrap IntKind.u64
(twoV 4 fc
(lvlV 1 (ldV M db ds (ofV ab ai aq ad [r0, r1, r2, r3, r4, r5, r6, r7]) 4 (mayV dr dw dx 0))
(getV 1 ar ad r0 r1 r2 r3 r4 r5 r6 r7 x0 x1 x2 x3 x4 x5 x6 x7))
(lvlV 1 (ldV M db ds (ofV bb bi bq bd [r0, r1, r2, r3, r4, r5, r6, r7]) 4 (mayV dr dw dx 0))
(getV 1 br bd r0 r1 r2 r3 r4 r5 r6 r7 x0 x1 x2 x3 x4 x5 x6 x7))
4) %
256 *
256
else r0)),
Sv.v
(Value.int IntKind.u32
(bif true && ar == 1 then
IntKind.wrap IntKind.u64
(twoV 4 fc
(lvlV 1 (ldV M db ds (ofV ab ai aq ad [r0, r1, r2, r3, r4, r5, r6, r7]) 4 (mayV dr dw dx 0))
(getV 1 ar ad r0 r1 r2 r3 r4 r5 r6 r7 x0 x1 x2 x3 x4 x5 x6 x7))
(lvlV 1 (ldV M db ds (ofV bb bi bq bd [r0, r1, r2, r3, r4, r5, r6, r7]) 4 (mayV dr dw dx 0))
(getV 1 br bd r0 r1 r2 r3 r4 r5 r6 r7 x0 x1 x2 x3 x4 x5 x6 x7))
4) %
4294967296
else
bif false && ar == 1 then
r1 - r1 % 256 +
IntKind.wrap IntKind.u64
(twoV 4 fc
(lvlV 1 (ldV M db ds (ofV ab ai aq ad [r0, r1, r2, r3, r4, r5, r6, r7]) 4 (mayV dr dw dx 0))
(getV 1 ar ad r0 r1 r2 r3 r4 r5 r6 r7 x0 x1 x2 x3 x4 x5 x6 x7))
(lvlV 1 (ldV M db ds (ofV bb bi bq bd [r0, r1, r2, r3, r4, r5, r6, r7]) 4 (mayV dr dw dx 0))
(getV 1 br bd r0 r1 r2 r3 r4 r5 r6 r7 x0 x1 x2 x3 x4 x5 x6 x7))
4) %
256
else
bif false && ar == 5 then
r1 - r1 / 256 % 256 * 256 +
IntKind.wrap IntKind.u64
(twoV 4 fc
(lvlV 1 (ldV M db ds (ofV ab ai aq ad [r0, r1, r2, r3, r4, r5, r6, r7]) 4 (mayV dr dw dx 0))
(getV 1 ar ad r0 r1 r2 r3 r4 r5 r6 r7 x0 x1 x2 x3 x4 x5 x6 x7))
(lvlV 1 (ldV M db ds (ofV bb bi bq bd [r0, r1, r2, r3, r4, r5, r6, r7]) 4 (mayV dr dw dx 0))
(getV 1 br bd r0 r1 r2 r3 r4 r5 r6 r7 x0 x1 x2 x3 x4 x5 x6 x7))
4) %
256 *
256
else r1)),
Sv.v
(Value.int IntKind.u32
(bif true && ar == 2 then
IntKind.wrap IntKind.u64
(twoV 4 fc
(lvlV 1 (ldV M db ds (ofV ab ai aq ad [r0, r1, r2, r3, r4, r5, r6, r7]) 4 (mayV dr dw dx 0))
(getV 1 ar ad r0 r1 r2 r3 r4 r5 r6 r7 x0 x1 x2 x3 x4 x5 x6 x7))
(lvlV 1 (ldV M db ds (ofV bb bi bq bd [r0, r1, r2, r3, r4, r5, r6, r7]) 4 (mayV dr dw dx 0))
(getV 1 br bd r0 r1 r2 r3 r4 r5 r6 r7 x0 x1 x2 x3 x4 x5 x6 x7))
4) %
4294967296
else
bif false && ar == 2 then
r2 - r2 % 256 +
IntKind.wrap IntKind.u64
(twoV 4 fc
(lvlV 1 (ldV M db ds (ofV ab ai aq ad [r0, r1, r2, r3, r4, r5, r6, r7]) 4 (mayV dr dw dx 0))
(getV 1 ar ad r0 r1 r2 r3 r4 r5 r6 r7 x0 x1 x2 x3 x4 x5 x6 x7))
(lvlV 1 (ldV M db ds (ofV bb bi bq bd [r0, r1, r2, r3, r4, r5, r6, r7]) 4 (mayV dr dw dx 0))
(getV 1 br bd r0 r1 r2 r3 r4 r5 r6 r7 x0 x1 x2 x3 x4 x5 x6 x7))
4) %
256
else
bif false && ar == 6 then
r2 - r2 / 256 % 256 * 256 +
IntKind.wrap IntKind.u64
(twoV 4 fc
(lvlV 1 (ldV M db ds (ofV ab ai aq ad [r0, r1, r2, r3, r4, r5, r6, r7]) 4 (mayV dr dw dx 0))
(getV 1 ar ad r0 r1 r2 r3 r4 r5 r6 r7 x0 x1 x2 x3 x4 x5 x6 x7))
(lvlV 1 (ldV M db ds (ofV bb bi bq bd [r0, r1, r2, r3, r4, r5, r6, r7]) 4 (mayV dr dw dx 0))
(getV 1 br bd r0 r1 r2 r3 r4 r5 r6 r7 x0 x1 x2 x3 x4 x5 x6 x7))
4) %
256 *
256
else r2)),
Sv.v
(Value.int IntKind.u32
(bif true && ar == 3 then
IntKind.wrap IntKind.u64
(twoV 4 fc
(lvlV 1 (ldV M db ds (ofV ab ai aq ad [r0, r1, r2, r3, r4, r5, r6, r7]) 4 (mayV dr dw dx 0))
(getV 1 ar ad r0 r1 r2 r3 r4 r5 r6 r7 x0 x1 x2 x3 x4 x5 x6 x7))
(lvlV 1 (ldV M db ds (ofV bb bi bq bd [r0, r1, r2, r3, r4, r5, r6, r7]) 4 (mayV dr dw dx 0))
(getV 1 br bd r0 r1 r2 r3 r4 r5 r6 r7 x0 x1 x2 x3 x4 x5 x6 x7))
4) %
4294967296
else
bif false && ar == 3 then
r3 - r3 % 256 +
IntKind.wrap IntKind.u64
(twoV 4 fc
(lvlV 1 (ldV M db ds (ofV ab ai aq ad [r0, r1, r2, r3, r4, r5, r6, r7]) 4 (mayV dr dw dx 0))
(getV 1 ar ad r0 r1 r2 r3 r4 r5 r6 r7 x0 x1 x2 x3 x4 x5 x6 x7))
(lvlV 1 (ldV M db ds (ofV bb bi bq bd [r0, r1, r2, r3, r4, r5, r6, r7]) 4 (mayV dr dw dx 0))
(getV 1 br bd r0 r1 r2 r3 r4 r5 r6 r7 x0 x1 x2 x3 x4 x5 x6 x7))
4) %
256
else
bif false && ar == 7 then
r3 - r3 / 256 % 256 * 256 +
IntKind.wrap IntKind.u64
(twoV 4 fc
(lvlV 1 (ldV M db ds (ofV ab ai aq ad [r0, r1, r2, r3, r4, r5, r6, r7]) 4 (mayV dr dw dx 0))
(getV 1 ar ad r0 r1 r2 r3 r4 r5 r6 r7 x0 x1 x2 x3 x4 x5 x6 x7))
(lvlV 1 (ldV M db ds (ofV bb bi bq bd [r0, r1, r2, r3, r4, r5, r6, r7]) 4 (mayV dr dw dx 0))
(getV 1 br bd r0 r1 r2 r3 r4 r5 r6 r7 x0 x1 x2 x3 x4 x5 x6 x7))
4) %
256 *
256
else r3)),
Sv.v
(Value.int IntKind.u32
(bif true && ar == 4 then
IntKind.wrap IntKind.u64
(twoV 4 fc
(lvlV 1 (ldV M db ds (ofV ab ai aq ad [r0, r1, r2, r3, r4, r5, r6, r7]) 4 (mayV dr dw dx 0))
(getV 1 ar ad r0 r1 r2 r3 r4 r5 r6 r7 x0 x1 x2 x3 x4 x5 x6 x7))
(lvlV 1 (ldV M db ds (ofV bb bi bq bd [r0, r1, r2, r3, r4, r5, r6, r7]) 4 (mayV dr dw dx 0))
(getV 1 br bd r0 r1 r2 r3 r4 r5 r6 r7 x0 x1 x2 x3 x4 x5 x6 x7))
4) %
4294967296
else r4)),
Sv.v
(Value.int IntKind.u32
(bif true && ar == 5 then
IntKind.wrap IntKind.u64
(twoV 4 fc
(lvlV 1 (ldV M db ds (ofV ab ai aq ad [r0, r1, r2, r3, r4, r5, r6, r7]) 4 (mayV dr dw dx 0))
(getV 1 ar ad r0 r1 r2 r3 r4 r5 r6 r7 x0 x1 x2 x3 x4 x5 x6 x7))
(lvlV 1 (ldV M db ds (ofV bb bi bq bd [r0, r1, r2, r3, r4, r5, r6, r7]) 4 (mayV dr dw dx 0))
(getV 1 br bd r0 r1 r2 r3 r4 r5 r6 r7 x0 x1 x2 x3 x4 x5 x6 x7))
4) %
4294967296
else r5)),
Sv.v
(Value.int IntKind.u32
(bif true && ar == 6 then
IntKind.wrap IntKind.u64
(twoV 4 fc
(lvlV 1 (ldV M db ds (ofV ab ai aq ad [r0, r1, r2, r3, r4, r5, r6, r7]) 4 (mayV dr dw dx 0))
(getV 1 ar ad r0 r1 r2 r3 r4 r5 r6 r7 x0 x1 x2 x3 x4 x5 x6 x7))
(lvlV 1 (ldV M db ds (ofV bb bi bq bd [r0, r1, r2, r3, r4, r5, r6, r7]) 4 (mayV dr dw dx 0))
(getV 1 br bd r0 r1 r2 r3 r4 r5 r6 r7 x0 x1 x2 x3 x4 x5 x6 x7))
4) %
4294967296
else r6)),
Sv.v
(Value.int IntKind.u32
(bif true && ar == 7 then
IntKind.wrap IntKind.u64
(twoV 4 fc
(lvlV 1 (ldV M db ds (ofV ab ai aq ad [r0, r1, r2, r3, r4, r5, r6, r7]) 4 (mayV dr dw dx 0))
(getV 1 ar ad r0 r1 r2 r3 r4 r5 r6 r7 x0 x1 x2 x3 x4 x5 x6 x7))
(lvlV 1 (ldV M db ds (ofV bb bi bq bd [r0, r1, r2, r3, r4, r5, r6, r7]) 4 (mayV dr dw dx 0))
(getV 1 br bd r0 r1 r2 r3 r4 r5 r6 r7 x0 x1 x2 x3 x4 x5 x6 x7))
4) %
4294967296
else r7)),
vw ip,
Sv.v
(Value.bool
(twoC 4 fc
(lvlV 1 (ldV M db ds (ofV ab ai aq ad [r0, r1, r2, r3, r4, r5, r6, r7]) 4 (mayV dr dw dx 0))
(getV 1 ar ad r0 r1 r2 r3 r4 r5 r6 r7 x0 x1 x2 x3 x4 x5 x6 x7))
(lvlV 1 (ldV M db ds (ofV bb bi bq bd [r0, r1, r2, r3, r4, r5, r6, r7]) 4 (mayV dr dw dx 0))
(getV 1 br bd r0 r1 r2 r3 r4 r5 r6 r7 x0 x1 x2 x3 x4 x5 x6 x7))
4)),
Sv.v
(Value.bool
(parV
(twoV 4 fc
(lvlV 1 (ldV M db ds (ofV ab ai aq ad [r0, r1, r2, r3, r4, r5, r6, r7]) 4 (mayV dr dw dx 0))
(getV 1 ar ad r0 r1 r2 r3 r4 r5 r6 r7 x0 x1 x2 x3 x4 x5 x6 x7))
(lvlV 1 (ldV M db ds (ofV bb bi bq bd [r0, r1, r2, r3, r4, r5, r6, r7]) 4 (mayV dr dw dx 0))
(getV 1 br bd r0 r1 r2 r3 r4 r5 r6 r7 x0 x1 x2 x3 x4 x5 x6 x7))
4))),
Sv.v
(Value.bool
(twoV 4 fc
(lvlV 1 (ldV M db ds (ofV ab ai aq ad [r0, r1, r2, r3, r4, r5, r6, r7]) 4 (mayV dr dw dx 0))
(getV 1 ar ad r0 r1 r2 r3 r4 r5 r6 r7 x0 x1 x2 x3 x4 x5 x6 x7))
(lvlV 1 (ldV M db ds (ofV bb bi bq bd [r0, r1, r2, r3, r4, r5, r6, r7]) 4 (mayV dr dw dx 0))
(getV 1 br bd r0 r1 r2 r3 r4 r5 r6 r7 x0 x1 x2 x3 x4 x5 x6 x7))
4 ==
0)),
Sv.v
(Value.bool
(topV
(twoV 4 fc
(lvlV 1 (ldV M db ds (ofV ab ai aq ad [r0, r1, r2, r3, r4, r5, r6, r7]) 4 (mayV dr dw dx 0))
(getV 1 ar ad r0 r1 r2 r3 r4 r5 r6 r7 x0 x1 x2 x3 x4 x5 x6 x7))
(lvlV 1 (ldV M db ds (ofV bb bi bq bd [r0, r1, r2, r3, r4, r5, r6, r7]) 4 (mayV dr dw dx 0))
(getV 1 br bd r0 r1 r2 r3 r4 r5 r6 r7 x0 x1 x2 x3 x4 x5 x6 x7))
4)
4)),
Sv.v
(Value.bool
(twoO 4 fc
(lvlV 1 (ldV M db ds (ofV ab ai aq ad [r0, r1, r2, r3, r4, r5, r6, r7]) 4 (mayV dr dw dx 0))
(getV 1 ar ad r0 r1 r2 r3 r4 r5 r6 r7 x0 x1 x2 x3 x4 x5 x6 x7))
(lvlV 1 (ldV M db ds (ofV bb bi bq bd [r0, r1, r2, r3, r4, r5, r6, r7]) 4 (mayV dr dw dx 0))
(getV 1 br bd r0 r1 r2 r3 r4 r5 r6 r7 x0 x1 x2 x3 x4 x5 x6 x7))
4)),
vb fd, vd x0, vd x1, vd x2,
vd x3, vd x4, vd x5,
vd x6, vd x7],
vi 0],
[SObj.cells
[Sv.ptr 1 0, vw cb, vw cs, vb cr,
vb cw, vb cx, vw db, vw ds,
vb dr, vb dw, vb dx]
T,
SObj.ext 0 M])
else none
else none
else none
else none) := by kernel_rfl
set_option maxHeartbeats 4000000 in
theorem al4_ev (cb cs : Int) (cr cw cx : Bool) (db ds : Int) (dr dw dx : Bool) (T : TypeId) (M : Int → Int) (r0 r1 r2 r3 r4 r5 r6 r7 ip : Int) (fc fp fz fs fo fd : Bool) (x0 x1 x2 x3 x4 x5 x6 x7 : Int) (cond : Int) (ar : Int) (ab : Int) (ai : Int) (aq : Int) (ad : Int) (br : Int) (bb : Int) (bi : Int) (bq : Int) (bd : Int) (c : Int) (rep : Bool) (len : Int) (hg : (in32 r0 && (in32 r1 && (in32 r2 && (in32 r3 && (in32 r4 && (in32 r5 && (in32 r6 && (in32 r7 && (in32 db && (in32 ds && (in32 ad && (in32 bd && (in64 x0 && (in64 x1 && (in64 x2 && (in64 x3 && (in64 x4 && (in64 x5 && (in64 x6 && (in64 x7)))))))))))))))))))) = true) : guardE Try.prog ΓMl 400 alA alC Try.f34.results.toList 9 22 2 alCatch ([.ptr 0 0, .agg [.v (.int .u32 r0), .v (.int .u32 r1), .v (.int .u32 r2), .v (.int .u32 r3), .v (.int .u32 r4), .v (.int .u32 r5), .v (.int .u32 r6), .v (.int .u32 r7), .v (.int .u32 ip), .v (.bool fc), .v (.bool fp), .v (.bool fz), .v (.bool fs), .v (.bool fo), .v (.bool fd), .v (.int .u64 x0), .v (.int .u64 x1), .v (.int .u64 x2), .v (.int .u64 x3), .v (.int .u64 x4), .v (.int .u64 x5), .v (.int .u64 x6), .v (.int .u64 x7)], .agg [.v (.int .i64 4), .v (.int .i64 cond), .v (.int .i64 4), .v (.int .i64 1), .v (.int .i64 ar), .v (.int .i64 ab), .v (.int .i64 ai), .v (.int .i64 aq), .v (.int .u32 ad), .v (.int .i64 1), .v (.int .i64 br), .v (.int .i64 bb), .v (.int .i64 bi), .v (.int .i64 bq), .v (.int .u32 bd), .v (.int .u32 c), .v (.bool rep), .v (.int .i64 len)]] ++ List.replicate (Try.f34.ntmps - 3) (.v undef)) [.cells [.ptr 1 0, .v (.int .u32 cb), .v (.int .u32 cs), .v (.bool cr), .v (.bool cw), .v (.bool cx), .v (.int .u32 db), .v (.int .u32 ds), .v (.bool dr), .v (.bool dw), .v (.bool dx)] T, .ext 0 M] = some ((Sv.tup [Sv.agg [vw ((bif true && ar == 0 then IntKind.wrap IntKind.u64 (twoV 4 fc (lvlV 1 (ldV M db ds (ofV ab ai aq ad [r0, r1, r2, r3, r4, r5, r6, r7]) 4 (mayV dr dw dx 0)) (getV 1 ar ad r0 r1 r2 r3 r4 r5 r6 r7 x0 x1 x2 x3 x4 x5 x6 x7)) (lvlV 1 (ldV M db ds (ofV bb bi bq bd [r0, r1, r2, r3, r4, r5, r6, r7]) 4 (mayV dr dw dx 0)) (getV 1 br bd r0 r1 r2 r3 r4 r5 r6 r7 x0 x1 x2 x3 x4 x5 x6 x7)) 4) % 4294967296 else bif false && ar == 0 then r0 - r0 % 256 + IntKind.wrap IntKind.u64 (twoV 4 fc (lvlV 1 (ldV M db ds (ofV ab ai aq ad [r0, r1, r2, r3, r4, r5, r6, r7]) 4 (mayV dr dw dx 0)) (getV 1 ar ad r0 r1 r2 r3 r4 r5 r6 r7 x0 x1 x2 x3 x4 x5 x6 x7)) (lvlV 1 (ldV M db ds (ofV bb bi bq bd [r0, r1, r2, r3, r4, r5, r6, r7]) 4 (mayV dr dw dx 0)) (getV 1 br bd r0 r1 r2 r3 r4 r5 r6 r7 x0 x1 x2 x3 x4 x5 x6 x7)) 4) % 256 else bif false && ar == 4 then r0 - r0 / 256 % 256 * 256 + IntKind.wrap IntKind.u64 (twoV 4 fc (lvlV 1 (ldV M db ds (ofV ab ai aq ad [r0, r1, r2, r3, r4, r5, r6, r7]) 4 (mayV dr dw dx 0)) (getV 1 ar ad r0 r1 r2 r3 r4 r5 r6 r7 x0 x1 x2 x3 x4 x5 x6 x7)) (lvlV 1 (ldV M db ds (ofV bb bi bq bd [r0, r1, r2, r3, r4, r5, r6, r7]) 4 (mayV dr dw dx 0)) (getV 1 br bd r0 r1 r2 r3 r4 r5 r6 r7 x0 x1 x2 x3 x4 x5 x6 x7)) 4) % 256 * 256 else r0)), vw ((bif true && ar == 1 then IntKind.wrap IntKind.u64 (twoV 4 fc (lvlV 1 (ldV M db ds (ofV ab ai aq ad [r0, r1, r2, r3, r4, r5, r6, r7]) 4 (mayV dr dw dx 0)) (getV 1 ar ad r0 r1 r2 r3 r4 r5 r6 r7 x0 x1 x2 x3 x4 x5 x6 x7)) (lvlV 1 (ldV M db ds (ofV bb bi bq bd [r0, r1, r2, r3, r4, r5, r6, r7]) 4 (mayV dr dw dx 0)) (getV 1 br bd r0 r1 r2 r3 r4 r5 r6 r7 x0 x1 x2 x3 x4 x5 x6 x7)) 4) % 4294967296 else bif false && ar == 1 then r1 - r1 % 256 + IntKind.wrap IntKind.u64 (twoV 4 fc (lvlV 1 (ldV M db ds (ofV ab ai aq ad [r0, r1, r2, r3, r4, r5, r6, r7]) 4 (mayV dr dw dx 0)) (getV 1 ar ad r0 r1 r2 r3 r4 r5 r6 r7 x0 x1 x2 x3 x4 x5 x6 x7)) (lvlV 1 (ldV M db ds (ofV bb bi bq bd [r0, r1, r2, r3, r4, r5, r6, r7]) 4 (mayV dr dw dx 0)) (getV 1 br bd r0 r1 r2 r3 r4 r5 r6 r7 x0 x1 x2 x3 x4 x5 x6 x7)) 4) % 256 else bif false && ar == 5 then r1 - r1 / 256 % 256 * 256 + IntKind.wrap IntKind.u64 (twoV 4 fc (lvlV 1 (ldV M db ds (ofV ab ai aq ad [r0, r1, r2, r3, r4, r5, r6, r7]) 4 (mayV dr dw dx 0)) (getV 1 ar ad r0 r1 r2 r3 r4 r5 r6 r7 x0 x1 x2 x3 x4 x5 x6 x7)) (lvlV 1 (ldV M db ds (ofV bb bi bq bd [r0, r1, r2, r3, r4, r5, r6, r7]) 4 (mayV dr dw dx 0)) (getV 1 br bd r0 r1 r2 r3 r4 r5 r6 r7 x0 x1 x2 x3 x4 x5 x6 x7)) 4) % 256 * 256 else r1)), vw ((bif true && ar == 2 then IntKind.wrap IntKind.u64 (twoV 4 fc (lvlV 1 (ldV M db ds (ofV ab ai aq ad [r0, r1, r2, r3, r4, r5, r6, r7]) 4 (mayV dr dw dx 0)) (getV 1 ar ad r0 r1 r2 r3 r4 r5 r6 r7 x0 x1 x2 x3 x4 x5 x6 x7)) (lvlV 1 (ldV M db ds (ofV bb bi bq bd [r0, r1, r2, r3, r4, r5, r6, r7]) 4 (mayV dr dw dx 0)) (getV 1 br bd r0 r1 r2 r3 r4 r5 r6 r7 x0 x1 x2 x3 x4 x5 x6 x7)) 4) % 4294967296 else bif false && ar == 2 then r2 - r2 % 256 + IntKind.wrap IntKind.u64 (twoV 4 fc (lvlV 1 (ldV M db ds (ofV ab ai aq ad [r0, r1, r2, r3, r4, r5, r6, r7]) 4 (mayV dr dw dx 0)) (getV 1 ar ad r0 r1 r2 r3 r4 r5 r6 r7 x0 x1 x2 x3 x4 x5 x6 x7)) (lvlV 1 (ldV M db ds (ofV bb bi bq bd [r0, r1, r2, r3, r4, r5, r6, r7]) 4 (mayV dr dw dx 0)) (getV 1 br bd r0 r1 r2 r3 r4 r5 r6 r7 x0 x1 x2 x3 x4 x5 x6 x7)) 4) % 256 else bif false && ar == 6 then r2 - r2 / 256 % 256 * 256 + IntKind.wrap IntKind.u64 (twoV 4 fc (lvlV 1 (ldV M db ds (ofV ab ai aq ad [r0, r1, r2, r3, r4, r5, r6, r7]) 4 (mayV dr dw dx 0)) (getV 1 ar ad r0 r1 r2 r3 r4 r5 r6 r7 x0 x1 x2 x3 x4 x5 x6 x7)) (lvlV 1 (ldV M db ds (ofV bb bi bq bd [r0, r1, r2, r3, r4, r5, r6, r7]) 4 (mayV dr dw dx 0)) (getV 1 br bd r0 r1 r2 r3 r4 r5 r6 r7 x0 x1 x2 x3 x4 x5 x6 x7)) 4) % 256 * 256 else r2)), vw ((bif true && ar == 3 then IntKind.wrap IntKind.u64 (twoV 4 fc (lvlV 1 (ldV M db ds (ofV ab ai aq ad [r0, r1, r2, r3, r4, r5, r6, r7]) 4 (mayV dr dw dx 0)) (getV 1 ar ad r0 r1 r2 r3 r4 r5 r6 r7 x0 x1 x2 x3 x4 x5 x6 x7)) (lvlV 1 (ldV M db ds (ofV bb bi bq bd [r0, r1, r2, r3, r4, r5, r6, r7]) 4 (mayV dr dw dx 0)) (getV 1 br bd r0 r1 r2 r3 r4 r5 r6 r7 x0 x1 x2 x3 x4 x5 x6 x7)) 4) % 4294967296 else bif false && ar == 3 then r3 - r3 % 256 + IntKind.wrap IntKind.u64 (twoV 4 fc (lvlV 1 (ldV M db ds (ofV ab ai aq ad [r0, r1, r2, r3, r4, r5, r6, r7]) 4 (mayV dr dw dx 0)) (getV 1 ar ad r0 r1 r2 r3 r4 r5 r6 r7 x0 x1 x2 x3 x4 x5 x6 x7)) (lvlV 1 (ldV M db ds (ofV bb bi bq bd [r0, r1, r2, r3, r4, r5, r6, r7]) 4 (mayV dr dw dx 0)) (getV 1 br bd r0 r1 r2 r3 r4 r5 r6 r7 x0 x1 x2 x3 x4 x5 x6 x7)) 4) % 256 else bif false && ar == 7 then r3 - r3 / 256 % 256 * 256 + IntKind.wrap IntKind.u64 (twoV 4 fc (lvlV 1 (ldV M db ds (ofV ab ai aq ad [r0, r1, r2, r3, r4, r5, r6, r7]) 4 (mayV dr dw dx 0)) (getV 1 ar ad r0 r1 r2 r3 r4 r5 r6 r7 x0 x1 x2 x3 x4 x5 x6 x7)) (lvlV 1 (ldV M db ds (ofV bb bi bq bd [r0, r1, r2, r3, r4, r5, r6, r7]) 4 (mayV dr dw dx 0)) (getV 1 br bd r0 r1 r2 r3 r4 r5 r6 r7 x0 x1 x2 x3 x4 x5 x6 x7)) 4) % 256 * 256 else r3)), vw ((bif true && ar == 4 then IntKind.wrap IntKind.u64 (twoV 4 fc (lvlV 1 (ldV M db ds (ofV ab ai aq ad [r0, r1, r2, r3, r4, r5, r6, r7]) 4 (mayV dr dw dx 0)) (getV 1 ar ad r0 r1 r2 r3 r4 r5 r6 r7 x0 x1 x2 x3 x4 x5 x6 x7)) (lvlV 1 (ldV M db ds (ofV bb bi bq bd [r0, r1, r2, r3, r4, r5, r6, r7]) 4 (mayV dr dw dx 0)) (getV 1 br bd r0 r1 r2 r3 r4 r5 r6 r7 x0 x1 x2 x3 x4 x5 x6 x7)) 4) % 4294967296 else r4)), vw ((bif true && ar == 5 then IntKind.wrap IntKind.u64 (twoV 4 fc (lvlV 1 (ldV M db ds (ofV ab ai aq ad [r0, r1, r2, r3, r4, r5, r6, r7]) 4 (mayV dr dw dx 0)) (getV 1 ar ad r0 r1 r2 r3 r4 r5 r6 r7 x0 x1 x2 x3 x4 x5 x6 x7)) (lvlV 1 (ldV M db ds (ofV bb bi bq bd [r0, r1, r2, r3, r4, r5, r6, r7]) 4 (mayV dr dw dx 0)) (getV 1 br bd r0 r1 r2 r3 r4 r5 r6 r7 x0 x1 x2 x3 x4 x5 x6 x7)) 4) % 4294967296 else r5)), vw ((bif true && ar == 6 then IntKind.wrap IntKind.u64 (twoV 4 fc (lvlV 1 (ldV M db ds (ofV ab ai aq ad [r0, r1, r2, r3, r4, r5, r6, r7]) 4 (mayV dr dw dx 0)) (getV 1 ar ad r0 r1 r2 r3 r4 r5 r6 r7 x0 x1 x2 x3 x4 x5 x6 x7)) (lvlV 1 (ldV M db ds (ofV bb bi bq bd [r0, r1, r2, r3, r4, r5, r6, r7]) 4 (mayV dr dw dx 0)) (getV 1 br bd r0 r1 r2 r3 r4 r5 r6 r7 x0 x1 x2 x3 x4 x5 x6 x7)) 4) % 4294967296 else r6)), vw ((bif true && ar == 7 then IntKind.wrap IntKind.u64 (twoV 4 fc (lvlV 1 (ldV M db ds (ofV ab ai aq ad [r0, r1, r2, r3, r4, r5, r6, r7]) 4 (mayV dr dw dx 0)) (getV 1 ar ad r0 r1 r2 r3 r4 r5 r6 r7 x0 x1 x2 x3 x4 x5 x6 x7)) (lvlV 1 (ldV M db ds (ofV bb bi bq bd [r0, r1, r2, r3, r4, r5, r6, r7]) 4 (mayV dr dw dx 0)) (getV 1 br bd r0 r1 r2 r3 r4 r5 r6 r7 x0 x1 x2 x3 x4 x5 x6 x7)) 4) % 4294967296 else r7)), vw ip, vb ((twoC 4 fc (lvlV 1 (ldV M db ds (ofV ab ai aq ad [r0, r1, r2, r3, r4, r5, r6, r7]) 4 (mayV dr dw dx 0)) (getV 1 ar ad r0 r1 r2 r3 r4 r5 r6 r7 x0 x1 x2 x3 x4 x5 x6 x7)) (lvlV 1 (ldV M db ds (ofV bb bi bq bd [r0, r1, r2, r3, r4, r5, r6, r7]) 4 (mayV dr dw dx 0)) (getV 1 br bd r0 r1 r2 r3 r4 r5 r6 r7 x0 x1 x2 x3 x4 x5 x6 x7)) 4)), vb ((parV (twoV 4 fc (lvlV 1 (ldV M db ds (ofV ab ai aq ad [r0, r1, r2, r3, r4, r5, r6, r7]) 4 (mayV dr dw dx 0)) (getV 1 ar ad r0 r1 r2 r3 r4 r5 r6 r7 x0 x1 x2 x3 x4 x5 x6 x7)) (lvlV 1 (ldV M db ds (ofV bb bi bq bd [r0, r1, r2, r3, r4, r5, r6, r7]) 4 (mayV dr dw dx 0)) (getV 1 br bd r0 r1 r2 r3 r4 r5 r6 r7 x0 x1 x2 x3 x4 x5 x6 x7)) 4))), vb ((twoV 4 fc (lvlV 1 (ldV M db ds (ofV ab ai aq ad [r0, r1, r2, r3, r4, r5, r6, r7]) 4 (mayV dr dw dx 0)) (getV 1 ar ad r0 r1 r2 r3 r4 r5 r6 r7 x0 x1 x2 x3 x4 x5 x6 x7)) (lvlV 1 (ldV M db ds (ofV bb bi bq bd [r0, r1, r2, r3, r4, r5, r6, r7]) 4 (mayV dr dw dx 0)) (getV 1 br bd r0 r1 r2 r3 r4 r5 r6 r7 x0 x1 x2 x3 x4 x5 x6 x7)) 4 == 0)), vb ((topV (twoV 4 fc (lvlV 1 (ldV M db ds (ofV ab ai aq ad [r0, r1, r2, r3, r4, r5, r6, r7]) 4 (mayV dr dw dx 0)) (getV 1 ar ad r0 r1 r2 r3 r4 r5 r6 r7 x0 x1 x2 x3 x4 x5 x6 x7)) (lvlV 1 (ldV M db ds (ofV bb bi bq bd [r0, r1, r2, r3, r4, r5, r6, r7]) 4 (mayV dr dw dx 0)) (getV 1 br bd r0 r1 r2 r3 r4 r5 r6 r7 x0 x1 x2 x3 x4 x5 x6 x7)) 4) 4)), vb ((twoO 4 fc (lvlV 1 (ldV M db ds (ofV ab ai aq ad [r0, r1, r2, r3, r4, r5, r6, r7]) 4 (mayV dr dw dx 0)) (getV 1 ar ad r0 r1 r2 r3 r4 r5 r6 r7 x0 x1 x2 x3 x4 x5 x6 x7)) (lvlV 1 (ldV M db ds (ofV bb bi bq bd [r0, r1, r2, r3, r4, r5, r6, r7]) 4 (mayV dr dw dx 0)) (getV 1 br bd r0 r1 r2 r3 r4 r5 r6 r7 x0 x1 x2 x3 x4 x5 x6 x7)) 4)), vb fd, vd x0, vd x1, vd x2, vd x3, vd x4, vd x5, vd x6, vd x7], vi 0]), [.cells [.ptr 1 0, .v (.int .u32 cb), .v (.int .u32 cs), .v (.bool cr), .v (.bool cw), .v (.bool cx), .v (.int .u32 db), .v (.int .u32 ds), .v (.bool dr), .v (.bool dw), .v (.bool dx)] T, .ext 0 M]) := by
  rw [al4_form]
  simp only [Bool.and_eq_true] at hg
  simp only [hg, ofV_in, in32_wr, in64_wr, ldW_in64, ldV_in64, getV_in64, twoV_in, lvlV_in, Bool.and_self, Bool.and_true, Bool.true_and, cond_true]
  rfl
-- al4
theorem al6_form (cb cs : Int) (cr cw cx : Bool) (db ds : Int) (dr dw dx : Bool) (T : TypeId) (M : Int → Int) (r0 r1 r2 r3 r4 r5 r6 r7 ip : Int) (fc fp fz fs fo fd : Bool) (x0 x1 x2 x3 x4 x5 x6 x7 : Int) (cond : Int) (ar : Int) (ab : Int) (ai : Int) (aq : Int) (ad : Int) (br : Int) (bb : Int) (bi : Int) (bq : Int) (bd : Int) (c : Int) (rep : Bool) (len : Int) :
    guardE Try.prog ΓMl 400 alA alC Try.f34.results.toList 9 22 2 alCatch ([.ptr 0 0, .agg [.v (.int .u32 r0), .v (.int .u32 r1), .v (.int .u32 r2), .v (.int .u32 r3), .v (.int .u32 r4), .v (.int .u32 r5), .v (.int .u32 r6), .v (.int .u32 r7), .v (.int .u32 ip), .v (.bool fc), .v (.bool fp), .v (.bool fz), .v (.bool fs), .v (.bool fo), .v (.bool fd), .v (.int .u64 x0), .v (.int .u64 x1), .v (.int .u64 x2), .v (.int .u64 x3), .v (.int .u64 x4), .v (.int .u64 x5), .v (.int .u64 x6), .v (.int .u64 x7)], .agg [.v (.int .i64 6), .v (.int .i64 cond), .v (.int .i64 4), .v (.int .i64 1), .v (.int .i64 ar), .v (.int .i64 ab), .v (.int .i64 ai), .v (.int .i64 aq), .v (.int .u32 ad), .v (.int .i64 1), .v (.int .i64 br), .v (.int .i64 bb), .v (.int .i64 bi), .v (.int .i64 bq), .v (.int .u32 bd), .v (.int .u32 c), .v (.bool rep), .v (.int .i64 len)]] ++ List.replicate (Try.f34.ntmps - 3) (.v undef)) [.cells [.ptr 1 0, .v (.int .u32 cb), .v (.int .u32 cs), .v (.bool cr), .v (.bool cw), .v (.bool cx), .v (.int .u32 db), .v (.int .u32 ds), .v (.bool dr), .v (.bool dw), .v (.bool dx)] T, .ext 0 M] =
    (bif
in32 r0 &&
(in32 r1 &&
(in32 r2 && (in32 r3 && (in32 r4 && (in32 r5 && (in32 r6 && (in32 r7 && (in32 ad && (in32 db && in32 ds))))))))) &&
(!7 == 0 && (!7 == 1 && true)) then
bif
in32 r0 &&
(in32 r1 &&
(in32 r2 && (in32 r3 && (in32 r4 && (in32 r5 && (in32 r6 && (in32 r7 && (in32 bd && (in32 db && in32 ds))))))))) &&
(!7 == 0 && (!7 == 1 && true)) then
bif
in32
(lvlV 1 (ldV M db ds (ofV ab ai aq ad [r0, r1, r2, r3, r4, r5, r6, r7]) 4 (mayV dr dw dx 0))
(getV 1 ar ad r0 r1 r2 r3 r4 r5 r6 r7 x0 x1 x2 x3 x4 x5 x6 x7)) &&
in32
(lvlV 1 (ldV M db ds (ofV bb bi bq bd [r0, r1, r2, r3, r4, r5, r6, r7]) 4 (mayV dr dw dx 0))
(getV 1 br bd r0 r1 r2 r3 r4 r5 r6 r7 x0 x1 x2 x3 x4 x5 x6 x7)) &&
(!7 == 0 && (!7 == 1 && true)) then
bif
in32 r0 &&
(in32 r1 &&
(in32 r2 &&
(in32 r3 &&
(in32 r4 &&
(in32 r5 &&
(in32 r6 &&
(in32 r7 &&
(in32 ad &&
(in32 db &&
(in32 ds &&
in64
(IntKind.wrap IntKind.u64
(twoV 6 fc
(lvlV 1 (ldV M db ds (ofV ab ai aq ad [r0, r1, r2, r3, r4, r5, r6, r7]) 4 (mayV dr dw dx 0))
(getV 1 ar ad r0 r1 r2 r3 r4 r5 r6 r7 x0 x1 x2 x3 x4 x5 x6 x7))
(lvlV 1 (ldV M db ds (ofV bb bi bq bd [r0, r1, r2, r3, r4, r5, r6, r7]) 4 (mayV dr dw dx 0))
(getV 1 br bd r0 r1 r2 r3 r4 r5 r6 r7 x0 x1 x2 x3 x4 x5 x6 x7))
4)))))))))))) &&
true then
some
(Sv.tup
[Sv.agg
[Sv.v
(Value.int IntKind.u32
(bif true && ar == 0 then
IntKind.wrap IntKind.u64
(twoV 6 fc
(lvlV 1 (ldV M db ds (ofV ab ai aq ad [r0, r1, r2, r3, r4, r5, r6, r7]) 4 (mayV dr dw dx 0))
(getV 1 ar ad r0 r1 r2 r3 r4 r5 r6 r7 x0 x1 x2 x3 x4 x5 x6 x7))
(lvlV 1 (ldV M db ds (ofV bb bi bq bd [r0, r1, r2, r3, r4, r5, r6, r7]) 4 (mayV dr dw dx 0))
(getV 1 br bd r0 r1 r2 r3 r4 r5 r6 r7 x0 x1 x2 x3 x4 x5 x6 x7))
4) %
4294967296
else
bif false && ar == 0 then
r0 - r0 % 256 +
IntKind.wrap IntKind.u64
(twoV 6 fc
(lvlV 1 (ldV M db ds (ofV ab ai aq ad [r0, r1, r2, r3, r4, r5, r6, r7]) 4 (mayV dr dw dx 0))
(getV 1 ar ad r0 r1 r2 r3 r4 r5 r6 r7 x0 x1 x2 x3 x4 x5 x6 x7))
(lvlV 1 (ldV M db ds (ofV bb bi bq bd [r0, r1, r2, r3, r4, r5, r6, r7]) 4 (mayV dr dw dx 0))
(getV 1 br bd r0 r1 r2 r3 r4 r5 r6 r7 x0 x1 x2 x3 x4 x5 x6 x7))
4) %
256
else
bif false && ar == 4 then
r0 - r0 / 256 % 256 * 256 +
IntKind.wrap IntKind.u64
(twoV 6 fc
(lvlV 1 (ldV M db ds (ofV ab ai aq ad [r0, r1, r2, r3, r4, r5, r6, r7]) 4 (mayV dr dw dx 0))
(getV 1 ar ad r0 r1 r2 r3 r4 r5 r6 r7 x0 x1 x2 x3 x4 x5 x6 x7))
(lvlV 1 (ldV M db ds (ofV bb bi bq bd [r0, r1, r2, r3, r4, r5, r6, r7]) 4 (mayV dr dw dx 0))
(getV 1 br bd r0 r1 r2 r3 r4 r5 r6 r7 x0 x1 x2 x3 x4 x5 x6 x7))
4) %
256 *
256
else r0)),
Sv.v
(Value.int IntKind.u32
(bif true && ar == 1 then
IntKind.wrap IntKind.u64
(twoV 6 fc
(lvlV 1 (ldV M db ds (ofV ab ai aq ad [r0, r1, r2, r3, r4, r5, r6, r7]) 4 (mayV dr dw dx 0))
(getV 1 ar ad r0 r1 r2 r3 r4 r5 r6 r7 x0 x1 x2 x3 x4 x5 x6 x7))
(lvlV 1 (ldV M db ds (ofV bb bi bq bd [r0, r1, r2, r3, r4, r5, r6, r7]) 4 (mayV dr dw dx 0))
(getV 1 br bd r0 r1 r2 r3 r4 r5 r6 r7 x0 x1 x2 x3 x4 x5 x6 x7))
4) %
4294967296
else
bif false && ar == 1 then
r1 - r1 % 256 +
IntKind.wrap IntKind.u64
(twoV 6 fc
(lvlV 1 (ldV M db ds (ofV ab ai aq ad [r0, r1, r2, r3, r4, r5, r6, r7]) 4 (mayV dr dw dx 0))
(getV 1 ar ad r0 r1 r2 r3 r4 r5 r6 r7 x0 x1 x2 x3 x4 x5 x6 x7))
(lvlV 1 (ldV M db ds (ofV bb bi bq bd [r0, r1, r2, r3, r4, r5, r6, r7]) 4 (mayV dr dw dx 0))
(getV 1 br bd r0 r1 r2 r3 r4 r5 r6 r7 x0 x1 x2 x3 x4 x5 x6 x7))
4) %
256
else
bif false && ar == 5 then
r1 - r1 / 256 % 256 * 256 +
IntKind.wrap IntKind.u64
(twoV 6 fc
(lvlV 1 (ldV M db ds (ofV ab ai aq ad [r0, r1, r2, r3, r4, r5, r6, r7]) 4 (mayV dr dw dx 0))
(getV 1 ar ad r0 r1 r2 r3 r4 r5 r6 r7 x0 x1 x2 x3 x4 x5 x6 x7))
(lvlV 1 (ldV M db ds (ofV bb bi bq bd [r0, r1, r2, r3, r4, r5, r6, r7]) 4 (mayV dr dw dx 0))
(getV 1 br bd r0 r1 r2 r3 r4 r5 r6 r7 x0 x1 x2 x3 x4 x5 x6 x7))
4) %
256 *
256
else r1)),
Sv.v
(Value.int IntKind.u32
(bif true && ar == 2 then
IntKind.wrap IntKind.u64
(twoV 6 fc
(lvlV 1 (ldV M db ds (ofV ab ai aq ad [r0, r1, r2, r3, r4, r5, r6, r7]) 4 (mayV dr dw dx 0))
(getV 1 ar ad r0 r1 r2 r3 r4 r5 r6 r7 x0 x1 x2 x3 x4 x5 x6 x7))
(lvlV 1 (ldV M db ds (ofV bb bi bq bd [r0, r1, r2, r3, r4, r5, r6, r7]) 4 (mayV dr dw dx 0))
(getV 1 br bd r0 r1 r2 r3 r4 r5 r6 r7 x0 x1 x2 x3 x4 x5 x6 x7))
4) %
4294967296
else
bif false && ar == 2 then
r2 - r2 % 256 +
IntKind.wrap IntKind.u64
(twoV 6 fc
(lvlV 1 (ldV M db ds (ofV ab ai aq ad [r0, r1, r2, r3, r4, r5, r6, r7]) 4 (mayV dr dw dx 0))
(getV 1 ar ad r0 r1 r2 r3 r4 r5 r6 r7 x0 x1 x2 x3 x4 x5 x6 x7))
(lvlV 1 (ldV M db ds (ofV bb bi bq bd [r0, r1, r2, r3, r4, r5, r6, r7]) 4 (mayV dr dw dx 0))
(getV 1 br bd r0 r1 r2 r3 r4 r5 r6 r7 x0 x1 x2 x3 x4 x5 x6 x7))
4) %
256
else
bif false && ar == 6 then
r2 - r2 / 256 % 256 * 256 +
IntKind.wrap IntKind.u64
(twoV 6 fc
(lvlV 1 (ldV M db ds (ofV ab ai aq ad [r0, r1, r2, r3, r4, r5, r6, r7]) 4 (mayV dr dw dx 0))
(getV 1 ar ad r0 r1 r2 r3 r4 r5 r6 r7 x0 x1 x2 x3 x4 x5 x6 x7))
(lvlV 1 (ldV M db ds (ofV bb bi bq bd [r0, r1, r2, r3, r4, r5, r6, r7]) 4 (mayV dr dw dx 0))
(getV 1 br bd r0 r1 r2 r3 r4 r5 r6 r7 x0 x1 x2 x3 x4 x5 x6 x7))
4) %
256 *
256
else r2)),
Sv.v
(Value.int IntKind.u32
(bif true && ar == 3 then
IntKind.wrap IntKind.u64
(twoV 6 fc
(lvlV 1 (ldV M db ds (ofV ab ai aq ad [r0, r1, r2, r3, r4, r5, r6, r7]) 4 (mayV dr dw dx 0))
(getV 1 ar ad r0 r1 r2 r3 r4 r5 r6 r7 x0 x1 x2 x3 x4 x5 x6 x7))
(lvlV 1 (ldV M db ds (ofV bb bi bq bd [r0, r1, r2, r3, r4, r5, r6, r7]) 4 (mayV dr dw dx 0))
(getV 1 br bd r0 r1 r2 r3 r4 r5 r6 r7 x0 x1 x2 x3 x4 x5 x6 x7))
4) %
4294967296
else
bif false && ar == 3 then
r3 - r3 % 256 +
IntKind.wrap IntKind.u64
(twoV 6 fc
(lvlV 1 (ldV M db ds (ofV ab ai aq ad [r0, r1, r2, r3, r4, r5, r6, r7]) 4 (mayV dr dw dx 0))
(getV 1 ar ad r0 r1 r2 r3 r4 r5 r6 r7 x0 x1 x2 x3 x4 x5 x6 x7))
(lvlV 1 (ldV M db ds (ofV bb bi bq bd [r0, r1, r2, r3, r4, r5, r6, r7]) 4 (mayV dr dw dx 0))
(getV 1 br bd r0 r1 r2 r3 r4 r5 r6 r7 x0 x1 x2 x3 x4 x5 x6 x7))
4) %
256
else
bif false && ar == 7 then
r3 - r3 / 256 % 256 * 256 +
IntKind.wrap IntKind.u64
(twoV 6 fc
(lvlV 1 (ldV M db ds (ofV ab ai aq ad [r0, r1, r2, r3, r4, r5, r6, r7]) 4 (mayV dr dw dx 0))
(getV 1 ar ad r0 r1 r2 r3 r4 r5 r6 r7 x0 x1 x2 x3 x4 x5 x6 x7))
(lvlV 1 (ldV M db ds (ofV bb bi bq bd [r0, r1, r2, r3, r4, r5, r6, r7]) 4 (mayV dr dw dx 0))
(getV 1 br bd r0 r1 r2 r3 r4 r5 r6 r7 x0 x1 x2 x3 x4 x5 x6 x7))
4) %
256 *
256
else r3)),
Sv.v
(Value.int IntKind.u32
(bif true && ar == 4 then
IntKind.wrap IntKind.u64
(twoV 6 fc
(lvlV 1 (ldV M db ds (ofV ab ai aq ad [r0, r1, r2, r3, r4, r5, r6, r7]) 4 (mayV dr dw dx 0))
(getV 1 ar ad r0 r1 r2 r3 r4 r5 r6 r7 x0 x1 x2 x3 x4 x5 x6 x7))
(lvlV 1 (ldV M db ds (ofV bb bi bq bd [r0, r1, r2, r3, r4, r5, r6, r7]) 4 (mayV dr dw dx 0))
(getV 1 br bd r0 r1 r2 r3 r4 r5 r6 r7 x0 x1 x2 x3 x4 x5 x6 x7))
4) %
4294967296
else r4)),
Sv.v
(Value.int IntKind.u32
(bif true && ar == 5 then
IntKind.wrap IntKind.u64
(twoV 6 fc
(lvlV 1 (ldV M db ds (ofV ab ai aq ad [r0, r1, r2, r3, r4, r5, r6, r7]) 4 (mayV dr dw dx 0))
(getV 1 ar ad r0 r1 r2 r3 r4 r5 r6 r7 x0 x1 x2 x3 x4 x5 x6 x7))
(lvlV 1 (ldV M db ds (ofV bb bi bq bd [r0, r1, r2, r3, r4, r5, r6, r7]) 4 (mayV dr dw dx 0))
(getV 1 br bd r0 r1 r2 r3 r4 r5 r6 r7 x0 x1 x2 x3 x4 x5 x6 x7))
4) %
4294967296
else r5)),
Sv.v
(Value.int IntKind.u32
(bif true && ar == 6 then
IntKind.wrap IntKind.u64
(twoV 6 fc
(lvlV 1 (ldV M db ds (ofV ab ai aq ad [r0, r1, r2, r3, r4, r5, r6, r7]) 4 (mayV dr dw dx 0))
(getV 1 ar ad r0 r1 r2 r3 r4 r5 r6 r7 x0 x1 x2 x3 x4 x5 x6 x7))
(lvlV 1 (ldV M db ds (ofV bb bi bq bd [r0, r1, r2, r3, r4, r5, r6, r7]) 4 (mayV dr dw dx 0))
(getV 1 br bd r0 r1 r2 r3 r4 r5 r6 r7 x0 x1 x2 x3 x4 x5 x6 x7))
4) %
4294967296
else r6)),
Sv.v
(Value.int IntKind.u32
(bif true && ar == 7 then
IntKind.wrap IntKind.u64
(twoV 6 fc
(lvlV 1 (ldV M db ds (ofV ab ai aq ad [r0, r1, r2, r3, r4, r5, r6, r7]) 4 (mayV dr dw dx 0))
(getV 1 ar ad r0 r1 r2 r3 r4 r5 r6 r7 x0 x1 x2 x3 x4 x5 x6 x7))
(lvlV 1 (ldV M db ds (ofV bb bi bq bd [r0, r1, r2, r3, r4, r5, r6, r7]) 4 (mayV dr dw dx 0))
(getV 1 br bd r0 r1 r2 r3 r4 r5 r6 r7 x0 x1 x2 x3 x4 x5 x6 x7))
4) %
4294967296
else r7)),
vw ip,
Sv.v
(Value.bool
(twoC 6 fc
(lvlV 1 (ldV M db ds (ofV ab ai aq ad [r0, r1, r2, r3, r4, r5, r6, r7]) 4 (mayV dr dw dx 0))
(getV 1 ar ad r0 r1 r2 r3 r4 r5 r6 r7 x0 x1 x2 x3 x4 x5 x6 x7))
(lvlV 1 (ldV M db ds (ofV bb bi bq bd [r0, r1, r2, r3, r4, r5, r6, r7]) 4 (mayV dr dw dx 0))
(getV 1 br bd r0 r1 r2 r3 r4 r5 r6 r7 x0 x1 x2 x3 x4 x5 x6 x7))
4)),
Sv.v
(Value.bool
(parV
(twoV 6 fc
(lvlV 1 (ldV M db ds (ofV ab ai aq ad [r0, r1, r2, r3, r4, r5, r6, r7]) 4 (mayV dr dw dx 0))
(getV 1 ar ad r0 r1 r2 r3 r4 r5 r6 r7 x0 x1 x2 x3 x4 x5 x6 x7))
(lvlV 1 (ldV M db ds (ofV bb bi bq bd [r0, r1, r2, r3, r4, r5, r6, r7]) 4 (mayV dr dw dx 0))
(getV 1 br bd r0 r1 r2 r3 r4 r5 r6 r7 x0 x1 x2 x3 x4 x5 x6 x7))
4))),
Sv.v
(Value.bool
(twoV 6 fc
(lvlV 1 (ldV M db ds (ofV ab ai aq ad [r0, r1, r2, r3, r4, r5, r6, r7]) 4 (mayV dr dw dx 0))
(getV 1 ar ad r0 r1 r2 r3 r4 r5 r6 r7 x0 x1 x2 x3 x4 x5 x6 x7))
(lvlV 1 (ldV M db ds (ofV bb bi bq bd [r0, r1, r2, r3, r4, r5, r6, r7]) 4 (mayV dr dw dx 0))
(getV 1 br bd r0 r1 r2 r3 r4 r5 r6 r7 x0 x1 x2 x3 x4 x5 x6 x7))
4 ==
0)),
Sv.v
(Value.bool
(topV
(twoV 6 fc
(lvlV 1 (ldV M db ds (ofV ab ai aq ad [r0, r1, r2, r3, r4, r5, r6, r7]) 4 (mayV dr dw dx 0))
(getV 1 ar ad r0 r1 r2 r3 r4 r5 r6 r7 x0 x1 x2 x3 x4 x5 x6 x7))
(lvlV 1 (ldV M db ds (ofV bb bi bq bd [r0, r1, r2, r3, r4, r5, r6, r7]) 4 (mayV dr dw dx 0))
(getV 1 br bd r0 r1 r2 r3 r4 r5 r6 r7 x0 x1 x2 x3 x4 x5 x6 x7))
4)
4)),
Sv.v
(Value.bool
(twoO 6 fc
(lvlV 1 (ldV M db ds (ofV ab ai aq ad [r0, r1, r2, r3, r4, r5, r6, r7]) 4 (mayV dr dw dx 0))
(getV 1 ar ad r0 r1 r2 r3 r4 r5 r6 r7 x0 x1 x2 x3 x4 x5 x6 x7))
(lvlV 1 (ldV M db ds (ofV bb bi bq bd [r0, r1, r2, r3, r4, r5, r6, r7]) 4 (mayV dr dw dx 0))
(getV 1 br bd r0 r1 r2 r3 r4 r5 r6 r7 x0 x1 x2 x3 x4 x5 x6 x7))
4)),
vb fd, vd x0, vd x1, vd x2,
vd x3, vd x4, vd x5,
vd x6, vd x7],
vi 0],
[SObj.cells
[Sv.ptr 1 0, vw cb, vw cs, vb cr,
vb cw, vb cx, vw db, vw ds,
vb dr, vb dw, vb dx]
T,
SObj.ext 0 M])
else none
else none
else none
else none) := by kernel_rfl
set_option maxHeartbeats 4000000 in
theorem al6_ev (cb cs : Int) (cr cw cx : Bool) (db ds : Int) (dr dw dx : Bool) (T : TypeId) (M : Int → Int) (r0 r1 r2 r3 r4 r5 r6 r7 ip : Int) (fc fp fz fs fo fd : Bool) (x0 x1 x2 x3 x4 x5 x6 x7 : Int) (cond : Int) (ar : Int) (ab : Int) (ai : Int) (aq : Int) (ad : Int) (br : Int) (bb : Int) (bi : Int) (bq : Int) (bd : Int) (c : Int) (rep : Bool) (len : Int) (hg : (in32 r0 && (in32 r1 && (in32 r2 && (in32 r3 && (in32 r4 && (in32 r5 && (in32 r6 && (in32 r7 && (in32 db && (in32 ds && (in32 ad && (in32 bd && (in64 x0 && (in64 x1 && (in64 x2 && (in64 x3 && (in64 x4 && (in64 x5 && (in64 x6 && (in64 x7)))))))))))))))))))) = true) : guardE Try.prog ΓMl 400 alA alC Try.f34.results.toList 9 22 2 alCatch ([.ptr 0 0, .agg [.v (.int .u32 r0), .v (.int .u32 r1), .v (.int .u32 r2), .v (.int .u32 r3), .v (.int .u32 r4), .v (.int .u32 r5), .v (.int .u32 r6), .v (.int .u32 r7), .v (.int .u32 ip), .v (.bool fc), .v (.bool fp), .v (.bool fz), .v (.bool fs), .v (.bool fo), .v (.bool fd), .v (.int .u64 x0), .v (.int .u64 x1), .v (.int .u64 x2), .v (.int .u64 x3), .v (.int .u64 x4), .v (.int .u64 x5), .v (.int .u64 x6), .v (.int .u64 x7)], .agg [.v (.int .i64 6), .v (.int .i64 cond), .v (.int .i64 4), .v (.int .i64 1), .v (.int .i64 ar), .v (.int .i64 ab), .v (.int .i64 ai), .v (.int .i64 aq), .v (.int .u32 ad), .v (.int .i64 1), .v (.int .i64 br), .v (.int .i64 bb), .v (.int .i64 bi), .v (.int .i64 bq), .v (.int .u32 bd), .v (.int .u32 c), .v (.bool rep), .v (.int .i64 len)]] ++ List.replicate (Try.f34.ntmps - 3) (.v undef)) [.cells [.ptr 1 0, .v (.int .u32 cb), .v (.int .u32 cs), .v (.bool cr), .v (.bool cw), .v (.bool cx), .v (.int .u32 db), .v (.int .u32 ds), .v (.bool dr), .v (.bool dw), .v (.bool dx)] T, .ext 0 M] = some ((Sv.tup [Sv.agg [vw ((bif true && ar == 0 then IntKind.wrap IntKind.u64 (twoV 6 fc (lvlV 1 (ldV M db ds (ofV ab ai aq ad [r0, r1, r2, r3, r4, r5, r6, r7]) 4 (mayV dr dw dx 0)) (getV 1 ar ad r0 r1 r2 r3 r4 r5 r6 r7 x0 x1 x2 x3 x4 x5 x6 x7)) (lvlV 1 (ldV M db ds (ofV bb bi bq bd [r0, r1, r2, r3, r4, r5, r6, r7]) 4 (mayV dr dw dx 0)) (getV 1 br bd r0 r1 r2 r3 r4 r5 r6 r7 x0 x1 x2 x3 x4 x5 x6 x7)) 4) % 4294967296 else bif false && ar == 0 then r0 - r0 % 256 + IntKind.wrap IntKind.u64 (twoV 6 fc (lvlV 1 (ldV M db ds (ofV ab ai aq ad [r0, r1, r2, r3, r4, r5, r6, r7]) 4 (mayV dr dw dx 0)) (getV 1 ar ad r0 r1 r2 r3 r4 r5 r6 r7 x0 x1 x2 x3 x4 x5 x6 x7)) (lvlV 1 (ldV M db ds (ofV bb bi bq bd [r0, r1, r2, r3, r4, r5, r6, r7]) 4 (mayV dr dw dx 0)) (getV 1 br bd r0 r1 r2 r3 r4 r5 r6 r7 x0 x1 x2 x3 x4 x5 x6 x7)) 4) % 256 else bif false && ar == 4 then r0 - r0 / 256 % 256 * 256 + IntKind.wrap IntKind.u64 (twoV 6 fc (lvlV 1 (ldV M db ds (ofV ab ai aq ad [r0, r1, r2, r3, r4, r5, r6, r7]) 4 (mayV dr dw dx 0)) (getV 1 ar ad r0 r1 r2 r3 r4 r5 r6 r7 x0 x1 x2 x3 x4 x5 x6 x7)) (lvlV 1 (ldV M db ds (ofV bb bi bq bd [r0, r1, r2, r3, r4, r5, r6, r7]) 4 (mayV dr dw dx 0)) (getV 1 br bd r0 r1 r2 r3 r4 r5 r6 r7 x0 x1 x2 x3 x4 x5 x6 x7)) 4) % 256 * 256 else r0)), vw ((bif true && ar == 1 then IntKind.wrap IntKind.u64 (twoV 6 fc (lvlV 1 (ldV M db ds (ofV ab ai aq ad [r0, r1, r2, r3, r4, r5, r6, r7]) 4 (mayV dr dw dx 0)) (getV 1 ar ad r0 r1 r2 r3 r4 r5 r6 r7 x0 x1 x2 x3 x4 x5 x6 x7)) (lvlV 1 (ldV M db ds (ofV bb bi bq bd [r0, r1, r2, r3, r4, r5, r6, r7]) 4 (mayV dr dw dx 0)) (getV 1 br bd r0 r1 r2 r3 r4 r5 r6 r7 x0 x1 x2 x3 x4 x5 x6 x7)) 4) % 4294967296 else bif false && ar == 1 then r1 - r1 % 256 + IntKind.wrap IntKind.u64 (twoV 6 fc (lvlV 1 (ldV M db ds (ofV ab ai aq ad [r0, r1, r2, r3, r4, r5, r6, r7]) 4 (mayV dr dw dx 0)) (getV 1 ar ad r0 r1 r2 r3 r4 r5 r6 r7 x0 x1 x2 x3 x4 x5 x6 x7)) (lvlV 1 (ldV M db ds (ofV bb bi bq bd [r0, r1, r2, r3, r4, r5, r6, r7]) 4 (mayV dr dw dx 0)) (getV 1 br bd r0 r1 r2 r3 r4 r5 r6 r7 x0 x1 x2 x3 x4 x5 x6 x7)) 4) % 256 else bif false && ar == 5 then r1 - r1 / 256 % 256 * 256 + IntKind.wrap IntKind.u64 (twoV 6 fc (lvlV 1 (ldV M db ds (ofV ab ai aq ad [r0, r1, r2, r3, r4, r5, r6, r7]) 4 (mayV dr dw dx 0)) (getV 1 ar ad r0 r1 r2 r3 r4 r5 r6 r7 x0 x1 x2 x3 x4 x5 x6 x7)) (lvlV 1 (ldV M db ds (ofV bb bi bq bd [r0, r1, r2, r3, r4, r5, r6, r7]) 4 (mayV dr dw dx 0)) (getV 1 br bd r0 r1 r2 r3 r4 r5 r6 r7 x0 x1 x2 x3 x4 x5 x6 x7)) 4) % 256 * 256 else r1)), vw ((bif true && ar == 2 then IntKind.wrap IntKind.u64 (twoV 6 fc (lvlV 1 (ldV M db ds (ofV ab ai aq ad [r0, r1, r2, r3, r4, r5, r6, r7]) 4 (mayV dr dw dx 0)) (getV 1 ar ad r0 r1 r2 r3 r4 r5 r6 r7 x0 x1 x2 x3 x4 x5 x6 x7)) (lvlV 1 (ldV M db ds (ofV bb bi bq bd [r0, r1, r2, r3, r4, r5, r6, r7]) 4 (mayV dr dw dx 0)) (getV 1 br bd r0 r1 r2 r3 r4 r5 r6 r7 x0 x1 x2 x3 x4 x5 x6 x7)) 4) % 4294967296 else bif false && ar == 2 then r2 - r2 % 256 + IntKind.wrap IntKind.u64 (twoV 6 fc (lvlV 1 (ldV M db ds (ofV ab ai aq ad [r0, r1, r2, r3, r4, r5, r6, r7]) 4 (mayV dr dw dx 0)) (getV 1 ar ad r0 r1 r2 r3 r4 r5 r6 r7 x0 x1 x2 x3 x4 x5 x6 x7)) (lvlV 1 (ldV M db ds (ofV bb bi bq bd [r0, r1, r2, r3, r4, r5, r6, r7]) 4 (mayV dr dw dx 0)) (getV 1 br bd r0 r1 r2 r3 r4 r5 r6 r7 x0 x1 x2 x3 x4 x5 x6 x7)) 4) % 256 else bif false && ar == 6 then r2 - r2 / 256 % 256 * 256 + IntKind.wrap IntKind.u64 (twoV 6 fc (lvlV 1 (ldV M db ds (ofV ab ai aq ad [r0, r1, r2, r3, r4, r5, r6, r7]) 4 (mayV dr dw dx 0)) (getV 1 ar ad r0 r1 r2 r3 r4 r5 r6 r7 x0 x1 x2 x3 x4 x5 x6 x7)) (lvlV 1 (ldV M db ds (ofV bb bi bq bd [r0, r1, r2, r3, r4, r5, r6, r7]) 4 (mayV dr dw dx 0)) (getV 1 br bd r0 r1 r2 r3 r4 r5 r6 r7 x0 x1 x2 x3 x4 x5 x6 x7)) 4) % 256 * 256 else r2)), vw ((bif true && ar == 3 then IntKind.wrap IntKind.u64 (twoV 6 fc (lvlV 1 (ldV M db ds (ofV ab ai aq ad [r0, r1, r2, r3, r4, r5, r6, r7]) 4 (mayV dr dw dx 0)) (getV 1 ar ad r0 r1 r2 r3 r4 r5 r6 r7 x0 x1 x2 x3 x4 x5 x6 x7)) (lvlV 1 (ldV M db ds (ofV bb bi bq bd [r0, r1, r2, r3, r4, r5, r6, r7]) 4 (mayV dr dw dx 0)) (getV 1 br bd r0 r1 r2 r3 r4 r5 r6 r7 x0 x1 x2 x3 x4 x5 x6 x7)) 4) % 4294967296 else bif false && ar == 3 then r3 - r3 % 256 + IntKind.wrap IntKind.u64 (twoV 6 fc (lvlV 1 (ldV M db ds (ofV ab ai aq ad [r0, r1, r2, r3, r4, r5, r6, r7]) 4 (mayV dr dw dx 0)) (getV 1 ar ad r0 r1 r2 r3 r4 r5 r6 r7 x0 x1 x2 x3 x4 x5 x6 x7)) (lvlV 1 (ldV M db ds (ofV bb bi bq bd [r0, r1, r2, r3, r4, r5, r6, r7]) 4 (mayV dr dw dx 0)) (getV 1 br bd r0 r1 r2 r3 r4 r5 r6 r7 x0 x1 x2 x3 x4 x5 x6 x7)) 4) % 256 else bif false && ar == 7 then r3 - r3 / 256 % 256 * 256 + IntKind.wrap IntKind.u64 (twoV 6 fc (lvlV 1 (ldV M db ds (ofV ab ai aq ad [r0, r1, r2, r3, r4, r5, r6, r7]) 4 (mayV dr dw dx 0)) (getV 1 ar ad r0 r1 r2 r3 r4 r5 r6 r7 x0 x1 x2 x3 x4 x5 x6 x7)) (lvlV 1 (ldV M db ds (ofV bb bi bq bd [r0, r1, r2, r3, r4, r5, r6, r7]) 4 (mayV dr dw dx 0)) (getV 1 br bd r0 r1 r2 r3 r4 r5 r6 r7 x0 x1 x2 x3 x4 x5 x6 x7)) 4) % 256 * 256 else r3)), vw ((bif true && ar == 4 then IntKind.wrap IntKind.u64 (twoV 6 fc (lvlV 1 (ldV M db ds (ofV ab ai aq ad [r0, r1, r2, r3, r4, r5, r6, r7]) 4 (mayV dr dw dx 0)) (getV 1 ar ad r0 r1 r2 r3 r4 r5 r6 r7 x0 x1 x2 x3 x4 x5 x6 x7)) (lvlV 1 (ldV M db ds (ofV bb bi bq bd [r0, r1, r2, r3, r4, r5, r6, r7]) 4 (mayV dr dw dx 0)) (getV 1 br bd r0 r1 r2 r3 r4 r5 r6 r7 x0 x1 x2 x3 x4 x5 x6 x7)) 4) % 4294967296 else r4)), vw ((bif true && ar == 5 then IntKind.wrap IntKind.u64 (twoV 6 fc (lvlV 1 (ldV M db ds (ofV ab ai aq ad [r0, r1, r2, r3, r4, r5, r6, r7]) 4 (mayV dr dw dx 0)) (getV 1 ar ad r0 r1 r2 r3 r4 r5 r6 r7 x0 x1 x2 x3 x4 x5 x6 x7)) (lvlV 1 (ldV M db ds (ofV bb bi bq bd [r0, r1, r2, r3, r4, r5, r6, r7]) 4 (mayV dr dw dx 0)) (getV 1 br bd r0 r1 r2 r3 r4 r5 r6 r7 x0 x1 x2 x3 x4 x5 x6 x7)) 4) % 4294967296 else r5)), vw ((bif true && ar == 6 then IntKind.wrap IntKind.u64 (twoV 6 fc (lvlV 1 (ldV M db ds (ofV ab ai aq ad [r0, r1, r2, r3, r4, r5, r6, r7]) 4 (mayV dr dw dx 0)) (getV 1 ar ad r0 r1 r2 r3 r4 r5 r6 r7 x0 x1 x2 x3 x4 x5 x6 x7)) (lvlV 1 (ldV M db ds (ofV bb bi bq bd [r0, r1, r2, r3, r4, r5, r6, r7]) 4 (mayV dr dw dx 0)) (getV 1 br bd r0 r1 r2 r3 r4 r5 r6 r7 x0 x1 x2 x3 x4 x5 x6 x7)) 4) % 4294967296 else r6)), vw ((bif true && ar == 7 then IntKind.wrap IntKind.u64 (twoV 6 fc (lvlV 1 (ldV M db ds (ofV ab ai aq ad [r0, r1, r2, r3, r4, r5, r6, r7]) 4 (mayV dr dw dx 0)) (getV 1 ar ad r0 r1 r2 r3 r4 r5 r6 r7 x0 x1 x2 x3 x4 x5 x6 x7)) (lvlV 1 (ldV M db ds (ofV bb bi bq bd [r0, r1, r2, r3, r4, r5, r6, r7]) 4 (mayV dr dw dx 0)) (getV 1 br bd r0 r1 r2 r3 r4 r5 r6 r7 x0 x1 x2 x3 x4 x5 x6 x7)) 4) % 4294967296 else r7)), vw ip, vb ((twoC 6 fc (lvlV 1 (ldV M db ds (ofV ab ai aq ad [r0, r1, r2, r3, r4, r5, r6, r7]) 4 (mayV dr dw dx 0)) (getV 1 ar ad r0 r1 r2 r3 r4 r5 r6 r7 x0 x1 x2 x3 x4 x5 x6 x7)) (lvlV 1 (ldV M db ds (ofV bb bi bq bd [r0, r1, r2, r3, r4, r5, r6, r7]) 4 (mayV dr dw dx 0)) (getV 1 br bd r0 r1 r2 r3 r4 r5 r6 r7 x0 x1 x2 x3 x4 x5 x6 x7)) 4)), vb ((parV (twoV 6 fc (lvlV 1 (ldV M db ds (ofV ab ai aq ad [r0, r1, r2, r3, r4, r5, r6, r7]) 4 (mayV dr dw dx 0)) (getV 1 ar ad r0 r1 r2 r3 r4 r5 r6 r7 x0 x1 x2 x3 x4 x5 x6 x7)) (lvlV 1 (ldV M db ds (ofV bb bi bq bd [r0, r1, r2, r3, r4, r5, r6, r7]) 4 (mayV dr dw dx 0)) (getV 1 br bd r0 r1 r2 r3 r4 r5 r6 r7 x0 x1 x2 x3 x4 x5 x6 x7)) 4))), vb ((twoV 6 fc (lvlV 1 (ldV M db ds (ofV ab ai aq ad [r0, r1, r2, r3, r4, r5, r6, r7]) 4 (mayV dr dw dx 0)) (getV 1 ar ad r0 r1 r2 r3 r4 r5 r6 r7 x0 x1 x2 x3 x4 x5 x6 x7)) (lvlV 1 (ldV M db ds (ofV bb bi bq bd [r0, r1, r2, r3, r4, r5, r6, r7]) 4 (mayV dr dw dx 0)) (getV 1 br bd r0 r1 r2 r3 r4 r5 r6 r7 x0 x1 x2 x3 x4 x5 x6 x7)) 4 == 0)), vb ((topV (twoV 6 fc (lvlV 1 (ldV M db ds (ofV ab ai aq ad [r0, r1, r2, r3, r4, r5, r6, r7]) 4 (mayV dr dw dx 0)) (getV 1 ar ad r0 r1 r2 r3 r4 r5 r6 r7 x0 x1 x2 x3 x4 x5 x6 x7)) (lvlV 1 (ldV M db ds (ofV bb bi bq bd [r0, r1, r2, r3, r4, r5, r6, r7]) 4 (mayV dr dw dx 0)) (getV 1 br bd r0 r1 r2 r3 r4 r5 r6 r7 x0 x1 x2 x3 x4 x5 x6 x7)) 4) 4)), vb ((twoO 6 fc (lvlV 1 (ldV M db ds (ofV ab ai aq ad [r0, r1, r2, r3, r4, r5, r6, r7]) 4 (mayV dr dw dx 0)) (getV 1 ar ad r0 r1 r2 r3 r4 r5 r6 r7 x0 x1 x2 x3 x4 x5 x6 x7)) (lvlV 1 (ldV M db ds (ofV bb bi bq bd [r0, r1, r2, r3, r4, r5, r6, r7]) 4 (mayV dr dw dx 0)) (getV 1 br bd r0 r1 r2 r3 r4 r5 r6 r7 x0 x1 x2 x3 x4 x5 x6 x7)) 4)), vb fd, vd x0, vd x1, vd x2, vd x3, vd x4, vd x5, vd x6, vd x7], vi 0]), [.cells [.ptr 1 0, .v (.int .u32 cb), .v (.int .u32 cs), .v (.bool cr), .v (.bool cw), .v (.bool cx), .v (.int .u32 db), .v (.int .u32 ds), .v (.bool dr), .v (.bool dw), .v (.bool dx)] T, .ext 0 M]) := by
  rw [al6_form]
  simp only [Bool.and_eq_true] at hg
  simp only [hg, ofV_in, in32_wr, in64_wr, ldW_in64, ldV_in64, getV_in64, twoV_in, lvlV_in, Bool.and_self, Bool.and_true, Bool.true_and, cond_true]
  rfl
-- al6
noncomputable def alqB (R : Type) (m : List SObj) (k : Sv → List SObj → Option R) (b : Nat) (g : Nat) (cb : Int) (cs : Int) (cr : Bool) (cw : Bool) (cx : Bool) (db : Int) (ds : Int) (dr : Bool) (dw : Bool) (dx : Bool) (T : TypeId) (M : Int → Int) (r0 : Int) (r1 : Int) (r2 : Int) (r3 : Int) (r4 : Int) (r5 : Int) (r6 : Int) (r7 : Int) (ip : Int) (fc : Bool) (fp : Bool) (fz : Bool) (fs : Bool) (fo : Bool) (fd : Bool) (x0 : Int) (x1 : Int) (x2 : Int) (x3 : Int) (x4 : Int) (x5 : Int) (x6 : Int) (x7 : Int) (op : Int) (cond : Int) (size : Int) (ak : Int) (ar : Int) (ab : Int) (ai : Int) (aq : Int) (ad : Int) (bk : Int) (br : Int) (bb : Int) (bi : Int) (bq : Int) (bd : Int) (c : Int) (rep : Bool) (len : Int) : Option R :=
  bif (in32 r0 && (in32 r1 && (in32 r2 && (in32 r3 && (in32 r4 && (in32 r5 && (in32 r6 && (in32 r7 && (in32 db && (in32 ds && (in32 ad && (in32 bd && (in64 x0 && (in64 x1 && (in64 x2 && (in64 x3 && (in64 x4 && (in64 x5 && (in64 x6 && (in64 x7)))))))))))))))))))) && !(b == g) then (bif (op == 1) && ((size == 4) && ((ak == 1) && ((bk == 1)))) then k ((Sv.tup [Sv.agg [vw ((bif true && ar == 0 then IntKind.wrap IntKind.u64 (twoV 1 fc (lvlV 1 (ldV M db ds (ofV ab ai aq ad [r0, r1, r2, r3, r4, r5, r6, r7]) 4 (mayV dr dw dx 0)) (getV 1 ar ad r0 r1 r2 r3 r4 r5 r6 r7 x0 x1 x2 x3 x4 x5 x6 x7)) (lvlV 1 (ldV M db ds (ofV bb bi bq bd [r0, r1, r2, r3, r4, r5, r6, r7]) 4 (mayV dr dw dx 0)) (getV 1 br bd r0 r1 r2 r3 r4 r5 r6 r7 x0 x1 x2 x3 x4 x5 x6 x7)) 4) % 4294967296 else bif false && ar == 0 then r0 - r0 % 256 + IntKind.wrap IntKind.u64 (twoV 1 fc (lvlV 1 (ldV M db ds (ofV ab ai aq ad [r0, r1, r2, r3, r4, r5, r6, r7]) 4 (mayV dr dw dx 0)) (getV 1 ar ad r0 r1 r2 r3 r4 r5 r6 r7 x0 x1 x2 x3 x4 x5 x6 x7)) (lvlV 1 (ldV M db ds (ofV bb bi bq bd [r0, r1, r2, r3, r4, r5, r6, r7]) 4 (mayV dr dw dx 0)) (getV 1 br bd r0 r1 r2 r3 r4 r5 r6 r7 x0 x1 x2 x3 x4 x5 x6 x7)) 4) % 256 else bif false && ar == 4 then r0 - r0 / 256 % 256 * 256 + IntKind.wrap IntKind.u64 (twoV 1 fc (lvlV 1 (ldV M db ds (ofV ab ai aq ad [r0, r1, r2, r3, r4, r5, r6, r7]) 4 (mayV dr dw dx 0)) (getV 1 ar ad r0 r1 r2 r3 r4 r5 r6 r7 x0 x1 x2 x3 x4 x5 x6 x7)) (lvlV 1 (ldV M db ds (ofV bb bi bq bd [r0, r1, r2, r3, r4, r5, r6, r7]) 4 (mayV dr dw dx 0)) (getV 1 br bd r0 r1 r2 r3 r4 r5 r6 r7 x0 x1 x2 x3 x4 x5 x6 x7)) 4) % 256 * 256 else r0)), vw ((bif true && ar == 1 then IntKind.wrap IntKind.u64 (twoV 1 fc (lvlV 1 (ldV M db ds (ofV ab ai aq ad [r0, r1, r2, r3, r4, r5, r6, r7]) 4 (mayV dr dw dx 0)) (getV 1 ar ad r0 r1 r2 r3 r4 r5 r6 r7 x0 x1 x2 x3 x4 x5 x6 x7)) (lvlV 1 (ldV M db ds (ofV bb bi bq bd [r0, r1, r2, r3, r4, r5, r6, r7]) 4 (mayV dr dw dx 0)) (getV 1 br bd r0 r1 r2 r3 r4 r5 r6 r7 x0 x1 x2 x3 x4 x5 x6 x7)) 4) % 4294967296 else bif false && ar == 1 then r1 - r1 % 256 + IntKind.wrap IntKind.u64 (twoV 1 fc (lvlV 1 (ldV M db ds (ofV ab ai aq ad [r0, r1, r2, r3, r4, r5, r6, r7]) 4 (mayV dr dw dx 0)) (getV 1 ar ad r0 r1 r2 r3 r4 r5 r6 r7 x0 x1 x2 x3 x4 x5 x6 x7)) (lvlV 1 (ldV M db ds (ofV bb bi bq bd [r0, r1, r2, r3, r4, r5, r6, r7]) 4 (mayV dr dw dx 0)) (getV 1 br bd r0 r1 r2 r3 r4 r5 r6 r7 x0 x1 x2 x3 x4 x5 x6 x7)) 4) % 256 else bif false && ar == 5 then r1 - r1 / 256 % 256 * 256 + IntKind.wrap IntKind.u64 (twoV 1 fc (lvlV 1 (ldV M db ds (ofV ab ai aq ad [r0, r1, r2, r3, r4, r5, r6, r7]) 4 (mayV dr dw dx 0)) (getV 1 ar ad r0 r1 r2 r3 r4 r5 r6 r7 x0 x1 x2 x3 x4 x5 x6 x7)) (lvlV 1 (ldV M db ds (ofV bb bi bq bd [r0, r1, r2, r3, r4, r5, r6, r7]) 4 (mayV dr dw dx 0)) (getV 1 br bd r0 r1 r2 r3 r4 r5 r6 r7 x0 x1 x2 x3 x4 x5 x6 x7)) 4) % 256 * 256 else r1)), vw ((bif true && ar == 2 then IntKind.wrap IntKind.u64 (twoV 1 fc (lvlV 1 (ldV M db ds (ofV ab ai aq ad [r0, r1, r2, r3, r4, r5, r6, r7]) 4 (mayV dr dw dx 0)) (getV 1 ar ad r0 r1 r2 r3 r4 r5 r6 r7 x0 x1 x2 x3 x4 x5 x6 x7)) (lvlV 1 (ldV M db ds (ofV bb bi bq bd [r0, r1, r2, r3, r4, r5, r6, r7]) 4 (mayV dr dw dx 0)) (getV 1 br bd r0 r1 r2 r3 r4 r5 r6 r7 x0 x1 x2 x3 x4 x5 x6 x7)) 4) % 4294967296 else bif false && ar == 2 then r2 - r2 % 256 + IntKind.wrap IntKind.u64 (twoV 1 fc (lvlV 1 (ldV M db ds (ofV ab ai aq ad [r0, r1, r2, r3, r4, r5, r6, r7]) 4 (mayV dr dw dx 0)) (getV 1 ar ad r0 r1 r2 r3 r4 r5 r6 r7 x0 x1 x2 x3 x4 x5 x6 x7)) (lvlV 1 (ldV M db ds (ofV bb bi bq bd [r0, r1, r2, r3, r4, r5, r6, r7]) 4 (mayV dr dw dx 0)) (getV 1 br bd r0 r1 r2 r3 r4 r5 r6 r7 x0 x1 x2 x3 x4 x5 x6 x7)) 4) % 256 else bif false && ar == 6 then r2 - r2 / 256 % 256 * 256 + IntKind.wrap IntKind.u64 (twoV 1 fc (lvlV 1 (ldV M db ds (ofV ab ai aq ad [r0, r1, r2, r3, r4, r5, r6, r7]) 4 (mayV dr dw dx 0)) (getV 1 ar ad r0 r1 r2 r3 r4 r5 r6 r7 x0 x1 x2 x3 x4 x5 x6 x7)) (lvlV 1 (ldV M db ds (ofV bb bi bq bd [r0, r1, r2, r3, r4, r5, r6, r7]) 4 (mayV dr dw dx 0)) (getV 1 br bd r0 r1 r2 r3 r4 r5 r6 r7 x0 x1 x2 x3 x4 x5 x6 x7)) 4) % 256 * 256 else r2)), vw ((bif true && ar == 3 then IntKind.wrap IntKind.u64 (twoV 1 fc (lvlV 1 (ldV M db ds (ofV ab ai aq ad [r0, r1, r2, r3, r4, r5, r6, r7]) 4 (mayV dr dw dx 0)) (getV 1 ar ad r0 r1 r2 r3 r4 r5 r6 r7 x0 x1 x2 x3 x4 x5 x6 x7)) (lvlV 1 (ldV M db ds (ofV bb bi bq bd [r0, r1, r2, r3, r4, r5, r6, r7]) 4 (mayV dr dw dx 0)) (getV 1 br bd r0 r1 r2 r3 r4 r5 r6 r7 x0 x1 x2 x3 x4 x5 x6 x7)) 4) % 4294967296 else bif false && ar == 3 then r3 - r3 % 256 + IntKind.wrap IntKind.u64 (twoV 1 fc (lvlV 1 (ldV M db ds (ofV ab ai aq ad [r0, r1, r2, r3, r4, r5, r6, r7]) 4 (mayV dr dw dx 0)) (getV 1 ar ad r0 r1 r2 r3 r4 r5 r6 r7 x0 x1 x2 x3 x4 x5 x6 x7)) (lvlV 1 (ldV M db ds (ofV bb bi bq bd [r0, r1, r2, r3, r4, r5, r6, r7]) 4 (mayV dr dw dx 0)) (getV 1 br bd r0 r1 r2 r3 r4 r5 r6 r7 x0 x1 x2 x3 x4 x5 x6 x7)) 4) % 256 else bif false && ar == 7 then r3 - r3 / 256 % 256 * 256 + IntKind.wrap IntKind.u64 (twoV 1 fc (lvlV 1 (ldV M db ds (ofV ab ai aq ad [r0, r1, r2, r3, r4, r5, r6, r7]) 4 (mayV dr dw dx 0)) (getV 1 ar ad r0 r1 r2 r3 r4 r5 r6 r7 x0 x1 x2 x3 x4 x5 x6 x7)) (lvlV 1 (ldV M db ds (ofV bb bi bq bd [r0, r1, r2, r3, r4, r5, r6, r7]) 4 (mayV dr dw dx 0)) (getV 1 br bd r0 r1 r2 r3 r4 r5 r6 r7 x0 x1 x2 x3 x4 x5 x6 x7)) 4) % 256 * 256 else r3)), vw ((bif true && ar == 4 then IntKind.wrap IntKind.u64 (twoV 1 fc (lvlV 1 (ldV M db ds (ofV ab ai aq ad [r0, r1, r2, r3, r4, r5, r6, r7]) 4 (mayV dr dw dx 0)) (getV 1 ar ad r0 r1 r2 r3 r4 r5 r6 r7 x0 x1 x2 x3 x4 x5 x6 x7)) (lvlV 1 (ldV M db ds (ofV bb bi bq bd [r0, r1, r2, r3, r4, r5, r6, r7]) 4 (mayV dr dw dx 0)) (getV 1 br bd r0 r1 r2 r3 r4 r5 r6 r7 x0 x1 x2 x3 x4 x5 x6 x7)) 4) % 4294967296 else r4)), vw ((bif true && ar == 5 then IntKind.wrap IntKind.u64 (twoV 1 fc (lvlV 1 (ldV M db ds (ofV ab ai aq ad [r0, r1, r2, r3, r4, r5, r6, r7]) 4 (mayV dr dw dx 0)) (getV 1 ar ad r0 r1 r2 r3 r4 r5 r6 r7 x0 x1 x2 x3 x4 x5 x6 x7)) (lvlV 1 (ldV M db ds (ofV bb bi bq bd [r0, r1, r2, r3, r4, r5, r6, r7]) 4 (mayV dr dw dx 0)) (getV 1 br bd r0 r1 r2 r3 r4 r5 r6 r7 x0 x1 x2 x3 x4 x5 x6 x7)) 4) % 4294967296 else r5)), vw ((bif true && ar == 6 then IntKind.wrap IntKind.u64 (twoV 1 fc (lvlV 1 (ldV M db ds (ofV ab ai aq ad [r0, r1, r2, r3, r4, r5, r6, r7]) 4 (mayV dr dw dx 0)) (getV 1 ar ad r0 r1 r2 r3 r4 r5 r6 r7 x0 x1 x2 x3 x4 x5 x6 x7)) (lvlV 1 (ldV M db ds (ofV bb bi bq bd [r0, r1, r2, r3, r4, r5, r6, r7]) 4 (mayV dr dw dx 0)) (getV 1 br bd r0 r1 r2 r3 r4 r5 r6 r7 x0 x1 x2 x3 x4 x5 x6 x7)) 4) % 4294967296 else r6)), vw ((bif true && ar == 7 then IntKind.wrap IntKind.u64 (twoV 1 fc (lvlV 1 (ldV M db ds (ofV ab ai aq ad [r0, r1, r2, r3, r4, r5, r6, r7]) 4 (mayV dr dw dx 0)) (getV 1 ar ad r0 r1 r2 r3 r4 r5 r6 r7 x0 x1 x2 x3 x4 x5 x6 x7)) (lvlV 1 (ldV M db ds (ofV bb bi bq bd [r0, r1, r2, r3, r4, r5, r6, r7]) 4 (mayV dr dw dx 0)) (getV 1 br bd r0 r1 r2 r3 r4 r5 r6 r7 x0 x1 x2 x3 x4 x5 x6 x7)) 4) % 4294967296 else r7)), vw ip, vb ((twoC 1 fc (lvlV 1 (ldV M db ds (ofV ab ai aq ad [r0, r1, r2, r3, r4, r5, r6, r7]) 4 (mayV dr dw dx 0)) (getV 1 ar ad r0 r1 r2 r3 r4 r5 r6 r7 x0 x1 x2 x3 x4 x5 x6 x7)) (lvlV 1 (ldV M db ds (ofV bb bi bq bd [r0, r1, r2, r3, r4, r5, r6, r7]) 4 (mayV dr dw dx 0)) (getV 1 br bd r0 r1 r2 r3 r4 r5 r6 r7 x0 x1 x2 x3 x4 x5 x6 x7)) 4)), vb ((parV (twoV 1 fc (lvlV 1 (ldV M db ds (ofV ab ai aq ad [r0, r1, r2, r3, r4, r5, r6, r7]) 4 (mayV dr dw dx 0)) (getV 1 ar ad r0 r1 r2 r3 r4 r5 r6 r7 x0 x1 x2 x3 x4 x5 x6 x7)) (lvlV 1 (ldV M db ds (ofV bb bi bq bd [r0, r1, r2, r3, r4, r5, r6, r7]) 4 (mayV dr dw dx 0)) (getV 1 br bd r0 r1 r2 r3 r4 r5 r6 r7 x0 x1 x2 x3 x4 x5 x6 x7)) 4))), vb ((twoV 1 fc (lvlV 1 (ldV M db ds (ofV ab ai aq ad [r0, r1, r2, r3, r4, r5, r6, r7]) 4 (mayV dr dw dx 0)) (getV 1 ar ad r0 r1 r2 r3 r4 r5 r6 r7 x0 x1 x2 x3 x4 x5 x6 x7)) (lvlV 1 (ldV M db ds (ofV bb bi bq bd [r0, r1, r2, r3, r4, r5, r6, r7]) 4 (mayV dr dw dx 0)) (getV 1 br bd r0 r1 r2 r3 r4 r5 r6 r7 x0 x1 x2 x3 x4 x5 x6 x7)) 4 == 0)), vb ((topV (twoV 1 fc (lvlV 1 (ldV M db ds (ofV ab ai aq ad [r0, r1, r2, r3, r4, r5, r6, r7]) 4 (mayV dr dw dx 0)) (getV 1 ar ad r0 r1 r2 r3 r4 r5 r6 r7 x0 x1 x2 x3 x4 x5 x6 x7)) (lvlV 1 (ldV M db ds (ofV bb bi bq bd [r0, r1, r2, r3, r4, r5, r6, r7]) 4 (mayV dr dw dx 0)) (getV 1 br bd r0 r1 r2 r3 r4 r5 r6 r7 x0 x1 x2 x3 x4 x5 x6 x7)) 4) 4)), vb ((twoO 1 fc (lvlV 1 (ldV M db ds (ofV ab ai aq ad [r0, r1, r2, r3, r4, r5, r6, r7]) 4 (mayV dr dw dx 0)) (getV 1 ar ad r0 r1 r2 r3 r4 r5 r6 r7 x0 x1 x2 x3 x4 x5 x6 x7)) (lvlV 1 (ldV M db ds (ofV bb bi bq bd [r0, r1, r2, r3, r4, r5, r6, r7]) 4 (mayV dr dw dx 0)) (getV 1 br bd r0 r1 r2 r3 r4 r5 r6 r7 x0 x1 x2 x3 x4 x5 x6 x7)) 4)), vb fd, vd x0, vd x1, vd x2, vd x3, vd x4, vd x5, vd x6, vd x7], vi 0])) (((m.set b (.cells [.ptr g 0, .v (.int .u32 cb), .v (.int .u32 cs), .v (.bool cr), .v (.bool cw), .v (.bool cx), .v (.int .u32 db), .v (.int .u32 ds), .v (.bool dr), .v (.bool dw), .v (.bool dx)] T)).set g (.ext 0 M)) ++ []) else bif (op == 3) && ((size == 4) && ((ak == 1) && ((bk == 1)))) then k ((Sv.tup [Sv.agg [vw ((bif true && ar == 0 then IntKind.wrap IntKind.u64 (twoV 3 fc (lvlV 1 (ldV M db ds (ofV ab ai aq ad [r0, r1, r2, r3, r4, r5, r6, r7]) 4 (mayV dr dw dx 0)) (getV 1 ar ad r0 r1 r2 r3 r4 r5 r6 r7 x0 x1 x2 x3 x4 x5 x6 x7)) (lvlV 1 (ldV M db ds (ofV bb bi bq bd [r0, r1, r2, r3, r4, r5, r6, r7]) 4 (mayV dr dw dx 0)) (getV 1 br bd r0 r1 r2 r3 r4 r5 r6 r7 x0 x1 x2 x3 x4 x5 x6 x7)) 4) % 4294967296 else bif false && ar == 0 then r0 - r0 % 256 + IntKind.wrap IntKind.u64 (twoV 3 fc (lvlV 1 (ldV M db ds (ofV ab ai aq ad [r0, r1, r2, r3, r4, r5, r6, r7]) 4 (mayV dr dw dx 0)) (getV 1 ar ad r0 r1 r2 r3 r4 r5 r6 r7 x0 x1 x2 x3 x4 x5 x6 x7)) (lvlV 1 (ldV M db ds (ofV bb bi bq bd [r0, r1, r2, r3, r4, r5, r6, r7]) 4 (mayV dr dw dx 0)) (getV 1 br bd r0 r1 r2 r3 r4 r5 r6 r7 x0 x1 x2 x3 x4 x5 x6 x7)) 4) % 256 else bif false && ar == 4 then r0 - r0 / 256 % 256 * 256 + IntKind.wrap IntKind.u64 (twoV 3 fc (lvlV 1 (ldV M db ds (ofV ab ai aq ad [r0, r1, r2, r3, r4, r5, r6, r7]) 4 (mayV dr dw dx 0)) (getV 1 ar ad r0 r1 r2 r3 r4 r5 r6 r7 x0 x1 x2 x3 x4 x5 x6 x7)) (lvlV 1 (ldV M db ds (ofV bb bi bq bd [r0, r1, r2, r3, r4, r5, r6, r7]) 4 (mayV dr dw dx 0)) (getV 1 br bd r0 r1 r2 r3 r4 r5 r6 r7 x0 x1 x2 x3 x4 x5 x6 x7)) 4) % 256 * 256 else r0)), vw ((bif true && ar == 1 then IntKind.wrap IntKind.u64 (twoV 3 fc (lvlV 1 (ldV M db ds (ofV ab ai aq ad [r0, r1, r2, r3, r4, r5, r6, r7]) 4 (mayV dr dw dx 0)) (getV 1 ar ad r0 r1 r2 r3 r4 r5 r6 r7 x0 x1 x2 x3 x4 x5 x6 x7)) (lvlV 1 (ldV M db ds (ofV bb bi bq bd [r0, r1, r2, r3, r4, r5, r6, r7]) 4 (mayV dr dw dx 0)) (getV 1 br bd r0 r1 r2 r3 r4 r5 r6 r7 x0 x1 x2 x3 x4 x5 x6 x7)) 4) % 4294967296 else bif false && ar == 1 then r1 - r1 % 256 + IntKind.wrap IntKind.u64 (twoV 3 fc (lvlV 1 (ldV M db ds (ofV ab ai aq ad [r0, r1, r2, r3, r4, r5, r6, r7]) 4 (mayV dr dw dx 0)) (getV 1 ar ad r0 r1 r2 r3 r4 r5 r6 r7 x0 x1 x2 x3 x4 x5 x6 x7)) (lvlV 1 (ldV M db ds (ofV bb bi bq bd [r0, r1, r2, r3, r4, r5, r6, r7]) 4 (mayV dr dw dx 0)) (getV 1 br bd r0 r1 r2 r3 r4 r5 r6 r7 x0 x1 x2 x3 x4 x5 x6 x7)) 4) % 256 else bif false && ar == 5 then r1 - r1 / 256 % 256 * 256 + IntKind.wrap IntKind.u64 (twoV 3 fc (lvlV 1 (ldV M db ds (ofV ab ai aq ad [r0, r1, r2, r3, r4, r5, r6, r7]) 4 (mayV dr dw dx 0)) (getV 1 ar ad r0 r1 r2 r3 r4 r5 r6 r7 x0 x1 x2 x3 x4 x5 x6 x7)) (lvlV 1 (ldV M db ds (ofV bb bi bq bd [r0, r1, r2, r3, r4, r5, r6, r7]) 4 (mayV dr dw dx 0)) (getV 1 br bd r0 r1 r2 r3 r4 r5 r6 r7 x0 x1 x2 x3 x4 x5 x6 x7)) 4) % 256 * 256 else r1)), vw ((bif true && ar == 2 then IntKind.wrap IntKind.u64 (twoV 3 fc (lvlV 1 (ldV M db ds (ofV ab ai aq ad [r0, r1, r2, r3, r4, r5, r6, r7]) 4 (mayV dr dw dx 0)) (getV 1 ar ad r0 r1 r2 r3 r4 r5 r6 r7 x0 x1 x2 x3 x4 x5 x6 x7)) (lvlV 1 (ldV M db ds (ofV bb bi bq bd [r0, r1, r2, r3, r4, r5, r6, r7]) 4 (mayV dr dw dx 0)) (getV 1 br bd r0 r1 r2 r3 r4 r5 r6 r7 x0 x1 x2 x3 x4 x5 x6 x7)) 4) % 4294967296 else bif false && ar == 2 then r2 - r2 % 256 + IntKind.wrap IntKind.u64 (twoV 3 fc (lvlV 1 (ldV M db ds (ofV ab ai aq ad [r0, r1, r2, r3, r4, r5, r6, r7]) 4 (mayV dr dw dx 0)) (getV 1 ar ad r0 r1 r2 r3 r4 r5 r6 r7 x0 x1 x2 x3 x4 x5 x6 x7)) (lvlV 1 (ldV M db ds (ofV bb bi bq bd [r0, r1, r2, r3, r4, r5, r6, r7]) 4 (mayV dr dw dx 0)) (getV 1 br bd r0 r1 r2 r3 r4 r5 r6 r7 x0 x1 x2 x3 x4 x5 x6 x7)) 4) % 256 else bif false && ar == 6 then r2 - r2 / 256 % 256 * 256 + IntKind.wrap IntKind.u64 (twoV 3 fc (lvlV 1 (ldV M db ds (ofV ab ai aq ad [r0, r1, r2, r3, r4, r5, r6, r7]) 4 (mayV dr dw dx 0)) (getV 1 ar ad r0 r1 r2 r3 r4 r5 r6 r7 x0 x1 x2 x3 x4 x5 x6 x7)) (lvlV 1 (ldV M db ds (ofV bb bi bq bd [r0, r1, r2, r3, r4, r5, r6, r7]) 4 (mayV dr dw dx 0)) (getV 1 br bd r0 r1 r2 r3 r4 r5 r6 r7 x0 x1 x2 x3 x4 x5 x6 x7)) 4) % 256 * 256 else r2)), vw ((bif true && ar == 3 then IntKind.wrap IntKind.u64 (twoV 3 fc (lvlV 1 (ldV M db ds (ofV ab ai aq ad [r0, r1, r2, r3, r4, r5, r6, r7]) 4 (mayV dr dw dx 0)) (getV 1 ar ad r0 r1 r2 r3 r4 r5 r6 r7 x0 x1 x2 x3 x4 x5 x6 x7)) (lvlV 1 (ldV M db ds (ofV bb bi bq bd [r0, r1, r2, r3, r4, r5, r6, r7]) 4 (mayV dr dw dx 0)) (getV 1 br bd r0 r1 r2 r3 r4 r5 r6 r7 x0 x1 x2 x3 x4 x5 x6 x7)) 4) % 4294967296 else bif false && ar == 3 then r3 - r3 % 256 + IntKind.wrap IntKind.u64 (twoV 3 fc (lvlV 1 (ldV M db ds (ofV ab ai aq ad [r0, r1, r2, r3, r4, r5, r6, r7]) 4 (mayV dr dw dx 0)) (getV 1 ar ad r0 r1 r2 r3 r4 r5 r6 r7 x0 x1 x2 x3 x4 x5 x6 x7)) (lvlV 1 (ldV M db ds (ofV bb bi bq bd [r0, r1, r2, r3, r4, r5, r6, r7]) 4 (mayV dr dw dx 0)) (getV 1 br bd r0 r1 r2 r3 r4 r5 r6 r7 x0 x1 x2 x3 x4 x5 x6 x7)) 4) % 256 else bif false && ar == 7 then r3 - r3 / 256 % 256 * 256 + IntKind.wrap IntKind.u64 (twoV 3 fc (lvlV 1 (ldV M db ds (ofV ab ai aq ad [r0, r1, r2, r3, r4, r5, r6, r7]) 4 (mayV dr dw dx 0)) (getV 1 ar ad r0 r1 r2 r3 r4 r5 r6 r7 x0 x1 x2 x3 x4 x5 x6 x7)) (lvlV 1 (ldV M db ds (ofV bb bi bq bd [r0, r1, r2, r3, r4, r5, r6, r7]) 4 (mayV dr dw dx 0)) (getV 1 br bd r0 r1 r2 r3 r4 r5 r6 r7 x0 x1 x2 x3 x4 x5 x6 x7)) 4) % 256 * 256 else r3)), vw ((bif true && ar == 4 then IntKind.wrap IntKind.u64 (twoV 3 fc (lvlV 1 (ldV M db ds (ofV ab ai aq ad [r0, r1, r2, r3, r4, r5, r6, r7]) 4 (mayV dr dw dx 0)) (getV 1 ar ad r0 r1 r2 r3 r4 r5 r6 r7 x0 x1 x2 x3 x4 x5 x6 x7)) (lvlV 1 (ldV M db ds (ofV bb bi bq bd [r0, r1, r2, r3, r4, r5, r6, r7]) 4 (mayV dr dw dx 0)) (getV 1 br bd r0 r1 r2 r3 r4 r5 r6 r7 x0 x1 x2 x3 x4 x5 x6 x7)) 4) % 4294967296 else r4)), vw ((bif true && ar == 5 then IntKind.wrap IntKind.u64 (twoV 3 fc (lvlV 1 (ldV M db ds (ofV ab ai aq ad [r0, r1, r2, r3, r4, r5, r6, r7]) 4 (mayV dr dw dx 0)) (getV 1 ar ad r0 r1 r2 r3 r4 r5 r6 r7 x0 x1 x2 x3 x4 x5 x6 x7)) (lvlV 1 (ldV M db ds (ofV bb bi bq bd [r0, r1, r2, r3, r4, r5, r6, r7]) 4 (mayV dr dw dx 0)) (getV 1 br bd r0 r1 r2 r3 r4 r5 r6 r7 x0 x1 x2 x3 x4 x5 x6 x7)) 4) % 4294967296 else r5)), vw ((bif true && ar == 6 then IntKind.wrap IntKind.u64 (twoV 3 fc (lvlV 1 (ldV M db ds (ofV ab ai aq ad [r0, r1, r2, r3, r4, r5, r6, r7]) 4 (mayV dr dw dx 0)) (getV 1 ar ad r0 r1 r2 r3 r4 r5 r6 r7 x0 x1 x2 x3 x4 x5 x6 x7)) (lvlV 1 (ldV M db ds (ofV bb bi bq bd [r0, r1, r2, r3, r4, r5, r6, r7]) 4 (mayV dr dw dx 0)) (getV 1 br bd r0 r1 r2 r3 r4 r5 r6 r7 x0 x1 x2 x3 x4 x5 x6 x7)) 4) % 4294967296 else r6)), vw ((bif true && ar == 7 then IntKind.wrap IntKind.u64 (twoV 3 fc (lvlV 1 (ldV M db ds (ofV ab ai aq ad [r0, r1, r2, r3, r4, r5, r6, r7]) 4 (mayV dr dw dx 0)) (getV 1 ar ad r0 r1 r2 r3 r4 r5 r6 r7 x0 x1 x2 x3 x4 x5 x6 x7)) (lvlV 1 (ldV M db ds (ofV bb bi bq bd [r0, r1, r2, r3, r4, r5, r6, r7]) 4 (mayV dr dw dx 0)) (getV 1 br bd r0 r1 r2 r3 r4 r5 r6 r7 x0 x1 x2 x3 x4 x5 x6 x7)) 4) % 4294967296 else r7)), vw ip, vb ((twoC 3 fc (lvlV 1 (ldV M db ds (ofV ab ai aq ad [r0, r1, r2, r3, r4, r5, r6, r7]) 4 (mayV dr dw dx 0)) (getV 1 ar ad r0 r1 r2 r3 r4 r5 r6 r7 x0 x1 x2 x3 x4 x5 x6 x7)) (lvlV 1 (ldV M db ds (ofV bb bi bq bd [r0, r1, r2, r3, r4, r5, r6, r7]) 4 (mayV dr dw dx 0)) (getV 1 br bd r0 r1 r2 r3 r4 r5 r6 r7 x0 x1 x2 x3 x4 x5 x6 x7)) 4)), vb ((parV (twoV 3 fc (lvlV 1 (ldV M db ds (ofV ab ai aq ad [r0, r1, r2, r3, r4, r5, r6, r7]) 4 (mayV dr dw dx 0)) (getV 1 ar ad r0 r1 r2 r3 r4 r5 r6 r7 x0 x1 x2 x3 x4 x5 x6 x7)) (lvlV 1 (ldV M db ds (ofV bb bi bq bd [r0, r1, r2, r3, r4, r5, r6, r7]) 4 (mayV dr dw dx 0)) (getV 1 br bd r0 r1 r2 r3 r4 r5 r6 r7 x0 x1 x2 x3 x4 x5 x6 x7)) 4))), vb ((twoV 3 fc (lvlV 1 (ldV M db ds (ofV ab ai aq ad [r0, r1, r2, r3, r4, r5, r6, r7]) 4 (mayV dr dw dx 0)) (getV 1 ar ad r0 r1 r2 r3 r4 r5 r6 r7 x0 x1 x2 x3 x4 x5 x6 x7)) (lvlV 1 (ldV M db ds (ofV bb bi bq bd [r0, r1, r2, r3, r4, r5, r6, r7]) 4 (mayV dr dw dx 0)) (getV 1 br bd r0 r1 r2 r3 r4 r5 r6 r7 x0 x1 x2 x3 x4 x5 x6 x7)) 4 == 0)), vb ((topV (twoV 3 fc (lvlV 1 (ldV M db ds (ofV ab ai aq ad [r0, r1, r2, r3, r4, r5, r6, r7]) 4 (mayV dr dw dx 0)) (getV 1 ar ad r0 r1 r2 r3 r4 r5 r6 r7 x0 x1 x2 x3 x4 x5 x6 x7)) (lvlV 1 (ldV M db ds (ofV bb bi bq bd [r0, r1, r2, r3, r4, r5, r6, r7]) 4 (mayV dr dw dx 0)) (getV 1 br bd r0 r1 r2 r3 r4 r5 r6 r7 x0 x1 x2 x3 x4 x5 x6 x7)) 4) 4)), vb ((twoO 3 fc (lvlV 1 (ldV M db ds (ofV ab ai aq ad [r0, r1, r2, r3, r4, r5, r6, r7]) 4 (mayV dr dw dx 0)) (getV 1 ar ad r0 r1 r2 r3 r4 r5 r6 r7 x0 x1 x2 x3 x4 x5 x6 x7)) (lvlV 1 (ldV M db ds (ofV bb bi bq bd [r0, r1, r2, r3, r4, r5, r6, r7]) 4 (mayV dr dw dx 0)) (getV 1 br bd r0 r1 r2 r3 r4 r5 r6 r7 x0 x1 x2 x3 x4 x5 x6 x7)) 4)), vb fd, vd x0, vd x1, vd x2, vd x3, vd x4, vd x5, vd x6, vd x7], vi 0])) (((m.set b (.cells [.ptr g 0, .v (.int .u32 cb), .v (.int .u32 cs), .v (.bool cr), .v (.bool cw), .v (.bool cx), .v (.int .u32 db), .v (.int .u32 ds), .v (.bool dr), .v (.bool dw), .v (.bool dx)] T)).set g (.ext 0 M)) ++ []) else bif (op == 4) && ((size == 4) && ((ak == 1) && ((bk == 1)))) then k ((Sv.tup [Sv.agg [vw ((bif true && ar == 0 then IntKind.wrap IntKind.u64 (twoV 4 fc (lvlV 1 (ldV M db ds (ofV ab ai aq ad [r0, r1, r2, r3, r4, r5, r6, r7]) 4 (mayV dr dw dx 0)) (getV 1 ar ad r0 r1 r2 r3 r4 r5 r6 r7 x0 x1 x2 x3 x4 x5 x6 x7)) (lvlV 1 (ldV M db ds (ofV bb bi bq bd [r0, r1, r2, r3, r4, r5, r6, r7]) 4 (mayV dr dw dx 0)) (getV 1 br bd r0 r1 r2 r3 r4 r5 r6 r7 x0 x1 x2 x3 x4 x5 x6 x7)) 4) % 4294967296 else bif false && ar == 0 then r0 - r0 % 256 + IntKind.wrap IntKind.u64 (twoV 4 fc (lvlV 1 (ldV M db ds (ofV ab ai aq ad [r0, r1, r2, r3, r4, r5, r6, r7]) 4 (mayV dr dw dx 0)) (getV 1 ar ad r0 r1 r2 r3 r4 r5 r6 r7 x0 x1 x2 x3 x4 x5 x6 x7)) (lvlV 1 (ldV M db ds (ofV bb bi bq bd [r0, r1, r2, r3, r4, r5, r6, r7]) 4 (mayV dr dw dx 0)) (getV 1 br bd r0 r1 r2 r3 r4 r5 r6 r7 x0 x1 x2 x3 x4 x5 x6 x7)) 4) % 256 else bif false && ar == 4 then r0 - r0 / 256 % 256 * 256 + IntKind.wrap IntKind.u64 (twoV 4 fc (lvlV 1 (ldV M db ds (ofV ab ai aq ad [r0, r1, r2, r3, r4, r5, r6, r7]) 4 (mayV dr dw dx 0)) (getV 1 ar ad r0 r1 r2 r3 r4 r5 r6 r7 x0 x1 x2 x3 x4 x5 x6 x7)) (lvlV 1 (ldV M db ds (ofV bb bi bq bd [r0, r1, r2, r3, r4, r5, r6, r7]) 4 (mayV dr dw dx 0)) (getV 1 br bd r0 r1 r2 r3 r4 r5 r6 r7 x0 x1 x2 x3 x4 x5 x6 x7)) 4) % 256 * 256 else r0)), vw ((bif true && ar == 1 then IntKind.wrap IntKind.u64 (twoV 4 fc (lvlV 1 (ldV M db ds (ofV ab ai aq ad [r0, r1, r2, r3, r4, r5, r6, r7]) 4 (mayV dr dw dx 0)) (getV 1 ar ad r0 r1 r2 r3 r4 r5 r6 r7 x0 x1 x2 x3 x4 x5 x6 x7)) (lvlV 1 (ldV M db ds (ofV bb bi bq bd [r0, r1, r2, r3, r4, r5, r6, r7]) 4 (mayV dr dw dx 0)) (getV 1 br bd r0 r1 r2 r3 r4 r5 r6 r7 x0 x1 x2 x3 x4 x5 x6 x7)) 4) % 4294967296 else bif false && ar == 1 then r1 - r1 % 256 + IntKind.wrap IntKind.u64 (twoV 4 fc (lvlV 1 (ldV M db ds (ofV ab ai aq ad [r0, r1, r2, r3, r4, r5, r6, r7]) 4 (mayV dr dw dx 0)) (getV 1 ar ad r0 r1 r2 r3 r4 r5 r6 r7 x0 x1 x2 x3 x4 x5 x6 x7)) (lvlV 1 (ldV M db ds (ofV bb bi bq bd [r0, r1, r2, r3, r4, r5, r6, r7]) 4 (mayV dr dw dx 0)) (getV 1 br bd r0 r1 r2 r3 r4 r5 r6 r7 x0 x1 x2 x3 x4 x5 x6 x7)) 4) % 256 else bif false && ar == 5 then r1 - r1 / 256 % 256 * 256 + IntKind.wrap IntKind.u64 (twoV 4 fc (lvlV 1 (ldV M db ds (ofV ab ai aq ad [r0, r1, r2, r3, r4, r5, r6, r7]) 4 (mayV dr dw dx 0)) (getV 1 ar ad r0 r1 r2 r3 r4 r5 r6 r7 x0 x1 x2 x3 x4 x5 x6 x7)) (lvlV 1 (ldV M db ds (ofV bb bi bq bd [r0, r1, r2, r3, r4, r5, r6, r7]) 4 (mayV dr dw dx 0)) (getV 1 br bd r0 r1 r2 r3 r4 r5 r6 r7 x0 x1 x2 x3 x4 x5 x6 x7)) 4) % 256 * 256 else r1)), vw ((bif true && ar == 2 then IntKind.wrap IntKind.u64 (twoV 4 fc (lvlV 1 (ldV M db ds (ofV ab ai aq ad [r0, r1, r2, r3, r4, r5, r6, r7]) 4 (mayV dr dw dx 0)) (getV 1 ar ad r0 r1 r2 r3 r4 r5 r6 r7 x0 x1 x2 x3 x4 x5 x6 x7)) (lvlV 1 (ldV M db ds (ofV bb bi bq bd [r0, r1, r2, r3, r4, r5, r6, r7]) 4 (mayV dr dw dx 0)) (getV 1 br bd r0 r1 r2 r3 r4 r5 r6 r7 x0 x1 x2 x3 x4 x5 x6 x7)) 4) % 4294967296 else bif false && ar == 2 then r2 - r2 % 256 + IntKind.wrap IntKind.u64 (twoV 4 fc (lvlV 1 (ldV M db ds (ofV ab ai aq ad [r0, r1, r2, r3, r4, r5, r6, r7]) 4 (mayV dr dw dx 0)) (getV 1 ar ad r0 r1 r2 r3 r4 r5 r6 r7 x0 x1 x2 x3 x4 x5 x6 x7)) (lvlV 1 (ldV M db ds (ofV bb bi bq bd [r0, r1, r2, r3, r4, r5, r6, r7]) 4 (mayV dr dw dx 0)) (getV 1 br bd r0 r1 r2 r3 r4 r5 r6 r7 x0 x1 x2 x3 x4 x5 x6 x7)) 4) % 256 else bif false && ar == 6 then r2 - r2 / 256 % 256 * 256 + IntKind.wrap IntKind.u64 (twoV 4 fc (lvlV 1 (ldV M db ds (ofV ab ai aq ad [r0, r1, r2, r3, r4, r5, r6, r7]) 4 (mayV dr dw dx 0)) (getV 1 ar ad r0 r1 r2 r3 r4 r5 r6 r7 x0 x1 x2 x3 x4 x5 x6 x7)) (lvlV 1 (ldV M db ds (ofV bb bi bq bd [r0, r1, r2, r3, r4, r5, r6, r7]) 4 (mayV dr dw dx 0)) (getV 1 br bd r0 r1 r2 r3 r4 r5 r6 r7 x0 x1 x2 x3 x4 x5 x6 x7)) 4) % 256 * 256 else r2)), vw ((bif true && ar == 3 then IntKind.wrap IntKind.u64 (twoV 4 fc (lvlV 1 (ldV M db ds (ofV ab ai aq ad [r0, r1, r2, r3, r4, r5, r6, r7]) 4 (mayV dr dw dx 0)) (getV 1 ar ad r0 r1 r2 r3 r4 r5 r6 r7 x0 x1 x2 x3 x4 x5 x6 x7)) (lvlV 1 (ldV M db ds (ofV bb bi bq bd [r0, r1, r2, r3, r4, r5, r6, r7]) 4 (mayV dr dw dx 0)) (getV 1 br bd r0 r1 r2 r3 r4 r5 r6 r7 x0 x1 x2 x3 x4 x5 x6 x7)) 4) % 4294967296 else bif false && ar == 3 then r3 - r3 % 256 + IntKind.wrap IntKind.u64 (twoV 4 fc (lvlV 1 (ldV M db ds (ofV ab ai aq ad [r0, r1, r2, r3, r4, r5, r6, r7]) 4 (mayV dr dw dx 0)) (getV 1 ar ad r0 r1 r2 r3 r4 r5 r6 r7 x0 x1 x2 x3 x4 x5 x6 x7)) (lvlV 1 (ldV M db ds (ofV bb bi bq bd [r0, r1, r2, r3, r4, r5, r6, r7]) 4 (mayV dr dw dx 0)) (getV 1 br bd r0 r1 r2 r3 r4 r5 r6 r7 x0 x1 x2 x3 x4 x5 x6 x7)) 4) % 256 else bif false && ar == 7 then r3 - r3 / 256 % 256 * 256 + IntKind.wrap IntKind.u64 (twoV 4 fc (lvlV 1 (ldV M db ds (ofV ab ai aq ad [r0, r1, r2, r3, r4, r5, r6, r7]) 4 (mayV dr dw dx 0)) (getV 1 ar ad r0 r1 r2 r3 r4 r5 r6 r7 x0 x1 x2 x3 x4 x5 x6 x7)) (lvlV 1 (ldV M db ds (ofV bb bi bq bd [r0, r1, r2, r3, r4, r5, r6, r7]) 4 (mayV dr dw dx 0)) (getV 1 br bd r0 r1 r2 r3 r4 r5 r6 r7 x0 x1 x2 x3 x4 x5 x6 x7)) 4) % 256 * 256 else r3)), vw ((bif true && ar == 4 then IntKind.wrap IntKind.u64 (twoV 4 fc (lvlV 1 (ldV M db ds (ofV ab ai aq ad [r0, r1, r2, r3, r4, r5, r6, r7]) 4 (mayV dr dw dx 0)) (getV 1 ar ad r0 r1 r2 r3 r4 r5 r6 r7 x0 x1 x2 x3 x4 x5 x6 x7)) (lvlV 1 (ldV M db ds (ofV bb bi bq bd [r0, r1, r2, r3, r4, r5, r6, r7]) 4 (mayV dr dw dx 0)) (getV 1 br bd r0 r1 r2 r3 r4 r5 r6 r7 x0 x1 x2 x3 x4 x5 x6 x7)) 4) % 4294967296 else r4)), vw ((bif true && ar == 5 then IntKind.wrap IntKind.u64 (twoV 4 fc (lvlV 1 (ldV M db ds (ofV ab ai aq ad [r0, r1, r2, r3, r4, r5, r6, r7]) 4 (mayV dr dw dx 0)) (getV 1 ar ad r0 r1 r2 r3 r4 r5 r6 r7 x0 x1 x2 x3 x4 x5 x6 x7)) (lvlV 1 (ldV M db ds (ofV bb bi bq bd [r0, r1, r2, r3, r4, r5, r6, r7]) 4 (mayV dr dw dx 0)) (getV 1 br bd r0 r1 r2 r3 r4 r5 r6 r7 x0 x1 x2 x3 x4 x5 x6 x7)) 4) % 4294967296 else r5)), vw ((bif true && ar == 6 then IntKind.wrap IntKind.u64 (twoV 4 fc (lvlV 1 (ldV M db ds (ofV ab ai aq ad [r0, r1, r2, r3, r4, r5, r6, r7]) 4 (mayV dr dw dx 0)) (getV 1 ar ad r0 r1 r2 r3 r4 r5 r6 r7 x0 x1 x2 x3 x4 x5 x6 x7)) (lvlV 1 (ldV M db ds (ofV bb bi bq bd [r0, r1, r2, r3, r4, r5, r6, r7]) 4 (mayV dr dw dx 0)) (getV 1 br bd r0 r1 r2 r3 r4 r5 r6 r7 x0 x1 x2 x3 x4 x5 x6 x7)) 4) % 4294967296 else r6)), vw ((bif true && ar == 7 then IntKind.wrap IntKind.u64 (twoV 4 fc (lvlV 1 (ldV M db ds (ofV ab ai aq ad [r0, r1, r2, r3, r4, r5, r6, r7]) 4 (mayV dr dw dx 0)) (getV 1 ar ad r0 r1 r2 r3 r4 r5 r6 r7 x0 x1 x2 x3 x4 x5 x6 x7)) (lvlV 1 (ldV M db ds (ofV bb bi bq bd [r0, r1, r2, r3, r4, r5, r6, r7]) 4 (mayV dr dw dx 0)) (getV 1 br bd r0 r1 r2 r3 r4 r5 r6 r7 x0 x1 x2 x3 x4 x5 x6 x7)) 4) % 4294967296 else r7)), vw ip, vb ((twoC 4 fc (lvlV 1 (ldV M db ds (ofV ab ai aq ad [r0, r1, r2, r3, r4, r5, r6, r7]) 4 (mayV dr dw dx 0)) (getV 1 ar ad r0 r1 r2 r3 r4 r5 r6 r7 x0 x1 x2 x3 x4 x5 x6 x7)) (lvlV 1 (ldV M db ds (ofV bb bi bq bd [r0, r1, r2, r3, r4, r5, r6, r7]) 4 (mayV dr dw dx 0)) (getV 1 br bd r0 r1 r2 r3 r4 r5 r6 r7 x0 x1 x2 x3 x4 x5 x6 x7)) 4)), vb ((parV (twoV 4 fc (lvlV 1 (ldV M db ds (ofV ab ai aq ad [r0, r1, r2, r3, r4, r5, r6, r7]) 4 (mayV dr dw dx 0)) (getV 1 ar ad r0 r1 r2 r3 r4 r5 r6 r7 x0 x1 x2 x3 x4 x5 x6 x7)) (lvlV 1 (ldV M db ds (ofV bb bi bq bd [r0, r1, r2, r3, r4, r5, r6, r7]) 4 (mayV dr dw dx 0)) (getV 1 br bd r0 r1 r2 r3 r4 r5 r6 r7 x0 x1 x2 x3 x4 x5 x6 x7)) 4))), vb ((twoV 4 fc (lvlV 1 (ldV M db ds (ofV ab ai aq ad [r0, r1, r2, r3, r4, r5, r6, r7]) 4 (mayV dr dw dx 0)) (getV 1 ar ad r0 r1 r2 r3 r4 r5 r6 r7 x0 x1 x2 x3 x4 x5 x6 x7)) (lvlV 1 (ldV M db ds (ofV bb bi bq bd [r0, r1, r2, r3, r4, r5, r6, r7]) 4 (mayV dr dw dx 0)) (getV 1 br bd r0 r1 r2 r3 r4 r5 r6 r7 x0 x1 x2 x3 x4 x5 x6 x7)) 4 == 0)), vb ((topV (twoV 4 fc (lvlV 1 (ldV M db ds (ofV ab ai aq ad [r0, r1, r2, r3, r4, r5, r6, r7]) 4 (mayV dr dw dx 0)) (getV 1 ar ad r0 r1 r2 r3 r4 r5 r6 r7 x0 x1 x2 x3 x4 x5 x6 x7)) (lvlV 1 (ldV M db ds (ofV bb bi bq bd [r0, r1, r2, r3, r4, r5, r6, r7]) 4 (mayV dr dw dx 0)) (getV 1 br bd r0 r1 r2 r3 r4 r5 r6 r7 x0 x1 x2 x3 x4 x5 x6 x7)) 4) 4)), vb ((twoO 4 fc (lvlV 1 (ldV M db ds (ofV ab ai aq ad [r0, r1, r2, r3, r4, r5, r6, r7]) 4 (mayV dr dw dx 0)) (getV 1 ar ad r0 r1 r2 r3 r4 r5 r6 r7 x0 x1 x2 x3 x4 x5 x6 x7)) (lvlV 1 (ldV M db ds (ofV bb bi bq bd [r0, r1, r2, r3, r4, r5, r6, r7]) 4 (mayV dr dw dx 0)) (getV 1 br bd r0 r1 r2 r3 r4 r5 r6 r7 x0 x1 x2 x3 x4 x5 x6 x7)) 4)), vb fd, vd x0, vd x1, vd x2, vd x3, vd x4, vd x5, vd x6, vd x7], vi 0])) (((m.set b (.cells [.ptr g 0, .v (.int .u32 cb), .v (.int .u32 cs), .v (.bool cr), .v (.bool cw), .v (.bool cx), .v (.int .u32 db), .v (.int .u32 ds), .v (.bool dr), .v (.bool dw), .v (.bool dx)] T)).set g (.ext 0 M)) ++ []) else bif (op == 6) && ((size == 4) && ((ak == 1) && ((bk == 1)))) then k ((Sv.tup [Sv.agg [vw ((bif true && ar == 0 then IntKind.wrap IntKind.u64 (twoV 6 fc (lvlV 1 (ldV M db ds (ofV ab ai aq ad [r0, r1, r2, r3, r4, r5, r6, r7]) 4 (mayV dr dw dx 0)) (getV 1 ar ad r0 r1 r2 r3 r4 r5 r6 r7 x0 x1 x2 x3 x4 x5 x6 x7)) (lvlV 1 (ldV M db ds (ofV bb bi bq bd [r0, r1, r2, r3, r4, r5, r6, r7]) 4 (mayV dr dw dx 0)) (getV 1 br bd r0 r1 r2 r3 r4 r5 r6 r7 x0 x1 x2 x3 x4 x5 x6 x7)) 4) % 4294967296 else bif false && ar == 0 then r0 - r0 % 256 + IntKind.wrap IntKind.u64 (twoV 6 fc (lvlV 1 (ldV M db ds (ofV ab ai aq ad [r0, r1, r2, r3, r4, r5, r6, r7]) 4 (mayV dr dw dx 0)) (getV 1 ar ad r0 r1 r2 r3 r4 r5 r6 r7 x0 x1 x2 x3 x4 x5 x6 x7)) (lvlV 1 (ldV M db ds (ofV bb bi bq bd [r0, r1, r2, r3, r4, r5, r6, r7]) 4 (mayV dr dw dx 0)) (getV 1 br bd r0 r1 r2 r3 r4 r5 r6 r7 x0 x1 x2 x3 x4 x5 x6 x7)) 4) % 256 else bif false && ar == 4 then r0 - r0 / 256 % 256 * 256 + IntKind.wrap IntKind.u64 (twoV 6 fc (lvlV 1 (ldV M db ds (ofV ab ai aq ad [r0, r1, r2, r3, r4, r5, r6, r7]) 4 (mayV dr dw dx 0)) (getV 1 ar ad r0 r1 r2 r3 r4 r5 r6 r7 x0 x1 x2 x3 x4 x5 x6 x7)) (lvlV 1 (ldV M db ds (ofV bb bi bq bd [r0, r1, r2, r3, r4, r5, r6, r7]) 4 (mayV dr dw dx 0)) (getV 1 br bd r0 r1 r2 r3 r4 r5 r6 r7 x0 x1 x2 x3 x4 x5 x6 x7)) 4) % 256 * 256 else r0)), vw ((bif true && ar == 1 then IntKind.wrap IntKind.u64 (twoV 6 fc (lvlV 1 (ldV M db ds (ofV ab ai aq ad [r0, r1, r2, r3, r4, r5, r6, r7]) 4 (mayV dr dw dx 0)) (getV 1 ar ad r0 r1 r2 r3 r4 r5 r6 r7 x0 x1 x2 x3 x4 x5 x6 x7)) (lvlV 1 (ldV M db ds (ofV bb bi bq bd [r0, r1, r2, r3, r4, r5, r6, r7]) 4 (mayV dr dw dx 0)) (getV 1 br bd r0 r1 r2 r3 r4 r5 r6 r7 x0 x1 x2 x3 x4 x5 x6 x7)) 4) % 4294967296 else bif false && ar == 1 then r1 - r1 % 256 + IntKind.wrap IntKind.u64 (twoV 6 fc (lvlV 1 (ldV M db ds (ofV ab ai aq ad [r0, r1, r2, r3, r4, r5, r6, r7]) 4 (mayV dr dw dx 0)) (getV 1 ar ad r0 r1 r2 r3 r4 r5 r6 r7 x0 x1 x2 x3 x4 x5 x6 x7)) (lvlV 1 (ldV M db ds (ofV bb bi bq bd [r0, r1, r2, r3, r4, r5, r6, r7]) 4 (mayV dr dw dx 0)) (getV 1 br bd r0 r1 r2 r3 r4 r5 r6 r7 x0 x1 x2 x3 x4 x5 x6 x7)) 4) % 256 else bif false && ar == 5 then r1 - r1 / 256 % 256 * 256 + IntKind.wrap IntKind.u64 (twoV 6 fc (lvlV 1 (ldV M db ds (ofV ab ai aq ad [r0, r1, r2, r3, r4, r5, r6, r7]) 4 (mayV dr dw dx 0)) (getV 1 ar ad r0 r1 r2 r3 r4 r5 r6 r7 x0 x1 x2 x3 x4 x5 x6 x7)) (lvlV 1 (ldV M db ds (ofV bb bi bq bd [r0, r1, r2, r3, r4, r5, r6, r7]) 4 (mayV dr dw dx 0)) (getV 1 br bd r0 r1 r2 r3 r4 r5 r6 r7 x0 x1 x2 x3 x4 x5 x6 x7)) 4) % 256 * 256 else r1)), vw ((bif true && ar == 2 then IntKind.wrap IntKind.u64 (twoV 6 fc (lvlV 1 (ldV M db ds (ofV ab ai aq ad [r0, r1, r2, r3, r4, r5, r6, r7]) 4 (mayV dr dw dx 0)) (getV 1 ar ad r0 r1 r2 r3 r4 r5 r6 r7 x0 x1 x2 x3 x4 x5 x6 x7)) (lvlV 1 (ldV M db ds (ofV bb bi bq bd [r0, r1, r2, r3, r4, r5, r6, r7]) 4 (mayV dr dw dx 0)) (getV 1 br bd r0 r1 r2 r3 r4 r5 r6 r7 x0 x1 x2 x3 x4 x5 x6 x7)) 4) % 4294967296 else bif false && ar == 2 then r2 - r2 % 256 + IntKind.wrap IntKind.u64 (twoV 6 fc (lvlV 1 (ldV M db ds (ofV ab ai aq ad [r0, r1, r2, r3, r4, r5, r6, r7]) 4 (mayV dr dw dx 0)) (getV 1 ar ad r0 r1 r2 r3 r4 r5 r6 r7 x0 x1 x2 x3 x4 x5 x6 x7)) (lvlV 1 (ldV M db ds (ofV bb bi bq bd [r0, r1, r2, r3, r4, r5, r6, r7]) 4 (mayV dr dw dx 0)) (getV 1 br bd r0 r1 r2 r3 r4 r5 r6 r7 x0 x1 x2 x3 x4 x5 x6 x7)) 4) % 256 else bif false && ar == 6 then r2 - r2 / 256 % 256 * 256 + IntKind.wrap IntKind.u64 (twoV 6 fc (lvlV 1 (ldV M db ds (ofV ab ai aq ad [r0, r1, r2, r3, r4, r5, r6, r7]) 4 (mayV dr dw dx 0)) (getV 1 ar ad r0 r1 r2 r3 r4 r5 r6 r7 x0 x1 x2 x3 x4 x5 x6 x7)) (lvlV 1 (ldV M db ds (ofV bb bi bq bd [r0, r1, r2, r3, r4, r5, r6, r7]) 4 (mayV dr dw dx 0)) (getV 1 br bd r0 r1 r2 r3 r4 r5 r6 r7 x0 x1 x2 x3 x4 x5 x6 x7)) 4) % 256 * 256 else r2)), vw ((bif true && ar == 3 then IntKind.wrap IntKind.u64 (twoV 6 fc (lvlV 1 (ldV M db ds (ofV ab ai aq ad [r0, r1, r2, r3, r4, r5, r6, r7]) 4 (mayV dr dw dx 0)) (getV 1 ar ad r0 r1 r2 r3 r4 r5 r6 r7 x0 x1 x2 x3 x4 x5 x6 x7)) (lvlV 1 (ldV M db ds (ofV bb bi bq bd [r0, r1, r2, r3, r4, r5, r6, r7]) 4 (mayV dr dw dx 0)) (getV 1 br bd r0 r1 r2 r3 r4 r5 r6 r7 x0 x1 x2 x3 x4 x5 x6 x7)) 4) % 4294967296 else bif false && ar == 3 then r3 - r3 % 256 + IntKind.wrap IntKind.u64 (twoV 6 fc (lvlV 1 (ldV M db ds (ofV ab ai aq ad [r0, r1, r2, r3, r4, r5, r6, r7]) 4 (mayV dr dw dx 0)) (getV 1 ar ad r0 r1 r2 r3 r4 r5 r6 r7 x0 x1 x2 x3 x4 x5 x6 x7)) (lvlV 1 (ldV M db ds (ofV bb bi bq bd [r0, r1, r2, r3, r4, r5, r6, r7]) 4 (mayV dr dw dx 0)) (getV 1 br bd r0 r1 r2 r3 r4 r5 r6 r7 x0 x1 x2 x3 x4 x5 x6 x7)) 4) % 256 else bif false && ar == 7 then r3 - r3 / 256 % 256 * 256 + IntKind.wrap IntKind.u64 (twoV 6 fc (lvlV 1 (ldV M db ds (ofV ab ai aq ad [r0, r1, r2, r3, r4, r5, r6, r7]) 4 (mayV dr dw dx 0)) (getV 1 ar ad r0 r1 r2 r3 r4 r5 r6 r7 x0 x1 x2 x3 x4 x5 x6 x7)) (lvlV 1 (ldV M db ds (ofV bb bi bq bd [r0, r1, r2, r3, r4, r5, r6, r7]) 4 (mayV dr dw dx 0)) (getV 1 br bd r0 r1 r2 r3 r4 r5 r6 r7 x0 x1 x2 x3 x4 x5 x6 x7)) 4) % 256 * 256 else r3)), vw ((bif true && ar == 4 then IntKind.wrap IntKind.u64 (twoV 6 fc (lvlV 1 (ldV M db ds (ofV ab ai aq ad [r0, r1, r2, r3, r4, r5, r6, r7]) 4 (mayV dr dw dx 0)) (getV 1 ar ad r0 r1 r2 r3 r4 r5 r6 r7 x0 x1 x2 x3 x4 x5 x6 x7)) (lvlV 1 (ldV M db ds (ofV bb bi bq bd [r0, r1, r2, r3, r4, r5, r6, r7]) 4 (mayV dr dw dx 0)) (getV 1 br bd r0 r1 r2 r3 r4 r5 r6 r7 x0 x1 x2 x3 x4 x5 x6 x7)) 4) % 4294967296 else r4)), vw ((bif true && ar == 5 then IntKind.wrap IntKind.u64 (twoV 6 fc (lvlV 1 (ldV M db ds (ofV ab ai aq ad [r0, r1, r2, r3, r4, r5, r6, r7]) 4 (mayV dr dw dx 0)) (getV 1 ar ad r0 r1 r2 r3 r4 r5 r6 r7 x0 x1 x2 x3 x4 x5 x6 x7)) (lvlV 1 (ldV M db ds (ofV bb bi bq bd [r0, r1, r2, r3, r4, r5, r6, r7]) 4 (mayV dr dw dx 0)) (getV 1 br bd r0 r1 r2 r3 r4 r5 r6 r7 x0 x1 x2 x3 x4 x5 x6 x7)) 4) % 4294967296 else r5)), vw ((bif true && ar == 6 then IntKind.wrap IntKind.u64 (twoV 6 fc (lvlV 1 (ldV M db ds (ofV ab ai aq ad [r0, r1, r2, r3, r4, r5, r6, r7]) 4 (mayV dr dw dx 0)) (getV 1 ar ad r0 r1 r2 r3 r4 r5 r6 r7 x0 x1 x2 x3 x4 x5 x6 x7)) (lvlV 1 (ldV M db ds (ofV bb bi bq bd [r0, r1, r2, r3, r4, r5, r6, r7]) 4 (mayV dr dw dx 0)) (getV 1 br bd r0 r1 r2 r3 r4 r5 r6 r7 x0 x1 x2 x3 x4 x5 x6 x7)) 4) % 4294967296 else r6)), vw ((bif true && ar == 7 then IntKind.wrap IntKind.u64 (twoV 6 fc (lvlV 1 (ldV M db ds (ofV ab ai aq ad [r0, r1, r2, r3, r4, r5, r6, r7]) 4 (mayV dr dw dx 0)) (getV 1 ar ad r0 r1 r2 r3 r4 r5 r6 r7 x0 x1 x2 x3 x4 x5 x6 x7)) (lvlV 1 (ldV M db ds (ofV bb bi bq bd [r0, r1, r2, r3, r4, r5, r6, r7]) 4 (mayV dr dw dx 0)) (getV 1 br bd r0 r1 r2 r3 r4 r5 r6 r7 x0 x1 x2 x3 x4 x5 x6 x7)) 4) % 4294967296 else r7)), vw ip, vb ((twoC 6 fc (lvlV 1 (ldV M db ds (ofV ab ai aq ad [r0, r1, r2, r3, r4, r5, r6, r7]) 4 (mayV dr dw dx 0)) (getV 1 ar ad r0 r1 r2 r3 r4 r5 r6 r7 x0 x1 x2 x3 x4 x5 x6 x7)) (lvlV 1 (ldV M db ds (ofV bb bi bq bd [r0, r1, r2, r3, r4, r5, r6, r7]) 4 (mayV dr dw dx 0)) (getV 1 br bd r0 r1 r2 r3 r4 r5 r6 r7 x0 x1 x2 x3 x4 x5 x6 x7)) 4)), vb ((parV (twoV 6 fc (lvlV 1 (ldV M db ds (ofV ab ai aq ad [r0, r1, r2, r3, r4, r5, r6, r7]) 4 (mayV dr dw dx 0)) (getV 1 ar ad r0 r1 r2 r3 r4 r5 r6 r7 x0 x1 x2 x3 x4 x5 x6 x7)) (lvlV 1 (ldV M db ds (ofV bb bi bq bd [r0, r1, r2, r3, r4, r5, r6, r7]) 4 (mayV dr dw dx 0)) (getV 1 br bd r0 r1 r2 r3 r4 r5 r6 r7 x0 x1 x2 x3 x4 x5 x6 x7)) 4))), vb ((twoV 6 fc (lvlV 1 (ldV M db ds (ofV ab ai aq ad [r0, r1, r2, r3, r4, r5, r6, r7]) 4 (mayV dr dw dx 0)) (getV 1 ar ad r0 r1 r2 r3 r4 r5 r6 r7 x0 x1 x2 x3 x4 x5 x6 x7)) (lvlV 1 (ldV M db ds (ofV bb bi bq bd [r0, r1, r2, r3, r4, r5, r6, r7]) 4 (mayV dr dw dx 0)) (getV 1 br bd r0 r1 r2 r3 r4 r5 r6 r7 x0 x1 x2 x3 x4 x5 x6 x7)) 4 == 0)), vb ((topV (twoV 6 fc (lvlV 1 (ldV M db ds (ofV ab ai aq ad [r0, r1, r2, r3, r4, r5, r6, r7]) 4 (mayV dr dw dx 0)) (getV 1 ar ad r0 r1 r2 r3 r4 r5 r6 r7 x0 x1 x2 x3 x4 x5 x6 x7)) (lvlV 1 (ldV M db ds (ofV bb bi bq bd [r0, r1, r2, r3, r4, r5, r6, r7]) 4 (mayV dr dw dx 0)) (getV 1 br bd r0 r1 r2 r3 r4 r5 r6 r7 x0 x1 x2 x3 x4 x5 x6 x7)) 4) 4)), vb ((twoO 6 fc (lvlV 1 (ldV M db ds (ofV ab ai aq ad [r0, r1, r2, r3, r4, r5, r6, r7]) 4 (mayV dr dw dx 0)) (getV 1 ar ad r0 r1 r2 r3 r4 r5 r6 r7 x0 x1 x2 x3 x4 x5 x6 x7)) (lvlV 1 (ldV M db ds (ofV bb bi bq bd [r0, r1, r2, r3, r4, r5, r6, r7]) 4 (mayV dr dw dx 0)) (getV 1 br bd r0 r1 r2 r3 r4 r5 r6 r7 x0 x1 x2 x3 x4 x5 x6 x7)) 4)), vb fd, vd x0, vd x1, vd x2, vd x3, vd x4, vd x5, vd x6, vd x7], vi 0])) (((m.set b (.cells [.ptr g 0, .v (.int .u32 cb), .v (.int .u32 cs), .v (.bool cr), .v (.bool cw), .v (.bool cx), .v (.int .u32 db), .v (.int .u32 ds), .v (.bool dr), .v (.bool dw), .v (.bool dx)] T)).set g (.ext 0 M)) ++ []) else none) else none
noncomputable def alqS : Ev.Spec := fun R args m k kp => match args with
  | [.ptr b 0, .agg A0, .agg A1] => (match A0 with
    | [.v (.int .u32 r0), .v (.int .u32 r1), .v (.int .u32 r2), .v (.int .u32 r3), .v (.int .u32 r4), .v (.int .u32 r5), .v (.int .u32 r6), .v (.int .u32 r7), .v (.int .u32 ip), .v (.bool fc), .v (.bool fp), .v (.bool fz), .v (.bool fs), .v (.bool fo), .v (.bool fd), .v (.int .u64 x0), .v (.int .u64 x1), .v (.int .u64 x2), .v (.int .u64 x3), .v (.int .u64 x4), .v (.int .u64 x5), .v (.int .u64 x6), .v (.int .u64 x7)] => (match A1 with
    | [.v (.int .i64 op), .v (.int .i64 cond), .v (.int .i64 size), .v (.int .i64 ak), .v (.int .i64 ar), .v (.int .i64 ab), .v (.int .i64 ai), .v (.int .i64 aq), .v (.int .u32 ad), .v (.int .i64 bk), .v (.int .i64 br), .v (.int .i64 bb), .v (.int .i64 bi), .v (.int .i64 bq), .v (.int .u32 bd), .v (.int .u32 c), .v (.bool rep), .v (.int .i64 len)] => (match m[b]? with
    | some (.cells [.ptr g 0, .v (.int .u32 cb), .v (.int .u32 cs), .v (.bool cr), .v (.bool cw), .v (.bool cx), .v (.int .u32 db), .v (.int .u32 ds), .v (.bool dr), .v (.bool dw), .v (.bool dx)] T) => (match m[g]? with
      | some (.ext 0 M) => alqB R m k b g cb cs cr cw cx db ds dr dw dx T M r0 r1 r2 r3 r4 r5 r6 r7 ip fc fp fz fs fo fd x0 x1 x2 x3 x4 x5 x6 x7 op cond size ak ar ab ai aq ad bk br bb bi bq bd c rep len
      | _ => none)
    | _ => none)
    | _ => none)
    | _ => none)
  | _ => none
set_option maxHeartbeats 4000000 in
theorem alqS_ok : SpecOk Try.prog XM 34 alqS := by
  intro R args m k kp r h
  unfold alqS at h
  split at h
  · split at h
    · split at h
      · split at h
        · split at h
          · rename_i _ b _ r0 r1 r2 r3 r4 r5 r6 r7 ip fc fp fz fs fo fd x0 x1 x2 x3 x4 x5 x6 x7 _ op cond size ak ar ab ai aq ad bk br bb bi bq bd c rep len _ g cb cs cr cw cx db ds dr dw dx T hb _ M hg
            unfold alqB at h
            obtain ⟨hc, h⟩ := cond_some h
            rw [Bool.and_eq_true] at hc
            have hbg : ¬ b = g := by simpa using hc.2
            rcases cond_two h with ⟨hq, h⟩ | ⟨hq, h⟩
            · simp only [Bool.and_eq_true, beq_iff_eq] at hq
              obtain ⟨rfl, rfl, rfl, rfl⟩ := hq
              exact .inl ⟨_, _, h, (aluDoR ΓMl_ok (al1_ev cb cs cr cw cx db ds dr dw dx T M r0 r1 r2 r3 r4 r5 r6 r7 ip fc fp fz fs fo fd x0 x1 x2 x3 x4 x5 x6 x7 cond ar ab ai aq ad br bb bi bq bd c rep len hc.1) rfl rfl rfl rfl).frameL [b, g] (by simpa using hbg) ⟨hb, hg, trivial⟩ rfl rfl rfl rfl rfl rfl rfl⟩
            rcases cond_two h with ⟨hq, h⟩ | ⟨hq, h⟩
            · simp only [Bool.and_eq_true, beq_iff_eq] at hq
              obtain ⟨rfl, rfl, rfl, rfl⟩ := hq
              exact .inl ⟨_, _, h, (aluDoR ΓMl_ok (al3_ev cb cs cr cw cx db ds dr dw dx T M r0 r1 r2 r3 r4 r5 r6 r7 ip fc fp fz fs fo fd x0 x1 x2 x3 x4 x5 x6 x7 cond ar ab ai aq ad br bb bi bq bd c rep len hc.1) rfl rfl rfl rfl).frameL [b, g] (by simpa using hbg) ⟨hb, hg, trivial⟩ rfl rfl rfl rfl rfl rfl rfl⟩
            rcases cond_two h with ⟨hq, h⟩ | ⟨hq, h⟩
            · simp only [Bool.and_eq_true, beq_iff_eq] at hq
              obtain ⟨rfl, rfl, rfl, rfl⟩ := hq
              exact .inl ⟨_, _, h, (aluDoR ΓMl_ok (al4_ev cb cs cr cw cx db ds dr dw dx T M r0 r1 r2 r3 r4 r5 r6 r7 ip fc fp fz fs fo fd x0 x1 x2 x3 x4 x5 x6 x7 cond ar ab ai aq ad br bb bi bq bd c rep len hc.1) rfl rfl rfl rfl).frameL [b, g] (by simpa using hbg) ⟨hb, hg, trivial⟩ rfl rfl rfl rfl rfl rfl rfl⟩
            rcases cond_two h with ⟨hq, h⟩ | ⟨hq, h⟩
            · simp only [Bool.and_eq_true, beq_iff_eq] at hq
              obtain ⟨rfl, rfl, rfl, rfl⟩ := hq
              exact .inl ⟨_, _, h, (aluDoR ΓMl_ok (al6_ev cb cs cr cw cx db ds dr dw dx T M r0 r1 r2 r3 r4 r5 r6 r7 ip fc fp fz fs fo fd x0 x1 x2 x3 x4 x5 x6 x7 cond ar ab ai aq ad br bb bi bq bd c rep len hc.1) rfl rfl rfl rfl).frameL [b, g] (by simpa using hbg) ⟨hb, hg, trivial⟩ rfl rfl rfl rfl rfl rfl rfl⟩
            cases h
          · cases h
        · cases h
      · cases h
    · cases h
  · cases h
noncomputable def ΓAq : Env := ΓMl
theorem ΓAq_ok : EnvOk Try.prog X0 ΓAq := ΓMl_ok
end Go.Proofs.Ytpgdpoloipifeaa
