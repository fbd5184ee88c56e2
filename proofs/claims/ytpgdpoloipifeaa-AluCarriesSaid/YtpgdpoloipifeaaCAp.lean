/- What some instructions of whole numbers come to. -/
import Derived.Test.YtpgdpoloipifeaaEvV
import Derived.Test.YtpgdpoloipifeaaCAe
import Derived.Test.YtpgdpoloipifeaaCAc
import Derived.Test.YtpgdpoloipifeaaNFpu
namespace Go.Proofs.Ytpgdpoloipifeaa
open Go Go.Ev
set_option linter.unusedVariables false
set_option linter.unusedSimpArgs false
set_option maxRecDepth 100000
theorem al16_form (cb cs : Int) (cr cw cx : Bool) (db ds : Int) (dr dw dx : Bool) (T : TypeId) (M : Int → Int) (r0 r1 r2 r3 r4 r5 r6 r7 ip : Int) (fc fp fz fs fo fd : Bool) (x0 x1 x2 x3 x4 x5 x6 x7 : Int) (cond : Int) (ar : Int) (ab : Int) (ai : Int) (aq : Int) (ad : Int) (bk : Int) (br : Int) (bb : Int) (bi : Int) (bq : Int) (bd : Int) (c : Int) (rep : Bool) (len : Int) :
    guardE Try.prog ΓAe 400 alA alC Try.f34.results.toList 9 22 2 alCatch ([.ptr 0 0, .agg [.v (.int .u32 r0), .v (.int .u32 r1), .v (.int .u32 r2), .v (.int .u32 r3), .v (.int .u32 r4), .v (.int .u32 r5), .v (.int .u32 r6), .v (.int .u32 r7), .v (.int .u32 ip), .v (.bool fc), .v (.bool fp), .v (.bool fz), .v (.bool fs), .v (.bool fo), .v (.bool fd), .v (.int .u64 x0), .v (.int .u64 x1), .v (.int .u64 x2), .v (.int .u64 x3), .v (.int .u64 x4), .v (.int .u64 x5), .v (.int .u64 x6), .v (.int .u64 x7)], .agg [.v (.int .i64 16), .v (.int .i64 cond), .v (.int .i64 4), .v (.int .i64 1), .v (.int .i64 ar), .v (.int .i64 ab), .v (.int .i64 ai), .v (.int .i64 aq), .v (.int .u32 ad), .v (.int .i64 bk), .v (.int .i64 br), .v (.int .i64 bb), .v (.int .i64 bi), .v (.int .i64 bq), .v (.int .u32 bd), .v (.int .u32 c), .v (.bool rep), .v (.int .i64 len)]] ++ List.replicate (Try.f34.ntmps - 3) (.v undef)) [.cells [.ptr 1 0, .v (.int .u32 cb), .v (.int .u32 cs), .v (.bool cr), .v (.bool cw), .v (.bool cx), .v (.int .u32 db), .v (.int .u32 ds), .v (.bool dr), .v (.bool dw), .v (.bool dx)] T, .ext 0 M] =
    (bif
in32 r0 &&
(in32 r1 &&
(in32 r2 && (in32 r3 && (in32 r4 && (in32 r5 && (in32 r6 && (in32 r7 && (in32 ad && (in32 db && in32 ds))))))))) &&
true then
bif
in32
(IntKind.wrap IntKind.u32
(ldW 1 (ldV M db ds (ofV ab ai aq ad [r0, r1, r2, r3, r4, r5, r6, r7]) 4 (mayV dr dw dx 0))
(getV 1 ar ad r0 r1 r2 r3 r4 r5 r6 r7 x0 x1 x2 x3 x4 x5 x6 x7))) then
bif
in32 r0 &&
(in32 r1 &&
(in32 r2 &&
(in32 r3 &&
(in32 r4 &&
(in32 r5 &&
(in32 r6 &&
(in32 r7 &&
(in32 ad &&
(in32 db &&
(in32 ds &&
in64
(IntKind.wrap IntKind.u64
(stepV
(IntKind.wrap IntKind.u32
(ldW 1 (ldV M db ds (ofV ab ai aq ad [r0, r1, r2, r3, r4, r5, r6, r7]) 4 (mayV dr dw dx 0))
(getV 1 ar ad r0 r1 r2 r3 r4 r5 r6 r7 x0 x1 x2 x3 x4 x5 x6 x7)))
4 1)))))))))))) &&
true then
some
(Sv.tup
[Sv.agg
[Sv.v
(Value.int IntKind.u32
(ldW 1 r0
(setA 1 ar 0 r0
(IntKind.wrap IntKind.u64
(stepV
(IntKind.wrap IntKind.u32
(ldW 1 (ldV M db ds (ofV ab ai aq ad [r0, r1, r2, r3, r4, r5, r6, r7]) 4 (mayV dr dw dx 0))
(getV 1 ar ad r0 r1 r2 r3 r4 r5 r6 r7 x0 x1 x2 x3 x4 x5 x6 x7)))
4 1))))),
Sv.v
(Value.int IntKind.u32
(ldW 1 r1
(setA 1 ar 1 r1
(IntKind.wrap IntKind.u64
(stepV
(IntKind.wrap IntKind.u32
(ldW 1 (ldV M db ds (ofV ab ai aq ad [r0, r1, r2, r3, r4, r5, r6, r7]) 4 (mayV dr dw dx 0))
(getV 1 ar ad r0 r1 r2 r3 r4 r5 r6 r7 x0 x1 x2 x3 x4 x5 x6 x7)))
4 1))))),
Sv.v
(Value.int IntKind.u32
(ldW 1 r2
(setA 1 ar 2 r2
(IntKind.wrap IntKind.u64
(stepV
(IntKind.wrap IntKind.u32
(ldW 1 (ldV M db ds (ofV ab ai aq ad [r0, r1, r2, r3, r4, r5, r6, r7]) 4 (mayV dr dw dx 0))
(getV 1 ar ad r0 r1 r2 r3 r4 r5 r6 r7 x0 x1 x2 x3 x4 x5 x6 x7)))
4 1))))),
Sv.v
(Value.int IntKind.u32
(ldW 1 r3
(setA 1 ar 3 r3
(IntKind.wrap IntKind.u64
(stepV
(IntKind.wrap IntKind.u32
(ldW 1 (ldV M db ds (ofV ab ai aq ad [r0, r1, r2, r3, r4, r5, r6, r7]) 4 (mayV dr dw dx 0))
(getV 1 ar ad r0 r1 r2 r3 r4 r5 r6 r7 x0 x1 x2 x3 x4 x5 x6 x7)))
4 1))))),
Sv.v
(Value.int IntKind.u32
(ldW 1 r4
(setB 1 ar 4 r4
(IntKind.wrap IntKind.u64
(stepV
(IntKind.wrap IntKind.u32
(ldW 1 (ldV M db ds (ofV ab ai aq ad [r0, r1, r2, r3, r4, r5, r6, r7]) 4 (mayV dr dw dx 0))
(getV 1 ar ad r0 r1 r2 r3 r4 r5 r6 r7 x0 x1 x2 x3 x4 x5 x6 x7)))
4 1))))),
Sv.v
(Value.int IntKind.u32
(ldW 1 r5
(setB 1 ar 5 r5
(IntKind.wrap IntKind.u64
(stepV
(IntKind.wrap IntKind.u32
(ldW 1 (ldV M db ds (ofV ab ai aq ad [r0, r1, r2, r3, r4, r5, r6, r7]) 4 (mayV dr dw dx 0))
(getV 1 ar ad r0 r1 r2 r3 r4 r5 r6 r7 x0 x1 x2 x3 x4 x5 x6 x7)))
4 1))))),
Sv.v
(Value.int IntKind.u32
(ldW 1 r6
(setB 1 ar 6 r6
(IntKind.wrap IntKind.u64
(stepV
(IntKind.wrap IntKind.u32
(ldW 1 (ldV M db ds (ofV ab ai aq ad [r0, r1, r2, r3, r4, r5, r6, r7]) 4 (mayV dr dw dx 0))
(getV 1 ar ad r0 r1 r2 r3 r4 r5 r6 r7 x0 x1 x2 x3 x4 x5 x6 x7)))
4 1))))),
Sv.v
(Value.int IntKind.u32
(ldW 1 r7
(setB 1 ar 7 r7
(IntKind.wrap IntKind.u64
(stepV
(IntKind.wrap IntKind.u32
(ldW 1 (ldV M db ds (ofV ab ai aq ad [r0, r1, r2, r3, r4, r5, r6, r7]) 4 (mayV dr dw dx 0))
(getV 1 ar ad r0 r1 r2 r3 r4 r5 r6 r7 x0 x1 x2 x3 x4 x5 x6 x7)))
4 1))))),
vw ip, vb fc,
Sv.v
(Value.bool
(parV
(stepV
(IntKind.wrap IntKind.u32
(ldW 1 (ldV M db ds (ofV ab ai aq ad [r0, r1, r2, r3, r4, r5, r6, r7]) 4 (mayV dr dw dx 0))
(getV 1 ar ad r0 r1 r2 r3 r4 r5 r6 r7 x0 x1 x2 x3 x4 x5 x6 x7)))
4 1))),
Sv.v
(Value.bool
(stepV
(IntKind.wrap IntKind.u32
(ldW 1 (ldV M db ds (ofV ab ai aq ad [r0, r1, r2, r3, r4, r5, r6, r7]) 4 (mayV dr dw dx 0))
(getV 1 ar ad r0 r1 r2 r3 r4 r5 r6 r7 x0 x1 x2 x3 x4 x5 x6 x7)))
4 1 ==
0)),
Sv.v
(Value.bool
(topV
(stepV
(IntKind.wrap IntKind.u32
(ldW 1 (ldV M db ds (ofV ab ai aq ad [r0, r1, r2, r3, r4, r5, r6, r7]) 4 (mayV dr dw dx 0))
(getV 1 ar ad r0 r1 r2 r3 r4 r5 r6 r7 x0 x1 x2 x3 x4 x5 x6 x7)))
4 1)
4)),
Sv.v
(Value.bool
(stepO
(IntKind.wrap IntKind.u32
(ldW 1 (ldV M db ds (ofV ab ai aq ad [r0, r1, r2, r3, r4, r5, r6, r7]) 4 (mayV dr dw dx 0))
(getV 1 ar ad r0 r1 r2 r3 r4 r5 r6 r7 x0 x1 x2 x3 x4 x5 x6 x7)))
4 1)),
vb fd,
Sv.v
(Value.int IntKind.u64
(ldW 1 x0
(setX 1 ar 0 x0
(IntKind.wrap IntKind.u64
(stepV
(IntKind.wrap IntKind.u32
(ldW 1 (ldV M db ds (ofV ab ai aq ad [r0, r1, r2, r3, r4, r5, r6, r7]) 4 (mayV dr dw dx 0))
(getV 1 ar ad r0 r1 r2 r3 r4 r5 r6 r7 x0 x1 x2 x3 x4 x5 x6 x7)))
4 1))))),
Sv.v
(Value.int IntKind.u64
(ldW 1 x1
(setX 1 ar 1 x1
(IntKind.wrap IntKind.u64
(stepV
(IntKind.wrap IntKind.u32
(ldW 1 (ldV M db ds (ofV ab ai aq ad [r0, r1, r2, r3, r4, r5, r6, r7]) 4 (mayV dr dw dx 0))
(getV 1 ar ad r0 r1 r2 r3 r4 r5 r6 r7 x0 x1 x2 x3 x4 x5 x6 x7)))
4 1))))),
Sv.v
(Value.int IntKind.u64
(ldW 1 x2
(setX 1 ar 2 x2
(IntKind.wrap IntKind.u64
(stepV
(IntKind.wrap IntKind.u32
(ldW 1 (ldV M db ds (ofV ab ai aq ad [r0, r1, r2, r3, r4, r5, r6, r7]) 4 (mayV dr dw dx 0))
(getV 1 ar ad r0 r1 r2 r3 r4 r5 r6 r7 x0 x1 x2 x3 x4 x5 x6 x7)))
4 1))))),
Sv.v
(Value.int IntKind.u64
(ldW 1 x3
(setX 1 ar 3 x3
(IntKind.wrap IntKind.u64
(stepV
(IntKind.wrap IntKind.u32
(ldW 1 (ldV M db ds (ofV ab ai aq ad [r0, r1, r2, r3, r4, r5, r6, r7]) 4 (mayV dr dw dx 0))
(getV 1 ar ad r0 r1 r2 r3 r4 r5 r6 r7 x0 x1 x2 x3 x4 x5 x6 x7)))
4 1))))),
Sv.v
(Value.int IntKind.u64
(ldW 1 x4
(setX 1 ar 4 x4
(IntKind.wrap IntKind.u64
(stepV
(IntKind.wrap IntKind.u32
(ldW 1 (ldV M db ds (ofV ab ai aq ad [r0, r1, r2, r3, r4, r5, r6, r7]) 4 (mayV dr dw dx 0))
(getV 1 ar ad r0 r1 r2 r3 r4 r5 r6 r7 x0 x1 x2 x3 x4 x5 x6 x7)))
4 1))))),
Sv.v
(Value.int IntKind.u64
(ldW 1 x5
(setX 1 ar 5 x5
(IntKind.wrap IntKind.u64
(stepV
(IntKind.wrap IntKind.u32
(ldW 1 (ldV M db ds (ofV ab ai aq ad [r0, r1, r2, r3, r4, r5, r6, r7]) 4 (mayV dr dw dx 0))
(getV 1 ar ad r0 r1 r2 r3 r4 r5 r6 r7 x0 x1 x2 x3 x4 x5 x6 x7)))
4 1))))),
Sv.v
(Value.int IntKind.u64
(ldW 1 x6
(setX 1 ar 6 x6
(IntKind.wrap IntKind.u64
(stepV
(IntKind.wrap IntKind.u32
(ldW 1 (ldV M db ds (ofV ab ai aq ad [r0, r1, r2, r3, r4, r5, r6, r7]) 4 (mayV dr dw dx 0))
(getV 1 ar ad r0 r1 r2 r3 r4 r5 r6 r7 x0 x1 x2 x3 x4 x5 x6 x7)))
4 1))))),
Sv.v
(Value.int IntKind.u64
(ldW 1 x7
(setX 1 ar 7 x7
(IntKind.wrap IntKind.u64
(stepV
(IntKind.wrap IntKind.u32
(ldW 1 (ldV M db ds (ofV ab ai aq ad [r0, r1, r2, r3, r4, r5, r6, r7]) 4 (mayV dr dw dx 0))
(getV 1 ar ad r0 r1 r2 r3 r4 r5 r6 r7 x0 x1 x2 x3 x4 x5 x6 x7)))
4 1)))))],
vi 0],
[SObj.cells
[Sv.ptr 1 0, vw cb, vw cs, vb cr,
vb cw, vb cx, vw db, vw ds,
vb dr, vb dw, vb dx]
T,
SObj.ext 0
(memW 1
(stV M db ds (ofV ab ai aq ad [r0, r1, r2, r3, r4, r5, r6, r7]) 4
(IntKind.wrap IntKind.u64
(stepV
(IntKind.wrap IntKind.u32
(ldW 1 (ldV M db ds (ofV ab ai aq ad [r0, r1, r2, r3, r4, r5, r6, r7]) 4 (mayV dr dw dx 0))
(getV 1 ar ad r0 r1 r2 r3 r4 r5 r6 r7 x0 x1 x2 x3 x4 x5 x6 x7)))
4 1))
(mayV dr dw dx 1))
M)])
else none
else none
else none) := by kernel_rfl
set_option maxHeartbeats 4000000 in
theorem al16_ev (cb cs : Int) (cr cw cx : Bool) (db ds : Int) (dr dw dx : Bool) (T : TypeId) (M : Int → Int) (r0 r1 r2 r3 r4 r5 r6 r7 ip : Int) (fc fp fz fs fo fd : Bool) (x0 x1 x2 x3 x4 x5 x6 x7 : Int) (cond : Int) (ar : Int) (ab : Int) (ai : Int) (aq : Int) (ad : Int) (bk : Int) (br : Int) (bb : Int) (bi : Int) (bq : Int) (bd : Int) (c : Int) (rep : Bool) (len : Int) (hg : (in32 r0 && (in32 r1 && (in32 r2 && (in32 r3 && (in32 r4 && (in32 r5 && (in32 r6 && (in32 r7 && (in32 db && (in32 ds && (in32 ad && (in32 bd && (in64 x0 && (in64 x1 && (in64 x2 && (in64 x3 && (in64 x4 && (in64 x5 && (in64 x6 && (in64 x7)))))))))))))))))))) = true) : guardE Try.prog ΓAe 400 alA alC Try.f34.results.toList 9 22 2 alCatch ([.ptr 0 0, .agg [.v (.int .u32 r0), .v (.int .u32 r1), .v (.int .u32 r2), .v (.int .u32 r3), .v (.int .u32 r4), .v (.int .u32 r5), .v (.int .u32 r6), .v (.int .u32 r7), .v (.int .u32 ip), .v (.bool fc), .v (.bool fp), .v (.bool fz), .v (.bool fs), .v (.bool fo), .v (.bool fd), .v (.int .u64 x0), .v (.int .u64 x1), .v (.int .u64 x2), .v (.int .u64 x3), .v (.int .u64 x4), .v (.int .u64 x5), .v (.int .u64 x6), .v (.int .u64 x7)], .agg [.v (.int .i64 16), .v (.int .i64 cond), .v (.int .i64 4), .v (.int .i64 1), .v (.int .i64 ar), .v (.int .i64 ab), .v (.int .i64 ai), .v (.int .i64 aq), .v (.int .u32 ad), .v (.int .i64 bk), .v (.int .i64 br), .v (.int .i64 bb), .v (.int .i64 bi), .v (.int .i64 bq), .v (.int .u32 bd), .v (.int .u32 c), .v (.bool rep), .v (.int .i64 len)]] ++ List.replicate (Try.f34.ntmps - 3) (.v undef)) [.cells [.ptr 1 0, .v (.int .u32 cb), .v (.int .u32 cs), .v (.bool cr), .v (.bool cw), .v (.bool cx), .v (.int .u32 db), .v (.int .u32 ds), .v (.bool dr), .v (.bool dw), .v (.bool dx)] T, .ext 0 M] = some ((Sv.tup [Sv.agg [vw ((ldW 1 r0 (setA 1 ar 0 r0 (IntKind.wrap IntKind.u64 (stepV (IntKind.wrap IntKind.u32 (ldW 1 (ldV M db ds (ofV ab ai aq ad [r0, r1, r2, r3, r4, r5, r6, r7]) 4 (mayV dr dw dx 0)) (getV 1 ar ad r0 r1 r2 r3 r4 r5 r6 r7 x0 x1 x2 x3 x4 x5 x6 x7))) 4 1))))), vw ((ldW 1 r1 (setA 1 ar 1 r1 (IntKind.wrap IntKind.u64 (stepV (IntKind.wrap IntKind.u32 (ldW 1 (ldV M db ds (ofV ab ai aq ad [r0, r1, r2, r3, r4, r5, r6, r7]) 4 (mayV dr dw dx 0)) (getV 1 ar ad r0 r1 r2 r3 r4 r5 r6 r7 x0 x1 x2 x3 x4 x5 x6 x7))) 4 1))))), vw ((ldW 1 r2 (setA 1 ar 2 r2 (IntKind.wrap IntKind.u64 (stepV (IntKind.wrap IntKind.u32 (ldW 1 (ldV M db ds (ofV ab ai aq ad [r0, r1, r2, r3, r4, r5, r6, r7]) 4 (mayV dr dw dx 0)) (getV 1 ar ad r0 r1 r2 r3 r4 r5 r6 r7 x0 x1 x2 x3 x4 x5 x6 x7))) 4 1))))), vw ((ldW 1 r3 (setA 1 ar 3 r3 (IntKind.wrap IntKind.u64 (stepV (IntKind.wrap IntKind.u32 (ldW 1 (ldV M db ds (ofV ab ai aq ad [r0, r1, r2, r3, r4, r5, r6, r7]) 4 (mayV dr dw dx 0)) (getV 1 ar ad r0 r1 r2 r3 r4 r5 r6 r7 x0 x1 x2 x3 x4 x5 x6 x7))) 4 1))))), vw ((ldW 1 r4 (setB 1 ar 4 r4 (IntKind.wrap IntKind.u64 (stepV (IntKind.wrap IntKind.u32 (ldW 1 (ldV M db ds (ofV ab ai aq ad [r0, r1, r2, r3, r4, r5, r6, r7]) 4 (mayV dr dw dx 0)) (getV 1 ar ad r0 r1 r2 r3 r4 r5 r6 r7 x0 x1 x2 x3 x4 x5 x6 x7))) 4 1))))), vw ((ldW 1 r5 (setB 1 ar 5 r5 (IntKind.wrap IntKind.u64 (stepV (IntKind.wrap IntKind.u32 (ldW 1 (ldV M db ds (ofV ab ai aq ad [r0, r1, r2, r3, r4, r5, r6, r7]) 4 (mayV dr dw dx 0)) (getV 1 ar ad r0 r1 r2 r3 r4 r5 r6 r7 x0 x1 x2 x3 x4 x5 x6 x7))) 4 1))))), vw ((ldW 1 r6 (setB 1 ar 6 r6 (IntKind.wrap IntKind.u64 (stepV (IntKind.wrap IntKind.u32 (ldW 1 (ldV M db ds (ofV ab ai aq ad [r0, r1, r2, r3, r4, r5, r6, r7]) 4 (mayV dr dw dx 0)) (getV 1 ar ad r0 r1 r2 r3 r4 r5 r6 r7 x0 x1 x2 x3 x4 x5 x6 x7))) 4 1))))), vw ((ldW 1 r7 (setB 1 ar 7 r7 (IntKind.wrap IntKind.u64 (stepV (IntKind.wrap IntKind.u32 (ldW 1 (ldV M db ds (ofV ab ai aq ad [r0, r1, r2, r3, r4, r5, r6, r7]) 4 (mayV dr dw dx 0)) (getV 1 ar ad r0 r1 r2 r3 r4 r5 r6 r7 x0 x1 x2 x3 x4 x5 x6 x7))) 4 1))))), vw ip, vb fc, vb ((parV (stepV (IntKind.wrap IntKind.u32 (ldW 1 (ldV M db ds (ofV ab ai aq ad [r0, r1, r2, r3, r4, r5, r6, r7]) 4 (mayV dr dw dx 0)) (getV 1 ar ad r0 r1 r2 r3 r4 r5 r6 r7 x0 x1 x2 x3 x4 x5 x6 x7))) 4 1))), vb ((stepV (IntKind.wrap IntKind.u32 (ldW 1 (ldV M db ds (ofV ab ai aq ad [r0, r1, r2, r3, r4, r5, r6, r7]) 4 (mayV dr dw dx 0)) (getV 1 ar ad r0 r1 r2 r3 r4 r5 r6 r7 x0 x1 x2 x3 x4 x5 x6 x7))) 4 1 == 0)), vb ((topV (stepV (IntKind.wrap IntKind.u32 (ldW 1 (ldV M db ds (ofV ab ai aq ad [r0, r1, r2, r3, r4, r5, r6, r7]) 4 (mayV dr dw dx 0)) (getV 1 ar ad r0 r1 r2 r3 r4 r5 r6 r7 x0 x1 x2 x3 x4 x5 x6 x7))) 4 1) 4)), vb ((stepO (IntKind.wrap IntKind.u32 (ldW 1 (ldV M db ds (ofV ab ai aq ad [r0, r1, r2, r3, r4, r5, r6, r7]) 4 (mayV dr dw dx 0)) (getV 1 ar ad r0 r1 r2 r3 r4 r5 r6 r7 x0 x1 x2 x3 x4 x5 x6 x7))) 4 1)), vb fd, vd ((ldW 1 x0 (setX 1 ar 0 x0 (IntKind.wrap IntKind.u64 (stepV (IntKind.wrap IntKind.u32 (ldW 1 (ldV M db ds (ofV ab ai aq ad [r0, r1, r2, r3, r4, r5, r6, r7]) 4 (mayV dr dw dx 0)) (getV 1 ar ad r0 r1 r2 r3 r4 r5 r6 r7 x0 x1 x2 x3 x4 x5 x6 x7))) 4 1))))), vd ((ldW 1 x1 (setX 1 ar 1 x1 (IntKind.wrap IntKind.u64 (stepV (IntKind.wrap IntKind.u32 (ldW 1 (ldV M db ds (ofV ab ai aq ad [r0, r1, r2, r3, r4, r5, r6, r7]) 4 (mayV dr dw dx 0)) (getV 1 ar ad r0 r1 r2 r3 r4 r5 r6 r7 x0 x1 x2 x3 x4 x5 x6 x7))) 4 1))))), vd ((ldW 1 x2 (setX 1 ar 2 x2 (IntKind.wrap IntKind.u64 (stepV (IntKind.wrap IntKind.u32 (ldW 1 (ldV M db ds (ofV ab ai aq ad [r0, r1, r2, r3, r4, r5, r6, r7]) 4 (mayV dr dw dx 0)) (getV 1 ar ad r0 r1 r2 r3 r4 r5 r6 r7 x0 x1 x2 x3 x4 x5 x6 x7))) 4 1))))), vd ((ldW 1 x3 (setX 1 ar 3 x3 (IntKind.wrap IntKind.u64 (stepV (IntKind.wrap IntKind.u32 (ldW 1 (ldV M db ds (ofV ab ai aq ad [r0, r1, r2, r3, r4, r5, r6, r7]) 4 (mayV dr dw dx 0)) (getV 1 ar ad r0 r1 r2 r3 r4 r5 r6 r7 x0 x1 x2 x3 x4 x5 x6 x7))) 4 1))))), vd ((ldW 1 x4 (setX 1 ar 4 x4 (IntKind.wrap IntKind.u64 (stepV (IntKind.wrap IntKind.u32 (ldW 1 (ldV M db ds (ofV ab ai aq ad [r0, r1, r2, r3, r4, r5, r6, r7]) 4 (mayV dr dw dx 0)) (getV 1 ar ad r0 r1 r2 r3 r4 r5 r6 r7 x0 x1 x2 x3 x4 x5 x6 x7))) 4 1))))), vd ((ldW 1 x5 (setX 1 ar 5 x5 (IntKind.wrap IntKind.u64 (stepV (IntKind.wrap IntKind.u32 (ldW 1 (ldV M db ds (ofV ab ai aq ad [r0, r1, r2, r3, r4, r5, r6, r7]) 4 (mayV dr dw dx 0)) (getV 1 ar ad r0 r1 r2 r3 r4 r5 r6 r7 x0 x1 x2 x3 x4 x5 x6 x7))) 4 1))))), vd ((ldW 1 x6 (setX 1 ar 6 x6 (IntKind.wrap IntKind.u64 (stepV (IntKind.wrap IntKind.u32 (ldW 1 (ldV M db ds (ofV ab ai aq ad [r0, r1, r2, r3, r4, r5, r6, r7]) 4 (mayV dr dw dx 0)) (getV 1 ar ad r0 r1 r2 r3 r4 r5 r6 r7 x0 x1 x2 x3 x4 x5 x6 x7))) 4 1))))), vd ((ldW 1 x7 (setX 1 ar 7 x7 (IntKind.wrap IntKind.u64 (stepV (IntKind.wrap IntKind.u32 (ldW 1 (ldV M db ds (ofV ab ai aq ad [r0, r1, r2, r3, r4, r5, r6, r7]) 4 (mayV dr dw dx 0)) (getV 1 ar ad r0 r1 r2 r3 r4 r5 r6 r7 x0 x1 x2 x3 x4 x5 x6 x7))) 4 1)))))], vi 0]), [.cells [.ptr 1 0, .v (.int .u32 cb), .v (.int .u32 cs), .v (.bool cr), .v (.bool cw), .v (.bool cx), .v (.int .u32 db), .v (.int .u32 ds), .v (.bool dr), .v (.bool dw), .v (.bool dx)] T, .ext 0 M]) := by
  rw [al16_form]
  simp only [Bool.and_eq_true] at hg
  simp only [hg, ofV_in, in32_wr, in64_wr, ldW_in64, ldV_in64, getV_in64, Bool.and_self, Bool.and_true, Bool.true_and, cond_true]
  rfl
-- al16
noncomputable def alpB (R : Type) (m : List SObj) (k : Sv → List SObj → Option R) (b : Nat) (g : Nat) (cb : Int) (cs : Int) (cr : Bool) (cw : Bool) (cx : Bool) (db : Int) (ds : Int) (dr : Bool) (dw : Bool) (dx : Bool) (T : TypeId) (M : Int → Int) (r0 : Int) (r1 : Int) (r2 : Int) (r3 : Int) (r4 : Int) (r5 : Int) (r6 : Int) (r7 : Int) (ip : Int) (fc : Bool) (fp : Bool) (fz : Bool) (fs : Bool) (fo : Bool) (fd : Bool) (x0 : Int) (x1 : Int) (x2 : Int) (x3 : Int) (x4 : Int) (x5 : Int) (x6 : Int) (x7 : Int) (op : Int) (cond : Int) (size : Int) (ak : Int) (ar : Int) (ab : Int) (ai : Int) (aq : Int) (ad : Int) (bk : Int) (br : Int) (bb : Int) (bi : Int) (bq : Int) (bd : Int) (c : Int) (rep : Bool) (len : Int) : Option R :=
  bif (in32 r0 && (in32 r1 && (in32 r2 && (in32 r3 && (in32 r4 && (in32 r5 && (in32 r6 && (in32 r7 && (in32 db && (in32 ds && (in32 ad && (in32 bd && (in64 x0 && (in64 x1 && (in64 x2 && (in64 x3 && (in64 x4 && (in64 x5 && (in64 x6 && (in64 x7)))))))))))))))))))) && !(b == g) then (bif (op == 16) && ((size == 4) && ((ak == 1))) then k ((Sv.tup [Sv.agg [vw ((ldW 1 r0 (setA 1 ar 0 r0 (IntKind.wrap IntKind.u64 (stepV (IntKind.wrap IntKind.u32 (ldW 1 (ldV M db ds (ofV ab ai aq ad [r0, r1, r2, r3, r4, r5, r6, r7]) 4 (mayV dr dw dx 0)) (getV 1 ar ad r0 r1 r2 r3 r4 r5 r6 r7 x0 x1 x2 x3 x4 x5 x6 x7))) 4 1))))), vw ((ldW 1 r1 (setA 1 ar 1 r1 (IntKind.wrap IntKind.u64 (stepV (IntKind.wrap IntKind.u32 (ldW 1 (ldV M db ds (ofV ab ai aq ad [r0, r1, r2, r3, r4, r5, r6, r7]) 4 (mayV dr dw dx 0)) (getV 1 ar ad r0 r1 r2 r3 r4 r5 r6 r7 x0 x1 x2 x3 x4 x5 x6 x7))) 4 1))))), vw ((ldW 1 r2 (setA 1 ar 2 r2 (IntKind.wrap IntKind.u64 (stepV (IntKind.wrap IntKind.u32 (ldW 1 (ldV M db ds (ofV ab ai aq ad [r0, r1, r2, r3, r4, r5, r6, r7]) 4 (mayV dr dw dx 0)) (getV 1 ar ad r0 r1 r2 r3 r4 r5 r6 r7 x0 x1 x2 x3 x4 x5 x6 x7))) 4 1))))), vw ((ldW 1 r3 (setA 1 ar 3 r3 (IntKind.wrap IntKind.u64 (stepV (IntKind.wrap IntKind.u32 (ldW 1 (ldV M db ds (ofV ab ai aq ad [r0, r1, r2, r3, r4, r5, r6, r7]) 4 (mayV dr dw dx 0)) (getV 1 ar ad r0 r1 r2 r3 r4 r5 r6 r7 x0 x1 x2 x3 x4 x5 x6 x7))) 4 1))))), vw ((ldW 1 r4 (setB 1 ar 4 r4 (IntKind.wrap IntKind.u64 (stepV (IntKind.wrap IntKind.u32 (ldW 1 (ldV M db ds (ofV ab ai aq ad [r0, r1, r2, r3, r4, r5, r6, r7]) 4 (mayV dr dw dx 0)) (getV 1 ar ad r0 r1 r2 r3 r4 r5 r6 r7 x0 x1 x2 x3 x4 x5 x6 x7))) 4 1))))), vw ((ldW 1 r5 (setB 1 ar 5 r5 (IntKind.wrap IntKind.u64 (stepV (IntKind.wrap IntKind.u32 (ldW 1 (ldV M db ds (ofV ab ai aq ad [r0, r1, r2, r3, r4, r5, r6, r7]) 4 (mayV dr dw dx 0)) (getV 1 ar ad r0 r1 r2 r3 r4 r5 r6 r7 x0 x1 x2 x3 x4 x5 x6 x7))) 4 1))))), vw ((ldW 1 r6 (setB 1 ar 6 r6 (IntKind.wrap IntKind.u64 (stepV (IntKind.wrap IntKind.u32 (ldW 1 (ldV M db ds (ofV ab ai aq ad [r0, r1, r2, r3, r4, r5, r6, r7]) 4 (mayV dr dw dx 0)) (getV 1 ar ad r0 r1 r2 r3 r4 r5 r6 r7 x0 x1 x2 x3 x4 x5 x6 x7))) 4 1))))), vw ((ldW 1 r7 (setB 1 ar 7 r7 (IntKind.wrap IntKind.u64 (stepV (IntKind.wrap IntKind.u32 (ldW 1 (ldV M db ds (ofV ab ai aq ad [r0, r1, r2, r3, r4, r5, r6, r7]) 4 (mayV dr dw dx 0)) (getV 1 ar ad r0 r1 r2 r3 r4 r5 r6 r7 x0 x1 x2 x3 x4 x5 x6 x7))) 4 1))))), vw ip, vb fc, vb ((parV (stepV (IntKind.wrap IntKind.u32 (ldW 1 (ldV M db ds (ofV ab ai aq ad [r0, r1, r2, r3, r4, r5, r6, r7]) 4 (mayV dr dw dx 0)) (getV 1 ar ad r0 r1 r2 r3 r4 r5 r6 r7 x0 x1 x2 x3 x4 x5 x6 x7))) 4 1))), vb ((stepV (IntKind.wrap IntKind.u32 (ldW 1 (ldV M db ds (ofV ab ai aq ad [r0, r1, r2, r3, r4, r5, r6, r7]) 4 (mayV dr dw dx 0)) (getV 1 ar ad r0 r1 r2 r3 r4 r5 r6 r7 x0 x1 x2 x3 x4 x5 x6 x7))) 4 1 == 0)), vb ((topV (stepV (IntKind.wrap IntKind.u32 (ldW 1 (ldV M db ds (ofV ab ai aq ad [r0, r1, r2, r3, r4, r5, r6, r7]) 4 (mayV dr dw dx 0)) (getV 1 ar ad r0 r1 r2 r3 r4 r5 r6 r7 x0 x1 x2 x3 x4 x5 x6 x7))) 4 1) 4)), vb ((stepO (IntKind.wrap IntKind.u32 (ldW 1 (ldV M db ds (ofV ab ai aq ad [r0, r1, r2, r3, r4, r5, r6, r7]) 4 (mayV dr dw dx 0)) (getV 1 ar ad r0 r1 r2 r3 r4 r5 r6 r7 x0 x1 x2 x3 x4 x5 x6 x7))) 4 1)), vb fd, vd ((ldW 1 x0 (setX 1 ar 0 x0 (IntKind.wrap IntKind.u64 (stepV (IntKind.wrap IntKind.u32 (ldW 1 (ldV M db ds (ofV ab ai aq ad [r0, r1, r2, r3, r4, r5, r6, r7]) 4 (mayV dr dw dx 0)) (getV 1 ar ad r0 r1 r2 r3 r4 r5 r6 r7 x0 x1 x2 x3 x4 x5 x6 x7))) 4 1))))), vd ((ldW 1 x1 (setX 1 ar 1 x1 (IntKind.wrap IntKind.u64 (stepV (IntKind.wrap IntKind.u32 (ldW 1 (ldV M db ds (ofV ab ai aq ad [r0, r1, r2, r3, r4, r5, r6, r7]) 4 (mayV dr dw dx 0)) (getV 1 ar ad r0 r1 r2 r3 r4 r5 r6 r7 x0 x1 x2 x3 x4 x5 x6 x7))) 4 1))))), vd ((ldW 1 x2 (setX 1 ar 2 x2 (IntKind.wrap IntKind.u64 (stepV (IntKind.wrap IntKind.u32 (ldW 1 (ldV M db ds (ofV ab ai aq ad [r0, r1, r2, r3, r4, r5, r6, r7]) 4 (mayV dr dw dx 0)) (getV 1 ar ad r0 r1 r2 r3 r4 r5 r6 r7 x0 x1 x2 x3 x4 x5 x6 x7))) 4 1))))), vd ((ldW 1 x3 (setX 1 ar 3 x3 (IntKind.wrap IntKind.u64 (stepV (IntKind.wrap IntKind.u32 (ldW 1 (ldV M db ds (ofV ab ai aq ad [r0, r1, r2, r3, r4, r5, r6, r7]) 4 (mayV dr dw dx 0)) (getV 1 ar ad r0 r1 r2 r3 r4 r5 r6 r7 x0 x1 x2 x3 x4 x5 x6 x7))) 4 1))))), vd ((ldW 1 x4 (setX 1 ar 4 x4 (IntKind.wrap IntKind.u64 (stepV (IntKind.wrap IntKind.u32 (ldW 1 (ldV M db ds (ofV ab ai aq ad [r0, r1, r2, r3, r4, r5, r6, r7]) 4 (mayV dr dw dx 0)) (getV 1 ar ad r0 r1 r2 r3 r4 r5 r6 r7 x0 x1 x2 x3 x4 x5 x6 x7))) 4 1))))), vd ((ldW 1 x5 (setX 1 ar 5 x5 (IntKind.wrap IntKind.u64 (stepV (IntKind.wrap IntKind.u32 (ldW 1 (ldV M db ds (ofV ab ai aq ad [r0, r1, r2, r3, r4, r5, r6, r7]) 4 (mayV dr dw dx 0)) (getV 1 ar ad r0 r1 r2 r3 r4 r5 r6 r7 x0 x1 x2 x3 x4 x5 x6 x7))) 4 1))))), vd ((ldW 1 x6 (setX 1 ar 6 x6 (IntKind.wrap IntKind.u64 (stepV (IntKind.wrap IntKind.u32 (ldW 1 (ldV M db ds (ofV ab ai aq ad [r0, r1, r2, r3, r4, r5, r6, r7]) 4 (mayV dr dw dx 0)) (getV 1 ar ad r0 r1 r2 r3 r4 r5 r6 r7 x0 x1 x2 x3 x4 x5 x6 x7))) 4 1))))), vd ((ldW 1 x7 (setX 1 ar 7 x7 (IntKind.wrap IntKind.u64 (stepV (IntKind.wrap IntKind.u32 (ldW 1 (ldV M db ds (ofV ab ai aq ad [r0, r1, r2, r3, r4, r5, r6, r7]) 4 (mayV dr dw dx 0)) (getV 1 ar ad r0 r1 r2 r3 r4 r5 r6 r7 x0 x1 x2 x3 x4 x5 x6 x7))) 4 1)))))], vi 0])) (((m.set b (.cells [.ptr g 0, .v (.int .u32 cb), .v (.int .u32 cs), .v (.bool cr), .v (.bool cw), .v (.bool cx), .v (.int .u32 db), .v (.int .u32 ds), .v (.bool dr), .v (.bool dw), .v (.bool dx)] T)).set g (.ext 0 M)) ++ []) else none) else none
noncomputable def alpS : Ev.Spec := fun R args m k kp => match args with
  | [.ptr b 0, .agg A0, .agg A1] => (match A0 with
    | [.v (.int .u32 r0), .v (.int .u32 r1), .v (.int .u32 r2), .v (.int .u32 r3), .v (.int .u32 r4), .v (.int .u32 r5), .v (.int .u32 r6), .v (.int .u32 r7), .v (.int .u32 ip), .v (.bool fc), .v (.bool fp), .v (.bool fz), .v (.bool fs), .v (.bool fo), .v (.bool fd), .v (.int .u64 x0), .v (.int .u64 x1), .v (.int .u64 x2), .v (.int .u64 x3), .v (.int .u64 x4), .v (.int .u64 x5), .v (.int .u64 x6), .v (.int .u64 x7)] => (match A1 with
    | [.v (.int .i64 op), .v (.int .i64 cond), .v (.int .i64 size), .v (.int .i64 ak), .v (.int .i64 ar), .v (.int .i64 ab), .v (.int .i64 ai), .v (.int .i64 aq), .v (.int .u32 ad), .v (.int .i64 bk), .v (.int .i64 br), .v (.int .i64 bb), .v (.int .i64 bi), .v (.int .i64 bq), .v (.int .u32 bd), .v (.int .u32 c), .v (.bool rep), .v (.int .i64 len)] => (match m[b]? with
    | some (.cells [.ptr g 0, .v (.int .u32 cb), .v (.int .u32 cs), .v (.bool cr), .v (.bool cw), .v (.bool cx), .v (.int .u32 db), .v (.int .u32 ds), .v (.bool dr), .v (.bool dw), .v (.bool dx)] T) => (match m[g]? with
      | some (.ext 0 M) => alpB R m k b g cb cs cr cw cx db ds dr dw dx T M r0 r1 r2 r3 r4 r5 r6 r7 ip fc fp fz fs fo fd x0 x1 x2 x3 x4 x5 x6 x7 op cond size ak ar ab ai aq ad bk br bb bi bq bd c rep len
      | _ => none)
    | _ => none)
    | _ => none)
    | _ => none)
  | _ => none
set_option maxHeartbeats 4000000 in
theorem alpS_ok : SpecOk Try.prog XM 34 alpS := by
  intro R args m k kp r h
  unfold alpS at h
  split at h
  · split at h
    · split at h
      · split at h
        · split at h
          · rename_i _ b _ r0 r1 r2 r3 r4 r5 r6 r7 ip fc fp fz fs fo fd x0 x1 x2 x3 x4 x5 x6 x7 _ op cond size ak ar ab ai aq ad bk br bb bi bq bd c rep len _ g cb cs cr cw cx db ds dr dw dx T hb _ M hg
            unfold alpB at h
            obtain ⟨hc, h⟩ := cond_some h
            rw [Bool.and_eq_true] at hc
            have hbg : ¬ b = g := by simpa using hc.2
            rcases cond_two h with ⟨hq, h⟩ | ⟨hq, h⟩
            · simp only [Bool.and_eq_true, beq_iff_eq] at hq
              obtain ⟨rfl, rfl, rfl⟩ := hq
              exact .inl ⟨_, _, h, (aluDoR ΓAe_ok (al16_ev cb cs cr cw cx db ds dr dw dx T M r0 r1 r2 r3 r4 r5 r6 r7 ip fc fp fz fs fo fd x0 x1 x2 x3 x4 x5 x6 x7 cond ar ab ai aq ad bk br bb bi bq bd c rep len hc.1) rfl rfl rfl rfl).frameL [b, g] (by simpa using hbg) ⟨hb, hg, trivial⟩ rfl rfl rfl rfl rfl rfl rfl⟩
            cases h
          · cases h
        · cases h
      · cases h
    · cases h
  · cases h
noncomputable def ΓAp : Env := (ΓAe.add 34 alpS)
theorem ΓAp_ok : EnvOk Try.prog X0 ΓAp := (ΓAe_ok.add (by kernel_rfl) alpS_ok)
end Go.Proofs.Ytpgdpoloipifeaa
