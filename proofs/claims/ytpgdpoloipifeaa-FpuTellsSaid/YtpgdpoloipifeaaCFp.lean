/- What an instruction of doubles comes to. -/
import Derived.Test.YtpgdpoloipifeaaEvV
import Derived.Test.YtpgdpoloipifeaaCFe
namespace Go.Proofs.Ytpgdpoloipifeaa
open Go Go.Ev
set_option linter.unusedVariables false
set_option linter.unusedSimpArgs false
set_option maxRecDepth 100000
noncomputable abbrev cCFpz2 (r0 r1 r2 r3 r4 r5 r6 r7 ip : Int) (fc fp fz fs fo fd : Bool) (x0 x1 x2 x3 x4 x5 x6 x7 : Int) : List Sv := [.v (.int .u32 r0), .v (.int .u32 r1), .v (.int .u32 r2), .v (.int .u32 r3), .v (.int .u32 r4), .v (.int .u32 r5), .v (.int .u32 r6), .v (.int .u32 r7), .v (.int .u32 ip), .v (.bool fc), .v (.bool fp), .v (.bool fz), .v (.bool fs), .v (.bool fo), .v (.bool fd), .v (.int .u64 x0), .v (.int .u64 x1), .v (.int .u64 x2), .v (.int .u64 x3), .v (.int .u64 x4), .v (.int .u64 x5), .v (.int .u64 x6), .v (.int .u64 x7)]
noncomputable abbrev cCFpz3 (op cond size ak ar ab ai aq ad bk br bb bi bq bd c : Int) (rep : Bool) (len : Int) : List Sv := [.v (.int .i64 op), .v (.int .i64 cond), .v (.int .i64 size), .v (.int .i64 ak), .v (.int .i64 ar), .v (.int .i64 ab), .v (.int .i64 ai), .v (.int .i64 aq), .v (.int .u32 ad), .v (.int .i64 bk), .v (.int .i64 br), .v (.int .i64 bb), .v (.int .i64 bi), .v (.int .i64 bq), .v (.int .u32 bd), .v (.int .u32 c), .v (.bool rep), .v (.int .i64 len)]
noncomputable abbrev cCFpz4 (cb cs : Int) (cr cw cx : Bool) (db ds : Int) (dr dw dx : Bool) : List Sv := [.ptr 1 0, .v (.int .u32 cb), .v (.int .u32 cs), .v (.bool cr), .v (.bool cw), .v (.bool cx), .v (.int .u32 db), .v (.int .u32 ds), .v (.bool dr), .v (.bool dw), .v (.bool dx)]
noncomputable def fpPT (cb cs : Int) (cr cw cx : Bool) (db ds : Int) (dr dw dx : Bool) (T : TypeId) (M : Int → Int) (r0 r1 r2 r3 r4 r5 r6 r7 ip : Int) (fc fp fz fs fo fd : Bool) (x0 x1 x2 x3 x4 x5 x6 x7 op cond size ak ar ab ai aq ad bk br bb bi bq bd c : Int) (rep : Bool) (len : Int) : Option (Sv × List SObj) := lockI r0 (evF Try.prog ΓFe 400 26 [.ptr 0 0, .agg (cCFpz2 r0 r1 r2 r3 r4 r5 r6 r7 ip fc fp fz fs fo fd x0 x1 x2 x3 x4 x5 x6 x7), .agg (cCFpz3 op cond size ak ar ab ai aq ad bk br bb bi bq bd c rep len)] [.cells (cCFpz4 cb cs cr cw cx db ds dr dw dx) T, .ext 0 M] (kTk 2) kNo)
noncomputable abbrev cCFpz0 (cb cs : Int) (cr cw cx : Bool) (db ds : Int) (dr dw dx : Bool) : List Sv := [Sv.ptr 1 0, vw cb, vw cs, vb cr, vb cw, vb cx, vw db, vw ds, vb dr, vb dw, vb dx]
noncomputable abbrev cCFpz1 (r0 r1 r2 r3 r4 r5 r6 r7 ip : Int) (fc fp fz fs fo fd : Bool) (x0 x1 x2 x3 x4 x5 x6 x7 : Int) : List Sv := [vw r0, vw r1, vw r2, vw r3, vw r4, vw r5, vw r6, vw r7, vw ip, vb fc, vb fp, vb fz, vb fs, vb fo, vb fd, vd x0, vd x1, vd x2, vd x3, vd x4, vd x5, vd x6, vd x7]
theorem fpP_tree (cb cs : Int) (cr cw cx : Bool) (db ds : Int) (dr dw dx : Bool) (T : TypeId) (M : Int → Int) (r0 r1 r2 r3 r4 r5 r6 r7 ip : Int) (fc fp fz fs fo fd : Bool) (x0 x1 x2 x3 x4 x5 x6 x7 op cond size ak ar ab ai aq ad bk br bb bi bq bd c : Int) (rep : Bool) (len : Int) : fpPT cb cs cr cw cx db ds dr dw dx T M r0 r1 r2 r3 r4 r5 r6 r7 ip fc fp fz fs fo fd x0 x1 x2 x3 x4 x5 x6 x7 op cond size ak ar ab ai aq ad bk br bb bi bq bd c rep len = (bif op == 59 then
bif ak == 5 then
bif
in32 r0 &&
(in32 r1 &&
(in32 r2 && (in32 r3 && (in32 r4 && (in32 r5 && (in32 r6 && (in32 r7 && (in32 ad && (in32 db && in32 ds))))))))) &&
true then
bif
in32 r0 &&
(in32 r1 &&
(in32 r2 && (in32 r3 && (in32 r4 && (in32 r5 && (in32 r6 && (in32 r7 && (in32 bd && (in32 db && in32 ds))))))))) &&
true then
bif !erW bk (segE db ds (ofV bb bi bq bd [r0, r1, r2, r3, r4, r5, r6, r7]) 4 (mayV dr dw dx 0)) == 0 then
some
(Sv.tup
[Sv.agg
(cCFpz1 r0 r1 r2 r3 r4 r5 r6 r7 ip fc fp fz fs fo fd x0 x1 x2 x3 x4 x5 x6 x7),
vi 2],
[SObj.cells
(cCFpz0 cb cs cr cw cx db ds dr dw dx)
T,
SObj.ext 0 M])
else
bif op == 61 then
bif
in64
(ldW ak (ldV M db ds (ofV ab ai aq ad [r0, r1, r2, r3, r4, r5, r6, r7]) 8 (mayV dr dw dx 0))
(getV ak ar ad r0 r1 r2 r3 r4 r5 r6 r7 x0 x1 x2 x3 x4 x5 x6 x7)) &&
in64
(ldW bk (ldV M db ds (ofV bb bi bq bd [r0, r1, r2, r3, r4, r5, r6, r7]) 4 (mayV dr dw dx 0))
(getV bk br bd r0 r1 r2 r3 r4 r5 r6 r7 x0 x1 x2 x3 x4 x5 x6 x7)) then
some
(Sv.tup
[Sv.agg
[vw r0, vw r1, vw r2,
vw r3, vw r4, vw r5,
vw r6, vw r7, vw ip,
Sv.v
(Value.bool
(cC
(ldW ak (ldV M db ds (ofV ab ai aq ad [r0, r1, r2, r3, r4, r5, r6, r7]) 8 (mayV dr dw dx 0))
(getV ak ar ad r0 r1 r2 r3 r4 r5 r6 r7 x0 x1 x2 x3 x4 x5 x6 x7))
(ldW bk (ldV M db ds (ofV bb bi bq bd [r0, r1, r2, r3, r4, r5, r6, r7]) 4 (mayV dr dw dx 0))
(getV bk br bd r0 r1 r2 r3 r4 r5 r6 r7 x0 x1 x2 x3 x4 x5 x6 x7)))),
Sv.v
(Value.bool
(cP
(ldW ak (ldV M db ds (ofV ab ai aq ad [r0, r1, r2, r3, r4, r5, r6, r7]) 8 (mayV dr dw dx 0))
(getV ak ar ad r0 r1 r2 r3 r4 r5 r6 r7 x0 x1 x2 x3 x4 x5 x6 x7))
(ldW bk (ldV M db ds (ofV bb bi bq bd [r0, r1, r2, r3, r4, r5, r6, r7]) 4 (mayV dr dw dx 0))
(getV bk br bd r0 r1 r2 r3 r4 r5 r6 r7 x0 x1 x2 x3 x4 x5 x6 x7)))),
Sv.v
(Value.bool
(cZ
(ldW ak (ldV M db ds (ofV ab ai aq ad [r0, r1, r2, r3, r4, r5, r6, r7]) 8 (mayV dr dw dx 0))
(getV ak ar ad r0 r1 r2 r3 r4 r5 r6 r7 x0 x1 x2 x3 x4 x5 x6 x7))
(ldW bk (ldV M db ds (ofV bb bi bq bd [r0, r1, r2, r3, r4, r5, r6, r7]) 4 (mayV dr dw dx 0))
(getV bk br bd r0 r1 r2 r3 r4 r5 r6 r7 x0 x1 x2 x3 x4 x5 x6 x7)))),
vb false, vb false, vb fd, vd x0,
vd x1, vd x2, vd x3,
vd x4, vd x5, vd x6,
vd x7],
vi 0],
[SObj.cells
(cCFpz0 cb cs cr cw cx db ds dr dw dx)
T,
SObj.ext 0 M])
else none
else
bif op == 59 then
bif
in32
(IntKind.wrap IntKind.u32
(ldW bk (ldV M db ds (ofV bb bi bq bd [r0, r1, r2, r3, r4, r5, r6, r7]) 4 (mayV dr dw dx 0))
(getV bk br bd r0 r1 r2 r3 r4 r5 r6 r7 x0 x1 x2 x3 x4 x5 x6 x7))) then
bif
in32 r0 &&
(in32 r1 &&
(in32 r2 &&
(in32 r3 &&
(in32 r4 &&
(in32 r5 &&
(in32 r6 &&
(in32 r7 &&
(in32 ad &&
(in32 db &&
(in32 ds &&
in64
(fromV
(IntKind.wrap IntKind.u32
(ldW bk (ldV M db ds (ofV bb bi bq bd [r0, r1, r2, r3, r4, r5, r6, r7]) 4 (mayV dr dw dx 0))
(getV bk br bd r0 r1 r2 r3 r4 r5 r6 r7 x0 x1 x2 x3 x4 x5 x6 x7)))))))))))))) &&
true then
bif erW ak (segE db ds (ofV ab ai aq ad [r0, r1, r2, r3, r4, r5, r6, r7]) 8 (mayV dr dw dx 1)) != 0 then
some
(Sv.tup
[Sv.agg
(cCFpz1 r0 r1 r2 r3 r4 r5 r6 r7 ip fc fp fz fs fo fd x0 x1 x2 x3 x4 x5 x6 x7),
vi 2],
[SObj.cells
(cCFpz0 cb cs cr cw cx db ds dr dw dx)
T,
SObj.ext 0
(memW ak
(stV M db ds (ofV ab ai aq ad [r0, r1, r2, r3, r4, r5, r6, r7]) 8
(fromV
(IntKind.wrap IntKind.u32
(ldW bk (ldV M db ds (ofV bb bi bq bd [r0, r1, r2, r3, r4, r5, r6, r7]) 4 (mayV dr dw dx 0))
(getV bk br bd r0 r1 r2 r3 r4 r5 r6 r7 x0 x1 x2 x3 x4 x5 x6 x7))))
(mayV dr dw dx 1))
M)])
else
some
(Sv.tup
[Sv.agg
[Sv.v
(Value.int IntKind.u32
(ldW ak r0
(setA ak ar 0 r0
(fromV
(IntKind.wrap IntKind.u32
(ldW bk (ldV M db ds (ofV bb bi bq bd [r0, r1, r2, r3, r4, r5, r6, r7]) 4 (mayV dr dw dx 0))
(getV bk br bd r0 r1 r2 r3 r4 r5 r6 r7 x0 x1 x2 x3 x4 x5 x6 x7))))))),
Sv.v
(Value.int IntKind.u32
(ldW ak r1
(setA ak ar 1 r1
(fromV
(IntKind.wrap IntKind.u32
(ldW bk (ldV M db ds (ofV bb bi bq bd [r0, r1, r2, r3, r4, r5, r6, r7]) 4 (mayV dr dw dx 0))
(getV bk br bd r0 r1 r2 r3 r4 r5 r6 r7 x0 x1 x2 x3 x4 x5 x6 x7))))))),
Sv.v
(Value.int IntKind.u32
(ldW ak r2
(setA ak ar 2 r2
(fromV
(IntKind.wrap IntKind.u32
(ldW bk (ldV M db ds (ofV bb bi bq bd [r0, r1, r2, r3, r4, r5, r6, r7]) 4 (mayV dr dw dx 0))
(getV bk br bd r0 r1 r2 r3 r4 r5 r6 r7 x0 x1 x2 x3 x4 x5 x6 x7))))))),
Sv.v
(Value.int IntKind.u32
(ldW ak r3
(setA ak ar 3 r3
(fromV
(IntKind.wrap IntKind.u32
(ldW bk (ldV M db ds (ofV bb bi bq bd [r0, r1, r2, r3, r4, r5, r6, r7]) 4 (mayV dr dw dx 0))
(getV bk br bd r0 r1 r2 r3 r4 r5 r6 r7 x0 x1 x2 x3 x4 x5 x6 x7))))))),
Sv.v
(Value.int IntKind.u32
(ldW ak r4
(setB ak ar 4 r4
(fromV
(IntKind.wrap IntKind.u32
(ldW bk (ldV M db ds (ofV bb bi bq bd [r0, r1, r2, r3, r4, r5, r6, r7]) 4 (mayV dr dw dx 0))
(getV bk br bd r0 r1 r2 r3 r4 r5 r6 r7 x0 x1 x2 x3 x4 x5 x6 x7))))))),
Sv.v
(Value.int IntKind.u32
(ldW ak r5
(setB ak ar 5 r5
(fromV
(IntKind.wrap IntKind.u32
(ldW bk (ldV M db ds (ofV bb bi bq bd [r0, r1, r2, r3, r4, r5, r6, r7]) 4 (mayV dr dw dx 0))
(getV bk br bd r0 r1 r2 r3 r4 r5 r6 r7 x0 x1 x2 x3 x4 x5 x6 x7))))))),
Sv.v
(Value.int IntKind.u32
(ldW ak r6
(setB ak ar 6 r6
(fromV
(IntKind.wrap IntKind.u32
(ldW bk (ldV M db ds (ofV bb bi bq bd [r0, r1, r2, r3, r4, r5, r6, r7]) 4 (mayV dr dw dx 0))
(getV bk br bd r0 r1 r2 r3 r4 r5 r6 r7 x0 x1 x2 x3 x4 x5 x6 x7))))))),
Sv.v
(Value.int IntKind.u32
(ldW ak r7
(setB ak ar 7 r7
(fromV
(IntKind.wrap IntKind.u32
(ldW bk (ldV M db ds (ofV bb bi bq bd [r0, r1, r2, r3, r4, r5, r6, r7]) 4 (mayV dr dw dx 0))
(getV bk br bd r0 r1 r2 r3 r4 r5 r6 r7 x0 x1 x2 x3 x4 x5 x6 x7))))))),
vw ip, vb fc, vb fp, vb fz, vb fs,
vb fo, vb fd,
Sv.v
(Value.int IntKind.u64
(ldW ak x0
(setX ak ar 0 x0
(fromV
(IntKind.wrap IntKind.u32
(ldW bk (ldV M db ds (ofV bb bi bq bd [r0, r1, r2, r3, r4, r5, r6, r7]) 4 (mayV dr dw dx 0))
(getV bk br bd r0 r1 r2 r3 r4 r5 r6 r7 x0 x1 x2 x3 x4 x5 x6 x7))))))),
Sv.v
(Value.int IntKind.u64
(ldW ak x1
(setX ak ar 1 x1
(fromV
(IntKind.wrap IntKind.u32
(ldW bk (ldV M db ds (ofV bb bi bq bd [r0, r1, r2, r3, r4, r5, r6, r7]) 4 (mayV dr dw dx 0))
(getV bk br bd r0 r1 r2 r3 r4 r5 r6 r7 x0 x1 x2 x3 x4 x5 x6 x7))))))),
Sv.v
(Value.int IntKind.u64
(ldW ak x2
(setX ak ar 2 x2
(fromV
(IntKind.wrap IntKind.u32
(ldW bk (ldV M db ds (ofV bb bi bq bd [r0, r1, r2, r3, r4, r5, r6, r7]) 4 (mayV dr dw dx 0))
(getV bk br bd r0 r1 r2 r3 r4 r5 r6 r7 x0 x1 x2 x3 x4 x5 x6 x7))))))),
Sv.v
(Value.int IntKind.u64
(ldW ak x3
(setX ak ar 3 x3
(fromV
(IntKind.wrap IntKind.u32
(ldW bk (ldV M db ds (ofV bb bi bq bd [r0, r1, r2, r3, r4, r5, r6, r7]) 4 (mayV dr dw dx 0))
(getV bk br bd r0 r1 r2 r3 r4 r5 r6 r7 x0 x1 x2 x3 x4 x5 x6 x7))))))),
Sv.v
(Value.int IntKind.u64
(ldW ak x4
(setX ak ar 4 x4
(fromV
(IntKind.wrap IntKind.u32
(ldW bk (ldV M db ds (ofV bb bi bq bd [r0, r1, r2, r3, r4, r5, r6, r7]) 4 (mayV dr dw dx 0))
(getV bk br bd r0 r1 r2 r3 r4 r5 r6 r7 x0 x1 x2 x3 x4 x5 x6 x7))))))),
Sv.v
(Value.int IntKind.u64
(ldW ak x5
(setX ak ar 5 x5
(fromV
(IntKind.wrap IntKind.u32
(ldW bk (ldV M db ds (ofV bb bi bq bd [r0, r1, r2, r3, r4, r5, r6, r7]) 4 (mayV dr dw dx 0))
(getV bk br bd r0 r1 r2 r3 r4 r5 r6 r7 x0 x1 x2 x3 x4 x5 x6 x7))))))),
Sv.v
(Value.int IntKind.u64
(ldW ak x6
(setX ak ar 6 x6
(fromV
(IntKind.wrap IntKind.u32
(ldW bk (ldV M db ds (ofV bb bi bq bd [r0, r1, r2, r3, r4, r5, r6, r7]) 4 (mayV dr dw dx 0))
(getV bk br bd r0 r1 r2 r3 r4 r5 r6 r7 x0 x1 x2 x3 x4 x5 x6 x7))))))),
Sv.v
(Value.int IntKind.u64
(ldW ak x7
(setX ak ar 7 x7
(fromV
(IntKind.wrap IntKind.u32
(ldW bk (ldV M db ds (ofV bb bi bq bd [r0, r1, r2, r3, r4, r5, r6, r7]) 4 (mayV dr dw dx 0))
(getV bk br bd r0 r1 r2 r3 r4 r5 r6 r7 x0 x1 x2 x3 x4 x5 x6 x7)))))))],
vi 0],
[SObj.cells
(cCFpz0 cb cs cr cw cx db ds dr dw dx)
T,
SObj.ext 0
(memW ak
(stV M db ds (ofV ab ai aq ad [r0, r1, r2, r3, r4, r5, r6, r7]) 8
(fromV
(IntKind.wrap IntKind.u32
(ldW bk (ldV M db ds (ofV bb bi bq bd [r0, r1, r2, r3, r4, r5, r6, r7]) 4 (mayV dr dw dx 0))
(getV bk br bd r0 r1 r2 r3 r4 r5 r6 r7 x0 x1 x2 x3 x4 x5 x6 x7))))
(mayV dr dw dx 1))
M)])
else none
else none
else
bif op == 60 then
bif
in64
(ldW bk (ldV M db ds (ofV bb bi bq bd [r0, r1, r2, r3, r4, r5, r6, r7]) 4 (mayV dr dw dx 0))
(getV bk br bd r0 r1 r2 r3 r4 r5 r6 r7 x0 x1 x2 x3 x4 x5 x6 x7)) then
bif
in32 r0 &&
(in32 r1 &&
(in32 r2 &&
(in32 r3 &&
(in32 r4 &&
(in32 r5 &&
(in32 r6 &&
(in32 r7 &&
(in32 ad &&
(in32 db &&
(in32 ds &&
in64
(IntKind.wrap IntKind.u64
(toV
(ldW bk (ldV M db ds (ofV bb bi bq bd [r0, r1, r2, r3, r4, r5, r6, r7]) 4 (mayV dr dw dx 0))
(getV bk br bd r0 r1 r2 r3 r4 r5 r6 r7 x0 x1 x2 x3 x4 x5 x6 x7)))))))))))))) &&
true then
bif erW ak (segE db ds (ofV ab ai aq ad [r0, r1, r2, r3, r4, r5, r6, r7]) 8 (mayV dr dw dx 1)) != 0 then
some
(Sv.tup
[Sv.agg
(cCFpz1 r0 r1 r2 r3 r4 r5 r6 r7 ip fc fp fz fs fo fd x0 x1 x2 x3 x4 x5 x6 x7),
vi 2],
[SObj.cells
(cCFpz0 cb cs cr cw cx db ds dr dw dx)
T,
SObj.ext 0
(memW ak
(stV M db ds (ofV ab ai aq ad [r0, r1, r2, r3, r4, r5, r6, r7]) 8
(IntKind.wrap IntKind.u64
(toV
(ldW bk (ldV M db ds (ofV bb bi bq bd [r0, r1, r2, r3, r4, r5, r6, r7]) 4 (mayV dr dw dx 0))
(getV bk br bd r0 r1 r2 r3 r4 r5 r6 r7 x0 x1 x2 x3 x4 x5 x6 x7))))
(mayV dr dw dx 1))
M)])
else
some
(Sv.tup
[Sv.agg
[Sv.v
(Value.int IntKind.u32
(ldW ak r0
(setA ak ar 0 r0
(IntKind.wrap IntKind.u64
(toV
(ldW bk (ldV M db ds (ofV bb bi bq bd [r0, r1, r2, r3, r4, r5, r6, r7]) 4 (mayV dr dw dx 0))
(getV bk br bd r0 r1 r2 r3 r4 r5 r6 r7 x0 x1 x2 x3 x4 x5 x6 x7))))))),
Sv.v
(Value.int IntKind.u32
(ldW ak r1
(setA ak ar 1 r1
(IntKind.wrap IntKind.u64
(toV
(ldW bk (ldV M db ds (ofV bb bi bq bd [r0, r1, r2, r3, r4, r5, r6, r7]) 4 (mayV dr dw dx 0))
(getV bk br bd r0 r1 r2 r3 r4 r5 r6 r7 x0 x1 x2 x3 x4 x5 x6 x7))))))),
Sv.v
(Value.int IntKind.u32
(ldW ak r2
(setA ak ar 2 r2
(IntKind.wrap IntKind.u64
(toV
(ldW bk (ldV M db ds (ofV bb bi bq bd [r0, r1, r2, r3, r4, r5, r6, r7]) 4 (mayV dr dw dx 0))
(getV bk br bd r0 r1 r2 r3 r4 r5 r6 r7 x0 x1 x2 x3 x4 x5 x6 x7))))))),
Sv.v
(Value.int IntKind.u32
(ldW ak r3
(setA ak ar 3 r3
(IntKind.wrap IntKind.u64
(toV
(ldW bk (ldV M db ds (ofV bb bi bq bd [r0, r1, r2, r3, r4, r5, r6, r7]) 4 (mayV dr dw dx 0))
(getV bk br bd r0 r1 r2 r3 r4 r5 r6 r7 x0 x1 x2 x3 x4 x5 x6 x7))))))),
Sv.v
(Value.int IntKind.u32
(ldW ak r4
(setB ak ar 4 r4
(IntKind.wrap IntKind.u64
(toV
(ldW bk (ldV M db ds (ofV bb bi bq bd [r0, r1, r2, r3, r4, r5, r6, r7]) 4 (mayV dr dw dx 0))
(getV bk br bd r0 r1 r2 r3 r4 r5 r6 r7 x0 x1 x2 x3 x4 x5 x6 x7))))))),
Sv.v
(Value.int IntKind.u32
(ldW ak r5
(setB ak ar 5 r5
(IntKind.wrap IntKind.u64
(toV
(ldW bk (ldV M db ds (ofV bb bi bq bd [r0, r1, r2, r3, r4, r5, r6, r7]) 4 (mayV dr dw dx 0))
(getV bk br bd r0 r1 r2 r3 r4 r5 r6 r7 x0 x1 x2 x3 x4 x5 x6 x7))))))),
Sv.v
(Value.int IntKind.u32
(ldW ak r6
(setB ak ar 6 r6
(IntKind.wrap IntKind.u64
(toV
(ldW bk (ldV M db ds (ofV bb bi bq bd [r0, r1, r2, r3, r4, r5, r6, r7]) 4 (mayV dr dw dx 0))
(getV bk br bd r0 r1 r2 r3 r4 r5 r6 r7 x0 x1 x2 x3 x4 x5 x6 x7))))))),
Sv.v
(Value.int IntKind.u32
(ldW ak r7
(setB ak ar 7 r7
(IntKind.wrap IntKind.u64
(toV
(ldW bk (ldV M db ds (ofV bb bi bq bd [r0, r1, r2, r3, r4, r5, r6, r7]) 4 (mayV dr dw dx 0))
(getV bk br bd r0 r1 r2 r3 r4 r5 r6 r7 x0 x1 x2 x3 x4 x5 x6 x7))))))),
vw ip, vb fc, vb fp, vb fz, vb fs,
vb fo, vb fd,
Sv.v
(Value.int IntKind.u64
(ldW ak x0
(setX ak ar 0 x0
(IntKind.wrap IntKind.u64
(toV
(ldW bk (ldV M db ds (ofV bb bi bq bd [r0, r1, r2, r3, r4, r5, r6, r7]) 4 (mayV dr dw dx 0))
(getV bk br bd r0 r1 r2 r3 r4 r5 r6 r7 x0 x1 x2 x3 x4 x5 x6 x7))))))),
Sv.v
(Value.int IntKind.u64
(ldW ak x1
(setX ak ar 1 x1
(IntKind.wrap IntKind.u64
(toV
(ldW bk (ldV M db ds (ofV bb bi bq bd [r0, r1, r2, r3, r4, r5, r6, r7]) 4 (mayV dr dw dx 0))
(getV bk br bd r0 r1 r2 r3 r4 r5 r6 r7 x0 x1 x2 x3 x4 x5 x6 x7))))))),
Sv.v
(Value.int IntKind.u64
(ldW ak x2
(setX ak ar 2 x2
(IntKind.wrap IntKind.u64
(toV
(ldW bk (ldV M db ds (ofV bb bi bq bd [r0, r1, r2, r3, r4, r5, r6, r7]) 4 (mayV dr dw dx 0))
(getV bk br bd r0 r1 r2 r3 r4 r5 r6 r7 x0 x1 x2 x3 x4 x5 x6 x7))))))),
Sv.v
(Value.int IntKind.u64
(ldW ak x3
(setX ak ar 3 x3
(IntKind.wrap IntKind.u64
(toV
(ldW bk (ldV M db ds (ofV bb bi bq bd [r0, r1, r2, r3, r4, r5, r6, r7]) 4 (mayV dr dw dx 0))
(getV bk br bd r0 r1 r2 r3 r4 r5 r6 r7 x0 x1 x2 x3 x4 x5 x6 x7))))))),
Sv.v
(Value.int IntKind.u64
(ldW ak x4
(setX ak ar 4 x4
(IntKind.wrap IntKind.u64
(toV
(ldW bk (ldV M db ds (ofV bb bi bq bd [r0, r1, r2, r3, r4, r5, r6, r7]) 4 (mayV dr dw dx 0))
(getV bk br bd r0 r1 r2 r3 r4 r5 r6 r7 x0 x1 x2 x3 x4 x5 x6 x7))))))),
Sv.v
(Value.int IntKind.u64
(ldW ak x5
(setX ak ar 5 x5
(IntKind.wrap IntKind.u64
(toV
(ldW bk (ldV M db ds (ofV bb bi bq bd [r0, r1, r2, r3, r4, r5, r6, r7]) 4 (mayV dr dw dx 0))
(getV bk br bd r0 r1 r2 r3 r4 r5 r6 r7 x0 x1 x2 x3 x4 x5 x6 x7))))))),
Sv.v
(Value.int IntKind.u64
(ldW ak x6
(setX ak ar 6 x6
(IntKind.wrap IntKind.u64
(toV
(ldW bk (ldV M db ds (ofV bb bi bq bd [r0, r1, r2, r3, r4, r5, r6, r7]) 4 (mayV dr dw dx 0))
(getV bk br bd r0 r1 r2 r3 r4 r5 r6 r7 x0 x1 x2 x3 x4 x5 x6 x7))))))),
Sv.v
(Value.int IntKind.u64
(ldW ak x7
(setX ak ar 7 x7
(IntKind.wrap IntKind.u64
(toV
(ldW bk (ldV M db ds (ofV bb bi bq bd [r0, r1, r2, r3, r4, r5, r6, r7]) 4 (mayV dr dw dx 0))
(getV bk br bd r0 r1 r2 r3 r4 r5 r6 r7 x0 x1 x2 x3 x4 x5 x6 x7)))))))],
vi 0],
[SObj.cells
(cCFpz0 cb cs cr cw cx db ds dr dw dx)
T,
SObj.ext 0
(memW ak
(stV M db ds (ofV ab ai aq ad [r0, r1, r2, r3, r4, r5, r6, r7]) 8
(IntKind.wrap IntKind.u64
(toV
(ldW bk (ldV M db ds (ofV bb bi bq bd [r0, r1, r2, r3, r4, r5, r6, r7]) 4 (mayV dr dw dx 0))
(getV bk br bd r0 r1 r2 r3 r4 r5 r6 r7 x0 x1 x2 x3 x4 x5 x6 x7))))
(mayV dr dw dx 1))
M)])
else none
else none
else
bif
ini64 op &&
(in64
(ldW ak (ldV M db ds (ofV ab ai aq ad [r0, r1, r2, r3, r4, r5, r6, r7]) 8 (mayV dr dw dx 0))
(getV ak ar ad r0 r1 r2 r3 r4 r5 r6 r7 x0 x1 x2 x3 x4 x5 x6 x7)) &&
in64
(ldW bk (ldV M db ds (ofV bb bi bq bd [r0, r1, r2, r3, r4, r5, r6, r7]) 4 (mayV dr dw dx 0))
(getV bk br bd r0 r1 r2 r3 r4 r5 r6 r7 x0 x1 x2 x3 x4 x5 x6 x7))) then
bif
in32 r0 &&
(in32 r1 &&
(in32 r2 &&
(in32 r3 &&
(in32 r4 &&
(in32 r5 &&
(in32 r6 &&
(in32 r7 &&
(in32 ad &&
(in32 db &&
(in32 ds &&
in64
(doV op
(ldW ak (ldV M db ds (ofV ab ai aq ad [r0, r1, r2, r3, r4, r5, r6, r7]) 8 (mayV dr dw dx 0))
(getV ak ar ad r0 r1 r2 r3 r4 r5 r6 r7 x0 x1 x2 x3 x4 x5 x6 x7))
(ldW bk (ldV M db ds (ofV bb bi bq bd [r0, r1, r2, r3, r4, r5, r6, r7]) 4 (mayV dr dw dx 0))
(getV bk br bd r0 r1 r2 r3 r4 r5 r6 r7 x0 x1 x2 x3 x4 x5 x6 x7))))))))))))) &&
true then
bif erW ak (segE db ds (ofV ab ai aq ad [r0, r1, r2, r3, r4, r5, r6, r7]) 8 (mayV dr dw dx 1)) != 0 then
some
(Sv.tup
[Sv.agg
(cCFpz1 r0 r1 r2 r3 r4 r5 r6 r7 ip fc fp fz fs fo fd x0 x1 x2 x3 x4 x5 x6 x7),
vi 2],
[SObj.cells
(cCFpz0 cb cs cr cw cx db ds dr dw dx)
T,
SObj.ext 0
(memW ak
(stV M db ds (ofV ab ai aq ad [r0, r1, r2, r3, r4, r5, r6, r7]) 8
(doV op
(ldW ak (ldV M db ds (ofV ab ai aq ad [r0, r1, r2, r3, r4, r5, r6, r7]) 8 (mayV dr dw dx 0))
(getV ak ar ad r0 r1 r2 r3 r4 r5 r6 r7 x0 x1 x2 x3 x4 x5 x6 x7))
(ldW bk (ldV M db ds (ofV bb bi bq bd [r0, r1, r2, r3, r4, r5, r6, r7]) 4 (mayV dr dw dx 0))
(getV bk br bd r0 r1 r2 r3 r4 r5 r6 r7 x0 x1 x2 x3 x4 x5 x6 x7)))
(mayV dr dw dx 1))
M)])
else
some
(Sv.tup
[Sv.agg
[Sv.v
(Value.int IntKind.u32
(ldW ak r0
(setA ak ar 0 r0
(doV op
(ldW ak (ldV M db ds (ofV ab ai aq ad [r0, r1, r2, r3, r4, r5, r6, r7]) 8 (mayV dr dw dx 0))
(getV ak ar ad r0 r1 r2 r3 r4 r5 r6 r7 x0 x1 x2 x3 x4 x5 x6 x7))
(ldW bk (ldV M db ds (ofV bb bi bq bd [r0, r1, r2, r3, r4, r5, r6, r7]) 4 (mayV dr dw dx 0))
(getV bk br bd r0 r1 r2 r3 r4 r5 r6 r7 x0 x1 x2 x3 x4 x5 x6 x7)))))),
Sv.v
(Value.int IntKind.u32
(ldW ak r1
(setA ak ar 1 r1
(doV op
(ldW ak (ldV M db ds (ofV ab ai aq ad [r0, r1, r2, r3, r4, r5, r6, r7]) 8 (mayV dr dw dx 0))
(getV ak ar ad r0 r1 r2 r3 r4 r5 r6 r7 x0 x1 x2 x3 x4 x5 x6 x7))
(ldW bk (ldV M db ds (ofV bb bi bq bd [r0, r1, r2, r3, r4, r5, r6, r7]) 4 (mayV dr dw dx 0))
(getV bk br bd r0 r1 r2 r3 r4 r5 r6 r7 x0 x1 x2 x3 x4 x5 x6 x7)))))),
Sv.v
(Value.int IntKind.u32
(ldW ak r2
(setA ak ar 2 r2
(doV op
(ldW ak (ldV M db ds (ofV ab ai aq ad [r0, r1, r2, r3, r4, r5, r6, r7]) 8 (mayV dr dw dx 0))
(getV ak ar ad r0 r1 r2 r3 r4 r5 r6 r7 x0 x1 x2 x3 x4 x5 x6 x7))
(ldW bk (ldV M db ds (ofV bb bi bq bd [r0, r1, r2, r3, r4, r5, r6, r7]) 4 (mayV dr dw dx 0))
(getV bk br bd r0 r1 r2 r3 r4 r5 r6 r7 x0 x1 x2 x3 x4 x5 x6 x7)))))),
Sv.v
(Value.int IntKind.u32
(ldW ak r3
(setA ak ar 3 r3
(doV op
(ldW ak (ldV M db ds (ofV ab ai aq ad [r0, r1, r2, r3, r4, r5, r6, r7]) 8 (mayV dr dw dx 0))
(getV ak ar ad r0 r1 r2 r3 r4 r5 r6 r7 x0 x1 x2 x3 x4 x5 x6 x7))
(ldW bk (ldV M db ds (ofV bb bi bq bd [r0, r1, r2, r3, r4, r5, r6, r7]) 4 (mayV dr dw dx 0))
(getV bk br bd r0 r1 r2 r3 r4 r5 r6 r7 x0 x1 x2 x3 x4 x5 x6 x7)))))),
Sv.v
(Value.int IntKind.u32
(ldW ak r4
(setB ak ar 4 r4
(doV op
(ldW ak (ldV M db ds (ofV ab ai aq ad [r0, r1, r2, r3, r4, r5, r6, r7]) 8 (mayV dr dw dx 0))
(getV ak ar ad r0 r1 r2 r3 r4 r5 r6 r7 x0 x1 x2 x3 x4 x5 x6 x7))
(ldW bk (ldV M db ds (ofV bb bi bq bd [r0, r1, r2, r3, r4, r5, r6, r7]) 4 (mayV dr dw dx 0))
(getV bk br bd r0 r1 r2 r3 r4 r5 r6 r7 x0 x1 x2 x3 x4 x5 x6 x7)))))),
Sv.v
(Value.int IntKind.u32
(ldW ak r5
(setB ak ar 5 r5
(doV op
(ldW ak (ldV M db ds (ofV ab ai aq ad [r0, r1, r2, r3, r4, r5, r6, r7]) 8 (mayV dr dw dx 0))
(getV ak ar ad r0 r1 r2 r3 r4 r5 r6 r7 x0 x1 x2 x3 x4 x5 x6 x7))
(ldW bk (ldV M db ds (ofV bb bi bq bd [r0, r1, r2, r3, r4, r5, r6, r7]) 4 (mayV dr dw dx 0))
(getV bk br bd r0 r1 r2 r3 r4 r5 r6 r7 x0 x1 x2 x3 x4 x5 x6 x7)))))),
Sv.v
(Value.int IntKind.u32
(ldW ak r6
(setB ak ar 6 r6
(doV op
(ldW ak (ldV M db ds (ofV ab ai aq ad [r0, r1, r2, r3, r4, r5, r6, r7]) 8 (mayV dr dw dx 0))
(getV ak ar ad r0 r1 r2 r3 r4 r5 r6 r7 x0 x1 x2 x3 x4 x5 x6 x7))
(ldW bk (ldV M db ds (ofV bb bi bq bd [r0, r1, r2, r3, r4, r5, r6, r7]) 4 (mayV dr dw dx 0))
(getV bk br bd r0 r1 r2 r3 r4 r5 r6 r7 x0 x1 x2 x3 x4 x5 x6 x7)))))),
Sv.v
(Value.int IntKind.u32
(ldW ak r7
(setB ak ar 7 r7
(doV op
(ldW ak (ldV M db ds (ofV ab ai aq ad [r0, r1, r2, r3, r4, r5, r6, r7]) 8 (mayV dr dw dx 0))
(getV ak ar ad r0 r1 r2 r3 r4 r5 r6 r7 x0 x1 x2 x3 x4 x5 x6 x7))
(ldW bk (ldV M db ds (ofV bb bi bq bd [r0, r1, r2, r3, r4, r5, r6, r7]) 4 (mayV dr dw dx 0))
(getV bk br bd r0 r1 r2 r3 r4 r5 r6 r7 x0 x1 x2 x3 x4 x5 x6 x7)))))),
vw ip, vb fc, vb fp, vb fz, vb fs,
vb fo, vb fd,
Sv.v
(Value.int IntKind.u64
(ldW ak x0
(setX ak ar 0 x0
(doV op
(ldW ak (ldV M db ds (ofV ab ai aq ad [r0, r1, r2, r3, r4, r5, r6, r7]) 8 (mayV dr dw dx 0))
(getV ak ar ad r0 r1 r2 r3 r4 r5 r6 r7 x0 x1 x2 x3 x4 x5 x6 x7))
(ldW bk (ldV M db ds (ofV bb bi bq bd [r0, r1, r2, r3, r4, r5, r6, r7]) 4 (mayV dr dw dx 0))
(getV bk br bd r0 r1 r2 r3 r4 r5 r6 r7 x0 x1 x2 x3 x4 x5 x6 x7)))))),
Sv.v
(Value.int IntKind.u64
(ldW ak x1
(setX ak ar 1 x1
(doV op
(ldW ak (ldV M db ds (ofV ab ai aq ad [r0, r1, r2, r3, r4, r5, r6, r7]) 8 (mayV dr dw dx 0))
(getV ak ar ad r0 r1 r2 r3 r4 r5 r6 r7 x0 x1 x2 x3 x4 x5 x6 x7))
(ldW bk (ldV M db ds (ofV bb bi bq bd [r0, r1, r2, r3, r4, r5, r6, r7]) 4 (mayV dr dw dx 0))
(getV bk br bd r0 r1 r2 r3 r4 r5 r6 r7 x0 x1 x2 x3 x4 x5 x6 x7)))))),
Sv.v
(Value.int IntKind.u64
(ldW ak x2
(setX ak ar 2 x2
(doV op
(ldW ak (ldV M db ds (ofV ab ai aq ad [r0, r1, r2, r3, r4, r5, r6, r7]) 8 (mayV dr dw dx 0))
(getV ak ar ad r0 r1 r2 r3 r4 r5 r6 r7 x0 x1 x2 x3 x4 x5 x6 x7))
(ldW bk (ldV M db ds (ofV bb bi bq bd [r0, r1, r2, r3, r4, r5, r6, r7]) 4 (mayV dr dw dx 0))
(getV bk br bd r0 r1 r2 r3 r4 r5 r6 r7 x0 x1 x2 x3 x4 x5 x6 x7)))))),
Sv.v
(Value.int IntKind.u64
(ldW ak x3
(setX ak ar 3 x3
(doV op
(ldW ak (ldV M db ds (ofV ab ai aq ad [r0, r1, r2, r3, r4, r5, r6, r7]) 8 (mayV dr dw dx 0))
(getV ak ar ad r0 r1 r2 r3 r4 r5 r6 r7 x0 x1 x2 x3 x4 x5 x6 x7))
(ldW bk (ldV M db ds (ofV bb bi bq bd [r0, r1, r2, r3, r4, r5, r6, r7]) 4 (mayV dr dw dx 0))
(getV bk br bd r0 r1 r2 r3 r4 r5 r6 r7 x0 x1 x2 x3 x4 x5 x6 x7)))))),
Sv.v
(Value.int IntKind.u64
(ldW ak x4
(setX ak ar 4 x4
(doV op
(ldW ak (ldV M db ds (ofV ab ai aq ad [r0, r1, r2, r3, r4, r5, r6, r7]) 8 (mayV dr dw dx 0))
(getV ak ar ad r0 r1 r2 r3 r4 r5 r6 r7 x0 x1 x2 x3 x4 x5 x6 x7))
(ldW bk (ldV M db ds (ofV bb bi bq bd [r0, r1, r2, r3, r4, r5, r6, r7]) 4 (mayV dr dw dx 0))
(getV bk br bd r0 r1 r2 r3 r4 r5 r6 r7 x0 x1 x2 x3 x4 x5 x6 x7)))))),
Sv.v
(Value.int IntKind.u64
(ldW ak x5
(setX ak ar 5 x5
(doV op
(ldW ak (ldV M db ds (ofV ab ai aq ad [r0, r1, r2, r3, r4, r5, r6, r7]) 8 (mayV dr dw dx 0))
(getV ak ar ad r0 r1 r2 r3 r4 r5 r6 r7 x0 x1 x2 x3 x4 x5 x6 x7))
(ldW bk (ldV M db ds (ofV bb bi bq bd [r0, r1, r2, r3, r4, r5, r6, r7]) 4 (mayV dr dw dx 0))
(getV bk br bd r0 r1 r2 r3 r4 r5 r6 r7 x0 x1 x2 x3 x4 x5 x6 x7)))))),
Sv.v
(Value.int IntKind.u64
(ldW ak x6
(setX ak ar 6 x6
(doV op
(ldW ak (ldV M db ds (ofV ab ai aq ad [r0, r1, r2, r3, r4, r5, r6, r7]) 8 (mayV dr dw dx 0))
(getV ak ar ad r0 r1 r2 r3 r4 r5 r6 r7 x0 x1 x2 x3 x4 x5 x6 x7))
(ldW bk (ldV M db ds (ofV bb bi bq bd [r0, r1, r2, r3, r4, r5, r6, r7]) 4 (mayV dr dw dx 0))
(getV bk br bd r0 r1 r2 r3 r4 r5 r6 r7 x0 x1 x2 x3 x4 x5 x6 x7)))))),
Sv.v
(Value.int IntKind.u64
(ldW ak x7
(setX ak ar 7 x7
(doV op
(ldW ak (ldV M db ds (ofV ab ai aq ad [r0, r1, r2, r3, r4, r5, r6, r7]) 8 (mayV dr dw dx 0))
(getV ak ar ad r0 r1 r2 r3 r4 r5 r6 r7 x0 x1 x2 x3 x4 x5 x6 x7))
(ldW bk (ldV M db ds (ofV bb bi bq bd [r0, r1, r2, r3, r4, r5, r6, r7]) 4 (mayV dr dw dx 0))
(getV bk br bd r0 r1 r2 r3 r4 r5 r6 r7 x0 x1 x2 x3 x4 x5 x6 x7))))))],
vi 0],
[SObj.cells
(cCFpz0 cb cs cr cw cx db ds dr dw dx)
T,
SObj.ext 0
(memW ak
(stV M db ds (ofV ab ai aq ad [r0, r1, r2, r3, r4, r5, r6, r7]) 8
(doV op
(ldW ak (ldV M db ds (ofV ab ai aq ad [r0, r1, r2, r3, r4, r5, r6, r7]) 8 (mayV dr dw dx 0))
(getV ak ar ad r0 r1 r2 r3 r4 r5 r6 r7 x0 x1 x2 x3 x4 x5 x6 x7))
(ldW bk (ldV M db ds (ofV bb bi bq bd [r0, r1, r2, r3, r4, r5, r6, r7]) 4 (mayV dr dw dx 0))
(getV bk br bd r0 r1 r2 r3 r4 r5 r6 r7 x0 x1 x2 x3 x4 x5 x6 x7)))
(mayV dr dw dx 1))
M)])
else none
else none
else none
else none
else
bif
in32 r0 &&
(in32 r1 &&
(in32 r2 && (in32 r3 && (in32 r4 && (in32 r5 && (in32 r6 && (in32 r7 && (in32 bd && (in32 db && in32 ds))))))))) &&
true then
bif !erW bk (segE db ds (ofV bb bi bq bd [r0, r1, r2, r3, r4, r5, r6, r7]) 4 (mayV dr dw dx 0)) == 0 then
some
(Sv.tup
[Sv.agg
(cCFpz1 r0 r1 r2 r3 r4 r5 r6 r7 ip fc fp fz fs fo fd x0 x1 x2 x3 x4 x5 x6 x7),
vi 2],
[SObj.cells
(cCFpz0 cb cs cr cw cx db ds dr dw dx)
T,
SObj.ext 0 M])
else
bif op == 61 then
bif
true &&
in64
(ldW bk (ldV M db ds (ofV bb bi bq bd [r0, r1, r2, r3, r4, r5, r6, r7]) 4 (mayV dr dw dx 0))
(getV bk br bd r0 r1 r2 r3 r4 r5 r6 r7 x0 x1 x2 x3 x4 x5 x6 x7)) then
some
(Sv.tup
[Sv.agg
[vw r0, vw r1, vw r2,
vw r3, vw r4, vw r5,
vw r6, vw r7, vw ip,
Sv.v
(Value.bool
(cC 0
(ldW bk (ldV M db ds (ofV bb bi bq bd [r0, r1, r2, r3, r4, r5, r6, r7]) 4 (mayV dr dw dx 0))
(getV bk br bd r0 r1 r2 r3 r4 r5 r6 r7 x0 x1 x2 x3 x4 x5 x6 x7)))),
Sv.v
(Value.bool
(cP 0
(ldW bk (ldV M db ds (ofV bb bi bq bd [r0, r1, r2, r3, r4, r5, r6, r7]) 4 (mayV dr dw dx 0))
(getV bk br bd r0 r1 r2 r3 r4 r5 r6 r7 x0 x1 x2 x3 x4 x5 x6 x7)))),
Sv.v
(Value.bool
(cZ 0
(ldW bk (ldV M db ds (ofV bb bi bq bd [r0, r1, r2, r3, r4, r5, r6, r7]) 4 (mayV dr dw dx 0))
(getV bk br bd r0 r1 r2 r3 r4 r5 r6 r7 x0 x1 x2 x3 x4 x5 x6 x7)))),
vb false, vb false, vb fd, vd x0,
vd x1, vd x2, vd x3,
vd x4, vd x5, vd x6,
vd x7],
vi 0],
[SObj.cells
(cCFpz0 cb cs cr cw cx db ds dr dw dx)
T,
SObj.ext 0 M])
else none
else
bif op == 59 then
bif
in32
(IntKind.wrap IntKind.u32
(ldW bk (ldV M db ds (ofV bb bi bq bd [r0, r1, r2, r3, r4, r5, r6, r7]) 4 (mayV dr dw dx 0))
(getV bk br bd r0 r1 r2 r3 r4 r5 r6 r7 x0 x1 x2 x3 x4 x5 x6 x7))) then
bif
in32 r0 &&
(in32 r1 &&
(in32 r2 &&
(in32 r3 &&
(in32 r4 &&
(in32 r5 &&
(in32 r6 &&
(in32 r7 &&
(in32 ad &&
(in32 db &&
(in32 ds &&
in64
(fromV
(IntKind.wrap IntKind.u32
(ldW bk (ldV M db ds (ofV bb bi bq bd [r0, r1, r2, r3, r4, r5, r6, r7]) 4 (mayV dr dw dx 0))
(getV bk br bd r0 r1 r2 r3 r4 r5 r6 r7 x0 x1 x2 x3 x4 x5 x6 x7)))))))))))))) &&
true then
bif erW ak (segE db ds (ofV ab ai aq ad [r0, r1, r2, r3, r4, r5, r6, r7]) 8 (mayV dr dw dx 1)) != 0 then
some
(Sv.tup
[Sv.agg
(cCFpz1 r0 r1 r2 r3 r4 r5 r6 r7 ip fc fp fz fs fo fd x0 x1 x2 x3 x4 x5 x6 x7),
vi 2],
[SObj.cells
(cCFpz0 cb cs cr cw cx db ds dr dw dx)
T,
SObj.ext 0
(memW ak
(stV M db ds (ofV ab ai aq ad [r0, r1, r2, r3, r4, r5, r6, r7]) 8
(fromV
(IntKind.wrap IntKind.u32
(ldW bk (ldV M db ds (ofV bb bi bq bd [r0, r1, r2, r3, r4, r5, r6, r7]) 4 (mayV dr dw dx 0))
(getV bk br bd r0 r1 r2 r3 r4 r5 r6 r7 x0 x1 x2 x3 x4 x5 x6 x7))))
(mayV dr dw dx 1))
M)])
else
some
(Sv.tup
[Sv.agg
[Sv.v
(Value.int IntKind.u32
(ldW ak r0
(setA ak ar 0 r0
(fromV
(IntKind.wrap IntKind.u32
(ldW bk (ldV M db ds (ofV bb bi bq bd [r0, r1, r2, r3, r4, r5, r6, r7]) 4 (mayV dr dw dx 0))
(getV bk br bd r0 r1 r2 r3 r4 r5 r6 r7 x0 x1 x2 x3 x4 x5 x6 x7))))))),
Sv.v
(Value.int IntKind.u32
(ldW ak r1
(setA ak ar 1 r1
(fromV
(IntKind.wrap IntKind.u32
(ldW bk (ldV M db ds (ofV bb bi bq bd [r0, r1, r2, r3, r4, r5, r6, r7]) 4 (mayV dr dw dx 0))
(getV bk br bd r0 r1 r2 r3 r4 r5 r6 r7 x0 x1 x2 x3 x4 x5 x6 x7))))))),
Sv.v
(Value.int IntKind.u32
(ldW ak r2
(setA ak ar 2 r2
(fromV
(IntKind.wrap IntKind.u32
(ldW bk (ldV M db ds (ofV bb bi bq bd [r0, r1, r2, r3, r4, r5, r6, r7]) 4 (mayV dr dw dx 0))
(getV bk br bd r0 r1 r2 r3 r4 r5 r6 r7 x0 x1 x2 x3 x4 x5 x6 x7))))))),
Sv.v
(Value.int IntKind.u32
(ldW ak r3
(setA ak ar 3 r3
(fromV
(IntKind.wrap IntKind.u32
(ldW bk (ldV M db ds (ofV bb bi bq bd [r0, r1, r2, r3, r4, r5, r6, r7]) 4 (mayV dr dw dx 0))
(getV bk br bd r0 r1 r2 r3 r4 r5 r6 r7 x0 x1 x2 x3 x4 x5 x6 x7))))))),
Sv.v
(Value.int IntKind.u32
(ldW ak r4
(setB ak ar 4 r4
(fromV
(IntKind.wrap IntKind.u32
(ldW bk (ldV M db ds (ofV bb bi bq bd [r0, r1, r2, r3, r4, r5, r6, r7]) 4 (mayV dr dw dx 0))
(getV bk br bd r0 r1 r2 r3 r4 r5 r6 r7 x0 x1 x2 x3 x4 x5 x6 x7))))))),
Sv.v
(Value.int IntKind.u32
(ldW ak r5
(setB ak ar 5 r5
(fromV
(IntKind.wrap IntKind.u32
(ldW bk (ldV M db ds (ofV bb bi bq bd [r0, r1, r2, r3, r4, r5, r6, r7]) 4 (mayV dr dw dx 0))
(getV bk br bd r0 r1 r2 r3 r4 r5 r6 r7 x0 x1 x2 x3 x4 x5 x6 x7))))))),
Sv.v
(Value.int IntKind.u32
(ldW ak r6
(setB ak ar 6 r6
(fromV
(IntKind.wrap IntKind.u32
(ldW bk (ldV M db ds (ofV bb bi bq bd [r0, r1, r2, r3, r4, r5, r6, r7]) 4 (mayV dr dw dx 0))
(getV bk br bd r0 r1 r2 r3 r4 r5 r6 r7 x0 x1 x2 x3 x4 x5 x6 x7))))))),
Sv.v
(Value.int IntKind.u32
(ldW ak r7
(setB ak ar 7 r7
(fromV
(IntKind.wrap IntKind.u32
(ldW bk (ldV M db ds (ofV bb bi bq bd [r0, r1, r2, r3, r4, r5, r6, r7]) 4 (mayV dr dw dx 0))
(getV bk br bd r0 r1 r2 r3 r4 r5 r6 r7 x0 x1 x2 x3 x4 x5 x6 x7))))))),
vw ip, vb fc, vb fp, vb fz, vb fs,
vb fo, vb fd,
Sv.v
(Value.int IntKind.u64
(ldW ak x0
(setX ak ar 0 x0
(fromV
(IntKind.wrap IntKind.u32
(ldW bk (ldV M db ds (ofV bb bi bq bd [r0, r1, r2, r3, r4, r5, r6, r7]) 4 (mayV dr dw dx 0))
(getV bk br bd r0 r1 r2 r3 r4 r5 r6 r7 x0 x1 x2 x3 x4 x5 x6 x7))))))),
Sv.v
(Value.int IntKind.u64
(ldW ak x1
(setX ak ar 1 x1
(fromV
(IntKind.wrap IntKind.u32
(ldW bk (ldV M db ds (ofV bb bi bq bd [r0, r1, r2, r3, r4, r5, r6, r7]) 4 (mayV dr dw dx 0))
(getV bk br bd r0 r1 r2 r3 r4 r5 r6 r7 x0 x1 x2 x3 x4 x5 x6 x7))))))),
Sv.v
(Value.int IntKind.u64
(ldW ak x2
(setX ak ar 2 x2
(fromV
(IntKind.wrap IntKind.u32
(ldW bk (ldV M db ds (ofV bb bi bq bd [r0, r1, r2, r3, r4, r5, r6, r7]) 4 (mayV dr dw dx 0))
(getV bk br bd r0 r1 r2 r3 r4 r5 r6 r7 x0 x1 x2 x3 x4 x5 x6 x7))))))),
Sv.v
(Value.int IntKind.u64
(ldW ak x3
(setX ak ar 3 x3
(fromV
(IntKind.wrap IntKind.u32
(ldW bk (ldV M db ds (ofV bb bi bq bd [r0, r1, r2, r3, r4, r5, r6, r7]) 4 (mayV dr dw dx 0))
(getV bk br bd r0 r1 r2 r3 r4 r5 r6 r7 x0 x1 x2 x3 x4 x5 x6 x7))))))),
Sv.v
(Value.int IntKind.u64
(ldW ak x4
(setX ak ar 4 x4
(fromV
(IntKind.wrap IntKind.u32
(ldW bk (ldV M db ds (ofV bb bi bq bd [r0, r1, r2, r3, r4, r5, r6, r7]) 4 (mayV dr dw dx 0))
(getV bk br bd r0 r1 r2 r3 r4 r5 r6 r7 x0 x1 x2 x3 x4 x5 x6 x7))))))),
Sv.v
(Value.int IntKind.u64
(ldW ak x5
(setX ak ar 5 x5
(fromV
(IntKind.wrap IntKind.u32
(ldW bk (ldV M db ds (ofV bb bi bq bd [r0, r1, r2, r3, r4, r5, r6, r7]) 4 (mayV dr dw dx 0))
(getV bk br bd r0 r1 r2 r3 r4 r5 r6 r7 x0 x1 x2 x3 x4 x5 x6 x7))))))),
Sv.v
(Value.int IntKind.u64
(ldW ak x6
(setX ak ar 6 x6
(fromV
(IntKind.wrap IntKind.u32
(ldW bk (ldV M db ds (ofV bb bi bq bd [r0, r1, r2, r3, r4, r5, r6, r7]) 4 (mayV dr dw dx 0))
(getV bk br bd r0 r1 r2 r3 r4 r5 r6 r7 x0 x1 x2 x3 x4 x5 x6 x7))))))),
Sv.v
(Value.int IntKind.u64
(ldW ak x7
(setX ak ar 7 x7
(fromV
(IntKind.wrap IntKind.u32
(ldW bk (ldV M db ds (ofV bb bi bq bd [r0, r1, r2, r3, r4, r5, r6, r7]) 4 (mayV dr dw dx 0))
(getV bk br bd r0 r1 r2 r3 r4 r5 r6 r7 x0 x1 x2 x3 x4 x5 x6 x7)))))))],
vi 0],
[SObj.cells
(cCFpz0 cb cs cr cw cx db ds dr dw dx)
T,
SObj.ext 0
(memW ak
(stV M db ds (ofV ab ai aq ad [r0, r1, r2, r3, r4, r5, r6, r7]) 8
(fromV
(IntKind.wrap IntKind.u32
(ldW bk (ldV M db ds (ofV bb bi bq bd [r0, r1, r2, r3, r4, r5, r6, r7]) 4 (mayV dr dw dx 0))
(getV bk br bd r0 r1 r2 r3 r4 r5 r6 r7 x0 x1 x2 x3 x4 x5 x6 x7))))
(mayV dr dw dx 1))
M)])
else none
else none
else
bif op == 60 then
bif
in64
(ldW bk (ldV M db ds (ofV bb bi bq bd [r0, r1, r2, r3, r4, r5, r6, r7]) 4 (mayV dr dw dx 0))
(getV bk br bd r0 r1 r2 r3 r4 r5 r6 r7 x0 x1 x2 x3 x4 x5 x6 x7)) then
bif
in32 r0 &&
(in32 r1 &&
(in32 r2 &&
(in32 r3 &&
(in32 r4 &&
(in32 r5 &&
(in32 r6 &&
(in32 r7 &&
(in32 ad &&
(in32 db &&
(in32 ds &&
in64
(IntKind.wrap IntKind.u64
(toV
(ldW bk (ldV M db ds (ofV bb bi bq bd [r0, r1, r2, r3, r4, r5, r6, r7]) 4 (mayV dr dw dx 0))
(getV bk br bd r0 r1 r2 r3 r4 r5 r6 r7 x0 x1 x2 x3 x4 x5 x6 x7)))))))))))))) &&
true then
bif erW ak (segE db ds (ofV ab ai aq ad [r0, r1, r2, r3, r4, r5, r6, r7]) 8 (mayV dr dw dx 1)) != 0 then
some
(Sv.tup
[Sv.agg
(cCFpz1 r0 r1 r2 r3 r4 r5 r6 r7 ip fc fp fz fs fo fd x0 x1 x2 x3 x4 x5 x6 x7),
vi 2],
[SObj.cells
(cCFpz0 cb cs cr cw cx db ds dr dw dx)
T,
SObj.ext 0
(memW ak
(stV M db ds (ofV ab ai aq ad [r0, r1, r2, r3, r4, r5, r6, r7]) 8
(IntKind.wrap IntKind.u64
(toV
(ldW bk (ldV M db ds (ofV bb bi bq bd [r0, r1, r2, r3, r4, r5, r6, r7]) 4 (mayV dr dw dx 0))
(getV bk br bd r0 r1 r2 r3 r4 r5 r6 r7 x0 x1 x2 x3 x4 x5 x6 x7))))
(mayV dr dw dx 1))
M)])
else
some
(Sv.tup
[Sv.agg
[Sv.v
(Value.int IntKind.u32
(ldW ak r0
(setA ak ar 0 r0
(IntKind.wrap IntKind.u64
(toV
(ldW bk (ldV M db ds (ofV bb bi bq bd [r0, r1, r2, r3, r4, r5, r6, r7]) 4 (mayV dr dw dx 0))
(getV bk br bd r0 r1 r2 r3 r4 r5 r6 r7 x0 x1 x2 x3 x4 x5 x6 x7))))))),
Sv.v
(Value.int IntKind.u32
(ldW ak r1
(setA ak ar 1 r1
(IntKind.wrap IntKind.u64
(toV
(ldW bk (ldV M db ds (ofV bb bi bq bd [r0, r1, r2, r3, r4, r5, r6, r7]) 4 (mayV dr dw dx 0))
(getV bk br bd r0 r1 r2 r3 r4 r5 r6 r7 x0 x1 x2 x3 x4 x5 x6 x7))))))),
Sv.v
(Value.int IntKind.u32
(ldW ak r2
(setA ak ar 2 r2
(IntKind.wrap IntKind.u64
(toV
(ldW bk (ldV M db ds (ofV bb bi bq bd [r0, r1, r2, r3, r4, r5, r6, r7]) 4 (mayV dr dw dx 0))
(getV bk br bd r0 r1 r2 r3 r4 r5 r6 r7 x0 x1 x2 x3 x4 x5 x6 x7))))))),
Sv.v
(Value.int IntKind.u32
(ldW ak r3
(setA ak ar 3 r3
(IntKind.wrap IntKind.u64
(toV
(ldW bk (ldV M db ds (ofV bb bi bq bd [r0, r1, r2, r3, r4, r5, r6, r7]) 4 (mayV dr dw dx 0))
(getV bk br bd r0 r1 r2 r3 r4 r5 r6 r7 x0 x1 x2 x3 x4 x5 x6 x7))))))),
Sv.v
(Value.int IntKind.u32
(ldW ak r4
(setB ak ar 4 r4
(IntKind.wrap IntKind.u64
(toV
(ldW bk (ldV M db ds (ofV bb bi bq bd [r0, r1, r2, r3, r4, r5, r6, r7]) 4 (mayV dr dw dx 0))
(getV bk br bd r0 r1 r2 r3 r4 r5 r6 r7 x0 x1 x2 x3 x4 x5 x6 x7))))))),
Sv.v
(Value.int IntKind.u32
(ldW ak r5
(setB ak ar 5 r5
(IntKind.wrap IntKind.u64
(toV
(ldW bk (ldV M db ds (ofV bb bi bq bd [r0, r1, r2, r3, r4, r5, r6, r7]) 4 (mayV dr dw dx 0))
(getV bk br bd r0 r1 r2 r3 r4 r5 r6 r7 x0 x1 x2 x3 x4 x5 x6 x7))))))),
Sv.v
(Value.int IntKind.u32
(ldW ak r6
(setB ak ar 6 r6
(IntKind.wrap IntKind.u64
(toV
(ldW bk (ldV M db ds (ofV bb bi bq bd [r0, r1, r2, r3, r4, r5, r6, r7]) 4 (mayV dr dw dx 0))
(getV bk br bd r0 r1 r2 r3 r4 r5 r6 r7 x0 x1 x2 x3 x4 x5 x6 x7))))))),
Sv.v
(Value.int IntKind.u32
(ldW ak r7
(setB ak ar 7 r7
(IntKind.wrap IntKind.u64
(toV
(ldW bk (ldV M db ds (ofV bb bi bq bd [r0, r1, r2, r3, r4, r5, r6, r7]) 4 (mayV dr dw dx 0))
(getV bk br bd r0 r1 r2 r3 r4 r5 r6 r7 x0 x1 x2 x3 x4 x5 x6 x7))))))),
vw ip, vb fc, vb fp, vb fz, vb fs,
vb fo, vb fd,
Sv.v
(Value.int IntKind.u64
(ldW ak x0
(setX ak ar 0 x0
(IntKind.wrap IntKind.u64
(toV
(ldW bk (ldV M db ds (ofV bb bi bq bd [r0, r1, r2, r3, r4, r5, r6, r7]) 4 (mayV dr dw dx 0))
(getV bk br bd r0 r1 r2 r3 r4 r5 r6 r7 x0 x1 x2 x3 x4 x5 x6 x7))))))),
Sv.v
(Value.int IntKind.u64
(ldW ak x1
(setX ak ar 1 x1
(IntKind.wrap IntKind.u64
(toV
(ldW bk (ldV M db ds (ofV bb bi bq bd [r0, r1, r2, r3, r4, r5, r6, r7]) 4 (mayV dr dw dx 0))
(getV bk br bd r0 r1 r2 r3 r4 r5 r6 r7 x0 x1 x2 x3 x4 x5 x6 x7))))))),
Sv.v
(Value.int IntKind.u64
(ldW ak x2
(setX ak ar 2 x2
(IntKind.wrap IntKind.u64
(toV
(ldW bk (ldV M db ds (ofV bb bi bq bd [r0, r1, r2, r3, r4, r5, r6, r7]) 4 (mayV dr dw dx 0))
(getV bk br bd r0 r1 r2 r3 r4 r5 r6 r7 x0 x1 x2 x3 x4 x5 x6 x7))))))),
Sv.v
(Value.int IntKind.u64
(ldW ak x3
(setX ak ar 3 x3
(IntKind.wrap IntKind.u64
(toV
(ldW bk (ldV M db ds (ofV bb bi bq bd [r0, r1, r2, r3, r4, r5, r6, r7]) 4 (mayV dr dw dx 0))
(getV bk br bd r0 r1 r2 r3 r4 r5 r6 r7 x0 x1 x2 x3 x4 x5 x6 x7))))))),
Sv.v
(Value.int IntKind.u64
(ldW ak x4
(setX ak ar 4 x4
(IntKind.wrap IntKind.u64
(toV
(ldW bk (ldV M db ds (ofV bb bi bq bd [r0, r1, r2, r3, r4, r5, r6, r7]) 4 (mayV dr dw dx 0))
(getV bk br bd r0 r1 r2 r3 r4 r5 r6 r7 x0 x1 x2 x3 x4 x5 x6 x7))))))),
Sv.v
(Value.int IntKind.u64
(ldW ak x5
(setX ak ar 5 x5
(IntKind.wrap IntKind.u64
(toV
(ldW bk (ldV M db ds (ofV bb bi bq bd [r0, r1, r2, r3, r4, r5, r6, r7]) 4 (mayV dr dw dx 0))
(getV bk br bd r0 r1 r2 r3 r4 r5 r6 r7 x0 x1 x2 x3 x4 x5 x6 x7))))))),
Sv.v
(Value.int IntKind.u64
(ldW ak x6
(setX ak ar 6 x6
(IntKind.wrap IntKind.u64
(toV
(ldW bk (ldV M db ds (ofV bb bi bq bd [r0, r1, r2, r3, r4, r5, r6, r7]) 4 (mayV dr dw dx 0))
(getV bk br bd r0 r1 r2 r3 r4 r5 r6 r7 x0 x1 x2 x3 x4 x5 x6 x7))))))),
Sv.v
(Value.int IntKind.u64
(ldW ak x7
(setX ak ar 7 x7
(IntKind.wrap IntKind.u64
(toV
(ldW bk (ldV M db ds (ofV bb bi bq bd [r0, r1, r2, r3, r4, r5, r6, r7]) 4 (mayV dr dw dx 0))
(getV bk br bd r0 r1 r2 r3 r4 r5 r6 r7 x0 x1 x2 x3 x4 x5 x6 x7)))))))],
vi 0],
[SObj.cells
(cCFpz0 cb cs cr cw cx db ds dr dw dx)
T,
SObj.ext 0
(memW ak
(stV M db ds (ofV ab ai aq ad [r0, r1, r2, r3, r4, r5, r6, r7]) 8
(IntKind.wrap IntKind.u64
(toV
(ldW bk (ldV M db ds (ofV bb bi bq bd [r0, r1, r2, r3, r4, r5, r6, r7]) 4 (mayV dr dw dx 0))
(getV bk br bd r0 r1 r2 r3 r4 r5 r6 r7 x0 x1 x2 x3 x4 x5 x6 x7))))
(mayV dr dw dx 1))
M)])
else none
else none
else
bif
ini64 op &&
(true &&
in64
(ldW bk (ldV M db ds (ofV bb bi bq bd [r0, r1, r2, r3, r4, r5, r6, r7]) 4 (mayV dr dw dx 0))
(getV bk br bd r0 r1 r2 r3 r4 r5 r6 r7 x0 x1 x2 x3 x4 x5 x6 x7))) then
bif
in32 r0 &&
(in32 r1 &&
(in32 r2 &&
(in32 r3 &&
(in32 r4 &&
(in32 r5 &&
(in32 r6 &&
(in32 r7 &&
(in32 ad &&
(in32 db &&
(in32 ds &&
in64
(doV op 0
(ldW bk (ldV M db ds (ofV bb bi bq bd [r0, r1, r2, r3, r4, r5, r6, r7]) 4 (mayV dr dw dx 0))
(getV bk br bd r0 r1 r2 r3 r4 r5 r6 r7 x0 x1 x2 x3 x4 x5 x6 x7))))))))))))) &&
true then
bif erW ak (segE db ds (ofV ab ai aq ad [r0, r1, r2, r3, r4, r5, r6, r7]) 8 (mayV dr dw dx 1)) != 0 then
some
(Sv.tup
[Sv.agg
(cCFpz1 r0 r1 r2 r3 r4 r5 r6 r7 ip fc fp fz fs fo fd x0 x1 x2 x3 x4 x5 x6 x7),
vi 2],
[SObj.cells
(cCFpz0 cb cs cr cw cx db ds dr dw dx)
T,
SObj.ext 0
(memW ak
(stV M db ds (ofV ab ai aq ad [r0, r1, r2, r3, r4, r5, r6, r7]) 8
(doV op 0
(ldW bk (ldV M db ds (ofV bb bi bq bd [r0, r1, r2, r3, r4, r5, r6, r7]) 4 (mayV dr dw dx 0))
(getV bk br bd r0 r1 r2 r3 r4 r5 r6 r7 x0 x1 x2 x3 x4 x5 x6 x7)))
(mayV dr dw dx 1))
M)])
else
some
(Sv.tup
[Sv.agg
[Sv.v
(Value.int IntKind.u32
(ldW ak r0
(setA ak ar 0 r0
(doV op 0
(ldW bk (ldV M db ds (ofV bb bi bq bd [r0, r1, r2, r3, r4, r5, r6, r7]) 4 (mayV dr dw dx 0))
(getV bk br bd r0 r1 r2 r3 r4 r5 r6 r7 x0 x1 x2 x3 x4 x5 x6 x7)))))),
Sv.v
(Value.int IntKind.u32
(ldW ak r1
(setA ak ar 1 r1
(doV op 0
(ldW bk (ldV M db ds (ofV bb bi bq bd [r0, r1, r2, r3, r4, r5, r6, r7]) 4 (mayV dr dw dx 0))
(getV bk br bd r0 r1 r2 r3 r4 r5 r6 r7 x0 x1 x2 x3 x4 x5 x6 x7)))))),
Sv.v
(Value.int IntKind.u32
(ldW ak r2
(setA ak ar 2 r2
(doV op 0
(ldW bk (ldV M db ds (ofV bb bi bq bd [r0, r1, r2, r3, r4, r5, r6, r7]) 4 (mayV dr dw dx 0))
(getV bk br bd r0 r1 r2 r3 r4 r5 r6 r7 x0 x1 x2 x3 x4 x5 x6 x7)))))),
Sv.v
(Value.int IntKind.u32
(ldW ak r3
(setA ak ar 3 r3
(doV op 0
(ldW bk (ldV M db ds (ofV bb bi bq bd [r0, r1, r2, r3, r4, r5, r6, r7]) 4 (mayV dr dw dx 0))
(getV bk br bd r0 r1 r2 r3 r4 r5 r6 r7 x0 x1 x2 x3 x4 x5 x6 x7)))))),
Sv.v
(Value.int IntKind.u32
(ldW ak r4
(setB ak ar 4 r4
(doV op 0
(ldW bk (ldV M db ds (ofV bb bi bq bd [r0, r1, r2, r3, r4, r5, r6, r7]) 4 (mayV dr dw dx 0))
(getV bk br bd r0 r1 r2 r3 r4 r5 r6 r7 x0 x1 x2 x3 x4 x5 x6 x7)))))),
Sv.v
(Value.int IntKind.u32
(ldW ak r5
(setB ak ar 5 r5
(doV op 0
(ldW bk (ldV M db ds (ofV bb bi bq bd [r0, r1, r2, r3, r4, r5, r6, r7]) 4 (mayV dr dw dx 0))
(getV bk br bd r0 r1 r2 r3 r4 r5 r6 r7 x0 x1 x2 x3 x4 x5 x6 x7)))))),
Sv.v
(Value.int IntKind.u32
(ldW ak r6
(setB ak ar 6 r6
(doV op 0
(ldW bk (ldV M db ds (ofV bb bi bq bd [r0, r1, r2, r3, r4, r5, r6, r7]) 4 (mayV dr dw dx 0))
(getV bk br bd r0 r1 r2 r3 r4 r5 r6 r7 x0 x1 x2 x3 x4 x5 x6 x7)))))),
Sv.v
(Value.int IntKind.u32
(ldW ak r7
(setB ak ar 7 r7
(doV op 0
(ldW bk (ldV M db ds (ofV bb bi bq bd [r0, r1, r2, r3, r4, r5, r6, r7]) 4 (mayV dr dw dx 0))
(getV bk br bd r0 r1 r2 r3 r4 r5 r6 r7 x0 x1 x2 x3 x4 x5 x6 x7)))))),
vw ip, vb fc, vb fp, vb fz, vb fs,
vb fo, vb fd,
Sv.v
(Value.int IntKind.u64
(ldW ak x0
(setX ak ar 0 x0
(doV op 0
(ldW bk (ldV M db ds (ofV bb bi bq bd [r0, r1, r2, r3, r4, r5, r6, r7]) 4 (mayV dr dw dx 0))
(getV bk br bd r0 r1 r2 r3 r4 r5 r6 r7 x0 x1 x2 x3 x4 x5 x6 x7)))))),
Sv.v
(Value.int IntKind.u64
(ldW ak x1
(setX ak ar 1 x1
(doV op 0
(ldW bk (ldV M db ds (ofV bb bi bq bd [r0, r1, r2, r3, r4, r5, r6, r7]) 4 (mayV dr dw dx 0))
(getV bk br bd r0 r1 r2 r3 r4 r5 r6 r7 x0 x1 x2 x3 x4 x5 x6 x7)))))),
Sv.v
(Value.int IntKind.u64
(ldW ak x2
(setX ak ar 2 x2
(doV op 0
(ldW bk (ldV M db ds (ofV bb bi bq bd [r0, r1, r2, r3, r4, r5, r6, r7]) 4 (mayV dr dw dx 0))
(getV bk br bd r0 r1 r2 r3 r4 r5 r6 r7 x0 x1 x2 x3 x4 x5 x6 x7)))))),
Sv.v
(Value.int IntKind.u64
(ldW ak x3
(setX ak ar 3 x3
(doV op 0
(ldW bk (ldV M db ds (ofV bb bi bq bd [r0, r1, r2, r3, r4, r5, r6, r7]) 4 (mayV dr dw dx 0))
(getV bk br bd r0 r1 r2 r3 r4 r5 r6 r7 x0 x1 x2 x3 x4 x5 x6 x7)))))),
Sv.v
(Value.int IntKind.u64
(ldW ak x4
(setX ak ar 4 x4
(doV op 0
(ldW bk (ldV M db ds (ofV bb bi bq bd [r0, r1, r2, r3, r4, r5, r6, r7]) 4 (mayV dr dw dx 0))
(getV bk br bd r0 r1 r2 r3 r4 r5 r6 r7 x0 x1 x2 x3 x4 x5 x6 x7)))))),
Sv.v
(Value.int IntKind.u64
(ldW ak x5
(setX ak ar 5 x5
(doV op 0
(ldW bk (ldV M db ds (ofV bb bi bq bd [r0, r1, r2, r3, r4, r5, r6, r7]) 4 (mayV dr dw dx 0))
(getV bk br bd r0 r1 r2 r3 r4 r5 r6 r7 x0 x1 x2 x3 x4 x5 x6 x7)))))),
Sv.v
(Value.int IntKind.u64
(ldW ak x6
(setX ak ar 6 x6
(doV op 0
(ldW bk (ldV M db ds (ofV bb bi bq bd [r0, r1, r2, r3, r4, r5, r6, r7]) 4 (mayV dr dw dx 0))
(getV bk br bd r0 r1 r2 r3 r4 r5 r6 r7 x0 x1 x2 x3 x4 x5 x6 x7)))))),
Sv.v
(Value.int IntKind.u64
(ldW ak x7
(setX ak ar 7 x7
(doV op 0
(ldW bk (ldV M db ds (ofV bb bi bq bd [r0, r1, r2, r3, r4, r5, r6, r7]) 4 (mayV dr dw dx 0))
(getV bk br bd r0 r1 r2 r3 r4 r5 r6 r7 x0 x1 x2 x3 x4 x5 x6 x7))))))],
vi 0],
[SObj.cells
(cCFpz0 cb cs cr cw cx db ds dr dw dx)
T,
SObj.ext 0
(memW ak
(stV M db ds (ofV ab ai aq ad [r0, r1, r2, r3, r4, r5, r6, r7]) 8
(doV op 0
(ldW bk (ldV M db ds (ofV bb bi bq bd [r0, r1, r2, r3, r4, r5, r6, r7]) 4 (mayV dr dw dx 0))
(getV bk br bd r0 r1 r2 r3 r4 r5 r6 r7 x0 x1 x2 x3 x4 x5 x6 x7)))
(mayV dr dw dx 1))
M)])
else none
else none
else none
else
bif ak == 5 then
bif
in32 r0 &&
(in32 r1 &&
(in32 r2 && (in32 r3 && (in32 r4 && (in32 r5 && (in32 r6 && (in32 r7 && (in32 ad && (in32 db && in32 ds))))))))) &&
true then
bif
in32 r0 &&
(in32 r1 &&
(in32 r2 && (in32 r3 && (in32 r4 && (in32 r5 && (in32 r6 && (in32 r7 && (in32 bd && (in32 db && in32 ds))))))))) &&
true then
bif !erW bk (segE db ds (ofV bb bi bq bd [r0, r1, r2, r3, r4, r5, r6, r7]) 8 (mayV dr dw dx 0)) == 0 then
some
(Sv.tup
[Sv.agg
(cCFpz1 r0 r1 r2 r3 r4 r5 r6 r7 ip fc fp fz fs fo fd x0 x1 x2 x3 x4 x5 x6 x7),
vi 2],
[SObj.cells
(cCFpz0 cb cs cr cw cx db ds dr dw dx)
T,
SObj.ext 0 M])
else
bif op == 61 then
bif
in64
(ldW ak (ldV M db ds (ofV ab ai aq ad [r0, r1, r2, r3, r4, r5, r6, r7]) 8 (mayV dr dw dx 0))
(getV ak ar ad r0 r1 r2 r3 r4 r5 r6 r7 x0 x1 x2 x3 x4 x5 x6 x7)) &&
in64
(ldW bk (ldV M db ds (ofV bb bi bq bd [r0, r1, r2, r3, r4, r5, r6, r7]) 8 (mayV dr dw dx 0))
(getV bk br bd r0 r1 r2 r3 r4 r5 r6 r7 x0 x1 x2 x3 x4 x5 x6 x7)) then
some
(Sv.tup
[Sv.agg
[vw r0, vw r1, vw r2,
vw r3, vw r4, vw r5,
vw r6, vw r7, vw ip,
Sv.v
(Value.bool
(cC
(ldW ak (ldV M db ds (ofV ab ai aq ad [r0, r1, r2, r3, r4, r5, r6, r7]) 8 (mayV dr dw dx 0))
(getV ak ar ad r0 r1 r2 r3 r4 r5 r6 r7 x0 x1 x2 x3 x4 x5 x6 x7))
(ldW bk (ldV M db ds (ofV bb bi bq bd [r0, r1, r2, r3, r4, r5, r6, r7]) 8 (mayV dr dw dx 0))
(getV bk br bd r0 r1 r2 r3 r4 r5 r6 r7 x0 x1 x2 x3 x4 x5 x6 x7)))),
Sv.v
(Value.bool
(cP
(ldW ak (ldV M db ds (ofV ab ai aq ad [r0, r1, r2, r3, r4, r5, r6, r7]) 8 (mayV dr dw dx 0))
(getV ak ar ad r0 r1 r2 r3 r4 r5 r6 r7 x0 x1 x2 x3 x4 x5 x6 x7))
(ldW bk (ldV M db ds (ofV bb bi bq bd [r0, r1, r2, r3, r4, r5, r6, r7]) 8 (mayV dr dw dx 0))
(getV bk br bd r0 r1 r2 r3 r4 r5 r6 r7 x0 x1 x2 x3 x4 x5 x6 x7)))),
Sv.v
(Value.bool
(cZ
(ldW ak (ldV M db ds (ofV ab ai aq ad [r0, r1, r2, r3, r4, r5, r6, r7]) 8 (mayV dr dw dx 0))
(getV ak ar ad r0 r1 r2 r3 r4 r5 r6 r7 x0 x1 x2 x3 x4 x5 x6 x7))
(ldW bk (ldV M db ds (ofV bb bi bq bd [r0, r1, r2, r3, r4, r5, r6, r7]) 8 (mayV dr dw dx 0))
(getV bk br bd r0 r1 r2 r3 r4 r5 r6 r7 x0 x1 x2 x3 x4 x5 x6 x7)))),
vb false, vb false, vb fd, vd x0,
vd x1, vd x2, vd x3,
vd x4, vd x5, vd x6,
vd x7],
vi 0],
[SObj.cells
(cCFpz0 cb cs cr cw cx db ds dr dw dx)
T,
SObj.ext 0 M])
else none
else
bif op == 59 then
bif
in32
(IntKind.wrap IntKind.u32
(ldW bk (ldV M db ds (ofV bb bi bq bd [r0, r1, r2, r3, r4, r5, r6, r7]) 8 (mayV dr dw dx 0))
(getV bk br bd r0 r1 r2 r3 r4 r5 r6 r7 x0 x1 x2 x3 x4 x5 x6 x7))) then
bif
in32 r0 &&
(in32 r1 &&
(in32 r2 &&
(in32 r3 &&
(in32 r4 &&
(in32 r5 &&
(in32 r6 &&
(in32 r7 &&
(in32 ad &&
(in32 db &&
(in32 ds &&
in64
(fromV
(IntKind.wrap IntKind.u32
(ldW bk (ldV M db ds (ofV bb bi bq bd [r0, r1, r2, r3, r4, r5, r6, r7]) 8 (mayV dr dw dx 0))
(getV bk br bd r0 r1 r2 r3 r4 r5 r6 r7 x0 x1 x2 x3 x4 x5 x6 x7)))))))))))))) &&
true then
bif erW ak (segE db ds (ofV ab ai aq ad [r0, r1, r2, r3, r4, r5, r6, r7]) 8 (mayV dr dw dx 1)) != 0 then
some
(Sv.tup
[Sv.agg
(cCFpz1 r0 r1 r2 r3 r4 r5 r6 r7 ip fc fp fz fs fo fd x0 x1 x2 x3 x4 x5 x6 x7),
vi 2],
[SObj.cells
(cCFpz0 cb cs cr cw cx db ds dr dw dx)
T,
SObj.ext 0
(memW ak
(stV M db ds (ofV ab ai aq ad [r0, r1, r2, r3, r4, r5, r6, r7]) 8
(fromV
(IntKind.wrap IntKind.u32
(ldW bk (ldV M db ds (ofV bb bi bq bd [r0, r1, r2, r3, r4, r5, r6, r7]) 8 (mayV dr dw dx 0))
(getV bk br bd r0 r1 r2 r3 r4 r5 r6 r7 x0 x1 x2 x3 x4 x5 x6 x7))))
(mayV dr dw dx 1))
M)])
else
some
(Sv.tup
[Sv.agg
[Sv.v
(Value.int IntKind.u32
(ldW ak r0
(setA ak ar 0 r0
(fromV
(IntKind.wrap IntKind.u32
(ldW bk (ldV M db ds (ofV bb bi bq bd [r0, r1, r2, r3, r4, r5, r6, r7]) 8 (mayV dr dw dx 0))
(getV bk br bd r0 r1 r2 r3 r4 r5 r6 r7 x0 x1 x2 x3 x4 x5 x6 x7))))))),
Sv.v
(Value.int IntKind.u32
(ldW ak r1
(setA ak ar 1 r1
(fromV
(IntKind.wrap IntKind.u32
(ldW bk (ldV M db ds (ofV bb bi bq bd [r0, r1, r2, r3, r4, r5, r6, r7]) 8 (mayV dr dw dx 0))
(getV bk br bd r0 r1 r2 r3 r4 r5 r6 r7 x0 x1 x2 x3 x4 x5 x6 x7))))))),
Sv.v
(Value.int IntKind.u32
(ldW ak r2
(setA ak ar 2 r2
(fromV
(IntKind.wrap IntKind.u32
(ldW bk (ldV M db ds (ofV bb bi bq bd [r0, r1, r2, r3, r4, r5, r6, r7]) 8 (mayV dr dw dx 0))
(getV bk br bd r0 r1 r2 r3 r4 r5 r6 r7 x0 x1 x2 x3 x4 x5 x6 x7))))))),
Sv.v
(Value.int IntKind.u32
(ldW ak r3
(setA ak ar 3 r3
(fromV
(IntKind.wrap IntKind.u32
(ldW bk (ldV M db ds (ofV bb bi bq bd [r0, r1, r2, r3, r4, r5, r6, r7]) 8 (mayV dr dw dx 0))
(getV bk br bd r0 r1 r2 r3 r4 r5 r6 r7 x0 x1 x2 x3 x4 x5 x6 x7))))))),
Sv.v
(Value.int IntKind.u32
(ldW ak r4
(setB ak ar 4 r4
(fromV
(IntKind.wrap IntKind.u32
(ldW bk (ldV M db ds (ofV bb bi bq bd [r0, r1, r2, r3, r4, r5, r6, r7]) 8 (mayV dr dw dx 0))
(getV bk br bd r0 r1 r2 r3 r4 r5 r6 r7 x0 x1 x2 x3 x4 x5 x6 x7))))))),
Sv.v
(Value.int IntKind.u32
(ldW ak r5
(setB ak ar 5 r5
(fromV
(IntKind.wrap IntKind.u32
(ldW bk (ldV M db ds (ofV bb bi bq bd [r0, r1, r2, r3, r4, r5, r6, r7]) 8 (mayV dr dw dx 0))
(getV bk br bd r0 r1 r2 r3 r4 r5 r6 r7 x0 x1 x2 x3 x4 x5 x6 x7))))))),
Sv.v
(Value.int IntKind.u32
(ldW ak r6
(setB ak ar 6 r6
(fromV
(IntKind.wrap IntKind.u32
(ldW bk (ldV M db ds (ofV bb bi bq bd [r0, r1, r2, r3, r4, r5, r6, r7]) 8 (mayV dr dw dx 0))
(getV bk br bd r0 r1 r2 r3 r4 r5 r6 r7 x0 x1 x2 x3 x4 x5 x6 x7))))))),
Sv.v
(Value.int IntKind.u32
(ldW ak r7
(setB ak ar 7 r7
(fromV
(IntKind.wrap IntKind.u32
(ldW bk (ldV M db ds (ofV bb bi bq bd [r0, r1, r2, r3, r4, r5, r6, r7]) 8 (mayV dr dw dx 0))
(getV bk br bd r0 r1 r2 r3 r4 r5 r6 r7 x0 x1 x2 x3 x4 x5 x6 x7))))))),
vw ip, vb fc, vb fp, vb fz, vb fs,
vb fo, vb fd,
Sv.v
(Value.int IntKind.u64
(ldW ak x0
(setX ak ar 0 x0
(fromV
(IntKind.wrap IntKind.u32
(ldW bk (ldV M db ds (ofV bb bi bq bd [r0, r1, r2, r3, r4, r5, r6, r7]) 8 (mayV dr dw dx 0))
(getV bk br bd r0 r1 r2 r3 r4 r5 r6 r7 x0 x1 x2 x3 x4 x5 x6 x7))))))),
Sv.v
(Value.int IntKind.u64
(ldW ak x1
(setX ak ar 1 x1
(fromV
(IntKind.wrap IntKind.u32
(ldW bk (ldV M db ds (ofV bb bi bq bd [r0, r1, r2, r3, r4, r5, r6, r7]) 8 (mayV dr dw dx 0))
(getV bk br bd r0 r1 r2 r3 r4 r5 r6 r7 x0 x1 x2 x3 x4 x5 x6 x7))))))),
Sv.v
(Value.int IntKind.u64
(ldW ak x2
(setX ak ar 2 x2
(fromV
(IntKind.wrap IntKind.u32
(ldW bk (ldV M db ds (ofV bb bi bq bd [r0, r1, r2, r3, r4, r5, r6, r7]) 8 (mayV dr dw dx 0))
(getV bk br bd r0 r1 r2 r3 r4 r5 r6 r7 x0 x1 x2 x3 x4 x5 x6 x7))))))),
Sv.v
(Value.int IntKind.u64
(ldW ak x3
(setX ak ar 3 x3
(fromV
(IntKind.wrap IntKind.u32
(ldW bk (ldV M db ds (ofV bb bi bq bd [r0, r1, r2, r3, r4, r5, r6, r7]) 8 (mayV dr dw dx 0))
(getV bk br bd r0 r1 r2 r3 r4 r5 r6 r7 x0 x1 x2 x3 x4 x5 x6 x7))))))),
Sv.v
(Value.int IntKind.u64
(ldW ak x4
(setX ak ar 4 x4
(fromV
(IntKind.wrap IntKind.u32
(ldW bk (ldV M db ds (ofV bb bi bq bd [r0, r1, r2, r3, r4, r5, r6, r7]) 8 (mayV dr dw dx 0))
(getV bk br bd r0 r1 r2 r3 r4 r5 r6 r7 x0 x1 x2 x3 x4 x5 x6 x7))))))),
Sv.v
(Value.int IntKind.u64
(ldW ak x5
(setX ak ar 5 x5
(fromV
(IntKind.wrap IntKind.u32
(ldW bk (ldV M db ds (ofV bb bi bq bd [r0, r1, r2, r3, r4, r5, r6, r7]) 8 (mayV dr dw dx 0))
(getV bk br bd r0 r1 r2 r3 r4 r5 r6 r7 x0 x1 x2 x3 x4 x5 x6 x7))))))),
Sv.v
(Value.int IntKind.u64
(ldW ak x6
(setX ak ar 6 x6
(fromV
(IntKind.wrap IntKind.u32
(ldW bk (ldV M db ds (ofV bb bi bq bd [r0, r1, r2, r3, r4, r5, r6, r7]) 8 (mayV dr dw dx 0))
(getV bk br bd r0 r1 r2 r3 r4 r5 r6 r7 x0 x1 x2 x3 x4 x5 x6 x7))))))),
Sv.v
(Value.int IntKind.u64
(ldW ak x7
(setX ak ar 7 x7
(fromV
(IntKind.wrap IntKind.u32
(ldW bk (ldV M db ds (ofV bb bi bq bd [r0, r1, r2, r3, r4, r5, r6, r7]) 8 (mayV dr dw dx 0))
(getV bk br bd r0 r1 r2 r3 r4 r5 r6 r7 x0 x1 x2 x3 x4 x5 x6 x7)))))))],
vi 0],
[SObj.cells
(cCFpz0 cb cs cr cw cx db ds dr dw dx)
T,
SObj.ext 0
(memW ak
(stV M db ds (ofV ab ai aq ad [r0, r1, r2, r3, r4, r5, r6, r7]) 8
(fromV
(IntKind.wrap IntKind.u32
(ldW bk (ldV M db ds (ofV bb bi bq bd [r0, r1, r2, r3, r4, r5, r6, r7]) 8 (mayV dr dw dx 0))
(getV bk br bd r0 r1 r2 r3 r4 r5 r6 r7 x0 x1 x2 x3 x4 x5 x6 x7))))
(mayV dr dw dx 1))
M)])
else none
else none
else
bif op == 60 then
bif
in64
(ldW bk (ldV M db ds (ofV bb bi bq bd [r0, r1, r2, r3, r4, r5, r6, r7]) 8 (mayV dr dw dx 0))
(getV bk br bd r0 r1 r2 r3 r4 r5 r6 r7 x0 x1 x2 x3 x4 x5 x6 x7)) then
bif
in32 r0 &&
(in32 r1 &&
(in32 r2 &&
(in32 r3 &&
(in32 r4 &&
(in32 r5 &&
(in32 r6 &&
(in32 r7 &&
(in32 ad &&
(in32 db &&
(in32 ds &&
in64
(IntKind.wrap IntKind.u64
(toV
(ldW bk (ldV M db ds (ofV bb bi bq bd [r0, r1, r2, r3, r4, r5, r6, r7]) 8 (mayV dr dw dx 0))
(getV bk br bd r0 r1 r2 r3 r4 r5 r6 r7 x0 x1 x2 x3 x4 x5 x6 x7)))))))))))))) &&
true then
bif erW ak (segE db ds (ofV ab ai aq ad [r0, r1, r2, r3, r4, r5, r6, r7]) 8 (mayV dr dw dx 1)) != 0 then
some
(Sv.tup
[Sv.agg
(cCFpz1 r0 r1 r2 r3 r4 r5 r6 r7 ip fc fp fz fs fo fd x0 x1 x2 x3 x4 x5 x6 x7),
vi 2],
[SObj.cells
(cCFpz0 cb cs cr cw cx db ds dr dw dx)
T,
SObj.ext 0
(memW ak
(stV M db ds (ofV ab ai aq ad [r0, r1, r2, r3, r4, r5, r6, r7]) 8
(IntKind.wrap IntKind.u64
(toV
(ldW bk (ldV M db ds (ofV bb bi bq bd [r0, r1, r2, r3, r4, r5, r6, r7]) 8 (mayV dr dw dx 0))
(getV bk br bd r0 r1 r2 r3 r4 r5 r6 r7 x0 x1 x2 x3 x4 x5 x6 x7))))
(mayV dr dw dx 1))
M)])
else
some
(Sv.tup
[Sv.agg
[Sv.v
(Value.int IntKind.u32
(ldW ak r0
(setA ak ar 0 r0
(IntKind.wrap IntKind.u64
(toV
(ldW bk (ldV M db ds (ofV bb bi bq bd [r0, r1, r2, r3, r4, r5, r6, r7]) 8 (mayV dr dw dx 0))
(getV bk br bd r0 r1 r2 r3 r4 r5 r6 r7 x0 x1 x2 x3 x4 x5 x6 x7))))))),
Sv.v
(Value.int IntKind.u32
(ldW ak r1
(setA ak ar 1 r1
(IntKind.wrap IntKind.u64
(toV
(ldW bk (ldV M db ds (ofV bb bi bq bd [r0, r1, r2, r3, r4, r5, r6, r7]) 8 (mayV dr dw dx 0))
(getV bk br bd r0 r1 r2 r3 r4 r5 r6 r7 x0 x1 x2 x3 x4 x5 x6 x7))))))),
Sv.v
(Value.int IntKind.u32
(ldW ak r2
(setA ak ar 2 r2
(IntKind.wrap IntKind.u64
(toV
(ldW bk (ldV M db ds (ofV bb bi bq bd [r0, r1, r2, r3, r4, r5, r6, r7]) 8 (mayV dr dw dx 0))
(getV bk br bd r0 r1 r2 r3 r4 r5 r6 r7 x0 x1 x2 x3 x4 x5 x6 x7))))))),
Sv.v
(Value.int IntKind.u32
(ldW ak r3
(setA ak ar 3 r3
(IntKind.wrap IntKind.u64
(toV
(ldW bk (ldV M db ds (ofV bb bi bq bd [r0, r1, r2, r3, r4, r5, r6, r7]) 8 (mayV dr dw dx 0))
(getV bk br bd r0 r1 r2 r3 r4 r5 r6 r7 x0 x1 x2 x3 x4 x5 x6 x7))))))),
Sv.v
(Value.int IntKind.u32
(ldW ak r4
(setB ak ar 4 r4
(IntKind.wrap IntKind.u64
(toV
(ldW bk (ldV M db ds (ofV bb bi bq bd [r0, r1, r2, r3, r4, r5, r6, r7]) 8 (mayV dr dw dx 0))
(getV bk br bd r0 r1 r2 r3 r4 r5 r6 r7 x0 x1 x2 x3 x4 x5 x6 x7))))))),
Sv.v
(Value.int IntKind.u32
(ldW ak r5
(setB ak ar 5 r5
(IntKind.wrap IntKind.u64
(toV
(ldW bk (ldV M db ds (ofV bb bi bq bd [r0, r1, r2, r3, r4, r5, r6, r7]) 8 (mayV dr dw dx 0))
(getV bk br bd r0 r1 r2 r3 r4 r5 r6 r7 x0 x1 x2 x3 x4 x5 x6 x7))))))),
Sv.v
(Value.int IntKind.u32
(ldW ak r6
(setB ak ar 6 r6
(IntKind.wrap IntKind.u64
(toV
(ldW bk (ldV M db ds (ofV bb bi bq bd [r0, r1, r2, r3, r4, r5, r6, r7]) 8 (mayV dr dw dx 0))
(getV bk br bd r0 r1 r2 r3 r4 r5 r6 r7 x0 x1 x2 x3 x4 x5 x6 x7))))))),
Sv.v
(Value.int IntKind.u32
(ldW ak r7
(setB ak ar 7 r7
(IntKind.wrap IntKind.u64
(toV
(ldW bk (ldV M db ds (ofV bb bi bq bd [r0, r1, r2, r3, r4, r5, r6, r7]) 8 (mayV dr dw dx 0))
(getV bk br bd r0 r1 r2 r3 r4 r5 r6 r7 x0 x1 x2 x3 x4 x5 x6 x7))))))),
vw ip, vb fc, vb fp, vb fz, vb fs,
vb fo, vb fd,
Sv.v
(Value.int IntKind.u64
(ldW ak x0
(setX ak ar 0 x0
(IntKind.wrap IntKind.u64
(toV
(ldW bk (ldV M db ds (ofV bb bi bq bd [r0, r1, r2, r3, r4, r5, r6, r7]) 8 (mayV dr dw dx 0))
(getV bk br bd r0 r1 r2 r3 r4 r5 r6 r7 x0 x1 x2 x3 x4 x5 x6 x7))))))),
Sv.v
(Value.int IntKind.u64
(ldW ak x1
(setX ak ar 1 x1
(IntKind.wrap IntKind.u64
(toV
(ldW bk (ldV M db ds (ofV bb bi bq bd [r0, r1, r2, r3, r4, r5, r6, r7]) 8 (mayV dr dw dx 0))
(getV bk br bd r0 r1 r2 r3 r4 r5 r6 r7 x0 x1 x2 x3 x4 x5 x6 x7))))))),
Sv.v
(Value.int IntKind.u64
(ldW ak x2
(setX ak ar 2 x2
(IntKind.wrap IntKind.u64
(toV
(ldW bk (ldV M db ds (ofV bb bi bq bd [r0, r1, r2, r3, r4, r5, r6, r7]) 8 (mayV dr dw dx 0))
(getV bk br bd r0 r1 r2 r3 r4 r5 r6 r7 x0 x1 x2 x3 x4 x5 x6 x7))))))),
Sv.v
(Value.int IntKind.u64
(ldW ak x3
(setX ak ar 3 x3
(IntKind.wrap IntKind.u64
(toV
(ldW bk (ldV M db ds (ofV bb bi bq bd [r0, r1, r2, r3, r4, r5, r6, r7]) 8 (mayV dr dw dx 0))
(getV bk br bd r0 r1 r2 r3 r4 r5 r6 r7 x0 x1 x2 x3 x4 x5 x6 x7))))))),
Sv.v
(Value.int IntKind.u64
(ldW ak x4
(setX ak ar 4 x4
(IntKind.wrap IntKind.u64
(toV
(ldW bk (ldV M db ds (ofV bb bi bq bd [r0, r1, r2, r3, r4, r5, r6, r7]) 8 (mayV dr dw dx 0))
(getV bk br bd r0 r1 r2 r3 r4 r5 r6 r7 x0 x1 x2 x3 x4 x5 x6 x7))))))),
Sv.v
(Value.int IntKind.u64
(ldW ak x5
(setX ak ar 5 x5
(IntKind.wrap IntKind.u64
(toV
(ldW bk (ldV M db ds (ofV bb bi bq bd [r0, r1, r2, r3, r4, r5, r6, r7]) 8 (mayV dr dw dx 0))
(getV bk br bd r0 r1 r2 r3 r4 r5 r6 r7 x0 x1 x2 x3 x4 x5 x6 x7))))))),
Sv.v
(Value.int IntKind.u64
(ldW ak x6
(setX ak ar 6 x6
(IntKind.wrap IntKind.u64
(toV
(ldW bk (ldV M db ds (ofV bb bi bq bd [r0, r1, r2, r3, r4, r5, r6, r7]) 8 (mayV dr dw dx 0))
(getV bk br bd r0 r1 r2 r3 r4 r5 r6 r7 x0 x1 x2 x3 x4 x5 x6 x7))))))),
Sv.v
(Value.int IntKind.u64
(ldW ak x7
(setX ak ar 7 x7
(IntKind.wrap IntKind.u64
(toV
(ldW bk (ldV M db ds (ofV bb bi bq bd [r0, r1, r2, r3, r4, r5, r6, r7]) 8 (mayV dr dw dx 0))
(getV bk br bd r0 r1 r2 r3 r4 r5 r6 r7 x0 x1 x2 x3 x4 x5 x6 x7)))))))],
vi 0],
[SObj.cells
(cCFpz0 cb cs cr cw cx db ds dr dw dx)
T,
SObj.ext 0
(memW ak
(stV M db ds (ofV ab ai aq ad [r0, r1, r2, r3, r4, r5, r6, r7]) 8
(IntKind.wrap IntKind.u64
(toV
(ldW bk (ldV M db ds (ofV bb bi bq bd [r0, r1, r2, r3, r4, r5, r6, r7]) 8 (mayV dr dw dx 0))
(getV bk br bd r0 r1 r2 r3 r4 r5 r6 r7 x0 x1 x2 x3 x4 x5 x6 x7))))
(mayV dr dw dx 1))
M)])
else none
else none
else
bif
ini64 op &&
(in64
(ldW ak (ldV M db ds (ofV ab ai aq ad [r0, r1, r2, r3, r4, r5, r6, r7]) 8 (mayV dr dw dx 0))
(getV ak ar ad r0 r1 r2 r3 r4 r5 r6 r7 x0 x1 x2 x3 x4 x5 x6 x7)) &&
in64
(ldW bk (ldV M db ds (ofV bb bi bq bd [r0, r1, r2, r3, r4, r5, r6, r7]) 8 (mayV dr dw dx 0))
(getV bk br bd r0 r1 r2 r3 r4 r5 r6 r7 x0 x1 x2 x3 x4 x5 x6 x7))) then
bif
in32 r0 &&
(in32 r1 &&
(in32 r2 &&
(in32 r3 &&
(in32 r4 &&
(in32 r5 &&
(in32 r6 &&
(in32 r7 &&
(in32 ad &&
(in32 db &&
(in32 ds &&
in64
(doV op
(ldW ak (ldV M db ds (ofV ab ai aq ad [r0, r1, r2, r3, r4, r5, r6, r7]) 8 (mayV dr dw dx 0))
(getV ak ar ad r0 r1 r2 r3 r4 r5 r6 r7 x0 x1 x2 x3 x4 x5 x6 x7))
(ldW bk (ldV M db ds (ofV bb bi bq bd [r0, r1, r2, r3, r4, r5, r6, r7]) 8 (mayV dr dw dx 0))
(getV bk br bd r0 r1 r2 r3 r4 r5 r6 r7 x0 x1 x2 x3 x4 x5 x6 x7))))))))))))) &&
true then
bif erW ak (segE db ds (ofV ab ai aq ad [r0, r1, r2, r3, r4, r5, r6, r7]) 8 (mayV dr dw dx 1)) != 0 then
some
(Sv.tup
[Sv.agg
(cCFpz1 r0 r1 r2 r3 r4 r5 r6 r7 ip fc fp fz fs fo fd x0 x1 x2 x3 x4 x5 x6 x7),
vi 2],
[SObj.cells
(cCFpz0 cb cs cr cw cx db ds dr dw dx)
T,
SObj.ext 0
(memW ak
(stV M db ds (ofV ab ai aq ad [r0, r1, r2, r3, r4, r5, r6, r7]) 8
(doV op
(ldW ak (ldV M db ds (ofV ab ai aq ad [r0, r1, r2, r3, r4, r5, r6, r7]) 8 (mayV dr dw dx 0))
(getV ak ar ad r0 r1 r2 r3 r4 r5 r6 r7 x0 x1 x2 x3 x4 x5 x6 x7))
(ldW bk (ldV M db ds (ofV bb bi bq bd [r0, r1, r2, r3, r4, r5, r6, r7]) 8 (mayV dr dw dx 0))
(getV bk br bd r0 r1 r2 r3 r4 r5 r6 r7 x0 x1 x2 x3 x4 x5 x6 x7)))
(mayV dr dw dx 1))
M)])
else
some
(Sv.tup
[Sv.agg
[Sv.v
(Value.int IntKind.u32
(ldW ak r0
(setA ak ar 0 r0
(doV op
(ldW ak (ldV M db ds (ofV ab ai aq ad [r0, r1, r2, r3, r4, r5, r6, r7]) 8 (mayV dr dw dx 0))
(getV ak ar ad r0 r1 r2 r3 r4 r5 r6 r7 x0 x1 x2 x3 x4 x5 x6 x7))
(ldW bk (ldV M db ds (ofV bb bi bq bd [r0, r1, r2, r3, r4, r5, r6, r7]) 8 (mayV dr dw dx 0))
(getV bk br bd r0 r1 r2 r3 r4 r5 r6 r7 x0 x1 x2 x3 x4 x5 x6 x7)))))),
Sv.v
(Value.int IntKind.u32
(ldW ak r1
(setA ak ar 1 r1
(doV op
(ldW ak (ldV M db ds (ofV ab ai aq ad [r0, r1, r2, r3, r4, r5, r6, r7]) 8 (mayV dr dw dx 0))
(getV ak ar ad r0 r1 r2 r3 r4 r5 r6 r7 x0 x1 x2 x3 x4 x5 x6 x7))
(ldW bk (ldV M db ds (ofV bb bi bq bd [r0, r1, r2, r3, r4, r5, r6, r7]) 8 (mayV dr dw dx 0))
(getV bk br bd r0 r1 r2 r3 r4 r5 r6 r7 x0 x1 x2 x3 x4 x5 x6 x7)))))),
Sv.v
(Value.int IntKind.u32
(ldW ak r2
(setA ak ar 2 r2
(doV op
(ldW ak (ldV M db ds (ofV ab ai aq ad [r0, r1, r2, r3, r4, r5, r6, r7]) 8 (mayV dr dw dx 0))
(getV ak ar ad r0 r1 r2 r3 r4 r5 r6 r7 x0 x1 x2 x3 x4 x5 x6 x7))
(ldW bk (ldV M db ds (ofV bb bi bq bd [r0, r1, r2, r3, r4, r5, r6, r7]) 8 (mayV dr dw dx 0))
(getV bk br bd r0 r1 r2 r3 r4 r5 r6 r7 x0 x1 x2 x3 x4 x5 x6 x7)))))),
Sv.v
(Value.int IntKind.u32
(ldW ak r3
(setA ak ar 3 r3
(doV op
(ldW ak (ldV M db ds (ofV ab ai aq ad [r0, r1, r2, r3, r4, r5, r6, r7]) 8 (mayV dr dw dx 0))
(getV ak ar ad r0 r1 r2 r3 r4 r5 r6 r7 x0 x1 x2 x3 x4 x5 x6 x7))
(ldW bk (ldV M db ds (ofV bb bi bq bd [r0, r1, r2, r3, r4, r5, r6, r7]) 8 (mayV dr dw dx 0))
(getV bk br bd r0 r1 r2 r3 r4 r5 r6 r7 x0 x1 x2 x3 x4 x5 x6 x7)))))),
Sv.v
(Value.int IntKind.u32
(ldW ak r4
(setB ak ar 4 r4
(doV op
(ldW ak (ldV M db ds (ofV ab ai aq ad [r0, r1, r2, r3, r4, r5, r6, r7]) 8 (mayV dr dw dx 0))
(getV ak ar ad r0 r1 r2 r3 r4 r5 r6 r7 x0 x1 x2 x3 x4 x5 x6 x7))
(ldW bk (ldV M db ds (ofV bb bi bq bd [r0, r1, r2, r3, r4, r5, r6, r7]) 8 (mayV dr dw dx 0))
(getV bk br bd r0 r1 r2 r3 r4 r5 r6 r7 x0 x1 x2 x3 x4 x5 x6 x7)))))),
Sv.v
(Value.int IntKind.u32
(ldW ak r5
(setB ak ar 5 r5
(doV op
(ldW ak (ldV M db ds (ofV ab ai aq ad [r0, r1, r2, r3, r4, r5, r6, r7]) 8 (mayV dr dw dx 0))
(getV ak ar ad r0 r1 r2 r3 r4 r5 r6 r7 x0 x1 x2 x3 x4 x5 x6 x7))
(ldW bk (ldV M db ds (ofV bb bi bq bd [r0, r1, r2, r3, r4, r5, r6, r7]) 8 (mayV dr dw dx 0))
(getV bk br bd r0 r1 r2 r3 r4 r5 r6 r7 x0 x1 x2 x3 x4 x5 x6 x7)))))),
Sv.v
(Value.int IntKind.u32
(ldW ak r6
(setB ak ar 6 r6
(doV op
(ldW ak (ldV M db ds (ofV ab ai aq ad [r0, r1, r2, r3, r4, r5, r6, r7]) 8 (mayV dr dw dx 0))
(getV ak ar ad r0 r1 r2 r3 r4 r5 r6 r7 x0 x1 x2 x3 x4 x5 x6 x7))
(ldW bk (ldV M db ds (ofV bb bi bq bd [r0, r1, r2, r3, r4, r5, r6, r7]) 8 (mayV dr dw dx 0))
(getV bk br bd r0 r1 r2 r3 r4 r5 r6 r7 x0 x1 x2 x3 x4 x5 x6 x7)))))),
Sv.v
(Value.int IntKind.u32
(ldW ak r7
(setB ak ar 7 r7
(doV op
(ldW ak (ldV M db ds (ofV ab ai aq ad [r0, r1, r2, r3, r4, r5, r6, r7]) 8 (mayV dr dw dx 0))
(getV ak ar ad r0 r1 r2 r3 r4 r5 r6 r7 x0 x1 x2 x3 x4 x5 x6 x7))
(ldW bk (ldV M db ds (ofV bb bi bq bd [r0, r1, r2, r3, r4, r5, r6, r7]) 8 (mayV dr dw dx 0))
(getV bk br bd r0 r1 r2 r3 r4 r5 r6 r7 x0 x1 x2 x3 x4 x5 x6 x7)))))),
vw ip, vb fc, vb fp, vb fz, vb fs,
vb fo, vb fd,
Sv.v
(Value.int IntKind.u64
(ldW ak x0
(setX ak ar 0 x0
(doV op
(ldW ak (ldV M db ds (ofV ab ai aq ad [r0, r1, r2, r3, r4, r5, r6, r7]) 8 (mayV dr dw dx 0))
(getV ak ar ad r0 r1 r2 r3 r4 r5 r6 r7 x0 x1 x2 x3 x4 x5 x6 x7))
(ldW bk (ldV M db ds (ofV bb bi bq bd [r0, r1, r2, r3, r4, r5, r6, r7]) 8 (mayV dr dw dx 0))
(getV bk br bd r0 r1 r2 r3 r4 r5 r6 r7 x0 x1 x2 x3 x4 x5 x6 x7)))))),
Sv.v
(Value.int IntKind.u64
(ldW ak x1
(setX ak ar 1 x1
(doV op
(ldW ak (ldV M db ds (ofV ab ai aq ad [r0, r1, r2, r3, r4, r5, r6, r7]) 8 (mayV dr dw dx 0))
(getV ak ar ad r0 r1 r2 r3 r4 r5 r6 r7 x0 x1 x2 x3 x4 x5 x6 x7))
(ldW bk (ldV M db ds (ofV bb bi bq bd [r0, r1, r2, r3, r4, r5, r6, r7]) 8 (mayV dr dw dx 0))
(getV bk br bd r0 r1 r2 r3 r4 r5 r6 r7 x0 x1 x2 x3 x4 x5 x6 x7)))))),
Sv.v
(Value.int IntKind.u64
(ldW ak x2
(setX ak ar 2 x2
(doV op
(ldW ak (ldV M db ds (ofV ab ai aq ad [r0, r1, r2, r3, r4, r5, r6, r7]) 8 (mayV dr dw dx 0))
(getV ak ar ad r0 r1 r2 r3 r4 r5 r6 r7 x0 x1 x2 x3 x4 x5 x6 x7))
(ldW bk (ldV M db ds (ofV bb bi bq bd [r0, r1, r2, r3, r4, r5, r6, r7]) 8 (mayV dr dw dx 0))
(getV bk br bd r0 r1 r2 r3 r4 r5 r6 r7 x0 x1 x2 x3 x4 x5 x6 x7)))))),
Sv.v
(Value.int IntKind.u64
(ldW ak x3
(setX ak ar 3 x3
(doV op
(ldW ak (ldV M db ds (ofV ab ai aq ad [r0, r1, r2, r3, r4, r5, r6, r7]) 8 (mayV dr dw dx 0))
(getV ak ar ad r0 r1 r2 r3 r4 r5 r6 r7 x0 x1 x2 x3 x4 x5 x6 x7))
(ldW bk (ldV M db ds (ofV bb bi bq bd [r0, r1, r2, r3, r4, r5, r6, r7]) 8 (mayV dr dw dx 0))
(getV bk br bd r0 r1 r2 r3 r4 r5 r6 r7 x0 x1 x2 x3 x4 x5 x6 x7)))))),
Sv.v
(Value.int IntKind.u64
(ldW ak x4
(setX ak ar 4 x4
(doV op
(ldW ak (ldV M db ds (ofV ab ai aq ad [r0, r1, r2, r3, r4, r5, r6, r7]) 8 (mayV dr dw dx 0))
(getV ak ar ad r0 r1 r2 r3 r4 r5 r6 r7 x0 x1 x2 x3 x4 x5 x6 x7))
(ldW bk (ldV M db ds (ofV bb bi bq bd [r0, r1, r2, r3, r4, r5, r6, r7]) 8 (mayV dr dw dx 0))
(getV bk br bd r0 r1 r2 r3 r4 r5 r6 r7 x0 x1 x2 x3 x4 x5 x6 x7)))))),
Sv.v
(Value.int IntKind.u64
(ldW ak x5
(setX ak ar 5 x5
(doV op
(ldW ak (ldV M db ds (ofV ab ai aq ad [r0, r1, r2, r3, r4, r5, r6, r7]) 8 (mayV dr dw dx 0))
(getV ak ar ad r0 r1 r2 r3 r4 r5 r6 r7 x0 x1 x2 x3 x4 x5 x6 x7))
(ldW bk (ldV M db ds (ofV bb bi bq bd [r0, r1, r2, r3, r4, r5, r6, r7]) 8 (mayV dr dw dx 0))
(getV bk br bd r0 r1 r2 r3 r4 r5 r6 r7 x0 x1 x2 x3 x4 x5 x6 x7)))))),
Sv.v
(Value.int IntKind.u64
(ldW ak x6
(setX ak ar 6 x6
(doV op
(ldW ak (ldV M db ds (ofV ab ai aq ad [r0, r1, r2, r3, r4, r5, r6, r7]) 8 (mayV dr dw dx 0))
(getV ak ar ad r0 r1 r2 r3 r4 r5 r6 r7 x0 x1 x2 x3 x4 x5 x6 x7))
(ldW bk (ldV M db ds (ofV bb bi bq bd [r0, r1, r2, r3, r4, r5, r6, r7]) 8 (mayV dr dw dx 0))
(getV bk br bd r0 r1 r2 r3 r4 r5 r6 r7 x0 x1 x2 x3 x4 x5 x6 x7)))))),
Sv.v
(Value.int IntKind.u64
(ldW ak x7
(setX ak ar 7 x7
(doV op
(ldW ak (ldV M db ds (ofV ab ai aq ad [r0, r1, r2, r3, r4, r5, r6, r7]) 8 (mayV dr dw dx 0))
(getV ak ar ad r0 r1 r2 r3 r4 r5 r6 r7 x0 x1 x2 x3 x4 x5 x6 x7))
(ldW bk (ldV M db ds (ofV bb bi bq bd [r0, r1, r2, r3, r4, r5, r6, r7]) 8 (mayV dr dw dx 0))
(getV bk br bd r0 r1 r2 r3 r4 r5 r6 r7 x0 x1 x2 x3 x4 x5 x6 x7))))))],
vi 0],
[SObj.cells
(cCFpz0 cb cs cr cw cx db ds dr dw dx)
T,
SObj.ext 0
(memW ak
(stV M db ds (ofV ab ai aq ad [r0, r1, r2, r3, r4, r5, r6, r7]) 8
(doV op
(ldW ak (ldV M db ds (ofV ab ai aq ad [r0, r1, r2, r3, r4, r5, r6, r7]) 8 (mayV dr dw dx 0))
(getV ak ar ad r0 r1 r2 r3 r4 r5 r6 r7 x0 x1 x2 x3 x4 x5 x6 x7))
(ldW bk (ldV M db ds (ofV bb bi bq bd [r0, r1, r2, r3, r4, r5, r6, r7]) 8 (mayV dr dw dx 0))
(getV bk br bd r0 r1 r2 r3 r4 r5 r6 r7 x0 x1 x2 x3 x4 x5 x6 x7)))
(mayV dr dw dx 1))
M)])
else none
else none
else none
else none
else
bif
in32 r0 &&
(in32 r1 &&
(in32 r2 && (in32 r3 && (in32 r4 && (in32 r5 && (in32 r6 && (in32 r7 && (in32 bd && (in32 db && in32 ds))))))))) &&
true then
bif !erW bk (segE db ds (ofV bb bi bq bd [r0, r1, r2, r3, r4, r5, r6, r7]) 8 (mayV dr dw dx 0)) == 0 then
some
(Sv.tup
[Sv.agg
(cCFpz1 r0 r1 r2 r3 r4 r5 r6 r7 ip fc fp fz fs fo fd x0 x1 x2 x3 x4 x5 x6 x7),
vi 2],
[SObj.cells
(cCFpz0 cb cs cr cw cx db ds dr dw dx)
T,
SObj.ext 0 M])
else
bif op == 61 then
bif
true &&
in64
(ldW bk (ldV M db ds (ofV bb bi bq bd [r0, r1, r2, r3, r4, r5, r6, r7]) 8 (mayV dr dw dx 0))
(getV bk br bd r0 r1 r2 r3 r4 r5 r6 r7 x0 x1 x2 x3 x4 x5 x6 x7)) then
some
(Sv.tup
[Sv.agg
[vw r0, vw r1, vw r2,
vw r3, vw r4, vw r5,
vw r6, vw r7, vw ip,
Sv.v
(Value.bool
(cC 0
(ldW bk (ldV M db ds (ofV bb bi bq bd [r0, r1, r2, r3, r4, r5, r6, r7]) 8 (mayV dr dw dx 0))
(getV bk br bd r0 r1 r2 r3 r4 r5 r6 r7 x0 x1 x2 x3 x4 x5 x6 x7)))),
Sv.v
(Value.bool
(cP 0
(ldW bk (ldV M db ds (ofV bb bi bq bd [r0, r1, r2, r3, r4, r5, r6, r7]) 8 (mayV dr dw dx 0))
(getV bk br bd r0 r1 r2 r3 r4 r5 r6 r7 x0 x1 x2 x3 x4 x5 x6 x7)))),
Sv.v
(Value.bool
(cZ 0
(ldW bk (ldV M db ds (ofV bb bi bq bd [r0, r1, r2, r3, r4, r5, r6, r7]) 8 (mayV dr dw dx 0))
(getV bk br bd r0 r1 r2 r3 r4 r5 r6 r7 x0 x1 x2 x3 x4 x5 x6 x7)))),
vb false, vb false, vb fd, vd x0,
vd x1, vd x2, vd x3,
vd x4, vd x5, vd x6,
vd x7],
vi 0],
[SObj.cells
(cCFpz0 cb cs cr cw cx db ds dr dw dx)
T,
SObj.ext 0 M])
else none
else
bif op == 59 then
bif
in32
(IntKind.wrap IntKind.u32
(ldW bk (ldV M db ds (ofV bb bi bq bd [r0, r1, r2, r3, r4, r5, r6, r7]) 8 (mayV dr dw dx 0))
(getV bk br bd r0 r1 r2 r3 r4 r5 r6 r7 x0 x1 x2 x3 x4 x5 x6 x7))) then
bif
in32 r0 &&
(in32 r1 &&
(in32 r2 &&
(in32 r3 &&
(in32 r4 &&
(in32 r5 &&
(in32 r6 &&
(in32 r7 &&
(in32 ad &&
(in32 db &&
(in32 ds &&
in64
(fromV
(IntKind.wrap IntKind.u32
(ldW bk (ldV M db ds (ofV bb bi bq bd [r0, r1, r2, r3, r4, r5, r6, r7]) 8 (mayV dr dw dx 0))
(getV bk br bd r0 r1 r2 r3 r4 r5 r6 r7 x0 x1 x2 x3 x4 x5 x6 x7)))))))))))))) &&
true then
bif erW ak (segE db ds (ofV ab ai aq ad [r0, r1, r2, r3, r4, r5, r6, r7]) 8 (mayV dr dw dx 1)) != 0 then
some
(Sv.tup
[Sv.agg
(cCFpz1 r0 r1 r2 r3 r4 r5 r6 r7 ip fc fp fz fs fo fd x0 x1 x2 x3 x4 x5 x6 x7),
vi 2],
[SObj.cells
(cCFpz0 cb cs cr cw cx db ds dr dw dx)
T,
SObj.ext 0
(memW ak
(stV M db ds (ofV ab ai aq ad [r0, r1, r2, r3, r4, r5, r6, r7]) 8
(fromV
(IntKind.wrap IntKind.u32
(ldW bk (ldV M db ds (ofV bb bi bq bd [r0, r1, r2, r3, r4, r5, r6, r7]) 8 (mayV dr dw dx 0))
(getV bk br bd r0 r1 r2 r3 r4 r5 r6 r7 x0 x1 x2 x3 x4 x5 x6 x7))))
(mayV dr dw dx 1))
M)])
else
some
(Sv.tup
[Sv.agg
[Sv.v
(Value.int IntKind.u32
(ldW ak r0
(setA ak ar 0 r0
(fromV
(IntKind.wrap IntKind.u32
(ldW bk (ldV M db ds (ofV bb bi bq bd [r0, r1, r2, r3, r4, r5, r6, r7]) 8 (mayV dr dw dx 0))
(getV bk br bd r0 r1 r2 r3 r4 r5 r6 r7 x0 x1 x2 x3 x4 x5 x6 x7))))))),
Sv.v
(Value.int IntKind.u32
(ldW ak r1
(setA ak ar 1 r1
(fromV
(IntKind.wrap IntKind.u32
(ldW bk (ldV M db ds (ofV bb bi bq bd [r0, r1, r2, r3, r4, r5, r6, r7]) 8 (mayV dr dw dx 0))
(getV bk br bd r0 r1 r2 r3 r4 r5 r6 r7 x0 x1 x2 x3 x4 x5 x6 x7))))))),
Sv.v
(Value.int IntKind.u32
(ldW ak r2
(setA ak ar 2 r2
(fromV
(IntKind.wrap IntKind.u32
(ldW bk (ldV M db ds (ofV bb bi bq bd [r0, r1, r2, r3, r4, r5, r6, r7]) 8 (mayV dr dw dx 0))
(getV bk br bd r0 r1 r2 r3 r4 r5 r6 r7 x0 x1 x2 x3 x4 x5 x6 x7))))))),
Sv.v
(Value.int IntKind.u32
(ldW ak r3
(setA ak ar 3 r3
(fromV
(IntKind.wrap IntKind.u32
(ldW bk (ldV M db ds (ofV bb bi bq bd [r0, r1, r2, r3, r4, r5, r6, r7]) 8 (mayV dr dw dx 0))
(getV bk br bd r0 r1 r2 r3 r4 r5 r6 r7 x0 x1 x2 x3 x4 x5 x6 x7))))))),
Sv.v
(Value.int IntKind.u32
(ldW ak r4
(setB ak ar 4 r4
(fromV
(IntKind.wrap IntKind.u32
(ldW bk (ldV M db ds (ofV bb bi bq bd [r0, r1, r2, r3, r4, r5, r6, r7]) 8 (mayV dr dw dx 0))
(getV bk br bd r0 r1 r2 r3 r4 r5 r6 r7 x0 x1 x2 x3 x4 x5 x6 x7))))))),
Sv.v
(Value.int IntKind.u32
(ldW ak r5
(setB ak ar 5 r5
(fromV
(IntKind.wrap IntKind.u32
(ldW bk (ldV M db ds (ofV bb bi bq bd [r0, r1, r2, r3, r4, r5, r6, r7]) 8 (mayV dr dw dx 0))
(getV bk br bd r0 r1 r2 r3 r4 r5 r6 r7 x0 x1 x2 x3 x4 x5 x6 x7))))))),
Sv.v
(Value.int IntKind.u32
(ldW ak r6
(setB ak ar 6 r6
(fromV
(IntKind.wrap IntKind.u32
(ldW bk (ldV M db ds (ofV bb bi bq bd [r0, r1, r2, r3, r4, r5, r6, r7]) 8 (mayV dr dw dx 0))
(getV bk br bd r0 r1 r2 r3 r4 r5 r6 r7 x0 x1 x2 x3 x4 x5 x6 x7))))))),
Sv.v
(Value.int IntKind.u32
(ldW ak r7
(setB ak ar 7 r7
(fromV
(IntKind.wrap IntKind.u32
(ldW bk (ldV M db ds (ofV bb bi bq bd [r0, r1, r2, r3, r4, r5, r6, r7]) 8 (mayV dr dw dx 0))
(getV bk br bd r0 r1 r2 r3 r4 r5 r6 r7 x0 x1 x2 x3 x4 x5 x6 x7))))))),
vw ip, vb fc, vb fp, vb fz, vb fs,
vb fo, vb fd,
Sv.v
(Value.int IntKind.u64
(ldW ak x0
(setX ak ar 0 x0
(fromV
(IntKind.wrap IntKind.u32
(ldW bk (ldV M db ds (ofV bb bi bq bd [r0, r1, r2, r3, r4, r5, r6, r7]) 8 (mayV dr dw dx 0))
(getV bk br bd r0 r1 r2 r3 r4 r5 r6 r7 x0 x1 x2 x3 x4 x5 x6 x7))))))),
Sv.v
(Value.int IntKind.u64
(ldW ak x1
(setX ak ar 1 x1
(fromV
(IntKind.wrap IntKind.u32
(ldW bk (ldV M db ds (ofV bb bi bq bd [r0, r1, r2, r3, r4, r5, r6, r7]) 8 (mayV dr dw dx 0))
(getV bk br bd r0 r1 r2 r3 r4 r5 r6 r7 x0 x1 x2 x3 x4 x5 x6 x7))))))),
Sv.v
(Value.int IntKind.u64
(ldW ak x2
(setX ak ar 2 x2
(fromV
(IntKind.wrap IntKind.u32
(ldW bk (ldV M db ds (ofV bb bi bq bd [r0, r1, r2, r3, r4, r5, r6, r7]) 8 (mayV dr dw dx 0))
(getV bk br bd r0 r1 r2 r3 r4 r5 r6 r7 x0 x1 x2 x3 x4 x5 x6 x7))))))),
Sv.v
(Value.int IntKind.u64
(ldW ak x3
(setX ak ar 3 x3
(fromV
(IntKind.wrap IntKind.u32
(ldW bk (ldV M db ds (ofV bb bi bq bd [r0, r1, r2, r3, r4, r5, r6, r7]) 8 (mayV dr dw dx 0))
(getV bk br bd r0 r1 r2 r3 r4 r5 r6 r7 x0 x1 x2 x3 x4 x5 x6 x7))))))),
Sv.v
(Value.int IntKind.u64
(ldW ak x4
(setX ak ar 4 x4
(fromV
(IntKind.wrap IntKind.u32
(ldW bk (ldV M db ds (ofV bb bi bq bd [r0, r1, r2, r3, r4, r5, r6, r7]) 8 (mayV dr dw dx 0))
(getV bk br bd r0 r1 r2 r3 r4 r5 r6 r7 x0 x1 x2 x3 x4 x5 x6 x7))))))),
Sv.v
(Value.int IntKind.u64
(ldW ak x5
(setX ak ar 5 x5
(fromV
(IntKind.wrap IntKind.u32
(ldW bk (ldV M db ds (ofV bb bi bq bd [r0, r1, r2, r3, r4, r5, r6, r7]) 8 (mayV dr dw dx 0))
(getV bk br bd r0 r1 r2 r3 r4 r5 r6 r7 x0 x1 x2 x3 x4 x5 x6 x7))))))),
Sv.v
(Value.int IntKind.u64
(ldW ak x6
(setX ak ar 6 x6
(fromV
(IntKind.wrap IntKind.u32
(ldW bk (ldV M db ds (ofV bb bi bq bd [r0, r1, r2, r3, r4, r5, r6, r7]) 8 (mayV dr dw dx 0))
(getV bk br bd r0 r1 r2 r3 r4 r5 r6 r7 x0 x1 x2 x3 x4 x5 x6 x7))))))),
Sv.v
(Value.int IntKind.u64
(ldW ak x7
(setX ak ar 7 x7
(fromV
(IntKind.wrap IntKind.u32
(ldW bk (ldV M db ds (ofV bb bi bq bd [r0, r1, r2, r3, r4, r5, r6, r7]) 8 (mayV dr dw dx 0))
(getV bk br bd r0 r1 r2 r3 r4 r5 r6 r7 x0 x1 x2 x3 x4 x5 x6 x7)))))))],
vi 0],
[SObj.cells
(cCFpz0 cb cs cr cw cx db ds dr dw dx)
T,
SObj.ext 0
(memW ak
(stV M db ds (ofV ab ai aq ad [r0, r1, r2, r3, r4, r5, r6, r7]) 8
(fromV
(IntKind.wrap IntKind.u32
(ldW bk (ldV M db ds (ofV bb bi bq bd [r0, r1, r2, r3, r4, r5, r6, r7]) 8 (mayV dr dw dx 0))
(getV bk br bd r0 r1 r2 r3 r4 r5 r6 r7 x0 x1 x2 x3 x4 x5 x6 x7))))
(mayV dr dw dx 1))
M)])
else none
else none
else
bif op == 60 then
bif
in64
(ldW bk (ldV M db ds (ofV bb bi bq bd [r0, r1, r2, r3, r4, r5, r6, r7]) 8 (mayV dr dw dx 0))
(getV bk br bd r0 r1 r2 r3 r4 r5 r6 r7 x0 x1 x2 x3 x4 x5 x6 x7)) then
bif
in32 r0 &&
(in32 r1 &&
(in32 r2 &&
(in32 r3 &&
(in32 r4 &&
(in32 r5 &&
(in32 r6 &&
(in32 r7 &&
(in32 ad &&
(in32 db &&
(in32 ds &&
in64
(IntKind.wrap IntKind.u64
(toV
(ldW bk (ldV M db ds (ofV bb bi bq bd [r0, r1, r2, r3, r4, r5, r6, r7]) 8 (mayV dr dw dx 0))
(getV bk br bd r0 r1 r2 r3 r4 r5 r6 r7 x0 x1 x2 x3 x4 x5 x6 x7)))))))))))))) &&
true then
bif erW ak (segE db ds (ofV ab ai aq ad [r0, r1, r2, r3, r4, r5, r6, r7]) 8 (mayV dr dw dx 1)) != 0 then
some
(Sv.tup
[Sv.agg
(cCFpz1 r0 r1 r2 r3 r4 r5 r6 r7 ip fc fp fz fs fo fd x0 x1 x2 x3 x4 x5 x6 x7),
vi 2],
[SObj.cells
(cCFpz0 cb cs cr cw cx db ds dr dw dx)
T,
SObj.ext 0
(memW ak
(stV M db ds (ofV ab ai aq ad [r0, r1, r2, r3, r4, r5, r6, r7]) 8
(IntKind.wrap IntKind.u64
(toV
(ldW bk (ldV M db ds (ofV bb bi bq bd [r0, r1, r2, r3, r4, r5, r6, r7]) 8 (mayV dr dw dx 0))
(getV bk br bd r0 r1 r2 r3 r4 r5 r6 r7 x0 x1 x2 x3 x4 x5 x6 x7))))
(mayV dr dw dx 1))
M)])
else
some
(Sv.tup
[Sv.agg
[Sv.v
(Value.int IntKind.u32
(ldW ak r0
(setA ak ar 0 r0
(IntKind.wrap IntKind.u64
(toV
(ldW bk (ldV M db ds (ofV bb bi bq bd [r0, r1, r2, r3, r4, r5, r6, r7]) 8 (mayV dr dw dx 0))
(getV bk br bd r0 r1 r2 r3 r4 r5 r6 r7 x0 x1 x2 x3 x4 x5 x6 x7))))))),
Sv.v
(Value.int IntKind.u32
(ldW ak r1
(setA ak ar 1 r1
(IntKind.wrap IntKind.u64
(toV
(ldW bk (ldV M db ds (ofV bb bi bq bd [r0, r1, r2, r3, r4, r5, r6, r7]) 8 (mayV dr dw dx 0))
(getV bk br bd r0 r1 r2 r3 r4 r5 r6 r7 x0 x1 x2 x3 x4 x5 x6 x7))))))),
Sv.v
(Value.int IntKind.u32
(ldW ak r2
(setA ak ar 2 r2
(IntKind.wrap IntKind.u64
(toV
(ldW bk (ldV M db ds (ofV bb bi bq bd [r0, r1, r2, r3, r4, r5, r6, r7]) 8 (mayV dr dw dx 0))
(getV bk br bd r0 r1 r2 r3 r4 r5 r6 r7 x0 x1 x2 x3 x4 x5 x6 x7))))))),
Sv.v
(Value.int IntKind.u32
(ldW ak r3
(setA ak ar 3 r3
(IntKind.wrap IntKind.u64
(toV
(ldW bk (ldV M db ds (ofV bb bi bq bd [r0, r1, r2, r3, r4, r5, r6, r7]) 8 (mayV dr dw dx 0))
(getV bk br bd r0 r1 r2 r3 r4 r5 r6 r7 x0 x1 x2 x3 x4 x5 x6 x7))))))),
Sv.v
(Value.int IntKind.u32
(ldW ak r4
(setB ak ar 4 r4
(IntKind.wrap IntKind.u64
(toV
(ldW bk (ldV M db ds (ofV bb bi bq bd [r0, r1, r2, r3, r4, r5, r6, r7]) 8 (mayV dr dw dx 0))
(getV bk br bd r0 r1 r2 r3 r4 r5 r6 r7 x0 x1 x2 x3 x4 x5 x6 x7))))))),
Sv.v
(Value.int IntKind.u32
(ldW ak r5
(setB ak ar 5 r5
(IntKind.wrap IntKind.u64
(toV
(ldW bk (ldV M db ds (ofV bb bi bq bd [r0, r1, r2, r3, r4, r5, r6, r7]) 8 (mayV dr dw dx 0))
(getV bk br bd r0 r1 r2 r3 r4 r5 r6 r7 x0 x1 x2 x3 x4 x5 x6 x7))))))),
Sv.v
(Value.int IntKind.u32
(ldW ak r6
(setB ak ar 6 r6
(IntKind.wrap IntKind.u64
(toV
(ldW bk (ldV M db ds (ofV bb bi bq bd [r0, r1, r2, r3, r4, r5, r6, r7]) 8 (mayV dr dw dx 0))
(getV bk br bd r0 r1 r2 r3 r4 r5 r6 r7 x0 x1 x2 x3 x4 x5 x6 x7))))))),
Sv.v
(Value.int IntKind.u32
(ldW ak r7
(setB ak ar 7 r7
(IntKind.wrap IntKind.u64
(toV
(ldW bk (ldV M db ds (ofV bb bi bq bd [r0, r1, r2, r3, r4, r5, r6, r7]) 8 (mayV dr dw dx 0))
(getV bk br bd r0 r1 r2 r3 r4 r5 r6 r7 x0 x1 x2 x3 x4 x5 x6 x7))))))),
vw ip, vb fc, vb fp, vb fz, vb fs,
vb fo, vb fd,
Sv.v
(Value.int IntKind.u64
(ldW ak x0
(setX ak ar 0 x0
(IntKind.wrap IntKind.u64
(toV
(ldW bk (ldV M db ds (ofV bb bi bq bd [r0, r1, r2, r3, r4, r5, r6, r7]) 8 (mayV dr dw dx 0))
(getV bk br bd r0 r1 r2 r3 r4 r5 r6 r7 x0 x1 x2 x3 x4 x5 x6 x7))))))),
Sv.v
(Value.int IntKind.u64
(ldW ak x1
(setX ak ar 1 x1
(IntKind.wrap IntKind.u64
(toV
(ldW bk (ldV M db ds (ofV bb bi bq bd [r0, r1, r2, r3, r4, r5, r6, r7]) 8 (mayV dr dw dx 0))
(getV bk br bd r0 r1 r2 r3 r4 r5 r6 r7 x0 x1 x2 x3 x4 x5 x6 x7))))))),
Sv.v
(Value.int IntKind.u64
(ldW ak x2
(setX ak ar 2 x2
(IntKind.wrap IntKind.u64
(toV
(ldW bk (ldV M db ds (ofV bb bi bq bd [r0, r1, r2, r3, r4, r5, r6, r7]) 8 (mayV dr dw dx 0))
(getV bk br bd r0 r1 r2 r3 r4 r5 r6 r7 x0 x1 x2 x3 x4 x5 x6 x7))))))),
Sv.v
(Value.int IntKind.u64
(ldW ak x3
(setX ak ar 3 x3
(IntKind.wrap IntKind.u64
(toV
(ldW bk (ldV M db ds (ofV bb bi bq bd [r0, r1, r2, r3, r4, r5, r6, r7]) 8 (mayV dr dw dx 0))
(getV bk br bd r0 r1 r2 r3 r4 r5 r6 r7 x0 x1 x2 x3 x4 x5 x6 x7))))))),
Sv.v
(Value.int IntKind.u64
(ldW ak x4
(setX ak ar 4 x4
(IntKind.wrap IntKind.u64
(toV
(ldW bk (ldV M db ds (ofV bb bi bq bd [r0, r1, r2, r3, r4, r5, r6, r7]) 8 (mayV dr dw dx 0))
(getV bk br bd r0 r1 r2 r3 r4 r5 r6 r7 x0 x1 x2 x3 x4 x5 x6 x7))))))),
Sv.v
(Value.int IntKind.u64
(ldW ak x5
(setX ak ar 5 x5
(IntKind.wrap IntKind.u64
(toV
(ldW bk (ldV M db ds (ofV bb bi bq bd [r0, r1, r2, r3, r4, r5, r6, r7]) 8 (mayV dr dw dx 0))
(getV bk br bd r0 r1 r2 r3 r4 r5 r6 r7 x0 x1 x2 x3 x4 x5 x6 x7))))))),
Sv.v
(Value.int IntKind.u64
(ldW ak x6
(setX ak ar 6 x6
(IntKind.wrap IntKind.u64
(toV
(ldW bk (ldV M db ds (ofV bb bi bq bd [r0, r1, r2, r3, r4, r5, r6, r7]) 8 (mayV dr dw dx 0))
(getV bk br bd r0 r1 r2 r3 r4 r5 r6 r7 x0 x1 x2 x3 x4 x5 x6 x7))))))),
Sv.v
(Value.int IntKind.u64
(ldW ak x7
(setX ak ar 7 x7
(IntKind.wrap IntKind.u64
(toV
(ldW bk (ldV M db ds (ofV bb bi bq bd [r0, r1, r2, r3, r4, r5, r6, r7]) 8 (mayV dr dw dx 0))
(getV bk br bd r0 r1 r2 r3 r4 r5 r6 r7 x0 x1 x2 x3 x4 x5 x6 x7)))))))],
vi 0],
[SObj.cells
(cCFpz0 cb cs cr cw cx db ds dr dw dx)
T,
SObj.ext 0
(memW ak
(stV M db ds (ofV ab ai aq ad [r0, r1, r2, r3, r4, r5, r6, r7]) 8
(IntKind.wrap IntKind.u64
(toV
(ldW bk (ldV M db ds (ofV bb bi bq bd [r0, r1, r2, r3, r4, r5, r6, r7]) 8 (mayV dr dw dx 0))
(getV bk br bd r0 r1 r2 r3 r4 r5 r6 r7 x0 x1 x2 x3 x4 x5 x6 x7))))
(mayV dr dw dx 1))
M)])
else none
else none
else
bif
ini64 op &&
(true &&
in64
(ldW bk (ldV M db ds (ofV bb bi bq bd [r0, r1, r2, r3, r4, r5, r6, r7]) 8 (mayV dr dw dx 0))
(getV bk br bd r0 r1 r2 r3 r4 r5 r6 r7 x0 x1 x2 x3 x4 x5 x6 x7))) then
bif
in32 r0 &&
(in32 r1 &&
(in32 r2 &&
(in32 r3 &&
(in32 r4 &&
(in32 r5 &&
(in32 r6 &&
(in32 r7 &&
(in32 ad &&
(in32 db &&
(in32 ds &&
in64
(doV op 0
(ldW bk (ldV M db ds (ofV bb bi bq bd [r0, r1, r2, r3, r4, r5, r6, r7]) 8 (mayV dr dw dx 0))
(getV bk br bd r0 r1 r2 r3 r4 r5 r6 r7 x0 x1 x2 x3 x4 x5 x6 x7))))))))))))) &&
true then
bif erW ak (segE db ds (ofV ab ai aq ad [r0, r1, r2, r3, r4, r5, r6, r7]) 8 (mayV dr dw dx 1)) != 0 then
some
(Sv.tup
[Sv.agg
(cCFpz1 r0 r1 r2 r3 r4 r5 r6 r7 ip fc fp fz fs fo fd x0 x1 x2 x3 x4 x5 x6 x7),
vi 2],
[SObj.cells
(cCFpz0 cb cs cr cw cx db ds dr dw dx)
T,
SObj.ext 0
(memW ak
(stV M db ds (ofV ab ai aq ad [r0, r1, r2, r3, r4, r5, r6, r7]) 8
(doV op 0
(ldW bk (ldV M db ds (ofV bb bi bq bd [r0, r1, r2, r3, r4, r5, r6, r7]) 8 (mayV dr dw dx 0))
(getV bk br bd r0 r1 r2 r3 r4 r5 r6 r7 x0 x1 x2 x3 x4 x5 x6 x7)))
(mayV dr dw dx 1))
M)])
else
some
(Sv.tup
[Sv.agg
[Sv.v
(Value.int IntKind.u32
(ldW ak r0
(setA ak ar 0 r0
(doV op 0
(ldW bk (ldV M db ds (ofV bb bi bq bd [r0, r1, r2, r3, r4, r5, r6, r7]) 8 (mayV dr dw dx 0))
(getV bk br bd r0 r1 r2 r3 r4 r5 r6 r7 x0 x1 x2 x3 x4 x5 x6 x7)))))),
Sv.v
(Value.int IntKind.u32
(ldW ak r1
(setA ak ar 1 r1
(doV op 0
(ldW bk (ldV M db ds (ofV bb bi bq bd [r0, r1, r2, r3, r4, r5, r6, r7]) 8 (mayV dr dw dx 0))
(getV bk br bd r0 r1 r2 r3 r4 r5 r6 r7 x0 x1 x2 x3 x4 x5 x6 x7)))))),
Sv.v
(Value.int IntKind.u32
(ldW ak r2
(setA ak ar 2 r2
(doV op 0
(ldW bk (ldV M db ds (ofV bb bi bq bd [r0, r1, r2, r3, r4, r5, r6, r7]) 8 (mayV dr dw dx 0))
(getV bk br bd r0 r1 r2 r3 r4 r5 r6 r7 x0 x1 x2 x3 x4 x5 x6 x7)))))),
Sv.v
(Value.int IntKind.u32
(ldW ak r3
(setA ak ar 3 r3
(doV op 0
(ldW bk (ldV M db ds (ofV bb bi bq bd [r0, r1, r2, r3, r4, r5, r6, r7]) 8 (mayV dr dw dx 0))
(getV bk br bd r0 r1 r2 r3 r4 r5 r6 r7 x0 x1 x2 x3 x4 x5 x6 x7)))))),
Sv.v
(Value.int IntKind.u32
(ldW ak r4
(setB ak ar 4 r4
(doV op 0
(ldW bk (ldV M db ds (ofV bb bi bq bd [r0, r1, r2, r3, r4, r5, r6, r7]) 8 (mayV dr dw dx 0))
(getV bk br bd r0 r1 r2 r3 r4 r5 r6 r7 x0 x1 x2 x3 x4 x5 x6 x7)))))),
Sv.v
(Value.int IntKind.u32
(ldW ak r5
(setB ak ar 5 r5
(doV op 0
(ldW bk (ldV M db ds (ofV bb bi bq bd [r0, r1, r2, r3, r4, r5, r6, r7]) 8 (mayV dr dw dx 0))
(getV bk br bd r0 r1 r2 r3 r4 r5 r6 r7 x0 x1 x2 x3 x4 x5 x6 x7)))))),
Sv.v
(Value.int IntKind.u32
(ldW ak r6
(setB ak ar 6 r6
(doV op 0
(ldW bk (ldV M db ds (ofV bb bi bq bd [r0, r1, r2, r3, r4, r5, r6, r7]) 8 (mayV dr dw dx 0))
(getV bk br bd r0 r1 r2 r3 r4 r5 r6 r7 x0 x1 x2 x3 x4 x5 x6 x7)))))),
Sv.v
(Value.int IntKind.u32
(ldW ak r7
(setB ak ar 7 r7
(doV op 0
(ldW bk (ldV M db ds (ofV bb bi bq bd [r0, r1, r2, r3, r4, r5, r6, r7]) 8 (mayV dr dw dx 0))
(getV bk br bd r0 r1 r2 r3 r4 r5 r6 r7 x0 x1 x2 x3 x4 x5 x6 x7)))))),
vw ip, vb fc, vb fp, vb fz, vb fs,
vb fo, vb fd,
Sv.v
(Value.int IntKind.u64
(ldW ak x0
(setX ak ar 0 x0
(doV op 0
(ldW bk (ldV M db ds (ofV bb bi bq bd [r0, r1, r2, r3, r4, r5, r6, r7]) 8 (mayV dr dw dx 0))
(getV bk br bd r0 r1 r2 r3 r4 r5 r6 r7 x0 x1 x2 x3 x4 x5 x6 x7)))))),
Sv.v
(Value.int IntKind.u64
(ldW ak x1
(setX ak ar 1 x1
(doV op 0
(ldW bk (ldV M db ds (ofV bb bi bq bd [r0, r1, r2, r3, r4, r5, r6, r7]) 8 (mayV dr dw dx 0))
(getV bk br bd r0 r1 r2 r3 r4 r5 r6 r7 x0 x1 x2 x3 x4 x5 x6 x7)))))),
Sv.v
(Value.int IntKind.u64
(ldW ak x2
(setX ak ar 2 x2
(doV op 0
(ldW bk (ldV M db ds (ofV bb bi bq bd [r0, r1, r2, r3, r4, r5, r6, r7]) 8 (mayV dr dw dx 0))
(getV bk br bd r0 r1 r2 r3 r4 r5 r6 r7 x0 x1 x2 x3 x4 x5 x6 x7)))))),
Sv.v
(Value.int IntKind.u64
(ldW ak x3
(setX ak ar 3 x3
(doV op 0
(ldW bk (ldV M db ds (ofV bb bi bq bd [r0, r1, r2, r3, r4, r5, r6, r7]) 8 (mayV dr dw dx 0))
(getV bk br bd r0 r1 r2 r3 r4 r5 r6 r7 x0 x1 x2 x3 x4 x5 x6 x7)))))),
Sv.v
(Value.int IntKind.u64
(ldW ak x4
(setX ak ar 4 x4
(doV op 0
(ldW bk (ldV M db ds (ofV bb bi bq bd [r0, r1, r2, r3, r4, r5, r6, r7]) 8 (mayV dr dw dx 0))
(getV bk br bd r0 r1 r2 r3 r4 r5 r6 r7 x0 x1 x2 x3 x4 x5 x6 x7)))))),
Sv.v
(Value.int IntKind.u64
(ldW ak x5
(setX ak ar 5 x5
(doV op 0
(ldW bk (ldV M db ds (ofV bb bi bq bd [r0, r1, r2, r3, r4, r5, r6, r7]) 8 (mayV dr dw dx 0))
(getV bk br bd r0 r1 r2 r3 r4 r5 r6 r7 x0 x1 x2 x3 x4 x5 x6 x7)))))),
Sv.v
(Value.int IntKind.u64
(ldW ak x6
(setX ak ar 6 x6
(doV op 0
(ldW bk (ldV M db ds (ofV bb bi bq bd [r0, r1, r2, r3, r4, r5, r6, r7]) 8 (mayV dr dw dx 0))
(getV bk br bd r0 r1 r2 r3 r4 r5 r6 r7 x0 x1 x2 x3 x4 x5 x6 x7)))))),
Sv.v
(Value.int IntKind.u64
(ldW ak x7
(setX ak ar 7 x7
(doV op 0
(ldW bk (ldV M db ds (ofV bb bi bq bd [r0, r1, r2, r3, r4, r5, r6, r7]) 8 (mayV dr dw dx 0))
(getV bk br bd r0 r1 r2 r3 r4 r5 r6 r7 x0 x1 x2 x3 x4 x5 x6 x7))))))],
vi 0],
[SObj.cells
(cCFpz0 cb cs cr cw cx db ds dr dw dx)
T,
SObj.ext 0
(memW ak
(stV M db ds (ofV ab ai aq ad [r0, r1, r2, r3, r4, r5, r6, r7]) 8
(doV op 0
(ldW bk (ldV M db ds (ofV bb bi bq bd [r0, r1, r2, r3, r4, r5, r6, r7]) 8 (mayV dr dw dx 0))
(getV bk br bd r0 r1 r2 r3 r4 r5 r6 r7 x0 x1 x2 x3 x4 x5 x6 x7)))
(mayV dr dw dx 1))
M)])
else none
else none
else none) := (lockI_eq _ _).trans (by kernel_rfl)
noncomputable def fpPF (cb cs : Int) (cr cw cx : Bool) (db ds : Int) (dr dw dx : Bool) (T : TypeId) (M : Int → Int) (r0 r1 r2 r3 r4 r5 r6 r7 ip : Int) (fc fp fz fs fo fd : Bool) (x0 x1 x2 x3 x4 x5 x6 x7 op cond size ak ar ab ai aq ad bk br bb bi bq bd c : Int) (rep : Bool) (len : Int) (X : Option (Sv × List SObj)) : Option (Sv × List SObj) := some (.tup [.agg [.v (.int .u32 (ansI (X) 0)), .v (.int .u32 (ansI (X) 1)), .v (.int .u32 (ansI (X) 2)), .v (.int .u32 (ansI (X) 3)), .v (.int .u32 (ansI (X) 4)), .v (.int .u32 (ansI (X) 5)), .v (.int .u32 (ansI (X) 6)), .v (.int .u32 (ansI (X) 7)), .v (.int .u32 (ansI (X) 8)), .v (.bool (ansB (X) 9)), .v (.bool (ansB (X) 10)), .v (.bool (ansB (X) 11)), .v (.bool (ansB (X) 12)), .v (.bool (ansB (X) 13)), .v (.bool (ansB (X) 14)), .v (.int .u64 (ansI (X) 15)), .v (.int .u64 (ansI (X) 16)), .v (.int .u64 (ansI (X) 17)), .v (.int .u64 (ansI (X) 18)), .v (.int .u64 (ansI (X) 19)), .v (.int .u64 (ansI (X) 20)), .v (.int .u64 (ansI (X) 21)), .v (.int .u64 (ansI (X) 22))], .v (.int .i64 (ansI (X) 23))], [.cells (cCFpz4 cb cs cr cw cx db ds dr dw dx) T, .ext 0 (ansM (X) 1)])
set_option maxHeartbeats 4000000 in
theorem fpP_is (cb cs : Int) (cr cw cx : Bool) (db ds : Int) (dr dw dx : Bool) (T : TypeId) (M : Int → Int) (r0 r1 r2 r3 r4 r5 r6 r7 ip : Int) (fc fp fz fs fo fd : Bool) (x0 x1 x2 x3 x4 x5 x6 x7 op cond size ak ar ab ai aq ad bk br bb bi bq bd c : Int) (rep : Bool) (len : Int) (hg : (in32 r0 && (in32 r1 && (in32 r2 && (in32 r3 && (in32 r4 && (in32 r5 && (in32 r6 && (in32 r7 && (in32 db && (in32 ds && (in32 ad && (in32 bd && (in64 x0 && (in64 x1 && (in64 x2 && (in64 x3 && (in64 x4 && (in64 x5 && (in64 x6 && (in64 x7 && (fpG op size ak))))))))))))))))))))) = true) : fpPT cb cs cr cw cx db ds dr dw dx T M r0 r1 r2 r3 r4 r5 r6 r7 ip fc fp fz fs fo fd x0 x1 x2 x3 x4 x5 x6 x7 op cond size ak ar ab ai aq ad bk br bb bi bq bd c rep len = fpPF cb cs cr cw cx db ds dr dw dx T M r0 r1 r2 r3 r4 r5 r6 r7 ip fc fp fz fs fo fd x0 x1 x2 x3 x4 x5 x6 x7 op cond size ak ar ab ai aq ad bk br bb bi bq bd c rep len (fpPT cb cs cr cw cx db ds dr dw dx T M r0 r1 r2 r3 r4 r5 r6 r7 ip fc fp fz fs fo fd x0 x1 x2 x3 x4 x5 x6 x7 op cond size ak ar ab ai aq ad bk br bb bi bq bd c rep len) := by
  have h : fpPT cb cs cr cw cx db ds dr dw dx T M r0 r1 r2 r3 r4 r5 r6 r7 ip fc fp fz fs fo fd x0 x1 x2 x3 x4 x5 x6 x7 op cond size ak ar ab ai aq ad bk br bb bi bq bd c rep len = _ := fpP_tree cb cs cr cw cx db ds dr dw dx T M r0 r1 r2 r3 r4 r5 r6 r7 ip fc fp fz fs fo fd x0 x1 x2 x3 x4 x5 x6 x7 op cond size ak ar ab ai aq ad bk br bb bi bq bd c rep len
  simp only [Bool.and_eq_true] at hg
  simp only [fpG_op hg.2.2.2.2.2.2.2.2.2.2.2.2.2.2.2.2.2.2.2.2, show in64 0 = true from rfl, ofV_in, in32_wr, in64_wr, ldW_in64, ldV_in64, getV_in64, doV_in64, fromV_in, toV_in, hg, Bool.and_self, Bool.and_true, Bool.true_and, cond_true] at h
  rw [h]
  repeat' (first | exact rfl | refine ans_cond (F := fpPF cb cs cr cw cx db ds dr dw dx T M r0 r1 r2 r3 r4 r5 r6 r7 ip fc fp fz fs fo fd x0 x1 x2 x3 x4 x5 x6 x7 op cond size ak ar ab ai aq ad bk br bb bi bq bd c rep len) ?_ ?_)
theorem fpP_ev (cb cs : Int) (cr cw cx : Bool) (db ds : Int) (dr dw dx : Bool) (T : TypeId) (M : Int → Int) (r0 r1 r2 r3 r4 r5 r6 r7 ip : Int) (fc fp fz fs fo fd : Bool) (x0 x1 x2 x3 x4 x5 x6 x7 op cond size ak ar ab ai aq ad bk br bb bi bq bd c : Int) (rep : Bool) (len : Int) (hg : (in32 r0 && (in32 r1 && (in32 r2 && (in32 r3 && (in32 r4 && (in32 r5 && (in32 r6 && (in32 r7 && (in32 db && (in32 ds && (in32 ad && (in32 bd && (in64 x0 && (in64 x1 && (in64 x2 && (in64 x3 && (in64 x4 && (in64 x5 && (in64 x6 && (in64 x7 && (fpG op size ak))))))))))))))))))))) = true) : evF Try.prog ΓFe 400 26 [.ptr 0 0, .agg (cCFpz2 r0 r1 r2 r3 r4 r5 r6 r7 ip fc fp fz fs fo fd x0 x1 x2 x3 x4 x5 x6 x7), .agg (cCFpz3 op cond size ak ar ab ai aq ad bk br bb bi bq bd c rep len)] [.cells (cCFpz4 cb cs cr cw cx db ds dr dw dx) T, .ext 0 M] (kTk 2) kNo = some (.tup [.agg [.v (.int .u32 (ansI (fpPT cb cs cr cw cx db ds dr dw dx T M r0 r1 r2 r3 r4 r5 r6 r7 ip fc fp fz fs fo fd x0 x1 x2 x3 x4 x5 x6 x7 op cond size ak ar ab ai aq ad bk br bb bi bq bd c rep len) 0)), .v (.int .u32 (ansI (fpPT cb cs cr cw cx db ds dr dw dx T M r0 r1 r2 r3 r4 r5 r6 r7 ip fc fp fz fs fo fd x0 x1 x2 x3 x4 x5 x6 x7 op cond size ak ar ab ai aq ad bk br bb bi bq bd c rep len) 1)), .v (.int .u32 (ansI (fpPT cb cs cr cw cx db ds dr dw dx T M r0 r1 r2 r3 r4 r5 r6 r7 ip fc fp fz fs fo fd x0 x1 x2 x3 x4 x5 x6 x7 op cond size ak ar ab ai aq ad bk br bb bi bq bd c rep len) 2)), .v (.int .u32 (ansI (fpPT cb cs cr cw cx db ds dr dw dx T M r0 r1 r2 r3 r4 r5 r6 r7 ip fc fp fz fs fo fd x0 x1 x2 x3 x4 x5 x6 x7 op cond size ak ar ab ai aq ad bk br bb bi bq bd c rep len) 3)), .v (.int .u32 (ansI (fpPT cb cs cr cw cx db ds dr dw dx T M r0 r1 r2 r3 r4 r5 r6 r7 ip fc fp fz fs fo fd x0 x1 x2 x3 x4 x5 x6 x7 op cond size ak ar ab ai aq ad bk br bb bi bq bd c rep len) 4)), .v (.int .u32 (ansI (fpPT cb cs cr cw cx db ds dr dw dx T M r0 r1 r2 r3 r4 r5 r6 r7 ip fc fp fz fs fo fd x0 x1 x2 x3 x4 x5 x6 x7 op cond size ak ar ab ai aq ad bk br bb bi bq bd c rep len) 5)), .v (.int .u32 (ansI (fpPT cb cs cr cw cx db ds dr dw dx T M r0 r1 r2 r3 r4 r5 r6 r7 ip fc fp fz fs fo fd x0 x1 x2 x3 x4 x5 x6 x7 op cond size ak ar ab ai aq ad bk br bb bi bq bd c rep len) 6)), .v (.int .u32 (ansI (fpPT cb cs cr cw cx db ds dr dw dx T M r0 r1 r2 r3 r4 r5 r6 r7 ip fc fp fz fs fo fd x0 x1 x2 x3 x4 x5 x6 x7 op cond size ak ar ab ai aq ad bk br bb bi bq bd c rep len) 7)), .v (.int .u32 (ansI (fpPT cb cs cr cw cx db ds dr dw dx T M r0 r1 r2 r3 r4 r5 r6 r7 ip fc fp fz fs fo fd x0 x1 x2 x3 x4 x5 x6 x7 op cond size ak ar ab ai aq ad bk br bb bi bq bd c rep len) 8)), .v (.bool (ansB (fpPT cb cs cr cw cx db ds dr dw dx T M r0 r1 r2 r3 r4 r5 r6 r7 ip fc fp fz fs fo fd x0 x1 x2 x3 x4 x5 x6 x7 op cond size ak ar ab ai aq ad bk br bb bi bq bd c rep len) 9)), .v (.bool (ansB (fpPT cb cs cr cw cx db ds dr dw dx T M r0 r1 r2 r3 r4 r5 r6 r7 ip fc fp fz fs fo fd x0 x1 x2 x3 x4 x5 x6 x7 op cond size ak ar ab ai aq ad bk br bb bi bq bd c rep len) 10)), .v (.bool (ansB (fpPT cb cs cr cw cx db ds dr dw dx T M r0 r1 r2 r3 r4 r5 r6 r7 ip fc fp fz fs fo fd x0 x1 x2 x3 x4 x5 x6 x7 op cond size ak ar ab ai aq ad bk br bb bi bq bd c rep len) 11)), .v (.bool (ansB (fpPT cb cs cr cw cx db ds dr dw dx T M r0 r1 r2 r3 r4 r5 r6 r7 ip fc fp fz fs fo fd x0 x1 x2 x3 x4 x5 x6 x7 op cond size ak ar ab ai aq ad bk br bb bi bq bd c rep len) 12)), .v (.bool (ansB (fpPT cb cs cr cw cx db ds dr dw dx T M r0 r1 r2 r3 r4 r5 r6 r7 ip fc fp fz fs fo fd x0 x1 x2 x3 x4 x5 x6 x7 op cond size ak ar ab ai aq ad bk br bb bi bq bd c rep len) 13)), .v (.bool (ansB (fpPT cb cs cr cw cx db ds dr dw dx T M r0 r1 r2 r3 r4 r5 r6 r7 ip fc fp fz fs fo fd x0 x1 x2 x3 x4 x5 x6 x7 op cond size ak ar ab ai aq ad bk br bb bi bq bd c rep len) 14)), .v (.int .u64 (ansI (fpPT cb cs cr cw cx db ds dr dw dx T M r0 r1 r2 r3 r4 r5 r6 r7 ip fc fp fz fs fo fd x0 x1 x2 x3 x4 x5 x6 x7 op cond size ak ar ab ai aq ad bk br bb bi bq bd c rep len) 15)), .v (.int .u64 (ansI (fpPT cb cs cr cw cx db ds dr dw dx T M r0 r1 r2 r3 r4 r5 r6 r7 ip fc fp fz fs fo fd x0 x1 x2 x3 x4 x5 x6 x7 op cond size ak ar ab ai aq ad bk br bb bi bq bd c rep len) 16)), .v (.int .u64 (ansI (fpPT cb cs cr cw cx db ds dr dw dx T M r0 r1 r2 r3 r4 r5 r6 r7 ip fc fp fz fs fo fd x0 x1 x2 x3 x4 x5 x6 x7 op cond size ak ar ab ai aq ad bk br bb bi bq bd c rep len) 17)), .v (.int .u64 (ansI (fpPT cb cs cr cw cx db ds dr dw dx T M r0 r1 r2 r3 r4 r5 r6 r7 ip fc fp fz fs fo fd x0 x1 x2 x3 x4 x5 x6 x7 op cond size ak ar ab ai aq ad bk br bb bi bq bd c rep len) 18)), .v (.int .u64 (ansI (fpPT cb cs cr cw cx db ds dr dw dx T M r0 r1 r2 r3 r4 r5 r6 r7 ip fc fp fz fs fo fd x0 x1 x2 x3 x4 x5 x6 x7 op cond size ak ar ab ai aq ad bk br bb bi bq bd c rep len) 19)), .v (.int .u64 (ansI (fpPT cb cs cr cw cx db ds dr dw dx T M r0 r1 r2 r3 r4 r5 r6 r7 ip fc fp fz fs fo fd x0 x1 x2 x3 x4 x5 x6 x7 op cond size ak ar ab ai aq ad bk br bb bi bq bd c rep len) 20)), .v (.int .u64 (ansI (fpPT cb cs cr cw cx db ds dr dw dx T M r0 r1 r2 r3 r4 r5 r6 r7 ip fc fp fz fs fo fd x0 x1 x2 x3 x4 x5 x6 x7 op cond size ak ar ab ai aq ad bk br bb bi bq bd c rep len) 21)), .v (.int .u64 (ansI (fpPT cb cs cr cw cx db ds dr dw dx T M r0 r1 r2 r3 r4 r5 r6 r7 ip fc fp fz fs fo fd x0 x1 x2 x3 x4 x5 x6 x7 op cond size ak ar ab ai aq ad bk br bb bi bq bd c rep len) 22))], .v (.int .i64 (ansI (fpPT cb cs cr cw cx db ds dr dw dx T M r0 r1 r2 r3 r4 r5 r6 r7 ip fc fp fz fs fo fd x0 x1 x2 x3 x4 x5 x6 x7 op cond size ak ar ab ai aq ad bk br bb bi bq bd c rep len) 23))], [.cells (cCFpz4 cb cs cr cw cx db ds dr dw dx) T, .ext 0 (ansM (fpPT cb cs cr cw cx db ds dr dw dx T M r0 r1 r2 r3 r4 r5 r6 r7 ip fc fp fz fs fo fd x0 x1 x2 x3 x4 x5 x6 x7 op cond size ak ar ab ai aq ad bk br bb bi bq bd c rep len) 1)]) := (lockI_eq _ _).symm.trans (fpP_is cb cs cr cw cx db ds dr dw dx T M r0 r1 r2 r3 r4 r5 r6 r7 ip fc fp fz fs fo fd x0 x1 x2 x3 x4 x5 x6 x7 op cond size ak ar ab ai aq ad bk br bb bi bq bd c rep len hg)
noncomputable def fpPB (R : Type) (m : List SObj) (k : Sv → List SObj → Option R) (b g : Nat) (cb cs : Int) (cr cw cx : Bool) (db ds : Int) (dr dw dx : Bool) (T : TypeId) (M : Int → Int) (r0 r1 r2 r3 r4 r5 r6 r7 ip : Int) (fc fp fz fs fo fd : Bool) (x0 x1 x2 x3 x4 x5 x6 x7 op cond size ak ar ab ai aq ad bk br bb bi bq bd c : Int) (rep : Bool) (len : Int) : Option R :=
  bif (in32 r0 && (in32 r1 && (in32 r2 && (in32 r3 && (in32 r4 && (in32 r5 && (in32 r6 && (in32 r7 && (in32 db && (in32 ds && (in32 ad && (in32 bd && (in64 x0 && (in64 x1 && (in64 x2 && (in64 x3 && (in64 x4 && (in64 x5 && (in64 x6 && (in64 x7 && (fpG op size ak))))))))))))))))))))) && !(b == g) then k (.tup [.agg [.v (.int .u32 (ansI (fpPT cb cs cr cw cx db ds dr dw dx T M r0 r1 r2 r3 r4 r5 r6 r7 ip fc fp fz fs fo fd x0 x1 x2 x3 x4 x5 x6 x7 op cond size ak ar ab ai aq ad bk br bb bi bq bd c rep len) 0)), .v (.int .u32 (ansI (fpPT cb cs cr cw cx db ds dr dw dx T M r0 r1 r2 r3 r4 r5 r6 r7 ip fc fp fz fs fo fd x0 x1 x2 x3 x4 x5 x6 x7 op cond size ak ar ab ai aq ad bk br bb bi bq bd c rep len) 1)), .v (.int .u32 (ansI (fpPT cb cs cr cw cx db ds dr dw dx T M r0 r1 r2 r3 r4 r5 r6 r7 ip fc fp fz fs fo fd x0 x1 x2 x3 x4 x5 x6 x7 op cond size ak ar ab ai aq ad bk br bb bi bq bd c rep len) 2)), .v (.int .u32 (ansI (fpPT cb cs cr cw cx db ds dr dw dx T M r0 r1 r2 r3 r4 r5 r6 r7 ip fc fp fz fs fo fd x0 x1 x2 x3 x4 x5 x6 x7 op cond size ak ar ab ai aq ad bk br bb bi bq bd c rep len) 3)), .v (.int .u32 (ansI (fpPT cb cs cr cw cx db ds dr dw dx T M r0 r1 r2 r3 r4 r5 r6 r7 ip fc fp fz fs fo fd x0 x1 x2 x3 x4 x5 x6 x7 op cond size ak ar ab ai aq ad bk br bb bi bq bd c rep len) 4)), .v (.int .u32 (ansI (fpPT cb cs cr cw cx db ds dr dw dx T M r0 r1 r2 r3 r4 r5 r6 r7 ip fc fp fz fs fo fd x0 x1 x2 x3 x4 x5 x6 x7 op cond size ak ar ab ai aq ad bk br bb bi bq bd c rep len) 5)), .v (.int .u32 (ansI (fpPT cb cs cr cw cx db ds dr dw dx T M r0 r1 r2 r3 r4 r5 r6 r7 ip fc fp fz fs fo fd x0 x1 x2 x3 x4 x5 x6 x7 op cond size ak ar ab ai aq ad bk br bb bi bq bd c rep len) 6)), .v (.int .u32 (ansI (fpPT cb cs cr cw cx db ds dr dw dx T M r0 r1 r2 r3 r4 r5 r6 r7 ip fc fp fz fs fo fd x0 x1 x2 x3 x4 x5 x6 x7 op cond size ak ar ab ai aq ad bk br bb bi bq bd c rep len) 7)), .v (.int .u32 (ansI (fpPT cb cs cr cw cx db ds dr dw dx T M r0 r1 r2 r3 r4 r5 r6 r7 ip fc fp fz fs fo fd x0 x1 x2 x3 x4 x5 x6 x7 op cond size ak ar ab ai aq ad bk br bb bi bq bd c rep len) 8)), .v (.bool (ansB (fpPT cb cs cr cw cx db ds dr dw dx T M r0 r1 r2 r3 r4 r5 r6 r7 ip fc fp fz fs fo fd x0 x1 x2 x3 x4 x5 x6 x7 op cond size ak ar ab ai aq ad bk br bb bi bq bd c rep len) 9)), .v (.bool (ansB (fpPT cb cs cr cw cx db ds dr dw dx T M r0 r1 r2 r3 r4 r5 r6 r7 ip fc fp fz fs fo fd x0 x1 x2 x3 x4 x5 x6 x7 op cond size ak ar ab ai aq ad bk br bb bi bq bd c rep len) 10)), .v (.bool (ansB (fpPT cb cs cr cw cx db ds dr dw dx T M r0 r1 r2 r3 r4 r5 r6 r7 ip fc fp fz fs fo fd x0 x1 x2 x3 x4 x5 x6 x7 op cond size ak ar ab ai aq ad bk br bb bi bq bd c rep len) 11)), .v (.bool (ansB (fpPT cb cs cr cw cx db ds dr dw dx T M r0 r1 r2 r3 r4 r5 r6 r7 ip fc fp fz fs fo fd x0 x1 x2 x3 x4 x5 x6 x7 op cond size ak ar ab ai aq ad bk br bb bi bq bd c rep len) 12)), .v (.bool (ansB (fpPT cb cs cr cw cx db ds dr dw dx T M r0 r1 r2 r3 r4 r5 r6 r7 ip fc fp fz fs fo fd x0 x1 x2 x3 x4 x5 x6 x7 op cond size ak ar ab ai aq ad bk br bb bi bq bd c rep len) 13)), .v (.bool (ansB (fpPT cb cs cr cw cx db ds dr dw dx T M r0 r1 r2 r3 r4 r5 r6 r7 ip fc fp fz fs fo fd x0 x1 x2 x3 x4 x5 x6 x7 op cond size ak ar ab ai aq ad bk br bb bi bq bd c rep len) 14)), .v (.int .u64 (ansI (fpPT cb cs cr cw cx db ds dr dw dx T M r0 r1 r2 r3 r4 r5 r6 r7 ip fc fp fz fs fo fd x0 x1 x2 x3 x4 x5 x6 x7 op cond size ak ar ab ai aq ad bk br bb bi bq bd c rep len) 15)), .v (.int .u64 (ansI (fpPT cb cs cr cw cx db ds dr dw dx T M r0 r1 r2 r3 r4 r5 r6 r7 ip fc fp fz fs fo fd x0 x1 x2 x3 x4 x5 x6 x7 op cond size ak ar ab ai aq ad bk br bb bi bq bd c rep len) 16)), .v (.int .u64 (ansI (fpPT cb cs cr cw cx db ds dr dw dx T M r0 r1 r2 r3 r4 r5 r6 r7 ip fc fp fz fs fo fd x0 x1 x2 x3 x4 x5 x6 x7 op cond size ak ar ab ai aq ad bk br bb bi bq bd c rep len) 17)), .v (.int .u64 (ansI (fpPT cb cs cr cw cx db ds dr dw dx T M r0 r1 r2 r3 r4 r5 r6 r7 ip fc fp fz fs fo fd x0 x1 x2 x3 x4 x5 x6 x7 op cond size ak ar ab ai aq ad bk br bb bi bq bd c rep len) 18)), .v (.int .u64 (ansI (fpPT cb cs cr cw cx db ds dr dw dx T M r0 r1 r2 r3 r4 r5 r6 r7 ip fc fp fz fs fo fd x0 x1 x2 x3 x4 x5 x6 x7 op cond size ak ar ab ai aq ad bk br bb bi bq bd c rep len) 19)), .v (.int .u64 (ansI (fpPT cb cs cr cw cx db ds dr dw dx T M r0 r1 r2 r3 r4 r5 r6 r7 ip fc fp fz fs fo fd x0 x1 x2 x3 x4 x5 x6 x7 op cond size ak ar ab ai aq ad bk br bb bi bq bd c rep len) 20)), .v (.int .u64 (ansI (fpPT cb cs cr cw cx db ds dr dw dx T M r0 r1 r2 r3 r4 r5 r6 r7 ip fc fp fz fs fo fd x0 x1 x2 x3 x4 x5 x6 x7 op cond size ak ar ab ai aq ad bk br bb bi bq bd c rep len) 21)), .v (.int .u64 (ansI (fpPT cb cs cr cw cx db ds dr dw dx T M r0 r1 r2 r3 r4 r5 r6 r7 ip fc fp fz fs fo fd x0 x1 x2 x3 x4 x5 x6 x7 op cond size ak ar ab ai aq ad bk br bb bi bq bd c rep len) 22))], .v (.int .i64 (ansI (fpPT cb cs cr cw cx db ds dr dw dx T M r0 r1 r2 r3 r4 r5 r6 r7 ip fc fp fz fs fo fd x0 x1 x2 x3 x4 x5 x6 x7 op cond size ak ar ab ai aq ad bk br bb bi bq bd c rep len) 23))]) (((m.set b (.cells [.ptr g 0, .v (.int .u32 cb), .v (.int .u32 cs), .v (.bool cr), .v (.bool cw), .v (.bool cx), .v (.int .u32 db), .v (.int .u32 ds), .v (.bool dr), .v (.bool dw), .v (.bool dx)] T)).set g (.ext 0 (ansM (fpPT cb cs cr cw cx db ds dr dw dx T M r0 r1 r2 r3 r4 r5 r6 r7 ip fc fp fz fs fo fd x0 x1 x2 x3 x4 x5 x6 x7 op cond size ak ar ab ai aq ad bk br bb bi bq bd c rep len) 1))) ++ []) else none
noncomputable def fpPS : Ev.Spec := fun R args m k kp => match args with
  | [.ptr b 0, .agg A0, .agg A1] => (match A0 with
    | [.v (.int .u32 r0), .v (.int .u32 r1), .v (.int .u32 r2), .v (.int .u32 r3), .v (.int .u32 r4), .v (.int .u32 r5), .v (.int .u32 r6), .v (.int .u32 r7), .v (.int .u32 ip), .v (.bool fc), .v (.bool fp), .v (.bool fz), .v (.bool fs), .v (.bool fo), .v (.bool fd), .v (.int .u64 x0), .v (.int .u64 x1), .v (.int .u64 x2), .v (.int .u64 x3), .v (.int .u64 x4), .v (.int .u64 x5), .v (.int .u64 x6), .v (.int .u64 x7)] => (match A1 with
    | [.v (.int .i64 op), .v (.int .i64 cond), .v (.int .i64 size), .v (.int .i64 ak), .v (.int .i64 ar), .v (.int .i64 ab), .v (.int .i64 ai), .v (.int .i64 aq), .v (.int .u32 ad), .v (.int .i64 bk), .v (.int .i64 br), .v (.int .i64 bb), .v (.int .i64 bi), .v (.int .i64 bq), .v (.int .u32 bd), .v (.int .u32 c), .v (.bool rep), .v (.int .i64 len)] => (match m[b]? with
    | some (.cells [.ptr g 0, .v (.int .u32 cb), .v (.int .u32 cs), .v (.bool cr), .v (.bool cw), .v (.bool cx), .v (.int .u32 db), .v (.int .u32 ds), .v (.bool dr), .v (.bool dw), .v (.bool dx)] T) => (match m[g]? with
      | some (.ext 0 M) => fpPB R m k b g cb cs cr cw cx db ds dr dw dx T M r0 r1 r2 r3 r4 r5 r6 r7 ip fc fp fz fs fo fd x0 x1 x2 x3 x4 x5 x6 x7 op cond size ak ar ab ai aq ad bk br bb bi bq bd c rep len
      | _ => none)
    | _ => none)
    | _ => none)
    | _ => none)
  | _ => none
set_option maxHeartbeats 4000000 in
theorem fpPS_ok : SpecOk Try.prog XM 26 fpPS := by
  intro R args m k kp r h
  unfold fpPS at h
  split at h
  · split at h
    · split at h
      · split at h
        · split at h
          · rename_i _ b _ r0 r1 r2 r3 r4 r5 r6 r7 ip fc fp fz fs fo fd x0 x1 x2 x3 x4 x5 x6 x7 _ op cond size ak ar ab ai aq ad bk br bb bi bq bd c rep len _ g cb cs cr cw cx db ds dr dw dx T hb _ M hg
            unfold fpPB at h
            obtain ⟨hc, h⟩ := cond_some h
            rw [Bool.and_eq_true] at hc
            have hbg : ¬ b = g := by simpa using hc.2
            exact .inl ⟨_, _, h, (callR_evT ΓFe_ok (by kernel_rfl) (fpP_ev cb cs cr cw cx db ds dr dw dx T M r0 r1 r2 r3 r4 r5 r6 r7 ip fc fp fz fs fo fd x0 x1 x2 x3 x4 x5 x6 x7 op cond size ak ar ab ai aq ad bk br bb bi bq bd c rep len hc.1) rfl rfl rfl rfl).frameL [b, g] (by simpa using hbg) ⟨hb, hg, trivial⟩ rfl rfl rfl rfl rfl rfl rfl⟩
          · cases h
        · cases h
      · cases h
    · cases h
  · cases h
theorem fpR_form (cb cs : Int) (cr cw cx : Bool) (db ds : Int) (dr dw dx : Bool) (T T2 : TypeId) (M : Int → Int) (r0 r1 r2 r3 r4 r5 r6 r7 ip : Int) (fc fp fz fs fo fd : Bool) (x0 x1 x2 x3 x4 x5 x6 x7 op cond size ak ar ab ai aq ad bk br bb bi bq bd c : Int) (rep : Bool) (len : Int) :
    evF Try.prog ΓFe 400 28 [.ptr 0 0, .agg (cCFpz2 r0 r1 r2 r3 r4 r5 r6 r7 ip fc fp fz fs fo fd x0 x1 x2 x3 x4 x5 x6 x7), .agg (cCFpz3 op cond size ak ar ab ai aq ad bk br bb bi bq bd c rep len)] [.cells (cCFpz4 cb cs cr cw cx db ds dr dw dx) T, .cells [.mp 2] T2, .bm .u32 .u8 M] (kTk 3) kNo =
    (bif
in32 r0 &&
(in32 r1 &&
(in32 r2 && (in32 r3 && (in32 r4 && (in32 r5 && (in32 r6 && (in32 r7 && (in32 bd && (in32 db && in32 ds))))))))) &&
true then
bif !erW bk (segE db ds (ofV bb bi bq bd [r0, r1, r2, r3, r4, r5, r6, r7]) (↑(bytesN size)) (mayV dr dw dx 0)) == 0 then
some
(Sv.tup
[Sv.agg
(cCFpz1 r0 r1 r2 r3 r4 r5 r6 r7 ip fc fp fz fs fo fd x0 x1 x2 x3 x4 x5 x6 x7),
vi 2],
[SObj.cells
(cCFpz0 cb cs cr cw cx db ds dr dw dx)
T,
SObj.cells [Sv.mp 2] T2, SObj.bm IntKind.u32 IntKind.u8 M])
else
bif op == 59 then
bif
in32
(IntKind.wrap IntKind.u32
(ldW bk (ldV M db ds (ofV bb bi bq bd [r0, r1, r2, r3, r4, r5, r6, r7]) size (mayV dr dw dx 0))
(getV bk br bd r0 r1 r2 r3 r4 r5 r6 r7 x0 x1 x2 x3 x4 x5 x6 x7))) then
bif
in32 r0 &&
(in32 r1 &&
(in32 r2 &&
(in32 r3 &&
in64
(fromV
(IntKind.wrap IntKind.u32
(ldW bk (ldV M db ds (ofV bb bi bq bd [r0, r1, r2, r3, r4, r5, r6, r7]) size (mayV dr dw dx 0))
(getV bk br bd r0 r1 r2 r3 r4 r5 r6 r7 x0 x1 x2 x3 x4 x5 x6 x7))))))) then
some
(Sv.tup
[Sv.agg
[Sv.v
(Value.int IntKind.u32
(setA ak ar 0 r0
(fromV
(IntKind.wrap IntKind.u32
(ldW bk (ldV M db ds (ofV bb bi bq bd [r0, r1, r2, r3, r4, r5, r6, r7]) size (mayV dr dw dx 0))
(getV bk br bd r0 r1 r2 r3 r4 r5 r6 r7 x0 x1 x2 x3 x4 x5 x6 x7)))))),
Sv.v
(Value.int IntKind.u32
(setA ak ar 1 r1
(fromV
(IntKind.wrap IntKind.u32
(ldW bk (ldV M db ds (ofV bb bi bq bd [r0, r1, r2, r3, r4, r5, r6, r7]) size (mayV dr dw dx 0))
(getV bk br bd r0 r1 r2 r3 r4 r5 r6 r7 x0 x1 x2 x3 x4 x5 x6 x7)))))),
Sv.v
(Value.int IntKind.u32
(setA ak ar 2 r2
(fromV
(IntKind.wrap IntKind.u32
(ldW bk (ldV M db ds (ofV bb bi bq bd [r0, r1, r2, r3, r4, r5, r6, r7]) size (mayV dr dw dx 0))
(getV bk br bd r0 r1 r2 r3 r4 r5 r6 r7 x0 x1 x2 x3 x4 x5 x6 x7)))))),
Sv.v
(Value.int IntKind.u32
(setA ak ar 3 r3
(fromV
(IntKind.wrap IntKind.u32
(ldW bk (ldV M db ds (ofV bb bi bq bd [r0, r1, r2, r3, r4, r5, r6, r7]) size (mayV dr dw dx 0))
(getV bk br bd r0 r1 r2 r3 r4 r5 r6 r7 x0 x1 x2 x3 x4 x5 x6 x7)))))),
Sv.v
(Value.int IntKind.u32
(setB ak ar 4 r4
(fromV
(IntKind.wrap IntKind.u32
(ldW bk (ldV M db ds (ofV bb bi bq bd [r0, r1, r2, r3, r4, r5, r6, r7]) size (mayV dr dw dx 0))
(getV bk br bd r0 r1 r2 r3 r4 r5 r6 r7 x0 x1 x2 x3 x4 x5 x6 x7)))))),
Sv.v
(Value.int IntKind.u32
(setB ak ar 5 r5
(fromV
(IntKind.wrap IntKind.u32
(ldW bk (ldV M db ds (ofV bb bi bq bd [r0, r1, r2, r3, r4, r5, r6, r7]) size (mayV dr dw dx 0))
(getV bk br bd r0 r1 r2 r3 r4 r5 r6 r7 x0 x1 x2 x3 x4 x5 x6 x7)))))),
Sv.v
(Value.int IntKind.u32
(setB ak ar 6 r6
(fromV
(IntKind.wrap IntKind.u32
(ldW bk (ldV M db ds (ofV bb bi bq bd [r0, r1, r2, r3, r4, r5, r6, r7]) size (mayV dr dw dx 0))
(getV bk br bd r0 r1 r2 r3 r4 r5 r6 r7 x0 x1 x2 x3 x4 x5 x6 x7)))))),
Sv.v
(Value.int IntKind.u32
(setB ak ar 7 r7
(fromV
(IntKind.wrap IntKind.u32
(ldW bk (ldV M db ds (ofV bb bi bq bd [r0, r1, r2, r3, r4, r5, r6, r7]) size (mayV dr dw dx 0))
(getV bk br bd r0 r1 r2 r3 r4 r5 r6 r7 x0 x1 x2 x3 x4 x5 x6 x7)))))),
vw ip, vb fc, vb fp, vb fz, vb fs,
vb fo, vb fd,
Sv.v
(Value.int IntKind.u64
(setX ak ar 0 x0
(fromV
(IntKind.wrap IntKind.u32
(ldW bk (ldV M db ds (ofV bb bi bq bd [r0, r1, r2, r3, r4, r5, r6, r7]) size (mayV dr dw dx 0))
(getV bk br bd r0 r1 r2 r3 r4 r5 r6 r7 x0 x1 x2 x3 x4 x5 x6 x7)))))),
Sv.v
(Value.int IntKind.u64
(setX ak ar 1 x1
(fromV
(IntKind.wrap IntKind.u32
(ldW bk (ldV M db ds (ofV bb bi bq bd [r0, r1, r2, r3, r4, r5, r6, r7]) size (mayV dr dw dx 0))
(getV bk br bd r0 r1 r2 r3 r4 r5 r6 r7 x0 x1 x2 x3 x4 x5 x6 x7)))))),
Sv.v
(Value.int IntKind.u64
(setX ak ar 2 x2
(fromV
(IntKind.wrap IntKind.u32
(ldW bk (ldV M db ds (ofV bb bi bq bd [r0, r1, r2, r3, r4, r5, r6, r7]) size (mayV dr dw dx 0))
(getV bk br bd r0 r1 r2 r3 r4 r5 r6 r7 x0 x1 x2 x3 x4 x5 x6 x7)))))),
Sv.v
(Value.int IntKind.u64
(setX ak ar 3 x3
(fromV
(IntKind.wrap IntKind.u32
(ldW bk (ldV M db ds (ofV bb bi bq bd [r0, r1, r2, r3, r4, r5, r6, r7]) size (mayV dr dw dx 0))
(getV bk br bd r0 r1 r2 r3 r4 r5 r6 r7 x0 x1 x2 x3 x4 x5 x6 x7)))))),
Sv.v
(Value.int IntKind.u64
(setX ak ar 4 x4
(fromV
(IntKind.wrap IntKind.u32
(ldW bk (ldV M db ds (ofV bb bi bq bd [r0, r1, r2, r3, r4, r5, r6, r7]) size (mayV dr dw dx 0))
(getV bk br bd r0 r1 r2 r3 r4 r5 r6 r7 x0 x1 x2 x3 x4 x5 x6 x7)))))),
Sv.v
(Value.int IntKind.u64
(setX ak ar 5 x5
(fromV
(IntKind.wrap IntKind.u32
(ldW bk (ldV M db ds (ofV bb bi bq bd [r0, r1, r2, r3, r4, r5, r6, r7]) size (mayV dr dw dx 0))
(getV bk br bd r0 r1 r2 r3 r4 r5 r6 r7 x0 x1 x2 x3 x4 x5 x6 x7)))))),
Sv.v
(Value.int IntKind.u64
(setX ak ar 6 x6
(fromV
(IntKind.wrap IntKind.u32
(ldW bk (ldV M db ds (ofV bb bi bq bd [r0, r1, r2, r3, r4, r5, r6, r7]) size (mayV dr dw dx 0))
(getV bk br bd r0 r1 r2 r3 r4 r5 r6 r7 x0 x1 x2 x3 x4 x5 x6 x7)))))),
Sv.v
(Value.int IntKind.u64
(setX ak ar 7 x7
(fromV
(IntKind.wrap IntKind.u32
(ldW bk (ldV M db ds (ofV bb bi bq bd [r0, r1, r2, r3, r4, r5, r6, r7]) size (mayV dr dw dx 0))
(getV bk br bd r0 r1 r2 r3 r4 r5 r6 r7 x0 x1 x2 x3 x4 x5 x6 x7))))))],
vi 0],
[SObj.cells
(cCFpz0 cb cs cr cw cx db ds dr dw dx)
T,
SObj.cells [Sv.mp 2] T2, SObj.bm IntKind.u32 IntKind.u8 M])
else none
else none
else
bif op == 60 then
bif
in64
(ldW bk (ldV M db ds (ofV bb bi bq bd [r0, r1, r2, r3, r4, r5, r6, r7]) size (mayV dr dw dx 0))
(getV bk br bd r0 r1 r2 r3 r4 r5 r6 r7 x0 x1 x2 x3 x4 x5 x6 x7)) then
bif
in32 r0 &&
(in32 r1 &&
(in32 r2 &&
(in32 r3 &&
in64
(IntKind.wrap IntKind.u64
(toV
(ldW bk (ldV M db ds (ofV bb bi bq bd [r0, r1, r2, r3, r4, r5, r6, r7]) size (mayV dr dw dx 0))
(getV bk br bd r0 r1 r2 r3 r4 r5 r6 r7 x0 x1 x2 x3 x4 x5 x6 x7))))))) then
some
(Sv.tup
[Sv.agg
[Sv.v
(Value.int IntKind.u32
(setA ak ar 0 r0
(IntKind.wrap IntKind.u64
(toV
(ldW bk (ldV M db ds (ofV bb bi bq bd [r0, r1, r2, r3, r4, r5, r6, r7]) size (mayV dr dw dx 0))
(getV bk br bd r0 r1 r2 r3 r4 r5 r6 r7 x0 x1 x2 x3 x4 x5 x6 x7)))))),
Sv.v
(Value.int IntKind.u32
(setA ak ar 1 r1
(IntKind.wrap IntKind.u64
(toV
(ldW bk (ldV M db ds (ofV bb bi bq bd [r0, r1, r2, r3, r4, r5, r6, r7]) size (mayV dr dw dx 0))
(getV bk br bd r0 r1 r2 r3 r4 r5 r6 r7 x0 x1 x2 x3 x4 x5 x6 x7)))))),
Sv.v
(Value.int IntKind.u32
(setA ak ar 2 r2
(IntKind.wrap IntKind.u64
(toV
(ldW bk (ldV M db ds (ofV bb bi bq bd [r0, r1, r2, r3, r4, r5, r6, r7]) size (mayV dr dw dx 0))
(getV bk br bd r0 r1 r2 r3 r4 r5 r6 r7 x0 x1 x2 x3 x4 x5 x6 x7)))))),
Sv.v
(Value.int IntKind.u32
(setA ak ar 3 r3
(IntKind.wrap IntKind.u64
(toV
(ldW bk (ldV M db ds (ofV bb bi bq bd [r0, r1, r2, r3, r4, r5, r6, r7]) size (mayV dr dw dx 0))
(getV bk br bd r0 r1 r2 r3 r4 r5 r6 r7 x0 x1 x2 x3 x4 x5 x6 x7)))))),
Sv.v
(Value.int IntKind.u32
(setB ak ar 4 r4
(IntKind.wrap IntKind.u64
(toV
(ldW bk (ldV M db ds (ofV bb bi bq bd [r0, r1, r2, r3, r4, r5, r6, r7]) size (mayV dr dw dx 0))
(getV bk br bd r0 r1 r2 r3 r4 r5 r6 r7 x0 x1 x2 x3 x4 x5 x6 x7)))))),
Sv.v
(Value.int IntKind.u32
(setB ak ar 5 r5
(IntKind.wrap IntKind.u64
(toV
(ldW bk (ldV M db ds (ofV bb bi bq bd [r0, r1, r2, r3, r4, r5, r6, r7]) size (mayV dr dw dx 0))
(getV bk br bd r0 r1 r2 r3 r4 r5 r6 r7 x0 x1 x2 x3 x4 x5 x6 x7)))))),
Sv.v
(Value.int IntKind.u32
(setB ak ar 6 r6
(IntKind.wrap IntKind.u64
(toV
(ldW bk (ldV M db ds (ofV bb bi bq bd [r0, r1, r2, r3, r4, r5, r6, r7]) size (mayV dr dw dx 0))
(getV bk br bd r0 r1 r2 r3 r4 r5 r6 r7 x0 x1 x2 x3 x4 x5 x6 x7)))))),
Sv.v
(Value.int IntKind.u32
(setB ak ar 7 r7
(IntKind.wrap IntKind.u64
(toV
(ldW bk (ldV M db ds (ofV bb bi bq bd [r0, r1, r2, r3, r4, r5, r6, r7]) size (mayV dr dw dx 0))
(getV bk br bd r0 r1 r2 r3 r4 r5 r6 r7 x0 x1 x2 x3 x4 x5 x6 x7)))))),
vw ip, vb fc, vb fp, vb fz, vb fs,
vb fo, vb fd,
Sv.v
(Value.int IntKind.u64
(setX ak ar 0 x0
(IntKind.wrap IntKind.u64
(toV
(ldW bk (ldV M db ds (ofV bb bi bq bd [r0, r1, r2, r3, r4, r5, r6, r7]) size (mayV dr dw dx 0))
(getV bk br bd r0 r1 r2 r3 r4 r5 r6 r7 x0 x1 x2 x3 x4 x5 x6 x7)))))),
Sv.v
(Value.int IntKind.u64
(setX ak ar 1 x1
(IntKind.wrap IntKind.u64
(toV
(ldW bk (ldV M db ds (ofV bb bi bq bd [r0, r1, r2, r3, r4, r5, r6, r7]) size (mayV dr dw dx 0))
(getV bk br bd r0 r1 r2 r3 r4 r5 r6 r7 x0 x1 x2 x3 x4 x5 x6 x7)))))),
Sv.v
(Value.int IntKind.u64
(setX ak ar 2 x2
(IntKind.wrap IntKind.u64
(toV
(ldW bk (ldV M db ds (ofV bb bi bq bd [r0, r1, r2, r3, r4, r5, r6, r7]) size (mayV dr dw dx 0))
(getV bk br bd r0 r1 r2 r3 r4 r5 r6 r7 x0 x1 x2 x3 x4 x5 x6 x7)))))),
Sv.v
(Value.int IntKind.u64
(setX ak ar 3 x3
(IntKind.wrap IntKind.u64
(toV
(ldW bk (ldV M db ds (ofV bb bi bq bd [r0, r1, r2, r3, r4, r5, r6, r7]) size (mayV dr dw dx 0))
(getV bk br bd r0 r1 r2 r3 r4 r5 r6 r7 x0 x1 x2 x3 x4 x5 x6 x7)))))),
Sv.v
(Value.int IntKind.u64
(setX ak ar 4 x4
(IntKind.wrap IntKind.u64
(toV
(ldW bk (ldV M db ds (ofV bb bi bq bd [r0, r1, r2, r3, r4, r5, r6, r7]) size (mayV dr dw dx 0))
(getV bk br bd r0 r1 r2 r3 r4 r5 r6 r7 x0 x1 x2 x3 x4 x5 x6 x7)))))),
Sv.v
(Value.int IntKind.u64
(setX ak ar 5 x5
(IntKind.wrap IntKind.u64
(toV
(ldW bk (ldV M db ds (ofV bb bi bq bd [r0, r1, r2, r3, r4, r5, r6, r7]) size (mayV dr dw dx 0))
(getV bk br bd r0 r1 r2 r3 r4 r5 r6 r7 x0 x1 x2 x3 x4 x5 x6 x7)))))),
Sv.v
(Value.int IntKind.u64
(setX ak ar 6 x6
(IntKind.wrap IntKind.u64
(toV
(ldW bk (ldV M db ds (ofV bb bi bq bd [r0, r1, r2, r3, r4, r5, r6, r7]) size (mayV dr dw dx 0))
(getV bk br bd r0 r1 r2 r3 r4 r5 r6 r7 x0 x1 x2 x3 x4 x5 x6 x7)))))),
Sv.v
(Value.int IntKind.u64
(setX ak ar 7 x7
(IntKind.wrap IntKind.u64
(toV
(ldW bk (ldV M db ds (ofV bb bi bq bd [r0, r1, r2, r3, r4, r5, r6, r7]) size (mayV dr dw dx 0))
(getV bk br bd r0 r1 r2 r3 r4 r5 r6 r7 x0 x1 x2 x3 x4 x5 x6 x7))))))],
vi 0],
[SObj.cells
(cCFpz0 cb cs cr cw cx db ds dr dw dx)
T,
SObj.cells [Sv.mp 2] T2, SObj.bm IntKind.u32 IntKind.u8 M])
else none
else none
else
bif op == 61 then
bif in32 r0 && (in32 r1 && (in32 r2 && (in32 r3 && (in32 r4 && (in32 r5 && (in32 r6 && (in32 r7 && in32 ad))))))) then
bif
in64 (getV ak ar ad r0 r1 r2 r3 r4 r5 r6 r7 x0 x1 x2 x3 x4 x5 x6 x7) &&
in64
(ldW bk (ldV M db ds (ofV bb bi bq bd [r0, r1, r2, r3, r4, r5, r6, r7]) size (mayV dr dw dx 0))
(getV bk br bd r0 r1 r2 r3 r4 r5 r6 r7 x0 x1 x2 x3 x4 x5 x6 x7)) then
some
(Sv.tup
[Sv.agg
[vw r0, vw r1, vw r2,
vw r3, vw r4, vw r5,
vw r6, vw r7, vw ip,
Sv.v
(Value.bool
(cC (getV ak ar ad r0 r1 r2 r3 r4 r5 r6 r7 x0 x1 x2 x3 x4 x5 x6 x7)
(ldW bk (ldV M db ds (ofV bb bi bq bd [r0, r1, r2, r3, r4, r5, r6, r7]) size (mayV dr dw dx 0))
(getV bk br bd r0 r1 r2 r3 r4 r5 r6 r7 x0 x1 x2 x3 x4 x5 x6 x7)))),
Sv.v
(Value.bool
(cP (getV ak ar ad r0 r1 r2 r3 r4 r5 r6 r7 x0 x1 x2 x3 x4 x5 x6 x7)
(ldW bk (ldV M db ds (ofV bb bi bq bd [r0, r1, r2, r3, r4, r5, r6, r7]) size (mayV dr dw dx 0))
(getV bk br bd r0 r1 r2 r3 r4 r5 r6 r7 x0 x1 x2 x3 x4 x5 x6 x7)))),
Sv.v
(Value.bool
(cZ (getV ak ar ad r0 r1 r2 r3 r4 r5 r6 r7 x0 x1 x2 x3 x4 x5 x6 x7)
(ldW bk (ldV M db ds (ofV bb bi bq bd [r0, r1, r2, r3, r4, r5, r6, r7]) size (mayV dr dw dx 0))
(getV bk br bd r0 r1 r2 r3 r4 r5 r6 r7 x0 x1 x2 x3 x4 x5 x6 x7)))),
vb false, vb false, vb fd, vd x0,
vd x1, vd x2, vd x3,
vd x4, vd x5, vd x6,
vd x7],
vi 0],
[SObj.cells
(cCFpz0 cb cs cr cw cx db ds dr dw dx)
T,
SObj.cells [Sv.mp 2] T2, SObj.bm IntKind.u32 IntKind.u8 M])
else none
else none
else
bif in32 r0 && (in32 r1 && (in32 r2 && (in32 r3 && (in32 r4 && (in32 r5 && (in32 r6 && (in32 r7 && in32 ad))))))) then
bif
ini64 op &&
(in64 (getV ak ar ad r0 r1 r2 r3 r4 r5 r6 r7 x0 x1 x2 x3 x4 x5 x6 x7) &&
in64
(ldW bk (ldV M db ds (ofV bb bi bq bd [r0, r1, r2, r3, r4, r5, r6, r7]) size (mayV dr dw dx 0))
(getV bk br bd r0 r1 r2 r3 r4 r5 r6 r7 x0 x1 x2 x3 x4 x5 x6 x7))) then
bif
in32 r0 &&
(in32 r1 &&
(in32 r2 &&
(in32 r3 &&
(in32 r4 &&
(in32 r5 &&
(in32 r6 &&
(in32 r7 &&
(in32 r0 &&
(in32 r1 &&
(in32 r2 &&
(in32 r3 &&
(in32 r4 &&
(in32 r5 &&
(in32 r6 &&
(in32 r7 &&
(in32 ad &&
(in32 db &&
(in32 ds &&
in64
(doV op (getV ak ar ad r0 r1 r2 r3 r4 r5 r6 r7 x0 x1 x2 x3 x4 x5 x6 x7)
(ldW bk (ldV M db ds (ofV bb bi bq bd [r0, r1, r2, r3, r4, r5, r6, r7]) size (mayV dr dw dx 0))
(getV bk br bd r0 r1 r2 r3 r4 r5 r6 r7 x0 x1 x2 x3 x4 x5 x6 x7))))))))))))))))))))) &&
true then
bif !erW ak (segE db ds (ofV ab ai aq ad [r0, r1, r2, r3, r4, r5, r6, r7]) 8 (mayV dr dw dx 1)) == 0 then
some
(Sv.tup
[Sv.agg
(cCFpz1 r0 r1 r2 r3 r4 r5 r6 r7 ip fc fp fz fs fo fd x0 x1 x2 x3 x4 x5 x6 x7),
vi 2],
[SObj.cells
(cCFpz0 cb cs cr cw cx db ds dr dw dx)
T,
SObj.cells [Sv.mp 2] T2,
SObj.bm IntKind.u32 IntKind.u8
(memW ak
(stV M db ds (ofV ab ai aq ad [r0, r1, r2, r3, r4, r5, r6, r7]) 8
(doV op (getV ak ar ad r0 r1 r2 r3 r4 r5 r6 r7 x0 x1 x2 x3 x4 x5 x6 x7)
(ldW bk (ldV M db ds (ofV bb bi bq bd [r0, r1, r2, r3, r4, r5, r6, r7]) size (mayV dr dw dx 0))
(getV bk br bd r0 r1 r2 r3 r4 r5 r6 r7 x0 x1 x2 x3 x4 x5 x6 x7)))
(mayV dr dw dx 1))
M)])
else
some
(Sv.tup
[Sv.agg
[Sv.v
(Value.int IntKind.u32
(ldW ak r0
(setA ak ar 0 r0
(doV op (getV ak ar ad r0 r1 r2 r3 r4 r5 r6 r7 x0 x1 x2 x3 x4 x5 x6 x7)
(ldW bk (ldV M db ds (ofV bb bi bq bd [r0, r1, r2, r3, r4, r5, r6, r7]) size (mayV dr dw dx 0))
(getV bk br bd r0 r1 r2 r3 r4 r5 r6 r7 x0 x1 x2 x3 x4 x5 x6 x7)))))),
Sv.v
(Value.int IntKind.u32
(ldW ak r1
(setA ak ar 1 r1
(doV op (getV ak ar ad r0 r1 r2 r3 r4 r5 r6 r7 x0 x1 x2 x3 x4 x5 x6 x7)
(ldW bk (ldV M db ds (ofV bb bi bq bd [r0, r1, r2, r3, r4, r5, r6, r7]) size (mayV dr dw dx 0))
(getV bk br bd r0 r1 r2 r3 r4 r5 r6 r7 x0 x1 x2 x3 x4 x5 x6 x7)))))),
Sv.v
(Value.int IntKind.u32
(ldW ak r2
(setA ak ar 2 r2
(doV op (getV ak ar ad r0 r1 r2 r3 r4 r5 r6 r7 x0 x1 x2 x3 x4 x5 x6 x7)
(ldW bk (ldV M db ds (ofV bb bi bq bd [r0, r1, r2, r3, r4, r5, r6, r7]) size (mayV dr dw dx 0))
(getV bk br bd r0 r1 r2 r3 r4 r5 r6 r7 x0 x1 x2 x3 x4 x5 x6 x7)))))),
Sv.v
(Value.int IntKind.u32
(ldW ak r3
(setA ak ar 3 r3
(doV op (getV ak ar ad r0 r1 r2 r3 r4 r5 r6 r7 x0 x1 x2 x3 x4 x5 x6 x7)
(ldW bk (ldV M db ds (ofV bb bi bq bd [r0, r1, r2, r3, r4, r5, r6, r7]) size (mayV dr dw dx 0))
(getV bk br bd r0 r1 r2 r3 r4 r5 r6 r7 x0 x1 x2 x3 x4 x5 x6 x7)))))),
Sv.v
(Value.int IntKind.u32
(ldW ak r4
(setB ak ar 4 r4
(doV op (getV ak ar ad r0 r1 r2 r3 r4 r5 r6 r7 x0 x1 x2 x3 x4 x5 x6 x7)
(ldW bk (ldV M db ds (ofV bb bi bq bd [r0, r1, r2, r3, r4, r5, r6, r7]) size (mayV dr dw dx 0))
(getV bk br bd r0 r1 r2 r3 r4 r5 r6 r7 x0 x1 x2 x3 x4 x5 x6 x7)))))),
Sv.v
(Value.int IntKind.u32
(ldW ak r5
(setB ak ar 5 r5
(doV op (getV ak ar ad r0 r1 r2 r3 r4 r5 r6 r7 x0 x1 x2 x3 x4 x5 x6 x7)
(ldW bk (ldV M db ds (ofV bb bi bq bd [r0, r1, r2, r3, r4, r5, r6, r7]) size (mayV dr dw dx 0))
(getV bk br bd r0 r1 r2 r3 r4 r5 r6 r7 x0 x1 x2 x3 x4 x5 x6 x7)))))),
Sv.v
(Value.int IntKind.u32
(ldW ak r6
(setB ak ar 6 r6
(doV op (getV ak ar ad r0 r1 r2 r3 r4 r5 r6 r7 x0 x1 x2 x3 x4 x5 x6 x7)
(ldW bk (ldV M db ds (ofV bb bi bq bd [r0, r1, r2, r3, r4, r5, r6, r7]) size (mayV dr dw dx 0))
(getV bk br bd r0 r1 r2 r3 r4 r5 r6 r7 x0 x1 x2 x3 x4 x5 x6 x7)))))),
Sv.v
(Value.int IntKind.u32
(ldW ak r7
(setB ak ar 7 r7
(doV op (getV ak ar ad r0 r1 r2 r3 r4 r5 r6 r7 x0 x1 x2 x3 x4 x5 x6 x7)
(ldW bk (ldV M db ds (ofV bb bi bq bd [r0, r1, r2, r3, r4, r5, r6, r7]) size (mayV dr dw dx 0))
(getV bk br bd r0 r1 r2 r3 r4 r5 r6 r7 x0 x1 x2 x3 x4 x5 x6 x7)))))),
vw ip, vb fc, vb fp, vb fz, vb fs,
vb fo, vb fd,
Sv.v
(Value.int IntKind.u64
(ldW ak x0
(setX ak ar 0 x0
(doV op (getV ak ar ad r0 r1 r2 r3 r4 r5 r6 r7 x0 x1 x2 x3 x4 x5 x6 x7)
(ldW bk (ldV M db ds (ofV bb bi bq bd [r0, r1, r2, r3, r4, r5, r6, r7]) size (mayV dr dw dx 0))
(getV bk br bd r0 r1 r2 r3 r4 r5 r6 r7 x0 x1 x2 x3 x4 x5 x6 x7)))))),
Sv.v
(Value.int IntKind.u64
(ldW ak x1
(setX ak ar 1 x1
(doV op (getV ak ar ad r0 r1 r2 r3 r4 r5 r6 r7 x0 x1 x2 x3 x4 x5 x6 x7)
(ldW bk (ldV M db ds (ofV bb bi bq bd [r0, r1, r2, r3, r4, r5, r6, r7]) size (mayV dr dw dx 0))
(getV bk br bd r0 r1 r2 r3 r4 r5 r6 r7 x0 x1 x2 x3 x4 x5 x6 x7)))))),
Sv.v
(Value.int IntKind.u64
(ldW ak x2
(setX ak ar 2 x2
(doV op (getV ak ar ad r0 r1 r2 r3 r4 r5 r6 r7 x0 x1 x2 x3 x4 x5 x6 x7)
(ldW bk (ldV M db ds (ofV bb bi bq bd [r0, r1, r2, r3, r4, r5, r6, r7]) size (mayV dr dw dx 0))
(getV bk br bd r0 r1 r2 r3 r4 r5 r6 r7 x0 x1 x2 x3 x4 x5 x6 x7)))))),
Sv.v
(Value.int IntKind.u64
(ldW ak x3
(setX ak ar 3 x3
(doV op (getV ak ar ad r0 r1 r2 r3 r4 r5 r6 r7 x0 x1 x2 x3 x4 x5 x6 x7)
(ldW bk (ldV M db ds (ofV bb bi bq bd [r0, r1, r2, r3, r4, r5, r6, r7]) size (mayV dr dw dx 0))
(getV bk br bd r0 r1 r2 r3 r4 r5 r6 r7 x0 x1 x2 x3 x4 x5 x6 x7)))))),
Sv.v
(Value.int IntKind.u64
(ldW ak x4
(setX ak ar 4 x4
(doV op (getV ak ar ad r0 r1 r2 r3 r4 r5 r6 r7 x0 x1 x2 x3 x4 x5 x6 x7)
(ldW bk (ldV M db ds (ofV bb bi bq bd [r0, r1, r2, r3, r4, r5, r6, r7]) size (mayV dr dw dx 0))
(getV bk br bd r0 r1 r2 r3 r4 r5 r6 r7 x0 x1 x2 x3 x4 x5 x6 x7)))))),
Sv.v
(Value.int IntKind.u64
(ldW ak x5
(setX ak ar 5 x5
(doV op (getV ak ar ad r0 r1 r2 r3 r4 r5 r6 r7 x0 x1 x2 x3 x4 x5 x6 x7)
(ldW bk (ldV M db ds (ofV bb bi bq bd [r0, r1, r2, r3, r4, r5, r6, r7]) size (mayV dr dw dx 0))
(getV bk br bd r0 r1 r2 r3 r4 r5 r6 r7 x0 x1 x2 x3 x4 x5 x6 x7)))))),
Sv.v
(Value.int IntKind.u64
(ldW ak x6
(setX ak ar 6 x6
(doV op (getV ak ar ad r0 r1 r2 r3 r4 r5 r6 r7 x0 x1 x2 x3 x4 x5 x6 x7)
(ldW bk (ldV M db ds (ofV bb bi bq bd [r0, r1, r2, r3, r4, r5, r6, r7]) size (mayV dr dw dx 0))
(getV bk br bd r0 r1 r2 r3 r4 r5 r6 r7 x0 x1 x2 x3 x4 x5 x6 x7)))))),
Sv.v
(Value.int IntKind.u64
(ldW ak x7
(setX ak ar 7 x7
(doV op (getV ak ar ad r0 r1 r2 r3 r4 r5 r6 r7 x0 x1 x2 x3 x4 x5 x6 x7)
(ldW bk (ldV M db ds (ofV bb bi bq bd [r0, r1, r2, r3, r4, r5, r6, r7]) size (mayV dr dw dx 0))
(getV bk br bd r0 r1 r2 r3 r4 r5 r6 r7 x0 x1 x2 x3 x4 x5 x6 x7))))))],
vi 0],
[SObj.cells
(cCFpz0 cb cs cr cw cx db ds dr dw dx)
T,
SObj.cells [Sv.mp 2] T2,
SObj.bm IntKind.u32 IntKind.u8
(memW ak
(stV M db ds (ofV ab ai aq ad [r0, r1, r2, r3, r4, r5, r6, r7]) 8
(doV op (getV ak ar ad r0 r1 r2 r3 r4 r5 r6 r7 x0 x1 x2 x3 x4 x5 x6 x7)
(ldW bk (ldV M db ds (ofV bb bi bq bd [r0, r1, r2, r3, r4, r5, r6, r7]) size (mayV dr dw dx 0))
(getV bk br bd r0 r1 r2 r3 r4 r5 r6 r7 x0 x1 x2 x3 x4 x5 x6 x7)))
(mayV dr dw dx 1))
M)])
else none
else none
else none
else none) := by kernel_rfl
set_option maxHeartbeats 4000000 in
theorem fpR_ev (cb cs : Int) (cr cw cx : Bool) (db ds : Int) (dr dw dx : Bool) (T T2 : TypeId) (M : Int → Int) (r0 r1 r2 r3 r4 r5 r6 r7 ip : Int) (fc fp fz fs fo fd : Bool) (x0 x1 x2 x3 x4 x5 x6 x7 op cond size ak ar ab ai aq ad bk br bb bi bq bd c : Int) (rep : Bool) (len : Int) (hg : (in32 r0 && (in32 r1 && (in32 r2 && (in32 r3 && (in32 r4 && (in32 r5 && (in32 r6 && (in32 r7 && (in32 db && (in32 ds && (in32 ad && (in32 bd && (in64 x0 && (in64 x1 && (in64 x2 && (in64 x3 && (in64 x4 && (in64 x5 && (in64 x6 && (in64 x7 && (fpG op size ak))))))))))))))))))))) = true) : evF Try.prog ΓFe 400 28 [.ptr 0 0, .agg (cCFpz2 r0 r1 r2 r3 r4 r5 r6 r7 ip fc fp fz fs fo fd x0 x1 x2 x3 x4 x5 x6 x7), .agg (cCFpz3 op cond size ak ar ab ai aq ad bk br bb bi bq bd c rep len)] [.cells (cCFpz4 cb cs cr cw cx db ds dr dw dx) T, .cells [.mp 2] T2, .bm .u32 .u8 M] (kTk 3) kNo = some (.tup [.agg [.v (.int .u32 (ansI (fpPT cb cs cr cw cx db ds dr dw dx T M r0 r1 r2 r3 r4 r5 r6 r7 ip fc fp fz fs fo fd x0 x1 x2 x3 x4 x5 x6 x7 op cond size ak ar ab ai aq ad bk br bb bi bq bd c rep len) 0)), .v (.int .u32 (ansI (fpPT cb cs cr cw cx db ds dr dw dx T M r0 r1 r2 r3 r4 r5 r6 r7 ip fc fp fz fs fo fd x0 x1 x2 x3 x4 x5 x6 x7 op cond size ak ar ab ai aq ad bk br bb bi bq bd c rep len) 1)), .v (.int .u32 (ansI (fpPT cb cs cr cw cx db ds dr dw dx T M r0 r1 r2 r3 r4 r5 r6 r7 ip fc fp fz fs fo fd x0 x1 x2 x3 x4 x5 x6 x7 op cond size ak ar ab ai aq ad bk br bb bi bq bd c rep len) 2)), .v (.int .u32 (ansI (fpPT cb cs cr cw cx db ds dr dw dx T M r0 r1 r2 r3 r4 r5 r6 r7 ip fc fp fz fs fo fd x0 x1 x2 x3 x4 x5 x6 x7 op cond size ak ar ab ai aq ad bk br bb bi bq bd c rep len) 3)), .v (.int .u32 (ansI (fpPT cb cs cr cw cx db ds dr dw dx T M r0 r1 r2 r3 r4 r5 r6 r7 ip fc fp fz fs fo fd x0 x1 x2 x3 x4 x5 x6 x7 op cond size ak ar ab ai aq ad bk br bb bi bq bd c rep len) 4)), .v (.int .u32 (ansI (fpPT cb cs cr cw cx db ds dr dw dx T M r0 r1 r2 r3 r4 r5 r6 r7 ip fc fp fz fs fo fd x0 x1 x2 x3 x4 x5 x6 x7 op cond size ak ar ab ai aq ad bk br bb bi bq bd c rep len) 5)), .v (.int .u32 (ansI (fpPT cb cs cr cw cx db ds dr dw dx T M r0 r1 r2 r3 r4 r5 r6 r7 ip fc fp fz fs fo fd x0 x1 x2 x3 x4 x5 x6 x7 op cond size ak ar ab ai aq ad bk br bb bi bq bd c rep len) 6)), .v (.int .u32 (ansI (fpPT cb cs cr cw cx db ds dr dw dx T M r0 r1 r2 r3 r4 r5 r6 r7 ip fc fp fz fs fo fd x0 x1 x2 x3 x4 x5 x6 x7 op cond size ak ar ab ai aq ad bk br bb bi bq bd c rep len) 7)), .v (.int .u32 (ansI (fpPT cb cs cr cw cx db ds dr dw dx T M r0 r1 r2 r3 r4 r5 r6 r7 ip fc fp fz fs fo fd x0 x1 x2 x3 x4 x5 x6 x7 op cond size ak ar ab ai aq ad bk br bb bi bq bd c rep len) 8)), .v (.bool (ansB (fpPT cb cs cr cw cx db ds dr dw dx T M r0 r1 r2 r3 r4 r5 r6 r7 ip fc fp fz fs fo fd x0 x1 x2 x3 x4 x5 x6 x7 op cond size ak ar ab ai aq ad bk br bb bi bq bd c rep len) 9)), .v (.bool (ansB (fpPT cb cs cr cw cx db ds dr dw dx T M r0 r1 r2 r3 r4 r5 r6 r7 ip fc fp fz fs fo fd x0 x1 x2 x3 x4 x5 x6 x7 op cond size ak ar ab ai aq ad bk br bb bi bq bd c rep len) 10)), .v (.bool (ansB (fpPT cb cs cr cw cx db ds dr dw dx T M r0 r1 r2 r3 r4 r5 r6 r7 ip fc fp fz fs fo fd x0 x1 x2 x3 x4 x5 x6 x7 op cond size ak ar ab ai aq ad bk br bb bi bq bd c rep len) 11)), .v (.bool (ansB (fpPT cb cs cr cw cx db ds dr dw dx T M r0 r1 r2 r3 r4 r5 r6 r7 ip fc fp fz fs fo fd x0 x1 x2 x3 x4 x5 x6 x7 op cond size ak ar ab ai aq ad bk br bb bi bq bd c rep len) 12)), .v (.bool (ansB (fpPT cb cs cr cw cx db ds dr dw dx T M r0 r1 r2 r3 r4 r5 r6 r7 ip fc fp fz fs fo fd x0 x1 x2 x3 x4 x5 x6 x7 op cond size ak ar ab ai aq ad bk br bb bi bq bd c rep len) 13)), .v (.bool (ansB (fpPT cb cs cr cw cx db ds dr dw dx T M r0 r1 r2 r3 r4 r5 r6 r7 ip fc fp fz fs fo fd x0 x1 x2 x3 x4 x5 x6 x7 op cond size ak ar ab ai aq ad bk br bb bi bq bd c rep len) 14)), .v (.int .u64 (ansI (fpPT cb cs cr cw cx db ds dr dw dx T M r0 r1 r2 r3 r4 r5 r6 r7 ip fc fp fz fs fo fd x0 x1 x2 x3 x4 x5 x6 x7 op cond size ak ar ab ai aq ad bk br bb bi bq bd c rep len) 15)), .v (.int .u64 (ansI (fpPT cb cs cr cw cx db ds dr dw dx T M r0 r1 r2 r3 r4 r5 r6 r7 ip fc fp fz fs fo fd x0 x1 x2 x3 x4 x5 x6 x7 op cond size ak ar ab ai aq ad bk br bb bi bq bd c rep len) 16)), .v (.int .u64 (ansI (fpPT cb cs cr cw cx db ds dr dw dx T M r0 r1 r2 r3 r4 r5 r6 r7 ip fc fp fz fs fo fd x0 x1 x2 x3 x4 x5 x6 x7 op cond size ak ar ab ai aq ad bk br bb bi bq bd c rep len) 17)), .v (.int .u64 (ansI (fpPT cb cs cr cw cx db ds dr dw dx T M r0 r1 r2 r3 r4 r5 r6 r7 ip fc fp fz fs fo fd x0 x1 x2 x3 x4 x5 x6 x7 op cond size ak ar ab ai aq ad bk br bb bi bq bd c rep len) 18)), .v (.int .u64 (ansI (fpPT cb cs cr cw cx db ds dr dw dx T M r0 r1 r2 r3 r4 r5 r6 r7 ip fc fp fz fs fo fd x0 x1 x2 x3 x4 x5 x6 x7 op cond size ak ar ab ai aq ad bk br bb bi bq bd c rep len) 19)), .v (.int .u64 (ansI (fpPT cb cs cr cw cx db ds dr dw dx T M r0 r1 r2 r3 r4 r5 r6 r7 ip fc fp fz fs fo fd x0 x1 x2 x3 x4 x5 x6 x7 op cond size ak ar ab ai aq ad bk br bb bi bq bd c rep len) 20)), .v (.int .u64 (ansI (fpPT cb cs cr cw cx db ds dr dw dx T M r0 r1 r2 r3 r4 r5 r6 r7 ip fc fp fz fs fo fd x0 x1 x2 x3 x4 x5 x6 x7 op cond size ak ar ab ai aq ad bk br bb bi bq bd c rep len) 21)), .v (.int .u64 (ansI (fpPT cb cs cr cw cx db ds dr dw dx T M r0 r1 r2 r3 r4 r5 r6 r7 ip fc fp fz fs fo fd x0 x1 x2 x3 x4 x5 x6 x7 op cond size ak ar ab ai aq ad bk br bb bi bq bd c rep len) 22))], .v (.int .i64 (ansI (fpPT cb cs cr cw cx db ds dr dw dx T M r0 r1 r2 r3 r4 r5 r6 r7 ip fc fp fz fs fo fd x0 x1 x2 x3 x4 x5 x6 x7 op cond size ak ar ab ai aq ad bk br bb bi bq bd c rep len) 23))], [.cells (cCFpz4 cb cs cr cw cx db ds dr dw dx) T, .cells [.mp 2] T2, .bm .u32 .u8 (ansM (fpPT cb cs cr cw cx db ds dr dw dx T M r0 r1 r2 r3 r4 r5 r6 r7 ip fc fp fz fs fo fd x0 x1 x2 x3 x4 x5 x6 x7 op cond size ak ar ab ai aq ad bk br bb bi bq bd c rep len) 1)]) := by
  rw [fpR_form]
  rw [fpP_tree]
  simp only [Bool.and_eq_true] at hg
  have hG := hg.2.2.2.2.2.2.2.2.2.2.2.2.2.2.2.2.2.2.2.2
  simp only [hg, fpG_op hg.2.2.2.2.2.2.2.2.2.2.2.2.2.2.2.2.2.2.2.2, show in64 0 = true from rfl, ofV_in, in32_wr, in64_wr, ldW_in64, ldV_in64, getV_in64, doV_in64, fromV_in, toV_in, Bool.and_self, Bool.and_true, Bool.true_and, cond_true, bne]
  clear hg
  simp only [fpG, Bool.or_eq_true, Bool.and_eq_true, beq_iff_eq, decide_eq_true_eq] at hG
  have b4 : ((bytesN 4 : Nat) : Int) = 4 := rfl
  have b8 : ((bytesN 8 : Nat) : Int) = 8 := rfl
  rcases hG with ⟨rfl, rfl, rfl⟩ | ⟨rfl, rfl, rfl⟩ | ⟨ho, rfl, rfl⟩ | ⟨rfl, rfl, rfl⟩ <;> simp only [b4, b8]
  · generalize (erW bk (segE db ds (ofV bb bi bq bd [r0, r1, r2, r3, r4, r5, r6, r7]) 4 (mayV dr dw dx 0)) == 0) = E
    cases E <;> rfl
  · generalize (erW bk (segE db ds (ofV bb bi bq bd [r0, r1, r2, r3, r4, r5, r6, r7]) 8 (mayV dr dw dx 0)) == 0) = E
    cases E <;> rfl
  · generalize (erW bk (segE db ds (ofV bb bi bq bd [r0, r1, r2, r3, r4, r5, r6, r7]) 8 (mayV dr dw dx 0)) == 0) = E
    rcases ho with ⟨h1, h2⟩ | rfl
    · have e1 : (op == 59) = false := beq_eq_false_iff_ne.2 (by omega)
      have e2 : (op == 60) = false := beq_eq_false_iff_ne.2 (by omega)
      have e3 : (op == 61) = false := beq_eq_false_iff_ne.2 (by omega)
      simp only [e1, e2, e3, cond_false]
      cases E <;> rfl
    · cases E <;> rfl
  · generalize (erW bk (segE db ds (ofV bb bi bq bd [r0, r1, r2, r3, r4, r5, r6, r7]) 8 (mayV dr dw dx 0)) == 0) = E
    generalize hA : (erW 3 (segE db ds (ofV ab ai aq ad [r0, r1, r2, r3, r4, r5, r6, r7]) 8 (mayV dr dw dx 1)) == 0) = A
    cases E <;> cases A <;> rfl
noncomputable def fpRB (R : Type) (m : List SObj) (k : Sv → List SObj → Option R) (b g : Nat) (cb cs : Int) (cr cw cx : Bool) (db ds : Int) (dr dw dx : Bool) (T : TypeId) (M : Int → Int) (j : Nat) (T2 : TypeId) (r0 r1 r2 r3 r4 r5 r6 r7 ip : Int) (fc fp fz fs fo fd : Bool) (x0 x1 x2 x3 x4 x5 x6 x7 op cond size ak ar ab ai aq ad bk br bb bi bq bd c : Int) (rep : Bool) (len : Int) : Option R :=
  bif (in32 r0 && (in32 r1 && (in32 r2 && (in32 r3 && (in32 r4 && (in32 r5 && (in32 r6 && (in32 r7 && (in32 db && (in32 ds && (in32 ad && (in32 bd && (in64 x0 && (in64 x1 && (in64 x2 && (in64 x3 && (in64 x4 && (in64 x5 && (in64 x6 && (in64 x7 && (fpG op size ak))))))))))))))))))))) && (!(b == g) && (!(b == j) && !(g == j))) then k (.tup [.agg [.v (.int .u32 (ansI (fpPT cb cs cr cw cx db ds dr dw dx T M r0 r1 r2 r3 r4 r5 r6 r7 ip fc fp fz fs fo fd x0 x1 x2 x3 x4 x5 x6 x7 op cond size ak ar ab ai aq ad bk br bb bi bq bd c rep len) 0)), .v (.int .u32 (ansI (fpPT cb cs cr cw cx db ds dr dw dx T M r0 r1 r2 r3 r4 r5 r6 r7 ip fc fp fz fs fo fd x0 x1 x2 x3 x4 x5 x6 x7 op cond size ak ar ab ai aq ad bk br bb bi bq bd c rep len) 1)), .v (.int .u32 (ansI (fpPT cb cs cr cw cx db ds dr dw dx T M r0 r1 r2 r3 r4 r5 r6 r7 ip fc fp fz fs fo fd x0 x1 x2 x3 x4 x5 x6 x7 op cond size ak ar ab ai aq ad bk br bb bi bq bd c rep len) 2)), .v (.int .u32 (ansI (fpPT cb cs cr cw cx db ds dr dw dx T M r0 r1 r2 r3 r4 r5 r6 r7 ip fc fp fz fs fo fd x0 x1 x2 x3 x4 x5 x6 x7 op cond size ak ar ab ai aq ad bk br bb bi bq bd c rep len) 3)), .v (.int .u32 (ansI (fpPT cb cs cr cw cx db ds dr dw dx T M r0 r1 r2 r3 r4 r5 r6 r7 ip fc fp fz fs fo fd x0 x1 x2 x3 x4 x5 x6 x7 op cond size ak ar ab ai aq ad bk br bb bi bq bd c rep len) 4)), .v (.int .u32 (ansI (fpPT cb cs cr cw cx db ds dr dw dx T M r0 r1 r2 r3 r4 r5 r6 r7 ip fc fp fz fs fo fd x0 x1 x2 x3 x4 x5 x6 x7 op cond size ak ar ab ai aq ad bk br bb bi bq bd c rep len) 5)), .v (.int .u32 (ansI (fpPT cb cs cr cw cx db ds dr dw dx T M r0 r1 r2 r3 r4 r5 r6 r7 ip fc fp fz fs fo fd x0 x1 x2 x3 x4 x5 x6 x7 op cond size ak ar ab ai aq ad bk br bb bi bq bd c rep len) 6)), .v (.int .u32 (ansI (fpPT cb cs cr cw cx db ds dr dw dx T M r0 r1 r2 r3 r4 r5 r6 r7 ip fc fp fz fs fo fd x0 x1 x2 x3 x4 x5 x6 x7 op cond size ak ar ab ai aq ad bk br bb bi bq bd c rep len) 7)), .v (.int .u32 (ansI (fpPT cb cs cr cw cx db ds dr dw dx T M r0 r1 r2 r3 r4 r5 r6 r7 ip fc fp fz fs fo fd x0 x1 x2 x3 x4 x5 x6 x7 op cond size ak ar ab ai aq ad bk br bb bi bq bd c rep len) 8)), .v (.bool (ansB (fpPT cb cs cr cw cx db ds dr dw dx T M r0 r1 r2 r3 r4 r5 r6 r7 ip fc fp fz fs fo fd x0 x1 x2 x3 x4 x5 x6 x7 op cond size ak ar ab ai aq ad bk br bb bi bq bd c rep len) 9)), .v (.bool (ansB (fpPT cb cs cr cw cx db ds dr dw dx T M r0 r1 r2 r3 r4 r5 r6 r7 ip fc fp fz fs fo fd x0 x1 x2 x3 x4 x5 x6 x7 op cond size ak ar ab ai aq ad bk br bb bi bq bd c rep len) 10)), .v (.bool (ansB (fpPT cb cs cr cw cx db ds dr dw dx T M r0 r1 r2 r3 r4 r5 r6 r7 ip fc fp fz fs fo fd x0 x1 x2 x3 x4 x5 x6 x7 op cond size ak ar ab ai aq ad bk br bb bi bq bd c rep len) 11)), .v (.bool (ansB (fpPT cb cs cr cw cx db ds dr dw dx T M r0 r1 r2 r3 r4 r5 r6 r7 ip fc fp fz fs fo fd x0 x1 x2 x3 x4 x5 x6 x7 op cond size ak ar ab ai aq ad bk br bb bi bq bd c rep len) 12)), .v (.bool (ansB (fpPT cb cs cr cw cx db ds dr dw dx T M r0 r1 r2 r3 r4 r5 r6 r7 ip fc fp fz fs fo fd x0 x1 x2 x3 x4 x5 x6 x7 op cond size ak ar ab ai aq ad bk br bb bi bq bd c rep len) 13)), .v (.bool (ansB (fpPT cb cs cr cw cx db ds dr dw dx T M r0 r1 r2 r3 r4 r5 r6 r7 ip fc fp fz fs fo fd x0 x1 x2 x3 x4 x5 x6 x7 op cond size ak ar ab ai aq ad bk br bb bi bq bd c rep len) 14)), .v (.int .u64 (ansI (fpPT cb cs cr cw cx db ds dr dw dx T M r0 r1 r2 r3 r4 r5 r6 r7 ip fc fp fz fs fo fd x0 x1 x2 x3 x4 x5 x6 x7 op cond size ak ar ab ai aq ad bk br bb bi bq bd c rep len) 15)), .v (.int .u64 (ansI (fpPT cb cs cr cw cx db ds dr dw dx T M r0 r1 r2 r3 r4 r5 r6 r7 ip fc fp fz fs fo fd x0 x1 x2 x3 x4 x5 x6 x7 op cond size ak ar ab ai aq ad bk br bb bi bq bd c rep len) 16)), .v (.int .u64 (ansI (fpPT cb cs cr cw cx db ds dr dw dx T M r0 r1 r2 r3 r4 r5 r6 r7 ip fc fp fz fs fo fd x0 x1 x2 x3 x4 x5 x6 x7 op cond size ak ar ab ai aq ad bk br bb bi bq bd c rep len) 17)), .v (.int .u64 (ansI (fpPT cb cs cr cw cx db ds dr dw dx T M r0 r1 r2 r3 r4 r5 r6 r7 ip fc fp fz fs fo fd x0 x1 x2 x3 x4 x5 x6 x7 op cond size ak ar ab ai aq ad bk br bb bi bq bd c rep len) 18)), .v (.int .u64 (ansI (fpPT cb cs cr cw cx db ds dr dw dx T M r0 r1 r2 r3 r4 r5 r6 r7 ip fc fp fz fs fo fd x0 x1 x2 x3 x4 x5 x6 x7 op cond size ak ar ab ai aq ad bk br bb bi bq bd c rep len) 19)), .v (.int .u64 (ansI (fpPT cb cs cr cw cx db ds dr dw dx T M r0 r1 r2 r3 r4 r5 r6 r7 ip fc fp fz fs fo fd x0 x1 x2 x3 x4 x5 x6 x7 op cond size ak ar ab ai aq ad bk br bb bi bq bd c rep len) 20)), .v (.int .u64 (ansI (fpPT cb cs cr cw cx db ds dr dw dx T M r0 r1 r2 r3 r4 r5 r6 r7 ip fc fp fz fs fo fd x0 x1 x2 x3 x4 x5 x6 x7 op cond size ak ar ab ai aq ad bk br bb bi bq bd c rep len) 21)), .v (.int .u64 (ansI (fpPT cb cs cr cw cx db ds dr dw dx T M r0 r1 r2 r3 r4 r5 r6 r7 ip fc fp fz fs fo fd x0 x1 x2 x3 x4 x5 x6 x7 op cond size ak ar ab ai aq ad bk br bb bi bq bd c rep len) 22))], .v (.int .i64 (ansI (fpPT cb cs cr cw cx db ds dr dw dx T M r0 r1 r2 r3 r4 r5 r6 r7 ip fc fp fz fs fo fd x0 x1 x2 x3 x4 x5 x6 x7 op cond size ak ar ab ai aq ad bk br bb bi bq bd c rep len) 23))]) ((((m.set b (.cells [.ptr g 0, .v (.int .u32 cb), .v (.int .u32 cs), .v (.bool cr), .v (.bool cw), .v (.bool cx), .v (.int .u32 db), .v (.int .u32 ds), .v (.bool dr), .v (.bool dw), .v (.bool dx)] T)).set g (.cells [.mp j] T2)).set j (.bm .u32 .u8 (ansM (fpPT cb cs cr cw cx db ds dr dw dx T M r0 r1 r2 r3 r4 r5 r6 r7 ip fc fp fz fs fo fd x0 x1 x2 x3 x4 x5 x6 x7 op cond size ak ar ab ai aq ad bk br bb bi bq bd c rep len) 1))) ++ []) else none
noncomputable def fpRS : Ev.Spec := fun R args m k kp => match args with
  | [.ptr b 0, .agg A0, .agg A1] => (match A0 with
    | [.v (.int .u32 r0), .v (.int .u32 r1), .v (.int .u32 r2), .v (.int .u32 r3), .v (.int .u32 r4), .v (.int .u32 r5), .v (.int .u32 r6), .v (.int .u32 r7), .v (.int .u32 ip), .v (.bool fc), .v (.bool fp), .v (.bool fz), .v (.bool fs), .v (.bool fo), .v (.bool fd), .v (.int .u64 x0), .v (.int .u64 x1), .v (.int .u64 x2), .v (.int .u64 x3), .v (.int .u64 x4), .v (.int .u64 x5), .v (.int .u64 x6), .v (.int .u64 x7)] => (match A1 with
    | [.v (.int .i64 op), .v (.int .i64 cond), .v (.int .i64 size), .v (.int .i64 ak), .v (.int .i64 ar), .v (.int .i64 ab), .v (.int .i64 ai), .v (.int .i64 aq), .v (.int .u32 ad), .v (.int .i64 bk), .v (.int .i64 br), .v (.int .i64 bb), .v (.int .i64 bi), .v (.int .i64 bq), .v (.int .u32 bd), .v (.int .u32 c), .v (.bool rep), .v (.int .i64 len)] => (match m[b]? with
    | some (.cells [.ptr g 0, .v (.int .u32 cb), .v (.int .u32 cs), .v (.bool cr), .v (.bool cw), .v (.bool cx), .v (.int .u32 db), .v (.int .u32 ds), .v (.bool dr), .v (.bool dw), .v (.bool dx)] T) => (match m[g]? with
      | some (.cells [.mp j] T2) => (match m[j]? with
        | some (.bm .u32 .u8 M) => fpRB R m k b g cb cs cr cw cx db ds dr dw dx T M j T2 r0 r1 r2 r3 r4 r5 r6 r7 ip fc fp fz fs fo fd x0 x1 x2 x3 x4 x5 x6 x7 op cond size ak ar ab ai aq ad bk br bb bi bq bd c rep len
        | _ => none)
      | _ => none)
    | _ => none)
    | _ => none)
    | _ => none)
  | _ => none
set_option maxHeartbeats 4000000 in
theorem fpRS_ok : SpecOk Try.prog XM 28 fpRS := by
  intro R args m k kp r h
  unfold fpRS at h
  split at h
  · split at h
    · split at h
      · split at h
        · split at h
          · split at h
            · rename_i _ b _ r0 r1 r2 r3 r4 r5 r6 r7 ip fc fp fz fs fo fd x0 x1 x2 x3 x4 x5 x6 x7 _ op cond size ak ar ab ai aq ad bk br bb bi bq bd c rep len _ g cb cs cr cw cx db ds dr dw dx T hb _ j T2 hg _ M hj
              unfold fpRB at h
              obtain ⟨hc, h⟩ := cond_some h
              rw [Bool.and_eq_true] at hc
              have hd : ¬ b = g ∧ ¬ b = j ∧ ¬ g = j := by simpa using hc.2
              exact .inl ⟨_, _, h, (callR_evT ΓFe_ok (by kernel_rfl) (fpR_ev cb cs cr cw cx db ds dr dw dx T T2 M r0 r1 r2 r3 r4 r5 r6 r7 ip fc fp fz fs fo fd x0 x1 x2 x3 x4 x5 x6 x7 op cond size ak ar ab ai aq ad bk br bb bi bq bd c rep len hc.1) rfl rfl rfl rfl).frameL [b, g, j] (by simp; exact ⟨⟨hd.1, hd.2.1⟩, hd.2.2⟩) ⟨hb, hg, hj, trivial⟩ rfl rfl rfl rfl rfl rfl rfl⟩
            · cases h
          · cases h
        · cases h
      · cases h
    · cases h
  · cases h
noncomputable def ΓFp : Env := ((ΓFe.add 26 fpPS).add 28 fpRS)
theorem ΓFp_ok : EnvOk Try.prog X0 ΓFp := ((ΓFe_ok.add (by kernel_rfl) fpPS_ok).add (by kernel_rfl) fpRS_ok)
end Go.Proofs.Ytpgdpoloipifeaa
