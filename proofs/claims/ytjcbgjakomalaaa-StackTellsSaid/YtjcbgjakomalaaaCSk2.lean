/- What stack.Do comes to. -/
import Derived.Test.YtjcbgjakomalaaaEvV
import Derived.Test.YtjcbgjakomalaaaCSk1
namespace Go.Proofs.Ytjcbgjakomalaaa
open Go Go.Ev
set_option linter.unusedVariables false
set_option linter.unusedSimpArgs false
set_option maxRecDepth 100000
noncomputable def skPT (cb cs : Int) (cr cw cx : Bool) (db ds : Int) (dr dw dx : Bool) (T : TypeId) (M : Int → Int) (r0 r1 r2 r3 r4 r5 r6 r7 ip : Int) (fc fp fz fs fo fd : Bool) (x0 x1 x2 x3 x4 x5 x6 x7 : Int) (op cond size : Int) (ak ar ab ai aq ad bk br bb bi bq bd c : Int) (rep : Bool) (len : Int) : Option (Sv × List SObj) := lockI r0 (guardE Try.prog ΓSk0 400 skA skC Try.f49.results.toList 8 13 2 skCatch ([.ptr 0 0, .agg [.v (.int .u32 r0), .v (.int .u32 r1), .v (.int .u32 r2), .v (.int .u32 r3), .v (.int .u32 r4), .v (.int .u32 r5), .v (.int .u32 r6), .v (.int .u32 r7), .v (.int .u32 ip), .v (.bool fc), .v (.bool fp), .v (.bool fz), .v (.bool fs), .v (.bool fo), .v (.bool fd), .v (.int .u64 x0), .v (.int .u64 x1), .v (.int .u64 x2), .v (.int .u64 x3), .v (.int .u64 x4), .v (.int .u64 x5), .v (.int .u64 x6), .v (.int .u64 x7)], .agg [.v (.int .i64 op), .v (.int .i64 cond), .v (.int .i64 size), .v (.int .i64 ak), .v (.int .i64 ar), .v (.int .i64 ab), .v (.int .i64 ai), .v (.int .i64 aq), .v (.int .u32 ad), .v (.int .i64 bk), .v (.int .i64 br), .v (.int .i64 bb), .v (.int .i64 bi), .v (.int .i64 bq), .v (.int .u32 bd), .v (.int .u32 c), .v (.bool rep), .v (.int .i64 len)]] ++ List.replicate (Try.f49.ntmps - 3) (.v undef)) [.cells [.ptr 1 0, .v (.int .u32 cb), .v (.int .u32 cs), .v (.bool cr), .v (.bool cw), .v (.bool cx), .v (.int .u32 db), .v (.int .u32 ds), .v (.bool dr), .v (.bool dw), .v (.bool dx)] T, .ext 0 M])
theorem skP_tree (cb cs : Int) (cr cw cx : Bool) (db ds : Int) (dr dw dx : Bool) (T : TypeId) (M : Int → Int) (r0 r1 r2 r3 r4 r5 r6 r7 ip : Int) (fc fp fz fs fo fd : Bool) (x0 x1 x2 x3 x4 x5 x6 x7 : Int) (op cond size : Int) (ak ar ab ai aq ad bk br bb bi bq bd c : Int) (rep : Bool) (len : Int) : skPT cb cs cr cw cx db ds dr dw dx T M r0 r1 r2 r3 r4 r5 r6 r7 ip fc fp fz fs fo fd x0 x1 x2 x3 x4 x5 x6 x7 op cond size ak ar ab ai aq ad bk br bb bi bq bd c rep len = (bif op == 23 then
bif
in32 r0 &&
(in32 r1 &&
(in32 r2 && (in32 r3 && (in32 r4 && (in32 r5 && (in32 r6 && (in32 r7 && (in32 ad && (in32 db && in32 ds))))))))) &&
true then
bif !erW ak (segE db ds (ofV ab ai aq ad [r0, r1, r2, r3, r4, r5, r6, r7]) 4 (mayV dr dw dx 0)) == 0 then
some
(Sv.tup
[Sv.agg
[vw r0, vw r1, vw r2,
vw r3, vw r4, vw r5,
vw r6, vw r7, vw ip, vb fc,
vb fp, vb fz, vb fs, vb fo, vb fd,
vd x0, vd x1, vd x2,
vd x3, vd x4, vd x5,
vd x6, vd x7],
vi 2],
[SObj.cells
[Sv.ptr 1 0, vw cb, vw cs, vb cr,
vb cw, vb cx, vw db, vw ds,
vb dr, vb dw, vb dx]
T,
SObj.ext 0 M])
else
bif
in32 r0 &&
(in32 r1 &&
(in32 r2 &&
(in32 r3 &&
(in32 r4 &&
(in32 r5 &&
(in32 r6 &&
(in32 r7 &&
(in32 db &&
(in32 ds &&
in32
(IntKind.wrap IntKind.u32
(ldW ak (ldV M db ds (ofV ab ai aq ad [r0, r1, r2, r3, r4, r5, r6, r7]) 4 (mayV dr dw dx 0))
(getV ak ar ad r0 r1 r2 r3 r4 r5 r6 r7 x0 x1 x2 x3 x4 x5 x6 x7)))))))))))) &&
true then
bif !endV (skOk db ds (IntKind.wrap IntKind.u32 (r4 - 4)) (mayV dr dw dx 1)) == 0 then
some
(Sv.tup
[Sv.agg
[vw r0, vw r1, vw r2,
vw r3, vw r4, vw r5,
vw r6, vw r7, vw ip, vb fc,
vb fp, vb fz, vb fs, vb fo, vb fd,
vd x0, vd x1, vd x2,
vd x3, vd x4, vd x5,
vd x6, vd x7],
vi 2],
[SObj.cells
[Sv.ptr 1 0, vw cb, vw cs, vb cr,
vb cw, vb cx, vw db, vw ds,
vb dr, vb dw, vb dx]
T,
SObj.ext 0
(stV M db ds (IntKind.wrap IntKind.u32 (r4 - 4)) 4
(IntKind.wrap IntKind.u64
(IntKind.wrap IntKind.u32
(ldW ak (ldV M db ds (ofV ab ai aq ad [r0, r1, r2, r3, r4, r5, r6, r7]) 4 (mayV dr dw dx 0))
(getV ak ar ad r0 r1 r2 r3 r4 r5 r6 r7 x0 x1 x2 x3 x4 x5 x6 x7))))
(mayV dr dw dx 1))])
else
some
(Sv.tup
[Sv.agg
[vw r0, vw r1, vw r2,
vw r3,
vw ((puV r4 (skOk db ds (IntKind.wrap IntKind.u32 (r4 - 4)) (mayV dr dw dx 1)))),
vw r5, vw r6, vw r7,
vw ip, vb fc, vb fp, vb fz, vb fs,
vb fo, vb fd, vd x0, vd x1,
vd x2, vd x3, vd x4,
vd x5, vd x6, vd x7],
vi 0],
[SObj.cells
[Sv.ptr 1 0, vw cb, vw cs, vb cr,
vb cw, vb cx, vw db, vw ds,
vb dr, vb dw, vb dx]
T,
SObj.ext 0
(stV M db ds (IntKind.wrap IntKind.u32 (r4 - 4)) 4
(IntKind.wrap IntKind.u64
(IntKind.wrap IntKind.u32
(ldW ak (ldV M db ds (ofV ab ai aq ad [r0, r1, r2, r3, r4, r5, r6, r7]) 4 (mayV dr dw dx 0))
(getV ak ar ad r0 r1 r2 r3 r4 r5 r6 r7 x0 x1 x2 x3 x4 x5 x6 x7))))
(mayV dr dw dx 1))])
else none
else none
else
bif op == 49 then
bif
in32 r0 &&
(in32 r1 && (in32 r2 && (in32 r3 && (in32 r5 && (in32 r5 && (in32 r6 && (in32 r7 && (in32 db && in32 ds)))))))) &&
true then
bif !endV (skOk db ds r5 (mayV dr dw dx 0)) == 0 then
some
(Sv.tup
[Sv.agg
[vw r0, vw r1, vw r2,
vw r3, vw r4, vw r5,
vw r6, vw r7, vw ip, vb fc,
vb fp, vb fz, vb fs, vb fo, vb fd,
vd x0, vd x1, vd x2,
vd x3, vd x4, vd x5,
vd x6, vd x7],
vi 2],
[SObj.cells
[Sv.ptr 1 0, vw cb, vw cs, vb cr,
vb cw, vb cx, vw db, vw ds,
vb dr, vb dw, vb dx]
T,
SObj.ext 0 M])
else
bif op == 49 then
some
(Sv.tup
[Sv.agg
[vw r0, vw r1, vw r2,
vw r3, vw ((poV r5 (skOk db ds r5 (mayV dr dw dx 0)))),
Sv.v
(Value.int IntKind.u32
(orV (IntKind.wrap IntKind.u32 (ldV M db ds r5 4 (mayV dr dw dx 0))) (skOk db ds r5 (mayV dr dw dx 0)))),
vw r6, vw r7, vw ip, vb fc,
vb fp, vb fz, vb fs, vb fo, vb fd,
vd x0, vd x1, vd x2,
vd x3, vd x4, vd x5,
vd x6, vd x7],
vi 0],
[SObj.cells
[Sv.ptr 1 0, vw cb, vw cs, vb cr,
vb cw, vb cx, vw db, vw ds,
vb dr, vb dw, vb dx]
T,
SObj.ext 0 M])
else
bif
in32 r0 &&
(in32 r1 &&
(in32 r2 &&
(in32 r3 &&
(in32 (poV r5 (skOk db ds r5 (mayV dr dw dx 0))) &&
(in32 r5 &&
(in32 r6 &&
(in32 r7 &&
(in32 ad &&
(in32 db &&
(in32 ds &&
in64
(IntKind.wrap IntKind.u64
(orV (IntKind.wrap IntKind.u32 (ldV M db ds r5 4 (mayV dr dw dx 0))) (skOk db ds r5 (mayV dr dw dx 0)))))))))))))) &&
true then
bif
!erW ak
(segE db ds (ofV ab ai aq ad [r0, r1, r2, r3, poV r5 (skOk db ds r5 (mayV dr dw dx 0)), r5, r6, r7]) 4
(mayV dr dw dx 1)) ==
0 then
some
(Sv.tup
[Sv.agg
[vw r0, vw r1, vw r2,
vw r3, vw r4, vw r5,
vw r6, vw r7, vw ip, vb fc,
vb fp, vb fz, vb fs, vb fo, vb fd,
vd x0, vd x1, vd x2,
vd x3, vd x4, vd x5,
vd x6, vd x7],
vi 2],
[SObj.cells
[Sv.ptr 1 0, vw cb, vw cs, vb cr,
vb cw, vb cx, vw db, vw ds,
vb dr, vb dw, vb dx]
T,
SObj.ext 0
(memW ak
(stV M db ds (ofV ab ai aq ad [r0, r1, r2, r3, poV r5 (skOk db ds r5 (mayV dr dw dx 0)), r5, r6, r7]) 4
(IntKind.wrap IntKind.u64
(orV (IntKind.wrap IntKind.u32 (ldV M db ds r5 4 (mayV dr dw dx 0))) (skOk db ds r5 (mayV dr dw dx 0))))
(mayV dr dw dx 1))
M)])
else
some
(Sv.tup
[Sv.agg
[Sv.v
(Value.int IntKind.u32
(ldW ak r0
(setA ak ar 0 r0
(IntKind.wrap IntKind.u64
(orV (IntKind.wrap IntKind.u32 (ldV M db ds r5 4 (mayV dr dw dx 0))) (skOk db ds r5 (mayV dr dw dx 0))))))),
Sv.v
(Value.int IntKind.u32
(ldW ak r1
(setA ak ar 1 r1
(IntKind.wrap IntKind.u64
(orV (IntKind.wrap IntKind.u32 (ldV M db ds r5 4 (mayV dr dw dx 0))) (skOk db ds r5 (mayV dr dw dx 0))))))),
Sv.v
(Value.int IntKind.u32
(ldW ak r2
(setA ak ar 2 r2
(IntKind.wrap IntKind.u64
(orV (IntKind.wrap IntKind.u32 (ldV M db ds r5 4 (mayV dr dw dx 0))) (skOk db ds r5 (mayV dr dw dx 0))))))),
Sv.v
(Value.int IntKind.u32
(ldW ak r3
(setA ak ar 3 r3
(IntKind.wrap IntKind.u64
(orV (IntKind.wrap IntKind.u32 (ldV M db ds r5 4 (mayV dr dw dx 0))) (skOk db ds r5 (mayV dr dw dx 0))))))),
Sv.v
(Value.int IntKind.u32
(ldW ak (poV r5 (skOk db ds r5 (mayV dr dw dx 0)))
(setB ak ar 4 (poV r5 (skOk db ds r5 (mayV dr dw dx 0)))
(IntKind.wrap IntKind.u64
(orV (IntKind.wrap IntKind.u32 (ldV M db ds r5 4 (mayV dr dw dx 0))) (skOk db ds r5 (mayV dr dw dx 0))))))),
Sv.v
(Value.int IntKind.u32
(ldW ak r5
(setB ak ar 5 r5
(IntKind.wrap IntKind.u64
(orV (IntKind.wrap IntKind.u32 (ldV M db ds r5 4 (mayV dr dw dx 0))) (skOk db ds r5 (mayV dr dw dx 0))))))),
Sv.v
(Value.int IntKind.u32
(ldW ak r6
(setB ak ar 6 r6
(IntKind.wrap IntKind.u64
(orV (IntKind.wrap IntKind.u32 (ldV M db ds r5 4 (mayV dr dw dx 0))) (skOk db ds r5 (mayV dr dw dx 0))))))),
Sv.v
(Value.int IntKind.u32
(ldW ak r7
(setB ak ar 7 r7
(IntKind.wrap IntKind.u64
(orV (IntKind.wrap IntKind.u32 (ldV M db ds r5 4 (mayV dr dw dx 0))) (skOk db ds r5 (mayV dr dw dx 0))))))),
vw ip, vb fc, vb fp, vb fz, vb fs,
vb fo, vb fd,
Sv.v
(Value.int IntKind.u64
(ldW ak x0
(setX ak ar 0 x0
(IntKind.wrap IntKind.u64
(orV (IntKind.wrap IntKind.u32 (ldV M db ds r5 4 (mayV dr dw dx 0))) (skOk db ds r5 (mayV dr dw dx 0))))))),
Sv.v
(Value.int IntKind.u64
(ldW ak x1
(setX ak ar 1 x1
(IntKind.wrap IntKind.u64
(orV (IntKind.wrap IntKind.u32 (ldV M db ds r5 4 (mayV dr dw dx 0))) (skOk db ds r5 (mayV dr dw dx 0))))))),
Sv.v
(Value.int IntKind.u64
(ldW ak x2
(setX ak ar 2 x2
(IntKind.wrap IntKind.u64
(orV (IntKind.wrap IntKind.u32 (ldV M db ds r5 4 (mayV dr dw dx 0))) (skOk db ds r5 (mayV dr dw dx 0))))))),
Sv.v
(Value.int IntKind.u64
(ldW ak x3
(setX ak ar 3 x3
(IntKind.wrap IntKind.u64
(orV (IntKind.wrap IntKind.u32 (ldV M db ds r5 4 (mayV dr dw dx 0))) (skOk db ds r5 (mayV dr dw dx 0))))))),
Sv.v
(Value.int IntKind.u64
(ldW ak x4
(setX ak ar 4 x4
(IntKind.wrap IntKind.u64
(orV (IntKind.wrap IntKind.u32 (ldV M db ds r5 4 (mayV dr dw dx 0))) (skOk db ds r5 (mayV dr dw dx 0))))))),
Sv.v
(Value.int IntKind.u64
(ldW ak x5
(setX ak ar 5 x5
(IntKind.wrap IntKind.u64
(orV (IntKind.wrap IntKind.u32 (ldV M db ds r5 4 (mayV dr dw dx 0))) (skOk db ds r5 (mayV dr dw dx 0))))))),
Sv.v
(Value.int IntKind.u64
(ldW ak x6
(setX ak ar 6 x6
(IntKind.wrap IntKind.u64
(orV (IntKind.wrap IntKind.u32 (ldV M db ds r5 4 (mayV dr dw dx 0))) (skOk db ds r5 (mayV dr dw dx 0))))))),
Sv.v
(Value.int IntKind.u64
(ldW ak x7
(setX ak ar 7 x7
(IntKind.wrap IntKind.u64
(orV (IntKind.wrap IntKind.u32 (ldV M db ds r5 4 (mayV dr dw dx 0))) (skOk db ds r5 (mayV dr dw dx 0)))))))],
vi 0],
[SObj.cells
[Sv.ptr 1 0, vw cb, vw cs, vb cr,
vb cw, vb cx, vw db, vw ds,
vb dr, vb dw, vb dx]
T,
SObj.ext 0
(memW ak
(stV M db ds (ofV ab ai aq ad [r0, r1, r2, r3, poV r5 (skOk db ds r5 (mayV dr dw dx 0)), r5, r6, r7]) 4
(IntKind.wrap IntKind.u64
(orV (IntKind.wrap IntKind.u32 (ldV M db ds r5 4 (mayV dr dw dx 0))) (skOk db ds r5 (mayV dr dw dx 0))))
(mayV dr dw dx 1))
M)])
else none
else none
else
bif
in32 r0 &&
(in32 r1 && (in32 r2 && (in32 r3 && (in32 r4 && (in32 r5 && (in32 r6 && (in32 r7 && (in32 db && in32 ds)))))))) &&
true then
bif !endV (skOk db ds r4 (mayV dr dw dx 0)) == 0 then
some
(Sv.tup
[Sv.agg
[vw r0, vw r1, vw r2,
vw r3, vw r4, vw r5,
vw r6, vw r7, vw ip, vb fc,
vb fp, vb fz, vb fs, vb fo, vb fd,
vd x0, vd x1, vd x2,
vd x3, vd x4, vd x5,
vd x6, vd x7],
vi 2],
[SObj.cells
[Sv.ptr 1 0, vw cb, vw cs, vb cr,
vb cw, vb cx, vw db, vw ds,
vb dr, vb dw, vb dx]
T,
SObj.ext 0 M])
else
bif op == 49 then
some
(Sv.tup
[Sv.agg
[vw r0, vw r1, vw r2,
vw r3, vw ((poV r4 (skOk db ds r4 (mayV dr dw dx 0)))),
Sv.v
(Value.int IntKind.u32
(orV (IntKind.wrap IntKind.u32 (ldV M db ds r4 4 (mayV dr dw dx 0))) (skOk db ds r4 (mayV dr dw dx 0)))),
vw r6, vw r7, vw ip, vb fc,
vb fp, vb fz, vb fs, vb fo, vb fd,
vd x0, vd x1, vd x2,
vd x3, vd x4, vd x5,
vd x6, vd x7],
vi 0],
[SObj.cells
[Sv.ptr 1 0, vw cb, vw cs, vb cr,
vb cw, vb cx, vw db, vw ds,
vb dr, vb dw, vb dx]
T,
SObj.ext 0 M])
else
bif
in32 r0 &&
(in32 r1 &&
(in32 r2 &&
(in32 r3 &&
(in32 (poV r4 (skOk db ds r4 (mayV dr dw dx 0))) &&
(in32 r5 &&
(in32 r6 &&
(in32 r7 &&
(in32 ad &&
(in32 db &&
(in32 ds &&
in64
(IntKind.wrap IntKind.u64
(orV (IntKind.wrap IntKind.u32 (ldV M db ds r4 4 (mayV dr dw dx 0))) (skOk db ds r4 (mayV dr dw dx 0)))))))))))))) &&
true then
bif
!erW ak
(segE db ds (ofV ab ai aq ad [r0, r1, r2, r3, poV r4 (skOk db ds r4 (mayV dr dw dx 0)), r5, r6, r7]) 4
(mayV dr dw dx 1)) ==
0 then
some
(Sv.tup
[Sv.agg
[vw r0, vw r1, vw r2,
vw r3, vw r4, vw r5,
vw r6, vw r7, vw ip, vb fc,
vb fp, vb fz, vb fs, vb fo, vb fd,
vd x0, vd x1, vd x2,
vd x3, vd x4, vd x5,
vd x6, vd x7],
vi 2],
[SObj.cells
[Sv.ptr 1 0, vw cb, vw cs, vb cr,
vb cw, vb cx, vw db, vw ds,
vb dr, vb dw, vb dx]
T,
SObj.ext 0
(memW ak
(stV M db ds (ofV ab ai aq ad [r0, r1, r2, r3, poV r4 (skOk db ds r4 (mayV dr dw dx 0)), r5, r6, r7]) 4
(IntKind.wrap IntKind.u64
(orV (IntKind.wrap IntKind.u32 (ldV M db ds r4 4 (mayV dr dw dx 0))) (skOk db ds r4 (mayV dr dw dx 0))))
(mayV dr dw dx 1))
M)])
else
some
(Sv.tup
[Sv.agg
[Sv.v
(Value.int IntKind.u32
(ldW ak r0
(setA ak ar 0 r0
(IntKind.wrap IntKind.u64
(orV (IntKind.wrap IntKind.u32 (ldV M db ds r4 4 (mayV dr dw dx 0))) (skOk db ds r4 (mayV dr dw dx 0))))))),
Sv.v
(Value.int IntKind.u32
(ldW ak r1
(setA ak ar 1 r1
(IntKind.wrap IntKind.u64
(orV (IntKind.wrap IntKind.u32 (ldV M db ds r4 4 (mayV dr dw dx 0))) (skOk db ds r4 (mayV dr dw dx 0))))))),
Sv.v
(Value.int IntKind.u32
(ldW ak r2
(setA ak ar 2 r2
(IntKind.wrap IntKind.u64
(orV (IntKind.wrap IntKind.u32 (ldV M db ds r4 4 (mayV dr dw dx 0))) (skOk db ds r4 (mayV dr dw dx 0))))))),
Sv.v
(Value.int IntKind.u32
(ldW ak r3
(setA ak ar 3 r3
(IntKind.wrap IntKind.u64
(orV (IntKind.wrap IntKind.u32 (ldV M db ds r4 4 (mayV dr dw dx 0))) (skOk db ds r4 (mayV dr dw dx 0))))))),
Sv.v
(Value.int IntKind.u32
(ldW ak (poV r4 (skOk db ds r4 (mayV dr dw dx 0)))
(setB ak ar 4 (poV r4 (skOk db ds r4 (mayV dr dw dx 0)))
(IntKind.wrap IntKind.u64
(orV (IntKind.wrap IntKind.u32 (ldV M db ds r4 4 (mayV dr dw dx 0))) (skOk db ds r4 (mayV dr dw dx 0))))))),
Sv.v
(Value.int IntKind.u32
(ldW ak r5
(setB ak ar 5 r5
(IntKind.wrap IntKind.u64
(orV (IntKind.wrap IntKind.u32 (ldV M db ds r4 4 (mayV dr dw dx 0))) (skOk db ds r4 (mayV dr dw dx 0))))))),
Sv.v
(Value.int IntKind.u32
(ldW ak r6
(setB ak ar 6 r6
(IntKind.wrap IntKind.u64
(orV (IntKind.wrap IntKind.u32 (ldV M db ds r4 4 (mayV dr dw dx 0))) (skOk db ds r4 (mayV dr dw dx 0))))))),
Sv.v
(Value.int IntKind.u32
(ldW ak r7
(setB ak ar 7 r7
(IntKind.wrap IntKind.u64
(orV (IntKind.wrap IntKind.u32 (ldV M db ds r4 4 (mayV dr dw dx 0))) (skOk db ds r4 (mayV dr dw dx 0))))))),
vw ip, vb fc, vb fp, vb fz, vb fs,
vb fo, vb fd,
Sv.v
(Value.int IntKind.u64
(ldW ak x0
(setX ak ar 0 x0
(IntKind.wrap IntKind.u64
(orV (IntKind.wrap IntKind.u32 (ldV M db ds r4 4 (mayV dr dw dx 0))) (skOk db ds r4 (mayV dr dw dx 0))))))),
Sv.v
(Value.int IntKind.u64
(ldW ak x1
(setX ak ar 1 x1
(IntKind.wrap IntKind.u64
(orV (IntKind.wrap IntKind.u32 (ldV M db ds r4 4 (mayV dr dw dx 0))) (skOk db ds r4 (mayV dr dw dx 0))))))),
Sv.v
(Value.int IntKind.u64
(ldW ak x2
(setX ak ar 2 x2
(IntKind.wrap IntKind.u64
(orV (IntKind.wrap IntKind.u32 (ldV M db ds r4 4 (mayV dr dw dx 0))) (skOk db ds r4 (mayV dr dw dx 0))))))),
Sv.v
(Value.int IntKind.u64
(ldW ak x3
(setX ak ar 3 x3
(IntKind.wrap IntKind.u64
(orV (IntKind.wrap IntKind.u32 (ldV M db ds r4 4 (mayV dr dw dx 0))) (skOk db ds r4 (mayV dr dw dx 0))))))),
Sv.v
(Value.int IntKind.u64
(ldW ak x4
(setX ak ar 4 x4
(IntKind.wrap IntKind.u64
(orV (IntKind.wrap IntKind.u32 (ldV M db ds r4 4 (mayV dr dw dx 0))) (skOk db ds r4 (mayV dr dw dx 0))))))),
Sv.v
(Value.int IntKind.u64
(ldW ak x5
(setX ak ar 5 x5
(IntKind.wrap IntKind.u64
(orV (IntKind.wrap IntKind.u32 (ldV M db ds r4 4 (mayV dr dw dx 0))) (skOk db ds r4 (mayV dr dw dx 0))))))),
Sv.v
(Value.int IntKind.u64
(ldW ak x6
(setX ak ar 6 x6
(IntKind.wrap IntKind.u64
(orV (IntKind.wrap IntKind.u32 (ldV M db ds r4 4 (mayV dr dw dx 0))) (skOk db ds r4 (mayV dr dw dx 0))))))),
Sv.v
(Value.int IntKind.u64
(ldW ak x7
(setX ak ar 7 x7
(IntKind.wrap IntKind.u64
(orV (IntKind.wrap IntKind.u32 (ldV M db ds r4 4 (mayV dr dw dx 0))) (skOk db ds r4 (mayV dr dw dx 0)))))))],
vi 0],
[SObj.cells
[Sv.ptr 1 0, vw cb, vw cs, vb cr,
vb cw, vb cx, vw db, vw ds,
vb dr, vb dw, vb dx]
T,
SObj.ext 0
(memW ak
(stV M db ds (ofV ab ai aq ad [r0, r1, r2, r3, poV r4 (skOk db ds r4 (mayV dr dw dx 0)), r5, r6, r7]) 4
(IntKind.wrap IntKind.u64
(orV (IntKind.wrap IntKind.u32 (ldV M db ds r4 4 (mayV dr dw dx 0))) (skOk db ds r4 (mayV dr dw dx 0))))
(mayV dr dw dx 1))
M)])
else none
else none) := (lockI_eq _ _).trans (by kernel_rfl)
noncomputable def skPF (cb cs : Int) (cr cw cx : Bool) (db ds : Int) (dr dw dx : Bool) (T : TypeId) (M : Int → Int) (r0 r1 r2 r3 r4 r5 r6 r7 ip : Int) (fc fp fz fs fo fd : Bool) (x0 x1 x2 x3 x4 x5 x6 x7 : Int) (op cond size : Int) (ak ar ab ai aq ad bk br bb bi bq bd c : Int) (rep : Bool) (len : Int) (X : Option (Sv × List SObj)) : Option (Sv × List SObj) := some (.tup [.agg [.v (.int .u32 (ansI (X) 0)), .v (.int .u32 (ansI (X) 1)), .v (.int .u32 (ansI (X) 2)), .v (.int .u32 (ansI (X) 3)), .v (.int .u32 (ansI (X) 4)), .v (.int .u32 (ansI (X) 5)), .v (.int .u32 (ansI (X) 6)), .v (.int .u32 (ansI (X) 7)), .v (.int .u32 (ansI (X) 8)), .v (.bool (ansB (X) 9)), .v (.bool (ansB (X) 10)), .v (.bool (ansB (X) 11)), .v (.bool (ansB (X) 12)), .v (.bool (ansB (X) 13)), .v (.bool (ansB (X) 14)), .v (.int .u64 (ansI (X) 15)), .v (.int .u64 (ansI (X) 16)), .v (.int .u64 (ansI (X) 17)), .v (.int .u64 (ansI (X) 18)), .v (.int .u64 (ansI (X) 19)), .v (.int .u64 (ansI (X) 20)), .v (.int .u64 (ansI (X) 21)), .v (.int .u64 (ansI (X) 22))], .v (.int .i64 (ansI (X) 23))], [.cells [.ptr 1 0, .v (.int .u32 cb), .v (.int .u32 cs), .v (.bool cr), .v (.bool cw), .v (.bool cx), .v (.int .u32 db), .v (.int .u32 ds), .v (.bool dr), .v (.bool dw), .v (.bool dx)] T, .ext 0 (ansM (X) 1)])
set_option maxHeartbeats 4000000 in
theorem skP_is (cb cs : Int) (cr cw cx : Bool) (db ds : Int) (dr dw dx : Bool) (T : TypeId) (M : Int → Int) (r0 r1 r2 r3 r4 r5 r6 r7 ip : Int) (fc fp fz fs fo fd : Bool) (x0 x1 x2 x3 x4 x5 x6 x7 : Int) (op cond size : Int) (ak ar ab ai aq ad bk br bb bi bq bd c : Int) (rep : Bool) (len : Int) (hg : (in32 r0 && (in32 r1 && (in32 r2 && (in32 r3 && (in32 r4 && (in32 r5 && (in32 r6 && (in32 r7 && (in32 db && (in32 ds && (in32 ad))))))))))) = true) : skPT cb cs cr cw cx db ds dr dw dx T M r0 r1 r2 r3 r4 r5 r6 r7 ip fc fp fz fs fo fd x0 x1 x2 x3 x4 x5 x6 x7 op cond size ak ar ab ai aq ad bk br bb bi bq bd c rep len = skPF cb cs cr cw cx db ds dr dw dx T M r0 r1 r2 r3 r4 r5 r6 r7 ip fc fp fz fs fo fd x0 x1 x2 x3 x4 x5 x6 x7 op cond size ak ar ab ai aq ad bk br bb bi bq bd c rep len (skPT cb cs cr cw cx db ds dr dw dx T M r0 r1 r2 r3 r4 r5 r6 r7 ip fc fp fz fs fo fd x0 x1 x2 x3 x4 x5 x6 x7 op cond size ak ar ab ai aq ad bk br bb bi bq bd c rep len) := by
  have h : skPT cb cs cr cw cx db ds dr dw dx T M r0 r1 r2 r3 r4 r5 r6 r7 ip fc fp fz fs fo fd x0 x1 x2 x3 x4 x5 x6 x7 op cond size ak ar ab ai aq ad bk br bb bi bq bd c rep len = _ := skP_tree cb cs cr cw cx db ds dr dw dx T M r0 r1 r2 r3 r4 r5 r6 r7 ip fc fp fz fs fo fd x0 x1 x2 x3 x4 x5 x6 x7 op cond size ak ar ab ai aq ad bk br bb bi bq bd c rep len
  simp only [Bool.and_eq_true] at hg
  simp only [ofV_in, in32_wr, in64_wr, poV_in, hg, Bool.and_self, Bool.and_true, Bool.true_and, cond_true] at h
  rw [h]
  repeat' (first | exact rfl | refine ans_cond (F := skPF cb cs cr cw cx db ds dr dw dx T M r0 r1 r2 r3 r4 r5 r6 r7 ip fc fp fz fs fo fd x0 x1 x2 x3 x4 x5 x6 x7 op cond size ak ar ab ai aq ad bk br bb bi bq bd c rep len) ?_ ?_)
theorem skP_ev (cb cs : Int) (cr cw cx : Bool) (db ds : Int) (dr dw dx : Bool) (T : TypeId) (M : Int → Int) (r0 r1 r2 r3 r4 r5 r6 r7 ip : Int) (fc fp fz fs fo fd : Bool) (x0 x1 x2 x3 x4 x5 x6 x7 : Int) (op cond size : Int) (ak ar ab ai aq ad bk br bb bi bq bd c : Int) (rep : Bool) (len : Int) (hg : (in32 r0 && (in32 r1 && (in32 r2 && (in32 r3 && (in32 r4 && (in32 r5 && (in32 r6 && (in32 r7 && (in32 db && (in32 ds && (in32 ad))))))))))) = true) : guardE Try.prog ΓSk0 400 skA skC Try.f49.results.toList 8 13 2 skCatch ([.ptr 0 0, .agg [.v (.int .u32 r0), .v (.int .u32 r1), .v (.int .u32 r2), .v (.int .u32 r3), .v (.int .u32 r4), .v (.int .u32 r5), .v (.int .u32 r6), .v (.int .u32 r7), .v (.int .u32 ip), .v (.bool fc), .v (.bool fp), .v (.bool fz), .v (.bool fs), .v (.bool fo), .v (.bool fd), .v (.int .u64 x0), .v (.int .u64 x1), .v (.int .u64 x2), .v (.int .u64 x3), .v (.int .u64 x4), .v (.int .u64 x5), .v (.int .u64 x6), .v (.int .u64 x7)], .agg [.v (.int .i64 op), .v (.int .i64 cond), .v (.int .i64 size), .v (.int .i64 ak), .v (.int .i64 ar), .v (.int .i64 ab), .v (.int .i64 ai), .v (.int .i64 aq), .v (.int .u32 ad), .v (.int .i64 bk), .v (.int .i64 br), .v (.int .i64 bb), .v (.int .i64 bi), .v (.int .i64 bq), .v (.int .u32 bd), .v (.int .u32 c), .v (.bool rep), .v (.int .i64 len)]] ++ List.replicate (Try.f49.ntmps - 3) (.v undef)) [.cells [.ptr 1 0, .v (.int .u32 cb), .v (.int .u32 cs), .v (.bool cr), .v (.bool cw), .v (.bool cx), .v (.int .u32 db), .v (.int .u32 ds), .v (.bool dr), .v (.bool dw), .v (.bool dx)] T, .ext 0 M] = some (.tup [.agg [.v (.int .u32 (ansI (skPT cb cs cr cw cx db ds dr dw dx T M r0 r1 r2 r3 r4 r5 r6 r7 ip fc fp fz fs fo fd x0 x1 x2 x3 x4 x5 x6 x7 op cond size ak ar ab ai aq ad bk br bb bi bq bd c rep len) 0)), .v (.int .u32 (ansI (skPT cb cs cr cw cx db ds dr dw dx T M r0 r1 r2 r3 r4 r5 r6 r7 ip fc fp fz fs fo fd x0 x1 x2 x3 x4 x5 x6 x7 op cond size ak ar ab ai aq ad bk br bb bi bq bd c rep len) 1)), .v (.int .u32 (ansI (skPT cb cs cr cw cx db ds dr dw dx T M r0 r1 r2 r3 r4 r5 r6 r7 ip fc fp fz fs fo fd x0 x1 x2 x3 x4 x5 x6 x7 op cond size ak ar ab ai aq ad bk br bb bi bq bd c rep len) 2)), .v (.int .u32 (ansI (skPT cb cs cr cw cx db ds dr dw dx T M r0 r1 r2 r3 r4 r5 r6 r7 ip fc fp fz fs fo fd x0 x1 x2 x3 x4 x5 x6 x7 op cond size ak ar ab ai aq ad bk br bb bi bq bd c rep len) 3)), .v (.int .u32 (ansI (skPT cb cs cr cw cx db ds dr dw dx T M r0 r1 r2 r3 r4 r5 r6 r7 ip fc fp fz fs fo fd x0 x1 x2 x3 x4 x5 x6 x7 op cond size ak ar ab ai aq ad bk br bb bi bq bd c rep len) 4)), .v (.int .u32 (ansI (skPT cb cs cr cw cx db ds dr dw dx T M r0 r1 r2 r3 r4 r5 r6 r7 ip fc fp fz fs fo fd x0 x1 x2 x3 x4 x5 x6 x7 op cond size ak ar ab ai aq ad bk br bb bi bq bd c rep len) 5)), .v (.int .u32 (ansI (skPT cb cs cr cw cx db ds dr dw dx T M r0 r1 r2 r3 r4 r5 r6 r7 ip fc fp fz fs fo fd x0 x1 x2 x3 x4 x5 x6 x7 op cond size ak ar ab ai aq ad bk br bb bi bq bd c rep len) 6)), .v (.int .u32 (ansI (skPT cb cs cr cw cx db ds dr dw dx T M r0 r1 r2 r3 r4 r5 r6 r7 ip fc fp fz fs fo fd x0 x1 x2 x3 x4 x5 x6 x7 op cond size ak ar ab ai aq ad bk br bb bi bq bd c rep len) 7)), .v (.int .u32 (ansI (skPT cb cs cr cw cx db ds dr dw dx T M r0 r1 r2 r3 r4 r5 r6 r7 ip fc fp fz fs fo fd x0 x1 x2 x3 x4 x5 x6 x7 op cond size ak ar ab ai aq ad bk br bb bi bq bd c rep len) 8)), .v (.bool (ansB (skPT cb cs cr cw cx db ds dr dw dx T M r0 r1 r2 r3 r4 r5 r6 r7 ip fc fp fz fs fo fd x0 x1 x2 x3 x4 x5 x6 x7 op cond size ak ar ab ai aq ad bk br bb bi bq bd c rep len) 9)), .v (.bool (ansB (skPT cb cs cr cw cx db ds dr dw dx T M r0 r1 r2 r3 r4 r5 r6 r7 ip fc fp fz fs fo fd x0 x1 x2 x3 x4 x5 x6 x7 op cond size ak ar ab ai aq ad bk br bb bi bq bd c rep len) 10)), .v (.bool (ansB (skPT cb cs cr cw cx db ds dr dw dx T M r0 r1 r2 r3 r4 r5 r6 r7 ip fc fp fz fs fo fd x0 x1 x2 x3 x4 x5 x6 x7 op cond size ak ar ab ai aq ad bk br bb bi bq bd c rep len) 11)), .v (.bool (ansB (skPT cb cs cr cw cx db ds dr dw dx T M r0 r1 r2 r3 r4 r5 r6 r7 ip fc fp fz fs fo fd x0 x1 x2 x3 x4 x5 x6 x7 op cond size ak ar ab ai aq ad bk br bb bi bq bd c rep len) 12)), .v (.bool (ansB (skPT cb cs cr cw cx db ds dr dw dx T M r0 r1 r2 r3 r4 r5 r6 r7 ip fc fp fz fs fo fd x0 x1 x2 x3 x4 x5 x6 x7 op cond size ak ar ab ai aq ad bk br bb bi bq bd c rep len) 13)), .v (.bool (ansB (skPT cb cs cr cw cx db ds dr dw dx T M r0 r1 r2 r3 r4 r5 r6 r7 ip fc fp fz fs fo fd x0 x1 x2 x3 x4 x5 x6 x7 op cond size ak ar ab ai aq ad bk br bb bi bq bd c rep len) 14)), .v (.int .u64 (ansI (skPT cb cs cr cw cx db ds dr dw dx T M r0 r1 r2 r3 r4 r5 r6 r7 ip fc fp fz fs fo fd x0 x1 x2 x3 x4 x5 x6 x7 op cond size ak ar ab ai aq ad bk br bb bi bq bd c rep len) 15)), .v (.int .u64 (ansI (skPT cb cs cr cw cx db ds dr dw dx T M r0 r1 r2 r3 r4 r5 r6 r7 ip fc fp fz fs fo fd x0 x1 x2 x3 x4 x5 x6 x7 op cond size ak ar ab ai aq ad bk br bb bi bq bd c rep len) 16)), .v (.int .u64 (ansI (skPT cb cs cr cw cx db ds dr dw dx T M r0 r1 r2 r3 r4 r5 r6 r7 ip fc fp fz fs fo fd x0 x1 x2 x3 x4 x5 x6 x7 op cond size ak ar ab ai aq ad bk br bb bi bq bd c rep len) 17)), .v (.int .u64 (ansI (skPT cb cs cr cw cx db ds dr dw dx T M r0 r1 r2 r3 r4 r5 r6 r7 ip fc fp fz fs fo fd x0 x1 x2 x3 x4 x5 x6 x7 op cond size ak ar ab ai aq ad bk br bb bi bq bd c rep len) 18)), .v (.int .u64 (ansI (skPT cb cs cr cw cx db ds dr dw dx T M r0 r1 r2 r3 r4 r5 r6 r7 ip fc fp fz fs fo fd x0 x1 x2 x3 x4 x5 x6 x7 op cond size ak ar ab ai aq ad bk br bb bi bq bd c rep len) 19)), .v (.int .u64 (ansI (skPT cb cs cr cw cx db ds dr dw dx T M r0 r1 r2 r3 r4 r5 r6 r7 ip fc fp fz fs fo fd x0 x1 x2 x3 x4 x5 x6 x7 op cond size ak ar ab ai aq ad bk br bb bi bq bd c rep len) 20)), .v (.int .u64 (ansI (skPT cb cs cr cw cx db ds dr dw dx T M r0 r1 r2 r3 r4 r5 r6 r7 ip fc fp fz fs fo fd x0 x1 x2 x3 x4 x5 x6 x7 op cond size ak ar ab ai aq ad bk br bb bi bq bd c rep len) 21)), .v (.int .u64 (ansI (skPT cb cs cr cw cx db ds dr dw dx T M r0 r1 r2 r3 r4 r5 r6 r7 ip fc fp fz fs fo fd x0 x1 x2 x3 x4 x5 x6 x7 op cond size ak ar ab ai aq ad bk br bb bi bq bd c rep len) 22))], .v (.int .i64 (ansI (skPT cb cs cr cw cx db ds dr dw dx T M r0 r1 r2 r3 r4 r5 r6 r7 ip fc fp fz fs fo fd x0 x1 x2 x3 x4 x5 x6 x7 op cond size ak ar ab ai aq ad bk br bb bi bq bd c rep len) 23))], [.cells [.ptr 1 0, .v (.int .u32 cb), .v (.int .u32 cs), .v (.bool cr), .v (.bool cw), .v (.bool cx), .v (.int .u32 db), .v (.int .u32 ds), .v (.bool dr), .v (.bool dw), .v (.bool dx)] T, .ext 0 (ansM (skPT cb cs cr cw cx db ds dr dw dx T M r0 r1 r2 r3 r4 r5 r6 r7 ip fc fp fz fs fo fd x0 x1 x2 x3 x4 x5 x6 x7 op cond size ak ar ab ai aq ad bk br bb bi bq bd c rep len) 1)]) := (lockI_eq _ _).symm.trans (skP_is cb cs cr cw cx db ds dr dw dx T M r0 r1 r2 r3 r4 r5 r6 r7 ip fc fp fz fs fo fd x0 x1 x2 x3 x4 x5 x6 x7 op cond size ak ar ab ai aq ad bk br bb bi bq bd c rep len hg)
noncomputable def skPB (R : Type) (m : List SObj) (k : Sv → List SObj → Option R) (b : Nat) (g : Nat) (cb : Int) (cs : Int) (cr : Bool) (cw : Bool) (cx : Bool) (db : Int) (ds : Int) (dr : Bool) (dw : Bool) (dx : Bool) (T : TypeId) (M : Int → Int) (r0 : Int) (r1 : Int) (r2 : Int) (r3 : Int) (r4 : Int) (r5 : Int) (r6 : Int) (r7 : Int) (ip : Int) (fc : Bool) (fp : Bool) (fz : Bool) (fs : Bool) (fo : Bool) (fd : Bool) (x0 : Int) (x1 : Int) (x2 : Int) (x3 : Int) (x4 : Int) (x5 : Int) (x6 : Int) (x7 : Int) (op : Int) (cond : Int) (size : Int) (ak : Int) (ar : Int) (ab : Int) (ai : Int) (aq : Int) (ad : Int) (bk : Int) (br : Int) (bb : Int) (bi : Int) (bq : Int) (bd : Int) (c : Int) (rep : Bool) (len : Int) : Option R :=
  bif (in32 r0 && (in32 r1 && (in32 r2 && (in32 r3 && (in32 r4 && (in32 r5 && (in32 r6 && (in32 r7 && (in32 db && (in32 ds && (in32 ad))))))))))) && !(b == g) then k (.tup [.agg [.v (.int .u32 (ansI (skPT cb cs cr cw cx db ds dr dw dx T M r0 r1 r2 r3 r4 r5 r6 r7 ip fc fp fz fs fo fd x0 x1 x2 x3 x4 x5 x6 x7 op cond size ak ar ab ai aq ad bk br bb bi bq bd c rep len) 0)), .v (.int .u32 (ansI (skPT cb cs cr cw cx db ds dr dw dx T M r0 r1 r2 r3 r4 r5 r6 r7 ip fc fp fz fs fo fd x0 x1 x2 x3 x4 x5 x6 x7 op cond size ak ar ab ai aq ad bk br bb bi bq bd c rep len) 1)), .v (.int .u32 (ansI (skPT cb cs cr cw cx db ds dr dw dx T M r0 r1 r2 r3 r4 r5 r6 r7 ip fc fp fz fs fo fd x0 x1 x2 x3 x4 x5 x6 x7 op cond size ak ar ab ai aq ad bk br bb bi bq bd c rep len) 2)), .v (.int .u32 (ansI (skPT cb cs cr cw cx db ds dr dw dx T M r0 r1 r2 r3 r4 r5 r6 r7 ip fc fp fz fs fo fd x0 x1 x2 x3 x4 x5 x6 x7 op cond size ak ar ab ai aq ad bk br bb bi bq bd c rep len) 3)), .v (.int .u32 (ansI (skPT cb cs cr cw cx db ds dr dw dx T M r0 r1 r2 r3 r4 r5 r6 r7 ip fc fp fz fs fo fd x0 x1 x2 x3 x4 x5 x6 x7 op cond size ak ar ab ai aq ad bk br bb bi bq bd c rep len) 4)), .v (.int .u32 (ansI (skPT cb cs cr cw cx db ds dr dw dx T M r0 r1 r2 r3 r4 r5 r6 r7 ip fc fp fz fs fo fd x0 x1 x2 x3 x4 x5 x6 x7 op cond size ak ar ab ai aq ad bk br bb bi bq bd c rep len) 5)), .v (.int .u32 (ansI (skPT cb cs cr cw cx db ds dr dw dx T M r0 r1 r2 r3 r4 r5 r6 r7 ip fc fp fz fs fo fd x0 x1 x2 x3 x4 x5 x6 x7 op cond size ak ar ab ai aq ad bk br bb bi bq bd c rep len) 6)), .v (.int .u32 (ansI (skPT cb cs cr cw cx db ds dr dw dx T M r0 r1 r2 r3 r4 r5 r6 r7 ip fc fp fz fs fo fd x0 x1 x2 x3 x4 x5 x6 x7 op cond size ak ar ab ai aq ad bk br bb bi bq bd c rep len) 7)), .v (.int .u32 (ansI (skPT cb cs cr cw cx db ds dr dw dx T M r0 r1 r2 r3 r4 r5 r6 r7 ip fc fp fz fs fo fd x0 x1 x2 x3 x4 x5 x6 x7 op cond size ak ar ab ai aq ad bk br bb bi bq bd c rep len) 8)), .v (.bool (ansB (skPT cb cs cr cw cx db ds dr dw dx T M r0 r1 r2 r3 r4 r5 r6 r7 ip fc fp fz fs fo fd x0 x1 x2 x3 x4 x5 x6 x7 op cond size ak ar ab ai aq ad bk br bb bi bq bd c rep len) 9)), .v (.bool (ansB (skPT cb cs cr cw cx db ds dr dw dx T M r0 r1 r2 r3 r4 r5 r6 r7 ip fc fp fz fs fo fd x0 x1 x2 x3 x4 x5 x6 x7 op cond size ak ar ab ai aq ad bk br bb bi bq bd c rep len) 10)), .v (.bool (ansB (skPT cb cs cr cw cx db ds dr dw dx T M r0 r1 r2 r3 r4 r5 r6 r7 ip fc fp fz fs fo fd x0 x1 x2 x3 x4 x5 x6 x7 op cond size ak ar ab ai aq ad bk br bb bi bq bd c rep len) 11)), .v (.bool (ansB (skPT cb cs cr cw cx db ds dr dw dx T M r0 r1 r2 r3 r4 r5 r6 r7 ip fc fp fz fs fo fd x0 x1 x2 x3 x4 x5 x6 x7 op cond size ak ar ab ai aq ad bk br bb bi bq bd c rep len) 12)), .v (.bool (ansB (skPT cb cs cr cw cx db ds dr dw dx T M r0 r1 r2 r3 r4 r5 r6 r7 ip fc fp fz fs fo fd x0 x1 x2 x3 x4 x5 x6 x7 op cond size ak ar ab ai aq ad bk br bb bi bq bd c rep len) 13)), .v (.bool (ansB (skPT cb cs cr cw cx db ds dr dw dx T M r0 r1 r2 r3 r4 r5 r6 r7 ip fc fp fz fs fo fd x0 x1 x2 x3 x4 x5 x6 x7 op cond size ak ar ab ai aq ad bk br bb bi bq bd c rep len) 14)), .v (.int .u64 (ansI (skPT cb cs cr cw cx db ds dr dw dx T M r0 r1 r2 r3 r4 r5 r6 r7 ip fc fp fz fs fo fd x0 x1 x2 x3 x4 x5 x6 x7 op cond size ak ar ab ai aq ad bk br bb bi bq bd c rep len) 15)), .v (.int .u64 (ansI (skPT cb cs cr cw cx db ds dr dw dx T M r0 r1 r2 r3 r4 r5 r6 r7 ip fc fp fz fs fo fd x0 x1 x2 x3 x4 x5 x6 x7 op cond size ak ar ab ai aq ad bk br bb bi bq bd c rep len) 16)), .v (.int .u64 (ansI (skPT cb cs cr cw cx db ds dr dw dx T M r0 r1 r2 r3 r4 r5 r6 r7 ip fc fp fz fs fo fd x0 x1 x2 x3 x4 x5 x6 x7 op cond size ak ar ab ai aq ad bk br bb bi bq bd c rep len) 17)), .v (.int .u64 (ansI (skPT cb cs cr cw cx db ds dr dw dx T M r0 r1 r2 r3 r4 r5 r6 r7 ip fc fp fz fs fo fd x0 x1 x2 x3 x4 x5 x6 x7 op cond size ak ar ab ai aq ad bk br bb bi bq bd c rep len) 18)), .v (.int .u64 (ansI (skPT cb cs cr cw cx db ds dr dw dx T M r0 r1 r2 r3 r4 r5 r6 r7 ip fc fp fz fs fo fd x0 x1 x2 x3 x4 x5 x6 x7 op cond size ak ar ab ai aq ad bk br bb bi bq bd c rep len) 19)), .v (.int .u64 (ansI (skPT cb cs cr cw cx db ds dr dw dx T M r0 r1 r2 r3 r4 r5 r6 r7 ip fc fp fz fs fo fd x0 x1 x2 x3 x4 x5 x6 x7 op cond size ak ar ab ai aq ad bk br bb bi bq bd c rep len) 20)), .v (.int .u64 (ansI (skPT cb cs cr cw cx db ds dr dw dx T M r0 r1 r2 r3 r4 r5 r6 r7 ip fc fp fz fs fo fd x0 x1 x2 x3 x4 x5 x6 x7 op cond size ak ar ab ai aq ad bk br bb bi bq bd c rep len) 21)), .v (.int .u64 (ansI (skPT cb cs cr cw cx db ds dr dw dx T M r0 r1 r2 r3 r4 r5 r6 r7 ip fc fp fz fs fo fd x0 x1 x2 x3 x4 x5 x6 x7 op cond size ak ar ab ai aq ad bk br bb bi bq bd c rep len) 22))], .v (.int .i64 (ansI (skPT cb cs cr cw cx db ds dr dw dx T M r0 r1 r2 r3 r4 r5 r6 r7 ip fc fp fz fs fo fd x0 x1 x2 x3 x4 x5 x6 x7 op cond size ak ar ab ai aq ad bk br bb bi bq bd c rep len) 23))]) (((m.set b (.cells [.ptr g 0, .v (.int .u32 cb), .v (.int .u32 cs), .v (.bool cr), .v (.bool cw), .v (.bool cx), .v (.int .u32 db), .v (.int .u32 ds), .v (.bool dr), .v (.bool dw), .v (.bool dx)] T)).set g (.ext 0 (ansM (skPT cb cs cr cw cx db ds dr dw dx T M r0 r1 r2 r3 r4 r5 r6 r7 ip fc fp fz fs fo fd x0 x1 x2 x3 x4 x5 x6 x7 op cond size ak ar ab ai aq ad bk br bb bi bq bd c rep len) 1))) ++ []) else none
noncomputable def skPS : Ev.Spec := fun R args m k kp => match args with
  | [.ptr b 0, .agg A0, .agg A1] => (match A0 with
    | [.v (.int .u32 r0), .v (.int .u32 r1), .v (.int .u32 r2), .v (.int .u32 r3), .v (.int .u32 r4), .v (.int .u32 r5), .v (.int .u32 r6), .v (.int .u32 r7), .v (.int .u32 ip), .v (.bool fc), .v (.bool fp), .v (.bool fz), .v (.bool fs), .v (.bool fo), .v (.bool fd), .v (.int .u64 x0), .v (.int .u64 x1), .v (.int .u64 x2), .v (.int .u64 x3), .v (.int .u64 x4), .v (.int .u64 x5), .v (.int .u64 x6), .v (.int .u64 x7)] => (match A1 with
    | [.v (.int .i64 op), .v (.int .i64 cond), .v (.int .i64 size), .v (.int .i64 ak), .v (.int .i64 ar), .v (.int .i64 ab), .v (.int .i64 ai), .v (.int .i64 aq), .v (.int .u32 ad), .v (.int .i64 bk), .v (.int .i64 br), .v (.int .i64 bb), .v (.int .i64 bi), .v (.int .i64 bq), .v (.int .u32 bd), .v (.int .u32 c), .v (.bool rep), .v (.int .i64 len)] => (match m[b]? with
    | some (.cells [.ptr g 0, .v (.int .u32 cb), .v (.int .u32 cs), .v (.bool cr), .v (.bool cw), .v (.bool cx), .v (.int .u32 db), .v (.int .u32 ds), .v (.bool dr), .v (.bool dw), .v (.bool dx)] T) => (match m[g]? with
      | some (.ext 0 M) => skPB R m k b g cb cs cr cw cx db ds dr dw dx T M r0 r1 r2 r3 r4 r5 r6 r7 ip fc fp fz fs fo fd x0 x1 x2 x3 x4 x5 x6 x7 op cond size ak ar ab ai aq ad bk br bb bi bq bd c rep len
      | _ => none)
    | _ => none)
    | _ => none)
    | _ => none)
  | _ => none
set_option maxHeartbeats 4000000 in
theorem skPS_ok : SpecOk Try.prog XM 49 skPS := by
  intro R args m k kp r h
  unfold skPS at h
  split at h
  · split at h
    · split at h
      · split at h
        · split at h
          · rename_i _ b _ r0 r1 r2 r3 r4 r5 r6 r7 ip fc fp fz fs fo fd x0 x1 x2 x3 x4 x5 x6 x7 _ op cond size ak ar ab ai aq ad bk br bb bi bq bd c rep len _ g cb cs cr cw cx db ds dr dw dx T hb _ M hg
            unfold skPB at h
            obtain ⟨hc, h⟩ := cond_some h
            rw [Bool.and_eq_true] at hc
            have hbg : ¬ b = g := by simpa using hc.2
            exact .inl ⟨_, _, h, (stackDoR (skP_ev cb cs cr cw cx db ds dr dw dx T M r0 r1 r2 r3 r4 r5 r6 r7 ip fc fp fz fs fo fd x0 x1 x2 x3 x4 x5 x6 x7 op cond size ak ar ab ai aq ad bk br bb bi bq bd c rep len hc.1) rfl rfl rfl rfl).frameL [b, g] (by simpa using hbg) ⟨hb, hg, trivial⟩ rfl rfl rfl rfl rfl rfl rfl⟩
          · cases h
        · cases h
      · cases h
    · cases h
  · cases h
theorem skR_form (cb cs : Int) (cr cw cx : Bool) (db ds : Int) (dr dw dx : Bool) (T T2 : TypeId) (M : Int → Int) (r0 r1 r2 r3 r4 r5 r6 r7 ip : Int) (fc fp fz fs fo fd : Bool) (x0 x1 x2 x3 x4 x5 x6 x7 : Int) (op cond size : Int) (ak ar ab ai aq ad bk br bb bi bq bd c : Int) (rep : Bool) (len : Int) :
    evF Try.prog ΓSk0 400 50 [.ptr 0 0, .agg [.v (.int .u32 r0), .v (.int .u32 r1), .v (.int .u32 r2), .v (.int .u32 r3), .v (.int .u32 r4), .v (.int .u32 r5), .v (.int .u32 r6), .v (.int .u32 r7), .v (.int .u32 ip), .v (.bool fc), .v (.bool fp), .v (.bool fz), .v (.bool fs), .v (.bool fo), .v (.bool fd), .v (.int .u64 x0), .v (.int .u64 x1), .v (.int .u64 x2), .v (.int .u64 x3), .v (.int .u64 x4), .v (.int .u64 x5), .v (.int .u64 x6), .v (.int .u64 x7)], .agg [.v (.int .i64 op), .v (.int .i64 cond), .v (.int .i64 size), .v (.int .i64 ak), .v (.int .i64 ar), .v (.int .i64 ab), .v (.int .i64 ai), .v (.int .i64 aq), .v (.int .u32 ad), .v (.int .i64 bk), .v (.int .i64 br), .v (.int .i64 bb), .v (.int .i64 bi), .v (.int .i64 bq), .v (.int .u32 bd), .v (.int .u32 c), .v (.bool rep), .v (.int .i64 len)]] [.cells [.ptr 1 0, .v (.int .u32 cb), .v (.int .u32 cs), .v (.bool cr), .v (.bool cw), .v (.bool cx), .v (.int .u32 db), .v (.int .u32 ds), .v (.bool dr), .v (.bool dw), .v (.bool dx)] T, .cells [.mp 2] T2, .bm .u32 .u8 M] (kTk 3) kNo =
    (bif op == 23 then
bif
in32 r0 &&
(in32 r1 &&
(in32 r2 && (in32 r3 && (in32 r4 && (in32 r5 && (in32 r6 && (in32 r7 && (in32 ad && (in32 db && in32 ds))))))))) &&
true then
bif !erW ak (segE db ds (ofV ab ai aq ad [r0, r1, r2, r3, r4, r5, r6, r7]) 4 (mayV dr dw dx 0)) == 0 then
some
(Sv.tup
[Sv.agg
[vw r0, vw r1, vw r2,
vw r3, vw r4, vw r5,
vw r6, vw r7, vw ip, vb fc,
vb fp, vb fz, vb fs, vb fo, vb fd,
vd x0, vd x1, vd x2,
vd x3, vd x4, vd x5,
vd x6, vd x7],
vi 2],
[SObj.cells
[Sv.ptr 1 0, vw cb, vw cs, vb cr,
vb cw, vb cx, vw db, vw ds,
vb dr, vb dw, vb dx]
T,
SObj.cells [Sv.mp 2] T2, SObj.bm IntKind.u32 IntKind.u8 M])
else
bif
in32 r0 &&
(in32 r1 &&
(in32 r2 &&
(in32 r3 &&
(in32 r4 &&
(in32 r5 &&
(in32 r6 &&
(in32 r7 &&
(in32 db &&
(in32 ds &&
in32
(IntKind.wrap IntKind.u32
(ldW ak (ldV M db ds (ofV ab ai aq ad [r0, r1, r2, r3, r4, r5, r6, r7]) 4 (mayV dr dw dx 0))
(getV ak ar ad r0 r1 r2 r3 r4 r5 r6 r7 x0 x1 x2 x3 x4 x5 x6 x7)))))))))))) &&
true then
some
(Sv.tup
[Sv.agg
[vw r0, vw r1, vw r2,
vw r3,
vw ((puV r4 (skOk db ds (IntKind.wrap IntKind.u32 (r4 - 4)) (mayV dr dw dx 1)))),
vw r5, vw r6, vw r7,
vw ip, vb fc, vb fp, vb fz, vb fs,
vb fo, vb fd, vd x0, vd x1,
vd x2, vd x3, vd x4,
vd x5, vd x6, vd x7],
vi ((endV (skOk db ds (IntKind.wrap IntKind.u32 (r4 - 4)) (mayV dr dw dx 1))))],
[SObj.cells
[Sv.ptr 1 0, vw cb, vw cs, vb cr,
vb cw, vb cx, vw db, vw ds,
vb dr, vb dw, vb dx]
T,
SObj.cells [Sv.mp 2] T2,
SObj.bm IntKind.u32 IntKind.u8
(stV M db ds (IntKind.wrap IntKind.u32 (r4 - 4)) 4
(IntKind.wrap IntKind.u64
(IntKind.wrap IntKind.u32
(ldW ak (ldV M db ds (ofV ab ai aq ad [r0, r1, r2, r3, r4, r5, r6, r7]) 4 (mayV dr dw dx 0))
(getV ak ar ad r0 r1 r2 r3 r4 r5 r6 r7 x0 x1 x2 x3 x4 x5 x6 x7))))
(mayV dr dw dx 1))])
else none
else none
else
bif op == 49 then
bif
in32 r0 &&
(in32 r1 && (in32 r2 && (in32 r3 && (in32 r5 && (in32 r5 && (in32 r6 && (in32 r7 && (in32 db && in32 ds)))))))) &&
true then
bif endV (skOk db ds r5 (mayV dr dw dx 0)) != 0 then
some
(Sv.tup
[Sv.agg
[vw r0, vw r1, vw r2,
vw r3, vw r4, vw r5,
vw r6, vw r7, vw ip, vb fc,
vb fp, vb fz, vb fs, vb fo, vb fd,
vd x0, vd x1, vd x2,
vd x3, vd x4, vd x5,
vd x6, vd x7],
vi ((endV (skOk db ds r5 (mayV dr dw dx 0))))],
[SObj.cells
[Sv.ptr 1 0, vw cb, vw cs, vb cr,
vb cw, vb cx, vw db, vw ds,
vb dr, vb dw, vb dx]
T,
SObj.cells [Sv.mp 2] T2, SObj.bm IntKind.u32 IntKind.u8 M])
else
some
(Sv.tup
[Sv.agg
[vw r0, vw r1, vw r2,
vw r3, vw ((poV r5 (skOk db ds r5 (mayV dr dw dx 0)))),
Sv.v
(Value.int IntKind.u32
(orV (IntKind.wrap IntKind.u32 (ldV M db ds r5 4 (mayV dr dw dx 0))) (skOk db ds r5 (mayV dr dw dx 0)))),
vw r6, vw r7, vw ip, vb fc,
vb fp, vb fz, vb fs, vb fo, vb fd,
vd x0, vd x1, vd x2,
vd x3, vd x4, vd x5,
vd x6, vd x7],
vi 0],
[SObj.cells
[Sv.ptr 1 0, vw cb, vw cs, vb cr,
vb cw, vb cx, vw db, vw ds,
vb dr, vb dw, vb dx]
T,
SObj.cells [Sv.mp 2] T2, SObj.bm IntKind.u32 IntKind.u8 M])
else none
else
bif
in32 r0 &&
(in32 r1 && (in32 r2 && (in32 r3 && (in32 r4 && (in32 r5 && (in32 r6 && (in32 r7 && (in32 db && in32 ds)))))))) &&
true then
bif endV (skOk db ds r4 (mayV dr dw dx 0)) != 0 then
some
(Sv.tup
[Sv.agg
[vw r0, vw r1, vw r2,
vw r3, vw r4, vw r5,
vw r6, vw r7, vw ip, vb fc,
vb fp, vb fz, vb fs, vb fo, vb fd,
vd x0, vd x1, vd x2,
vd x3, vd x4, vd x5,
vd x6, vd x7],
vi ((endV (skOk db ds r4 (mayV dr dw dx 0))))],
[SObj.cells
[Sv.ptr 1 0, vw cb, vw cs, vb cr,
vb cw, vb cx, vw db, vw ds,
vb dr, vb dw, vb dx]
T,
SObj.cells [Sv.mp 2] T2, SObj.bm IntKind.u32 IntKind.u8 M])
else
bif
in32 r0 &&
(in32 r1 &&
(in32 r2 &&
(in32 r3 &&
(in32 (poV r4 (skOk db ds r4 (mayV dr dw dx 0))) &&
(in32 r5 &&
(in32 r6 &&
(in32 r7 &&
(in32 r0 &&
(in32 r1 &&
(in32 r2 &&
(in32 r3 &&
(in32 (poV r4 (skOk db ds r4 (mayV dr dw dx 0))) &&
(in32 r5 &&
(in32 r6 &&
(in32 r7 &&
(in32 ad &&
(in32 db &&
(in32 ds &&
in64
(IntKind.wrap IntKind.u64
(orV (IntKind.wrap IntKind.u32 (ldV M db ds r4 4 (mayV dr dw dx 0)))
(skOk db ds r4 (mayV dr dw dx 0)))))))))))))))))))))) &&
true then
bif
!erW ak
(segE db ds (ofV ab ai aq ad [r0, r1, r2, r3, poV r4 (skOk db ds r4 (mayV dr dw dx 0)), r5, r6, r7]) 4
(mayV dr dw dx 1)) ==
0 then
some
(Sv.tup
[Sv.agg
[vw r0, vw r1, vw r2,
vw r3, vw r4, vw r5,
vw r6, vw r7, vw ip, vb fc,
vb fp, vb fz, vb fs, vb fo, vb fd,
vd x0, vd x1, vd x2,
vd x3, vd x4, vd x5,
vd x6, vd x7],
vi 2],
[SObj.cells
[Sv.ptr 1 0, vw cb, vw cs, vb cr,
vb cw, vb cx, vw db, vw ds,
vb dr, vb dw, vb dx]
T,
SObj.cells [Sv.mp 2] T2,
SObj.bm IntKind.u32 IntKind.u8
(memW ak
(stV M db ds (ofV ab ai aq ad [r0, r1, r2, r3, poV r4 (skOk db ds r4 (mayV dr dw dx 0)), r5, r6, r7]) 4
(IntKind.wrap IntKind.u64
(orV (IntKind.wrap IntKind.u32 (ldV M db ds r4 4 (mayV dr dw dx 0))) (skOk db ds r4 (mayV dr dw dx 0))))
(mayV dr dw dx 1))
M)])
else
some
(Sv.tup
[Sv.agg
[Sv.v
(Value.int IntKind.u32
(ldW ak r0
(setA ak ar 0 r0
(IntKind.wrap IntKind.u64
(orV (IntKind.wrap IntKind.u32 (ldV M db ds r4 4 (mayV dr dw dx 0))) (skOk db ds r4 (mayV dr dw dx 0))))))),
Sv.v
(Value.int IntKind.u32
(ldW ak r1
(setA ak ar 1 r1
(IntKind.wrap IntKind.u64
(orV (IntKind.wrap IntKind.u32 (ldV M db ds r4 4 (mayV dr dw dx 0))) (skOk db ds r4 (mayV dr dw dx 0))))))),
Sv.v
(Value.int IntKind.u32
(ldW ak r2
(setA ak ar 2 r2
(IntKind.wrap IntKind.u64
(orV (IntKind.wrap IntKind.u32 (ldV M db ds r4 4 (mayV dr dw dx 0))) (skOk db ds r4 (mayV dr dw dx 0))))))),
Sv.v
(Value.int IntKind.u32
(ldW ak r3
(setA ak ar 3 r3
(IntKind.wrap IntKind.u64
(orV (IntKind.wrap IntKind.u32 (ldV M db ds r4 4 (mayV dr dw dx 0))) (skOk db ds r4 (mayV dr dw dx 0))))))),
Sv.v
(Value.int IntKind.u32
(ldW ak (poV r4 (skOk db ds r4 (mayV dr dw dx 0)))
(setB ak ar 4 (poV r4 (skOk db ds r4 (mayV dr dw dx 0)))
(IntKind.wrap IntKind.u64
(orV (IntKind.wrap IntKind.u32 (ldV M db ds r4 4 (mayV dr dw dx 0))) (skOk db ds r4 (mayV dr dw dx 0))))))),
Sv.v
(Value.int IntKind.u32
(ldW ak r5
(setB ak ar 5 r5
(IntKind.wrap IntKind.u64
(orV (IntKind.wrap IntKind.u32 (ldV M db ds r4 4 (mayV dr dw dx 0))) (skOk db ds r4 (mayV dr dw dx 0))))))),
Sv.v
(Value.int IntKind.u32
(ldW ak r6
(setB ak ar 6 r6
(IntKind.wrap IntKind.u64
(orV (IntKind.wrap IntKind.u32 (ldV M db ds r4 4 (mayV dr dw dx 0))) (skOk db ds r4 (mayV dr dw dx 0))))))),
Sv.v
(Value.int IntKind.u32
(ldW ak r7
(setB ak ar 7 r7
(IntKind.wrap IntKind.u64
(orV (IntKind.wrap IntKind.u32 (ldV M db ds r4 4 (mayV dr dw dx 0))) (skOk db ds r4 (mayV dr dw dx 0))))))),
vw ip, vb fc, vb fp, vb fz, vb fs,
vb fo, vb fd,
Sv.v
(Value.int IntKind.u64
(ldW ak x0
(setX ak ar 0 x0
(IntKind.wrap IntKind.u64
(orV (IntKind.wrap IntKind.u32 (ldV M db ds r4 4 (mayV dr dw dx 0))) (skOk db ds r4 (mayV dr dw dx 0))))))),
Sv.v
(Value.int IntKind.u64
(ldW ak x1
(setX ak ar 1 x1
(IntKind.wrap IntKind.u64
(orV (IntKind.wrap IntKind.u32 (ldV M db ds r4 4 (mayV dr dw dx 0))) (skOk db ds r4 (mayV dr dw dx 0))))))),
Sv.v
(Value.int IntKind.u64
(ldW ak x2
(setX ak ar 2 x2
(IntKind.wrap IntKind.u64
(orV (IntKind.wrap IntKind.u32 (ldV M db ds r4 4 (mayV dr dw dx 0))) (skOk db ds r4 (mayV dr dw dx 0))))))),
Sv.v
(Value.int IntKind.u64
(ldW ak x3
(setX ak ar 3 x3
(IntKind.wrap IntKind.u64
(orV (IntKind.wrap IntKind.u32 (ldV M db ds r4 4 (mayV dr dw dx 0))) (skOk db ds r4 (mayV dr dw dx 0))))))),
Sv.v
(Value.int IntKind.u64
(ldW ak x4
(setX ak ar 4 x4
(IntKind.wrap IntKind.u64
(orV (IntKind.wrap IntKind.u32 (ldV M db ds r4 4 (mayV dr dw dx 0))) (skOk db ds r4 (mayV dr dw dx 0))))))),
Sv.v
(Value.int IntKind.u64
(ldW ak x5
(setX ak ar 5 x5
(IntKind.wrap IntKind.u64
(orV (IntKind.wrap IntKind.u32 (ldV M db ds r4 4 (mayV dr dw dx 0))) (skOk db ds r4 (mayV dr dw dx 0))))))),
Sv.v
(Value.int IntKind.u64
(ldW ak x6
(setX ak ar 6 x6
(IntKind.wrap IntKind.u64
(orV (IntKind.wrap IntKind.u32 (ldV M db ds r4 4 (mayV dr dw dx 0))) (skOk db ds r4 (mayV dr dw dx 0))))))),
Sv.v
(Value.int IntKind.u64
(ldW ak x7
(setX ak ar 7 x7
(IntKind.wrap IntKind.u64
(orV (IntKind.wrap IntKind.u32 (ldV M db ds r4 4 (mayV dr dw dx 0))) (skOk db ds r4 (mayV dr dw dx 0)))))))],
vi 0],
[SObj.cells
[Sv.ptr 1 0, vw cb, vw cs, vb cr,
vb cw, vb cx, vw db, vw ds,
vb dr, vb dw, vb dx]
T,
SObj.cells [Sv.mp 2] T2,
SObj.bm IntKind.u32 IntKind.u8
(memW ak
(stV M db ds (ofV ab ai aq ad [r0, r1, r2, r3, poV r4 (skOk db ds r4 (mayV dr dw dx 0)), r5, r6, r7]) 4
(IntKind.wrap IntKind.u64
(orV (IntKind.wrap IntKind.u32 (ldV M db ds r4 4 (mayV dr dw dx 0))) (skOk db ds r4 (mayV dr dw dx 0))))
(mayV dr dw dx 1))
M)])
else none
else none) := by kernel_rfl
set_option maxHeartbeats 4000000 in
theorem skR_ev (cb cs : Int) (cr cw cx : Bool) (db ds : Int) (dr dw dx : Bool) (T T2 : TypeId) (M : Int → Int) (r0 r1 r2 r3 r4 r5 r6 r7 ip : Int) (fc fp fz fs fo fd : Bool) (x0 x1 x2 x3 x4 x5 x6 x7 : Int) (op cond size : Int) (ak ar ab ai aq ad bk br bb bi bq bd c : Int) (rep : Bool) (len : Int) (hg : (in32 r0 && (in32 r1 && (in32 r2 && (in32 r3 && (in32 r4 && (in32 r5 && (in32 r6 && (in32 r7 && (in32 db && (in32 ds && (in32 ad))))))))))) = true) : evF Try.prog ΓSk0 400 50 [.ptr 0 0, .agg [.v (.int .u32 r0), .v (.int .u32 r1), .v (.int .u32 r2), .v (.int .u32 r3), .v (.int .u32 r4), .v (.int .u32 r5), .v (.int .u32 r6), .v (.int .u32 r7), .v (.int .u32 ip), .v (.bool fc), .v (.bool fp), .v (.bool fz), .v (.bool fs), .v (.bool fo), .v (.bool fd), .v (.int .u64 x0), .v (.int .u64 x1), .v (.int .u64 x2), .v (.int .u64 x3), .v (.int .u64 x4), .v (.int .u64 x5), .v (.int .u64 x6), .v (.int .u64 x7)], .agg [.v (.int .i64 op), .v (.int .i64 cond), .v (.int .i64 size), .v (.int .i64 ak), .v (.int .i64 ar), .v (.int .i64 ab), .v (.int .i64 ai), .v (.int .i64 aq), .v (.int .u32 ad), .v (.int .i64 bk), .v (.int .i64 br), .v (.int .i64 bb), .v (.int .i64 bi), .v (.int .i64 bq), .v (.int .u32 bd), .v (.int .u32 c), .v (.bool rep), .v (.int .i64 len)]] [.cells [.ptr 1 0, .v (.int .u32 cb), .v (.int .u32 cs), .v (.bool cr), .v (.bool cw), .v (.bool cx), .v (.int .u32 db), .v (.int .u32 ds), .v (.bool dr), .v (.bool dw), .v (.bool dx)] T, .cells [.mp 2] T2, .bm .u32 .u8 M] (kTk 3) kNo = some (.tup [.agg [.v (.int .u32 (ansI (skPT cb cs cr cw cx db ds dr dw dx T M r0 r1 r2 r3 r4 r5 r6 r7 ip fc fp fz fs fo fd x0 x1 x2 x3 x4 x5 x6 x7 op cond size ak ar ab ai aq ad bk br bb bi bq bd c rep len) 0)), .v (.int .u32 (ansI (skPT cb cs cr cw cx db ds dr dw dx T M r0 r1 r2 r3 r4 r5 r6 r7 ip fc fp fz fs fo fd x0 x1 x2 x3 x4 x5 x6 x7 op cond size ak ar ab ai aq ad bk br bb bi bq bd c rep len) 1)), .v (.int .u32 (ansI (skPT cb cs cr cw cx db ds dr dw dx T M r0 r1 r2 r3 r4 r5 r6 r7 ip fc fp fz fs fo fd x0 x1 x2 x3 x4 x5 x6 x7 op cond size ak ar ab ai aq ad bk br bb bi bq bd c rep len) 2)), .v (.int .u32 (ansI (skPT cb cs cr cw cx db ds dr dw dx T M r0 r1 r2 r3 r4 r5 r6 r7 ip fc fp fz fs fo fd x0 x1 x2 x3 x4 x5 x6 x7 op cond size ak ar ab ai aq ad bk br bb bi bq bd c rep len) 3)), .v (.int .u32 (ansI (skPT cb cs cr cw cx db ds dr dw dx T M r0 r1 r2 r3 r4 r5 r6 r7 ip fc fp fz fs fo fd x0 x1 x2 x3 x4 x5 x6 x7 op cond size ak ar ab ai aq ad bk br bb bi bq bd c rep len) 4)), .v (.int .u32 (ansI (skPT cb cs cr cw cx db ds dr dw dx T M r0 r1 r2 r3 r4 r5 r6 r7 ip fc fp fz fs fo fd x0 x1 x2 x3 x4 x5 x6 x7 op cond size ak ar ab ai aq ad bk br bb bi bq bd c rep len) 5)), .v (.int .u32 (ansI (skPT cb cs cr cw cx db ds dr dw dx T M r0 r1 r2 r3 r4 r5 r6 r7 ip fc fp fz fs fo fd x0 x1 x2 x3 x4 x5 x6 x7 op cond size ak ar ab ai aq ad bk br bb bi bq bd c rep len) 6)), .v (.int .u32 (ansI (skPT cb cs cr cw cx db ds dr dw dx T M r0 r1 r2 r3 r4 r5 r6 r7 ip fc fp fz fs fo fd x0 x1 x2 x3 x4 x5 x6 x7 op cond size ak ar ab ai aq ad bk br bb bi bq bd c rep len) 7)), .v (.int .u32 (ansI (skPT cb cs cr cw cx db ds dr dw dx T M r0 r1 r2 r3 r4 r5 r6 r7 ip fc fp fz fs fo fd x0 x1 x2 x3 x4 x5 x6 x7 op cond size ak ar ab ai aq ad bk br bb bi bq bd c rep len) 8)), .v (.bool (ansB (skPT cb cs cr cw cx db ds dr dw dx T M r0 r1 r2 r3 r4 r5 r6 r7 ip fc fp fz fs fo fd x0 x1 x2 x3 x4 x5 x6 x7 op cond size ak ar ab ai aq ad bk br bb bi bq bd c rep len) 9)), .v (.bool (ansB (skPT cb cs cr cw cx db ds dr dw dx T M r0 r1 r2 r3 r4 r5 r6 r7 ip fc fp fz fs fo fd x0 x1 x2 x3 x4 x5 x6 x7 op cond size ak ar ab ai aq ad bk br bb bi bq bd c rep len) 10)), .v (.bool (ansB (skPT cb cs cr cw cx db ds dr dw dx T M r0 r1 r2 r3 r4 r5 r6 r7 ip fc fp fz fs fo fd x0 x1 x2 x3 x4 x5 x6 x7 op cond size ak ar ab ai aq ad bk br bb bi bq bd c rep len) 11)), .v (.bool (ansB (skPT cb cs cr cw cx db ds dr dw dx T M r0 r1 r2 r3 r4 r5 r6 r7 ip fc fp fz fs fo fd x0 x1 x2 x3 x4 x5 x6 x7 op cond size ak ar ab ai aq ad bk br bb bi bq bd c rep len) 12)), .v (.bool (ansB (skPT cb cs cr cw cx db ds dr dw dx T M r0 r1 r2 r3 r4 r5 r6 r7 ip fc fp fz fs fo fd x0 x1 x2 x3 x4 x5 x6 x7 op cond size ak ar ab ai aq ad bk br bb bi bq bd c rep len) 13)), .v (.bool (ansB (skPT cb cs cr cw cx db ds dr dw dx T M r0 r1 r2 r3 r4 r5 r6 r7 ip fc fp fz fs fo fd x0 x1 x2 x3 x4 x5 x6 x7 op cond size ak ar ab ai aq ad bk br bb bi bq bd c rep len) 14)), .v (.int .u64 (ansI (skPT cb cs cr cw cx db ds dr dw dx T M r0 r1 r2 r3 r4 r5 r6 r7 ip fc fp fz fs fo fd x0 x1 x2 x3 x4 x5 x6 x7 op cond size ak ar ab ai aq ad bk br bb bi bq bd c rep len) 15)), .v (.int .u64 (ansI (skPT cb cs cr cw cx db ds dr dw dx T M r0 r1 r2 r3 r4 r5 r6 r7 ip fc fp fz fs fo fd x0 x1 x2 x3 x4 x5 x6 x7 op cond size ak ar ab ai aq ad bk br bb bi bq bd c rep len) 16)), .v (.int .u64 (ansI (skPT cb cs cr cw cx db ds dr dw dx T M r0 r1 r2 r3 r4 r5 r6 r7 ip fc fp fz fs fo fd x0 x1 x2 x3 x4 x5 x6 x7 op cond size ak ar ab ai aq ad bk br bb bi bq bd c rep len) 17)), .v (.int .u64 (ansI (skPT cb cs cr cw cx db ds dr dw dx T M r0 r1 r2 r3 r4 r5 r6 r7 ip fc fp fz fs fo fd x0 x1 x2 x3 x4 x5 x6 x7 op cond size ak ar ab ai aq ad bk br bb bi bq bd c rep len) 18)), .v (.int .u64 (ansI (skPT cb cs cr cw cx db ds dr dw dx T M r0 r1 r2 r3 r4 r5 r6 r7 ip fc fp fz fs fo fd x0 x1 x2 x3 x4 x5 x6 x7 op cond size ak ar ab ai aq ad bk br bb bi bq bd c rep len) 19)), .v (.int .u64 (ansI (skPT cb cs cr cw cx db ds dr dw dx T M r0 r1 r2 r3 r4 r5 r6 r7 ip fc fp fz fs fo fd x0 x1 x2 x3 x4 x5 x6 x7 op cond size ak ar ab ai aq ad bk br bb bi bq bd c rep len) 20)), .v (.int .u64 (ansI (skPT cb cs cr cw cx db ds dr dw dx T M r0 r1 r2 r3 r4 r5 r6 r7 ip fc fp fz fs fo fd x0 x1 x2 x3 x4 x5 x6 x7 op cond size ak ar ab ai aq ad bk br bb bi bq bd c rep len) 21)), .v (.int .u64 (ansI (skPT cb cs cr cw cx db ds dr dw dx T M r0 r1 r2 r3 r4 r5 r6 r7 ip fc fp fz fs fo fd x0 x1 x2 x3 x4 x5 x6 x7 op cond size ak ar ab ai aq ad bk br bb bi bq bd c rep len) 22))], .v (.int .i64 (ansI (skPT cb cs cr cw cx db ds dr dw dx T M r0 r1 r2 r3 r4 r5 r6 r7 ip fc fp fz fs fo fd x0 x1 x2 x3 x4 x5 x6 x7 op cond size ak ar ab ai aq ad bk br bb bi bq bd c rep len) 23))], [.cells [.ptr 1 0, .v (.int .u32 cb), .v (.int .u32 cs), .v (.bool cr), .v (.bool cw), .v (.bool cx), .v (.int .u32 db), .v (.int .u32 ds), .v (.bool dr), .v (.bool dw), .v (.bool dx)] T, .cells [.mp 2] T2, .bm .u32 .u8 (ansM (skPT cb cs cr cw cx db ds dr dw dx T M r0 r1 r2 r3 r4 r5 r6 r7 ip fc fp fz fs fo fd x0 x1 x2 x3 x4 x5 x6 x7 op cond size ak ar ab ai aq ad bk br bb bi bq bd c rep len) 1)]) := by
  rw [skR_form]
  rw [skP_tree]
  simp only [Bool.and_eq_true] at hg
  simp only [hg, ofV_in, in32_wr, in64_wr, poV_in, Bool.and_self, Bool.and_true, Bool.true_and, cond_true, bne]
  cases q1 : (op == 23)
  · cases q2 : (op == 49)
    · simp only [cond_true, cond_false]
      cases q3 : skOk db ds r4 (mayV dr dw dx 0)
      · rfl
      · simp only [show (endV true == 0) = true from rfl, cond_true, cond_false, Bool.not_true, Bool.not_false]
        generalize hE : (erW ak (segE db ds (ofV ab ai aq ad [r0, r1, r2, r3, poV r4 true, r5, r6, r7]) 4 (mayV dr dw dx 1)) == 0) = E
        cases E <;> rfl
    · simp only [cond_true, cond_false]
      cases q3 : skOk db ds r5 (mayV dr dw dx 0) <;> rfl
  · simp only [cond_true, cond_false]
    cases q3 : (erW ak (segE db ds (ofV ab ai aq ad [r0, r1, r2, r3, r4, r5, r6, r7]) 4 (mayV dr dw dx 0)) == 0)
    · rfl
    · simp only [cond_true, cond_false, Bool.not_true, Bool.not_false]
      cases q4 : skOk db ds (IntKind.wrap .u32 (r4 - 4)) (mayV dr dw dx 1) <;> rfl
noncomputable def skRB (R : Type) (m : List SObj) (k : Sv → List SObj → Option R) (b : Nat) (g : Nat) (cb : Int) (cs : Int) (cr : Bool) (cw : Bool) (cx : Bool) (db : Int) (ds : Int) (dr : Bool) (dw : Bool) (dx : Bool) (T : TypeId) (M : Int → Int) (j : Nat) (T2 : TypeId) (r0 : Int) (r1 : Int) (r2 : Int) (r3 : Int) (r4 : Int) (r5 : Int) (r6 : Int) (r7 : Int) (ip : Int) (fc : Bool) (fp : Bool) (fz : Bool) (fs : Bool) (fo : Bool) (fd : Bool) (x0 : Int) (x1 : Int) (x2 : Int) (x3 : Int) (x4 : Int) (x5 : Int) (x6 : Int) (x7 : Int) (op : Int) (cond : Int) (size : Int) (ak : Int) (ar : Int) (ab : Int) (ai : Int) (aq : Int) (ad : Int) (bk : Int) (br : Int) (bb : Int) (bi : Int) (bq : Int) (bd : Int) (c : Int) (rep : Bool) (len : Int) : Option R :=
  bif (in32 r0 && (in32 r1 && (in32 r2 && (in32 r3 && (in32 r4 && (in32 r5 && (in32 r6 && (in32 r7 && (in32 db && (in32 ds && (in32 ad))))))))))) && (!(b == g) && (!(b == j) && !(g == j))) then k (.tup [.agg [.v (.int .u32 (ansI (skPT cb cs cr cw cx db ds dr dw dx T M r0 r1 r2 r3 r4 r5 r6 r7 ip fc fp fz fs fo fd x0 x1 x2 x3 x4 x5 x6 x7 op cond size ak ar ab ai aq ad bk br bb bi bq bd c rep len) 0)), .v (.int .u32 (ansI (skPT cb cs cr cw cx db ds dr dw dx T M r0 r1 r2 r3 r4 r5 r6 r7 ip fc fp fz fs fo fd x0 x1 x2 x3 x4 x5 x6 x7 op cond size ak ar ab ai aq ad bk br bb bi bq bd c rep len) 1)), .v (.int .u32 (ansI (skPT cb cs cr cw cx db ds dr dw dx T M r0 r1 r2 r3 r4 r5 r6 r7 ip fc fp fz fs fo fd x0 x1 x2 x3 x4 x5 x6 x7 op cond size ak ar ab ai aq ad bk br bb bi bq bd c rep len) 2)), .v (.int .u32 (ansI (skPT cb cs cr cw cx db ds dr dw dx T M r0 r1 r2 r3 r4 r5 r6 r7 ip fc fp fz fs fo fd x0 x1 x2 x3 x4 x5 x6 x7 op cond size ak ar ab ai aq ad bk br bb bi bq bd c rep len) 3)), .v (.int .u32 (ansI (skPT cb cs cr cw cx db ds dr dw dx T M r0 r1 r2 r3 r4 r5 r6 r7 ip fc fp fz fs fo fd x0 x1 x2 x3 x4 x5 x6 x7 op cond size ak ar ab ai aq ad bk br bb bi bq bd c rep len) 4)), .v (.int .u32 (ansI (skPT cb cs cr cw cx db ds dr dw dx T M r0 r1 r2 r3 r4 r5 r6 r7 ip fc fp fz fs fo fd x0 x1 x2 x3 x4 x5 x6 x7 op cond size ak ar ab ai aq ad bk br bb bi bq bd c rep len) 5)), .v (.int .u32 (ansI (skPT cb cs cr cw cx db ds dr dw dx T M r0 r1 r2 r3 r4 r5 r6 r7 ip fc fp fz fs fo fd x0 x1 x2 x3 x4 x5 x6 x7 op cond size ak ar ab ai aq ad bk br bb bi bq bd c rep len) 6)), .v (.int .u32 (ansI (skPT cb cs cr cw cx db ds dr dw dx T M r0 r1 r2 r3 r4 r5 r6 r7 ip fc fp fz fs fo fd x0 x1 x2 x3 x4 x5 x6 x7 op cond size ak ar ab ai aq ad bk br bb bi bq bd c rep len) 7)), .v (.int .u32 (ansI (skPT cb cs cr cw cx db ds dr dw dx T M r0 r1 r2 r3 r4 r5 r6 r7 ip fc fp fz fs fo fd x0 x1 x2 x3 x4 x5 x6 x7 op cond size ak ar ab ai aq ad bk br bb bi bq bd c rep len) 8)), .v (.bool (ansB (skPT cb cs cr cw cx db ds dr dw dx T M r0 r1 r2 r3 r4 r5 r6 r7 ip fc fp fz fs fo fd x0 x1 x2 x3 x4 x5 x6 x7 op cond size ak ar ab ai aq ad bk br bb bi bq bd c rep len) 9)), .v (.bool (ansB (skPT cb cs cr cw cx db ds dr dw dx T M r0 r1 r2 r3 r4 r5 r6 r7 ip fc fp fz fs fo fd x0 x1 x2 x3 x4 x5 x6 x7 op cond size ak ar ab ai aq ad bk br bb bi bq bd c rep len) 10)), .v (.bool (ansB (skPT cb cs cr cw cx db ds dr dw dx T M r0 r1 r2 r3 r4 r5 r6 r7 ip fc fp fz fs fo fd x0 x1 x2 x3 x4 x5 x6 x7 op cond size ak ar ab ai aq ad bk br bb bi bq bd c rep len) 11)), .v (.bool (ansB (skPT cb cs cr cw cx db ds dr dw dx T M r0 r1 r2 r3 r4 r5 r6 r7 ip fc fp fz fs fo fd x0 x1 x2 x3 x4 x5 x6 x7 op cond size ak ar ab ai aq ad bk br bb bi bq bd c rep len) 12)), .v (.bool (ansB (skPT cb cs cr cw cx db ds dr dw dx T M r0 r1 r2 r3 r4 r5 r6 r7 ip fc fp fz fs fo fd x0 x1 x2 x3 x4 x5 x6 x7 op cond size ak ar ab ai aq ad bk br bb bi bq bd c rep len) 13)), .v (.bool (ansB (skPT cb cs cr cw cx db ds dr dw dx T M r0 r1 r2 r3 r4 r5 r6 r7 ip fc fp fz fs fo fd x0 x1 x2 x3 x4 x5 x6 x7 op cond size ak ar ab ai aq ad bk br bb bi bq bd c rep len) 14)), .v (.int .u64 (ansI (skPT cb cs cr cw cx db ds dr dw dx T M r0 r1 r2 r3 r4 r5 r6 r7 ip fc fp fz fs fo fd x0 x1 x2 x3 x4 x5 x6 x7 op cond size ak ar ab ai aq ad bk br bb bi bq bd c rep len) 15)), .v (.int .u64 (ansI (skPT cb cs cr cw cx db ds dr dw dx T M r0 r1 r2 r3 r4 r5 r6 r7 ip fc fp fz fs fo fd x0 x1 x2 x3 x4 x5 x6 x7 op cond size ak ar ab ai aq ad bk br bb bi bq bd c rep len) 16)), .v (.int .u64 (ansI (skPT cb cs cr cw cx db ds dr dw dx T M r0 r1 r2 r3 r4 r5 r6 r7 ip fc fp fz fs fo fd x0 x1 x2 x3 x4 x5 x6 x7 op cond size ak ar ab ai aq ad bk br bb bi bq bd c rep len) 17)), .v (.int .u64 (ansI (skPT cb cs cr cw cx db ds dr dw dx T M r0 r1 r2 r3 r4 r5 r6 r7 ip fc fp fz fs fo fd x0 x1 x2 x3 x4 x5 x6 x7 op cond size ak ar ab ai aq ad bk br bb bi bq bd c rep len) 18)), .v (.int .u64 (ansI (skPT cb cs cr cw cx db ds dr dw dx T M r0 r1 r2 r3 r4 r5 r6 r7 ip fc fp fz fs fo fd x0 x1 x2 x3 x4 x5 x6 x7 op cond size ak ar ab ai aq ad bk br bb bi bq bd c rep len) 19)), .v (.int .u64 (ansI (skPT cb cs cr cw cx db ds dr dw dx T M r0 r1 r2 r3 r4 r5 r6 r7 ip fc fp fz fs fo fd x0 x1 x2 x3 x4 x5 x6 x7 op cond size ak ar ab ai aq ad bk br bb bi bq bd c rep len) 20)), .v (.int .u64 (ansI (skPT cb cs cr cw cx db ds dr dw dx T M r0 r1 r2 r3 r4 r5 r6 r7 ip fc fp fz fs fo fd x0 x1 x2 x3 x4 x5 x6 x7 op cond size ak ar ab ai aq ad bk br bb bi bq bd c rep len) 21)), .v (.int .u64 (ansI (skPT cb cs cr cw cx db ds dr dw dx T M r0 r1 r2 r3 r4 r5 r6 r7 ip fc fp fz fs fo fd x0 x1 x2 x3 x4 x5 x6 x7 op cond size ak ar ab ai aq ad bk br bb bi bq bd c rep len) 22))], .v (.int .i64 (ansI (skPT cb cs cr cw cx db ds dr dw dx T M r0 r1 r2 r3 r4 r5 r6 r7 ip fc fp fz fs fo fd x0 x1 x2 x3 x4 x5 x6 x7 op cond size ak ar ab ai aq ad bk br bb bi bq bd c rep len) 23))]) ((((m.set b (.cells [.ptr g 0, .v (.int .u32 cb), .v (.int .u32 cs), .v (.bool cr), .v (.bool cw), .v (.bool cx), .v (.int .u32 db), .v (.int .u32 ds), .v (.bool dr), .v (.bool dw), .v (.bool dx)] T)).set g (.cells [.mp j] T2)).set j (.bm .u32 .u8 (ansM (skPT cb cs cr cw cx db ds dr dw dx T M r0 r1 r2 r3 r4 r5 r6 r7 ip fc fp fz fs fo fd x0 x1 x2 x3 x4 x5 x6 x7 op cond size ak ar ab ai aq ad bk br bb bi bq bd c rep len) 1))) ++ []) else none
noncomputable def skRS : Ev.Spec := fun R args m k kp => match args with
  | [.ptr b 0, .agg A0, .agg A1] => (match A0 with
    | [.v (.int .u32 r0), .v (.int .u32 r1), .v (.int .u32 r2), .v (.int .u32 r3), .v (.int .u32 r4), .v (.int .u32 r5), .v (.int .u32 r6), .v (.int .u32 r7), .v (.int .u32 ip), .v (.bool fc), .v (.bool fp), .v (.bool fz), .v (.bool fs), .v (.bool fo), .v (.bool fd), .v (.int .u64 x0), .v (.int .u64 x1), .v (.int .u64 x2), .v (.int .u64 x3), .v (.int .u64 x4), .v (.int .u64 x5), .v (.int .u64 x6), .v (.int .u64 x7)] => (match A1 with
    | [.v (.int .i64 op), .v (.int .i64 cond), .v (.int .i64 size), .v (.int .i64 ak), .v (.int .i64 ar), .v (.int .i64 ab), .v (.int .i64 ai), .v (.int .i64 aq), .v (.int .u32 ad), .v (.int .i64 bk), .v (.int .i64 br), .v (.int .i64 bb), .v (.int .i64 bi), .v (.int .i64 bq), .v (.int .u32 bd), .v (.int .u32 c), .v (.bool rep), .v (.int .i64 len)] => (match m[b]? with
    | some (.cells [.ptr g 0, .v (.int .u32 cb), .v (.int .u32 cs), .v (.bool cr), .v (.bool cw), .v (.bool cx), .v (.int .u32 db), .v (.int .u32 ds), .v (.bool dr), .v (.bool dw), .v (.bool dx)] T) => (match m[g]? with
      | some (.cells [.mp j] T2) => (match m[j]? with
        | some (.bm .u32 .u8 M) => skRB R m k b g cb cs cr cw cx db ds dr dw dx T M j T2 r0 r1 r2 r3 r4 r5 r6 r7 ip fc fp fz fs fo fd x0 x1 x2 x3 x4 x5 x6 x7 op cond size ak ar ab ai aq ad bk br bb bi bq bd c rep len
        | _ => none)
      | _ => none)
    | _ => none)
    | _ => none)
    | _ => none)
  | _ => none
set_option maxHeartbeats 4000000 in
theorem skRS_ok : SpecOk Try.prog XM 50 skRS := by
  intro R args m k kp r h
  unfold skRS at h
  split at h
  · split at h
    · split at h
      · split at h
        · split at h
          · split at h
            · rename_i _ b _ r0 r1 r2 r3 r4 r5 r6 r7 ip fc fp fz fs fo fd x0 x1 x2 x3 x4 x5 x6 x7 _ op cond size ak ar ab ai aq ad bk br bb bi bq bd c rep len _ g cb cs cr cw cx db ds dr dw dx T hb _ j T2 hg _ M hj
              unfold skRB at h
              obtain ⟨hc, h⟩ := cond_some h
              rw [Bool.and_eq_true] at hc
              have hd : ¬ b = g ∧ ¬ b = j ∧ ¬ g = j := by simpa using hc.2
              exact .inl ⟨_, _, h, (callR_evT ΓSk0_ok (by kernel_rfl) (skR_ev cb cs cr cw cx db ds dr dw dx T T2 M r0 r1 r2 r3 r4 r5 r6 r7 ip fc fp fz fs fo fd x0 x1 x2 x3 x4 x5 x6 x7 op cond size ak ar ab ai aq ad bk br bb bi bq bd c rep len hc.1) rfl rfl rfl rfl).frameL [b, g, j] (by simp; exact ⟨⟨hd.1, hd.2.1⟩, hd.2.2⟩) ⟨hb, hg, hj, trivial⟩ rfl rfl rfl rfl rfl rfl rfl⟩
            · cases h
          · cases h
        · cases h
      · cases h
    · cases h
  · cases h
noncomputable def ΓSk2 : Env := ((ΓSk0.add 49 skPS).add 50 skRS)
theorem ΓSk2_ok : EnvOk Try.prog X0 ΓSk2 := ((ΓSk0_ok.add (by kernel_rfl) skPS_ok).add (by kernel_rfl) skRS_ok)
end Go.Proofs.Ytjcbgjakomalaaa
