/- The rounds of a row (47rw). -/
import Derived.Test.YtjcbgjakomalaaaEvV
import Derived.Test.YtjcbgjakomalaaaCRo3
import Derived.Test.YtjcbgjakomalaaaCRo4
import Derived.Test.YtjcbgjakomalaaaCSn
import Derived.Test.YtjcbgjakomalaaaNLoop
import Derived.Test.YtjcbgjakomalaaaNSeat2
namespace Go.Proofs.Ytjcbgjakomalaaa
open Go Go.Ev
set_option linter.unusedVariables false
set_option linter.unusedSimpArgs false
set_option maxRecDepth 100000
theorem gw_form (k0 : Sv) (k1 : Sv) (k2 : Sv) (k3 : Sv) (cb : Int) (cs : Int) (cr : Bool) (cw : Bool) (cx : Bool) (dx : Bool) (T : TypeId) (M : Int → Int) (r0 : Int) (r1 : Int) (r2 : Int) (r3 : Int) (r4 : Int) (r5 : Int) (r6 : Int) (r7 : Int) (ip : Int) (fc : Bool) (fp : Bool) (fz : Bool) (fs : Bool) (fo : Bool) (fd : Bool) (x0 : Int) (x1 : Int) (x2 : Int) (x3 : Int) (x4 : Int) (x5 : Int) (x6 : Int) (x7 : Int) (Ts : TypeId) (cond : Int) (ak : Int) (ar : Int) (ab : Int) (ai : Int) (aq : Int) (ad : Int) (bk : Int) (br : Int) (bb : Int) (bi : Int) (bq : Int) (bd : Int) (c : Int) (len : Int) (Ti : TypeId) (o0 : SObj) (o1 : SObj) (o2 : SObj) (o3 : SObj) (o4 : SObj) (o5 : SObj) (o7 : SObj) (o8 : SObj) (o9 : SObj) (o10 : SObj) (o11 : SObj) (o13 : SObj) (o16 : SObj) (o17 : SObj) (o18 : SObj) (j : Int) (g : List Sv) :
    ev Try.prog ΓSn 60 (fun _ => none) (roundOf Try.prog 11 2) (fr 120 [1, 9, 12, 13, 15, 16, 17, 19] [k0, .ptr 12 0, k1, .ptr 14 0, .ptr 15 0, k2, k3, .v (.int .i64 j)] g) [o0, o1, o2, o3, o4, o5, .ext 0 M, o7, o8, o9, o10, o11, .cells [.ptr 6 0, .v (.int .u32 cb), .v (.int .u32 cs), .v (.bool cr), .v (.bool cw), .v (.bool cx), .v (.int .u32 36864), .v (.int .u32 256), .v (.bool true), .v (.bool true), .v (.bool dx)] T, o13, .cells [.v (.int .i64 47), .v (.int .i64 cond), .v (.int .i64 4), .v (.int .i64 ak), .v (.int .i64 ar), .v (.int .i64 ab), .v (.int .i64 ai), .v (.int .i64 aq), .v (.int .u32 ad), .v (.int .i64 bk), .v (.int .i64 br), .v (.int .i64 bb), .v (.int .i64 bi), .v (.int .i64 bq), .v (.int .u32 bd), .v (.int .u32 c), .v (.bool true), .v (.int .i64 len)] Ti, .cells [.v (.int .u32 r0), .v (.int .u32 r1), .v (.int .u32 r2), .v (.int .u32 r3), .v (.int .u32 r4), .v (.int .u32 r5), .v (.int .u32 r6), .v (.int .u32 r7), .v (.int .u32 ip), .v (.bool fc), .v (.bool fp), .v (.bool fz), .v (.bool fs), .v (.bool fo), .v (.bool fd), .v (.int .u64 x0), .v (.int .u64 x1), .v (.int .u64 x2), .v (.int .u64 x3), .v (.int .u64 x4), .v (.int .u64 x5), .v (.int .u64 x6), .v (.int .u64 x7)] Ts, o16, o17, o18] (liveD [1, 9, 12, 13, 15, 16, 17, 19] 19) =
    (bif decide (j ≤ 30) then
bif
in32 r0 && (in32 r1 && (in32 r2 && (in32 r3 && (in32 r4 && (in32 r5 && (in32 r6 && (in32 r7 && true))))))) && true then
bif
ansI
(strsP47rwT cb cs cr cw cx 36864 256 true true dx T M r0 r1 r2 r3 r4 r5 r6 r7 ip fc fp fz fs fo fd x0 x1 x2 x3 x4 x5 x6
x7 cond ak ar ab ai aq ad bk br bb bi bq bd c len)
23 !=
0 then
some
(1, 120, [k0, Sv.ptr 12 0, k1, Sv.ptr 14 0, Sv.ptr 15 0, k2, k3, vi j],
[o0, o1, o2, o3, o4, o5,
SObj.ext 0
(ansM
(strsP47rwT cb cs cr cw cx 36864 256 true true dx T M r0 r1 r2 r3 r4 r5 r6 r7 ip fc fp fz fs fo fd x0 x1 x2 x3 x4 x5 x6
x7 cond ak ar ab ai aq ad bk br bb bi bq bd c len)
1),
o7, o8, o9, o10, o11,
SObj.cells
[Sv.ptr 6 0, vw cb, vw cs, vb cr,
vb cw, vb cx, vw 36864, vw 256,
vb true, vb true, vb dx]
T,
o13,
SObj.cells
[vi 47, vi cond, vi 4,
vi ak, vi ar, vi ab,
vi ai, vi aq, vw ad,
vi bk, vi br, vi bb,
vi bi, vi bq, vw bd,
vw c, vb true, vi len]
Ti,
SObj.cells
[vw r0, vw r1, vw r2,
vw r3, vw r4, vw r5,
vw r6, vw r7, vw ip, vb fc,
vb fp, vb fz, vb fs, vb fo, vb fd,
vd x0, vd x1, vd x2,
vd x3, vd x4, vd x5,
vd x6, vd x7]
Ts,
o16, o17, o18])
else
bif
ansB
(strsP47rwT cb cs cr cw cx 36864 256 true true dx T M r0 r1 r2 r3 r4 r5 r6 r7 ip fc fp fz fs fo fd x0 x1 x2 x3 x4 x5 x6
x7 cond ak ar ab ai aq ad bk br bb bi bq bd c len)
24 then
some
(4, 120, [k0, Sv.ptr 12 0, k1, Sv.ptr 14 0, Sv.ptr 15 0, k2, k3, vi j],
[o0, o1, o2, o3, o4, o5,
SObj.ext 0
(ansM
(strsP47rwT cb cs cr cw cx 36864 256 true true dx T M r0 r1 r2 r3 r4 r5 r6 r7 ip fc fp fz fs fo fd x0 x1 x2 x3 x4 x5 x6
x7 cond ak ar ab ai aq ad bk br bb bi bq bd c len)
1),
o7, o8, o9, o10, o11,
SObj.cells
[Sv.ptr 6 0, vw cb, vw cs, vb cr,
vb cw, vb cx, vw 36864, vw 256,
vb true, vb true, vb dx]
T,
o13,
SObj.cells
[vi 47, vi cond, vi 4,
vi ak, vi ar, vi ab,
vi ai, vi aq, vw ad,
vi bk, vi br, vi bb,
vi bi, vi bq, vw bd,
vw c, vb true, vi len]
Ti,
SObj.cells
[Sv.v
(Value.int IntKind.u32
(ansI
(strsP47rwT cb cs cr cw cx 36864 256 true true dx T M r0 r1 r2 r3 r4 r5 r6 r7 ip fc fp fz fs fo fd x0 x1 x2 x3 x4 x5 x6
x7 cond ak ar ab ai aq ad bk br bb bi bq bd c len)
0)),
Sv.v
(Value.int IntKind.u32
(ansI
(strsP47rwT cb cs cr cw cx 36864 256 true true dx T M r0 r1 r2 r3 r4 r5 r6 r7 ip fc fp fz fs fo fd x0 x1 x2 x3 x4 x5 x6
x7 cond ak ar ab ai aq ad bk br bb bi bq bd c len)
1)),
Sv.v
(Value.int IntKind.u32
(ansI
(strsP47rwT cb cs cr cw cx 36864 256 true true dx T M r0 r1 r2 r3 r4 r5 r6 r7 ip fc fp fz fs fo fd x0 x1 x2 x3 x4 x5 x6
x7 cond ak ar ab ai aq ad bk br bb bi bq bd c len)
2)),
Sv.v
(Value.int IntKind.u32
(ansI
(strsP47rwT cb cs cr cw cx 36864 256 true true dx T M r0 r1 r2 r3 r4 r5 r6 r7 ip fc fp fz fs fo fd x0 x1 x2 x3 x4 x5 x6
x7 cond ak ar ab ai aq ad bk br bb bi bq bd c len)
3)),
Sv.v
(Value.int IntKind.u32
(ansI
(strsP47rwT cb cs cr cw cx 36864 256 true true dx T M r0 r1 r2 r3 r4 r5 r6 r7 ip fc fp fz fs fo fd x0 x1 x2 x3 x4 x5 x6
x7 cond ak ar ab ai aq ad bk br bb bi bq bd c len)
4)),
Sv.v
(Value.int IntKind.u32
(ansI
(strsP47rwT cb cs cr cw cx 36864 256 true true dx T M r0 r1 r2 r3 r4 r5 r6 r7 ip fc fp fz fs fo fd x0 x1 x2 x3 x4 x5 x6
x7 cond ak ar ab ai aq ad bk br bb bi bq bd c len)
5)),
Sv.v
(Value.int IntKind.u32
(ansI
(strsP47rwT cb cs cr cw cx 36864 256 true true dx T M r0 r1 r2 r3 r4 r5 r6 r7 ip fc fp fz fs fo fd x0 x1 x2 x3 x4 x5 x6
x7 cond ak ar ab ai aq ad bk br bb bi bq bd c len)
6)),
Sv.v
(Value.int IntKind.u32
(ansI
(strsP47rwT cb cs cr cw cx 36864 256 true true dx T M r0 r1 r2 r3 r4 r5 r6 r7 ip fc fp fz fs fo fd x0 x1 x2 x3 x4 x5 x6
x7 cond ak ar ab ai aq ad bk br bb bi bq bd c len)
7)),
Sv.v
(Value.int IntKind.u32
(ansI
(strsP47rwT cb cs cr cw cx 36864 256 true true dx T M r0 r1 r2 r3 r4 r5 r6 r7 ip fc fp fz fs fo fd x0 x1 x2 x3 x4 x5 x6
x7 cond ak ar ab ai aq ad bk br bb bi bq bd c len)
8)),
Sv.v
(Value.bool
(ansB
(strsP47rwT cb cs cr cw cx 36864 256 true true dx T M r0 r1 r2 r3 r4 r5 r6 r7 ip fc fp fz fs fo fd x0 x1 x2 x3 x4 x5 x6
x7 cond ak ar ab ai aq ad bk br bb bi bq bd c len)
9)),
Sv.v
(Value.bool
(ansB
(strsP47rwT cb cs cr cw cx 36864 256 true true dx T M r0 r1 r2 r3 r4 r5 r6 r7 ip fc fp fz fs fo fd x0 x1 x2 x3 x4 x5 x6
x7 cond ak ar ab ai aq ad bk br bb bi bq bd c len)
10)),
Sv.v
(Value.bool
(ansB
(strsP47rwT cb cs cr cw cx 36864 256 true true dx T M r0 r1 r2 r3 r4 r5 r6 r7 ip fc fp fz fs fo fd x0 x1 x2 x3 x4 x5 x6
x7 cond ak ar ab ai aq ad bk br bb bi bq bd c len)
11)),
Sv.v
(Value.bool
(ansB
(strsP47rwT cb cs cr cw cx 36864 256 true true dx T M r0 r1 r2 r3 r4 r5 r6 r7 ip fc fp fz fs fo fd x0 x1 x2 x3 x4 x5 x6
x7 cond ak ar ab ai aq ad bk br bb bi bq bd c len)
12)),
Sv.v
(Value.bool
(ansB
(strsP47rwT cb cs cr cw cx 36864 256 true true dx T M r0 r1 r2 r3 r4 r5 r6 r7 ip fc fp fz fs fo fd x0 x1 x2 x3 x4 x5 x6
x7 cond ak ar ab ai aq ad bk br bb bi bq bd c len)
13)),
Sv.v
(Value.bool
(ansB
(strsP47rwT cb cs cr cw cx 36864 256 true true dx T M r0 r1 r2 r3 r4 r5 r6 r7 ip fc fp fz fs fo fd x0 x1 x2 x3 x4 x5 x6
x7 cond ak ar ab ai aq ad bk br bb bi bq bd c len)
14)),
Sv.v
(Value.int IntKind.u64
(ansI
(strsP47rwT cb cs cr cw cx 36864 256 true true dx T M r0 r1 r2 r3 r4 r5 r6 r7 ip fc fp fz fs fo fd x0 x1 x2 x3 x4 x5 x6
x7 cond ak ar ab ai aq ad bk br bb bi bq bd c len)
15)),
Sv.v
(Value.int IntKind.u64
(ansI
(strsP47rwT cb cs cr cw cx 36864 256 true true dx T M r0 r1 r2 r3 r4 r5 r6 r7 ip fc fp fz fs fo fd x0 x1 x2 x3 x4 x5 x6
x7 cond ak ar ab ai aq ad bk br bb bi bq bd c len)
16)),
Sv.v
(Value.int IntKind.u64
(ansI
(strsP47rwT cb cs cr cw cx 36864 256 true true dx T M r0 r1 r2 r3 r4 r5 r6 r7 ip fc fp fz fs fo fd x0 x1 x2 x3 x4 x5 x6
x7 cond ak ar ab ai aq ad bk br bb bi bq bd c len)
17)),
Sv.v
(Value.int IntKind.u64
(ansI
(strsP47rwT cb cs cr cw cx 36864 256 true true dx T M r0 r1 r2 r3 r4 r5 r6 r7 ip fc fp fz fs fo fd x0 x1 x2 x3 x4 x5 x6
x7 cond ak ar ab ai aq ad bk br bb bi bq bd c len)
18)),
Sv.v
(Value.int IntKind.u64
(ansI
(strsP47rwT cb cs cr cw cx 36864 256 true true dx T M r0 r1 r2 r3 r4 r5 r6 r7 ip fc fp fz fs fo fd x0 x1 x2 x3 x4 x5 x6
x7 cond ak ar ab ai aq ad bk br bb bi bq bd c len)
19)),
Sv.v
(Value.int IntKind.u64
(ansI
(strsP47rwT cb cs cr cw cx 36864 256 true true dx T M r0 r1 r2 r3 r4 r5 r6 r7 ip fc fp fz fs fo fd x0 x1 x2 x3 x4 x5 x6
x7 cond ak ar ab ai aq ad bk br bb bi bq bd c len)
20)),
Sv.v
(Value.int IntKind.u64
(ansI
(strsP47rwT cb cs cr cw cx 36864 256 true true dx T M r0 r1 r2 r3 r4 r5 r6 r7 ip fc fp fz fs fo fd x0 x1 x2 x3 x4 x5 x6
x7 cond ak ar ab ai aq ad bk br bb bi bq bd c len)
21)),
Sv.v
(Value.int IntKind.u64
(ansI
(strsP47rwT cb cs cr cw cx 36864 256 true true dx T M r0 r1 r2 r3 r4 r5 r6 r7 ip fc fp fz fs fo fd x0 x1 x2 x3 x4 x5 x6
x7 cond ak ar ab ai aq ad bk br bb bi bq bd c len)
22))]
Ts,
o16, o17, o18])
else
some
(0, 120,
[k0, Sv.ptr 12 0, k1, Sv.ptr 14 0, Sv.ptr 15 0, k2, k3,
vi ((IntKind.wrap IntKind.i64 (j + 1)))],
[o0, o1, o2, o3, o4, o5,
SObj.ext 0
(ansM
(strsP47rwT cb cs cr cw cx 36864 256 true true dx T M r0 r1 r2 r3 r4 r5 r6 r7 ip fc fp fz fs fo fd x0 x1 x2 x3 x4 x5 x6
x7 cond ak ar ab ai aq ad bk br bb bi bq bd c len)
1),
o7, o8, o9, o10, o11,
SObj.cells
[Sv.ptr 6 0, vw cb, vw cs, vb cr,
vb cw, vb cx, vw 36864, vw 256,
vb true, vb true, vb dx]
T,
o13,
SObj.cells
[vi 47, vi cond, vi 4,
vi ak, vi ar, vi ab,
vi ai, vi aq, vw ad,
vi bk, vi br, vi bb,
vi bi, vi bq, vw bd,
vw c, vb true, vi len]
Ti,
SObj.cells
[Sv.v
(Value.int IntKind.u32
(ansI
(strsP47rwT cb cs cr cw cx 36864 256 true true dx T M r0 r1 r2 r3 r4 r5 r6 r7 ip fc fp fz fs fo fd x0 x1 x2 x3 x4 x5 x6
x7 cond ak ar ab ai aq ad bk br bb bi bq bd c len)
0)),
Sv.v
(Value.int IntKind.u32
(ansI
(strsP47rwT cb cs cr cw cx 36864 256 true true dx T M r0 r1 r2 r3 r4 r5 r6 r7 ip fc fp fz fs fo fd x0 x1 x2 x3 x4 x5 x6
x7 cond ak ar ab ai aq ad bk br bb bi bq bd c len)
1)),
Sv.v
(Value.int IntKind.u32
(ansI
(strsP47rwT cb cs cr cw cx 36864 256 true true dx T M r0 r1 r2 r3 r4 r5 r6 r7 ip fc fp fz fs fo fd x0 x1 x2 x3 x4 x5 x6
x7 cond ak ar ab ai aq ad bk br bb bi bq bd c len)
2)),
Sv.v
(Value.int IntKind.u32
(ansI
(strsP47rwT cb cs cr cw cx 36864 256 true true dx T M r0 r1 r2 r3 r4 r5 r6 r7 ip fc fp fz fs fo fd x0 x1 x2 x3 x4 x5 x6
x7 cond ak ar ab ai aq ad bk br bb bi bq bd c len)
3)),
Sv.v
(Value.int IntKind.u32
(ansI
(strsP47rwT cb cs cr cw cx 36864 256 true true dx T M r0 r1 r2 r3 r4 r5 r6 r7 ip fc fp fz fs fo fd x0 x1 x2 x3 x4 x5 x6
x7 cond ak ar ab ai aq ad bk br bb bi bq bd c len)
4)),
Sv.v
(Value.int IntKind.u32
(ansI
(strsP47rwT cb cs cr cw cx 36864 256 true true dx T M r0 r1 r2 r3 r4 r5 r6 r7 ip fc fp fz fs fo fd x0 x1 x2 x3 x4 x5 x6
x7 cond ak ar ab ai aq ad bk br bb bi bq bd c len)
5)),
Sv.v
(Value.int IntKind.u32
(ansI
(strsP47rwT cb cs cr cw cx 36864 256 true true dx T M r0 r1 r2 r3 r4 r5 r6 r7 ip fc fp fz fs fo fd x0 x1 x2 x3 x4 x5 x6
x7 cond ak ar ab ai aq ad bk br bb bi bq bd c len)
6)),
Sv.v
(Value.int IntKind.u32
(ansI
(strsP47rwT cb cs cr cw cx 36864 256 true true dx T M r0 r1 r2 r3 r4 r5 r6 r7 ip fc fp fz fs fo fd x0 x1 x2 x3 x4 x5 x6
x7 cond ak ar ab ai aq ad bk br bb bi bq bd c len)
7)),
Sv.v
(Value.int IntKind.u32
(ansI
(strsP47rwT cb cs cr cw cx 36864 256 true true dx T M r0 r1 r2 r3 r4 r5 r6 r7 ip fc fp fz fs fo fd x0 x1 x2 x3 x4 x5 x6
x7 cond ak ar ab ai aq ad bk br bb bi bq bd c len)
8)),
Sv.v
(Value.bool
(ansB
(strsP47rwT cb cs cr cw cx 36864 256 true true dx T M r0 r1 r2 r3 r4 r5 r6 r7 ip fc fp fz fs fo fd x0 x1 x2 x3 x4 x5 x6
x7 cond ak ar ab ai aq ad bk br bb bi bq bd c len)
9)),
Sv.v
(Value.bool
(ansB
(strsP47rwT cb cs cr cw cx 36864 256 true true dx T M r0 r1 r2 r3 r4 r5 r6 r7 ip fc fp fz fs fo fd x0 x1 x2 x3 x4 x5 x6
x7 cond ak ar ab ai aq ad bk br bb bi bq bd c len)
10)),
Sv.v
(Value.bool
(ansB
(strsP47rwT cb cs cr cw cx 36864 256 true true dx T M r0 r1 r2 r3 r4 r5 r6 r7 ip fc fp fz fs fo fd x0 x1 x2 x3 x4 x5 x6
x7 cond ak ar ab ai aq ad bk br bb bi bq bd c len)
11)),
Sv.v
(Value.bool
(ansB
(strsP47rwT cb cs cr cw cx 36864 256 true true dx T M r0 r1 r2 r3 r4 r5 r6 r7 ip fc fp fz fs fo fd x0 x1 x2 x3 x4 x5 x6
x7 cond ak ar ab ai aq ad bk br bb bi bq bd c len)
12)),
Sv.v
(Value.bool
(ansB
(strsP47rwT cb cs cr cw cx 36864 256 true true dx T M r0 r1 r2 r3 r4 r5 r6 r7 ip fc fp fz fs fo fd x0 x1 x2 x3 x4 x5 x6
x7 cond ak ar ab ai aq ad bk br bb bi bq bd c len)
13)),
Sv.v
(Value.bool
(ansB
(strsP47rwT cb cs cr cw cx 36864 256 true true dx T M r0 r1 r2 r3 r4 r5 r6 r7 ip fc fp fz fs fo fd x0 x1 x2 x3 x4 x5 x6
x7 cond ak ar ab ai aq ad bk br bb bi bq bd c len)
14)),
Sv.v
(Value.int IntKind.u64
(ansI
(strsP47rwT cb cs cr cw cx 36864 256 true true dx T M r0 r1 r2 r3 r4 r5 r6 r7 ip fc fp fz fs fo fd x0 x1 x2 x3 x4 x5 x6
x7 cond ak ar ab ai aq ad bk br bb bi bq bd c len)
15)),
Sv.v
(Value.int IntKind.u64
(ansI
(strsP47rwT cb cs cr cw cx 36864 256 true true dx T M r0 r1 r2 r3 r4 r5 r6 r7 ip fc fp fz fs fo fd x0 x1 x2 x3 x4 x5 x6
x7 cond ak ar ab ai aq ad bk br bb bi bq bd c len)
16)),
Sv.v
(Value.int IntKind.u64
(ansI
(strsP47rwT cb cs cr cw cx 36864 256 true true dx T M r0 r1 r2 r3 r4 r5 r6 r7 ip fc fp fz fs fo fd x0 x1 x2 x3 x4 x5 x6
x7 cond ak ar ab ai aq ad bk br bb bi bq bd c len)
17)),
Sv.v
(Value.int IntKind.u64
(ansI
(strsP47rwT cb cs cr cw cx 36864 256 true true dx T M r0 r1 r2 r3 r4 r5 r6 r7 ip fc fp fz fs fo fd x0 x1 x2 x3 x4 x5 x6
x7 cond ak ar ab ai aq ad bk br bb bi bq bd c len)
18)),
Sv.v
(Value.int IntKind.u64
(ansI
(strsP47rwT cb cs cr cw cx 36864 256 true true dx T M r0 r1 r2 r3 r4 r5 r6 r7 ip fc fp fz fs fo fd x0 x1 x2 x3 x4 x5 x6
x7 cond ak ar ab ai aq ad bk br bb bi bq bd c len)
19)),
Sv.v
(Value.int IntKind.u64
(ansI
(strsP47rwT cb cs cr cw cx 36864 256 true true dx T M r0 r1 r2 r3 r4 r5 r6 r7 ip fc fp fz fs fo fd x0 x1 x2 x3 x4 x5 x6
x7 cond ak ar ab ai aq ad bk br bb bi bq bd c len)
20)),
Sv.v
(Value.int IntKind.u64
(ansI
(strsP47rwT cb cs cr cw cx 36864 256 true true dx T M r0 r1 r2 r3 r4 r5 r6 r7 ip fc fp fz fs fo fd x0 x1 x2 x3 x4 x5 x6
x7 cond ak ar ab ai aq ad bk br bb bi bq bd c len)
21)),
Sv.v
(Value.int IntKind.u64
(ansI
(strsP47rwT cb cs cr cw cx 36864 256 true true dx T M r0 r1 r2 r3 r4 r5 r6 r7 ip fc fp fz fs fo fd x0 x1 x2 x3 x4 x5 x6
x7 cond ak ar ab ai aq ad bk br bb bi bq bd c len)
22))]
Ts,
o16, o17, o18])
else none
else
some
(4, 120, [k0, Sv.ptr 12 0, k1, Sv.ptr 14 0, Sv.ptr 15 0, k2, k3, vi j],
[o0, o1, o2, o3, o4, o5, SObj.ext 0 M, o7, o8, o9, o10, o11,
SObj.cells
[Sv.ptr 6 0, vw cb, vw cs, vb cr,
vb cw, vb cx, vw 36864, vw 256,
vb true, vb true, vb dx]
T,
o13,
SObj.cells
[vi 47, vi cond, vi 4,
vi ak, vi ar, vi ab,
vi ai, vi aq, vw ad,
vi bk, vi br, vi bb,
vi bi, vi bq, vw bd,
vw c, vb true, vi len]
Ti,
SObj.cells
[vw r0, vw r1, vw r2,
vw r3, vw r4, vw r5,
vw r6, vw r7, vw ip, vb fc,
vb fp, vb fz, vb fs, vb fo, vb fd,
vd x0, vd x1, vd x2,
vd x3, vd x4, vd x5,
vd x6, vd x7]
Ts,
o16, o17, o18])) := by kernel_rfl
theorem gw_zero (cb cs : Int) (cr cw cx dx : Bool) (T : TypeId) (M : Int → Int) (r0 r1 r2 r3 r4 r5 r6 r7 ip : Int) (fc fp fz fs fo fd : Bool) (x0 x1 x2 x3 x4 x5 x6 x7 : Int) (cond : Int) (ak ar ab ai aq ad bk br bb bi bq bd c : Int) (len : Int) (h1 : (r1 == 0) = true) : strsP47rwT cb cs cr cw cx 36864 256 true true dx T M r0 r1 r2 r3 r4 r5 r6 r7 ip fc fp fz fs fo fd x0 x1 x2 x3 x4 x5 x6 x7 cond ak ar ab ai aq ad bk br bb bi bq bd c len = some (.tup [.agg [.v (.int .u32 r0), .v (.int .u32 r1), .v (.int .u32 r2), .v (.int .u32 r3), .v (.int .u32 r4), .v (.int .u32 r5), .v (.int .u32 r6), .v (.int .u32 r7), .v (.int .u32 ip), .v (.bool fc), .v (.bool fp), .v (.bool fz), .v (.bool fs), .v (.bool fo), .v (.bool fd), .v (.int .u64 x0), .v (.int .u64 x1), .v (.int .u64 x2), .v (.int .u64 x3), .v (.int .u64 x4), .v (.int .u64 x5), .v (.int .u64 x6), .v (.int .u64 x7)], .v (.int .i64 0), .v (.bool true)], [.cells [.ptr 1 0, .v (.int .u32 cb), .v (.int .u32 cs), .v (.bool cr), .v (.bool cw), .v (.bool cx), .v (.int .u32 36864), .v (.int .u32 256), .v (.bool true), .v (.bool true), .v (.bool dx)] T, .ext 0 M]) := by
  rw [strsP47rw_tree]
  simp only [h1, cond_true]
theorem gw_step (cb cs : Int) (cr cw cx dx : Bool) (T : TypeId) (M : Int → Int) (r0 r1 r2 r3 r4 r5 r6 r7 ip : Int) (fc fp fz fs fo fd : Bool) (x0 x1 x2 x3 x4 x5 x6 x7 : Int) (cond : Int) (ak ar ab ai aq ad bk br bb bi bq bd c : Int) (len : Int) (r1p r6p r7p : Int) (ov : Bool) (h1 : (r1 == 0) = false) (hr : in32 r1 = true) (h6 : in32 r6 = true) (h7 : in32 r7 = true) (s7 : segE 36864 256 r7 4 true = 0) (e1 : IntKind.wrap .u32 (r1 - 1) = r1p) (e6 : r6 = r6p) (e7 : onV fd r7 4 = r7p) (ho : (r1p == 0) = ov) : strsP47rwT cb cs cr cw cx 36864 256 true true dx T M r0 r1 r2 r3 r4 r5 r6 r7 ip fc fp fz fs fo fd x0 x1 x2 x3 x4 x5 x6 x7 cond ak ar ab ai aq ad bk br bb bi bq bd c len = some (.tup [.agg [.v (.int .u32 r0), .v (.int .u32 r1p), .v (.int .u32 r2), .v (.int .u32 r3), .v (.int .u32 r4), .v (.int .u32 r5), .v (.int .u32 r6p), .v (.int .u32 r7p), .v (.int .u32 ip), .v (.bool fc), .v (.bool fp), .v (.bool fz), .v (.bool fs), .v (.bool fo), .v (.bool fd), .v (.int .u64 x0), .v (.int .u64 x1), .v (.int .u64 x2), .v (.int .u64 x3), .v (.int .u64 x4), .v (.int .u64 x5), .v (.int .u64 x6), .v (.int .u64 x7)], .v (.int .i64 0), .v (.bool ov)], [.cells [.ptr 1 0, .v (.int .u32 cb), .v (.int .u32 cs), .v (.bool cr), .v (.bool cw), .v (.bool cx), .v (.int .u32 36864), .v (.int .u32 256), .v (.bool true), .v (.bool true), .v (.bool dx)] T, .ext 0 (stV M 36864 256 r7 4 (IntKind.wrap .u64 r0) true)]) := by
  have m0 : mayV true true dx 0 = true := rfl
  have m1 : mayV true true dx 1 = true := rfl
  rw [strsP47rw_tree]
  simp only [h1, h6, h7, m0, m1, stV_lo, s7, e1, ← e6, e7, ho, show in32 36864 = true from rfl, show in32 256 = true from rfl, Bool.and_self, bne_self_eq_false, cond_true, cond_false]
structure gwS where
  k0 : Sv
  k1 : Sv
  k2 : Sv
  k3 : Sv
  cb : Int
  cs : Int
  cr : Bool
  cw : Bool
  cx : Bool
  dx : Bool
  T : TypeId
  M : Int → Int
  r0 : Int
  r1 : Int
  r2 : Int
  r3 : Int
  r4 : Int
  r5 : Int
  r6 : Int
  r7 : Int
  ip : Int
  fc : Bool
  fp : Bool
  fz : Bool
  fs : Bool
  fo : Bool
  fd : Bool
  x0 : Int
  x1 : Int
  x2 : Int
  x3 : Int
  x4 : Int
  x5 : Int
  x6 : Int
  x7 : Int
  Ts : TypeId
  cond : Int
  ak : Int
  ar : Int
  ab : Int
  ai : Int
  aq : Int
  ad : Int
  bk : Int
  br : Int
  bb : Int
  bi : Int
  bq : Int
  bd : Int
  c : Int
  len : Int
  Ti : TypeId
  o0 : SObj
  o1 : SObj
  o2 : SObj
  o3 : SObj
  o4 : SObj
  o5 : SObj
  o7 : SObj
  o8 : SObj
  o9 : SObj
  o10 : SObj
  o11 : SObj
  o13 : SObj
  o16 : SObj
  o17 : SObj
  o18 : SObj
abbrev gwn (s : gwS) : Nat := toN s.r1
def gwV (s : gwS) (i : Nat) : List Sv := [s.k0, .ptr 12 0, s.k1, .ptr 14 0, .ptr 15 0, s.k2, s.k3, .v (.int .i64 (i : Int))]
def gwM (s : gwS) (i : Nat) : List SObj := [s.o0, s.o1, s.o2, s.o3, s.o4, s.o5, .ext 0 (rowMem s.M s.r7 4 s.r0 i), s.o7, s.o8, s.o9, s.o10, s.o11, .cells [.ptr 6 0, .v (.int .u32 s.cb), .v (.int .u32 s.cs), .v (.bool s.cr), .v (.bool s.cw), .v (.bool s.cx), .v (.int .u32 36864), .v (.int .u32 256), .v (.bool true), .v (.bool true), .v (.bool s.dx)] s.T, s.o13, .cells [.v (.int .i64 47), .v (.int .i64 s.cond), .v (.int .i64 4), .v (.int .i64 s.ak), .v (.int .i64 s.ar), .v (.int .i64 s.ab), .v (.int .i64 s.ai), .v (.int .i64 s.aq), .v (.int .u32 s.ad), .v (.int .i64 s.bk), .v (.int .i64 s.br), .v (.int .i64 s.bb), .v (.int .i64 s.bi), .v (.int .i64 s.bq), .v (.int .u32 s.bd), .v (.int .u32 s.c), .v (.bool true), .v (.int .i64 s.len)] s.Ti, .cells [.v (.int .u32 s.r0), .v (.int .u32 (s.r1 - (i : Int))), .v (.int .u32 s.r2), .v (.int .u32 s.r3), .v (.int .u32 s.r4), .v (.int .u32 s.r5), .v (.int .u32 s.r6), .v (.int .u32 (s.r7 + 4 * (i : Int))), .v (.int .u32 s.ip), .v (.bool s.fc), .v (.bool s.fp), .v (.bool s.fz), .v (.bool s.fs), .v (.bool s.fo), .v (.bool s.fd), .v (.int .u64 s.x0), .v (.int .u64 s.x1), .v (.int .u64 s.x2), .v (.int .u64 s.x3), .v (.int .u64 s.x4), .v (.int .u64 s.x5), .v (.int .u64 s.x6), .v (.int .u64 s.x7)] s.Ts, s.o16, s.o17, s.o18]
def gwInv (s : gwS) : Prop := (0 ≤ s.r1 ∧ s.r1 < 30) ∧ (0 ≤ s.r7 ∧ s.r7 < 100) ∧ s.fd = false ∧ (in32 s.r0 = true ∧ in32 s.r2 = true ∧ in32 s.r3 = true ∧ in32 s.r4 = true ∧ in32 s.r5 = true ∧ in32 s.r6 = true ∧ in32 s.r7 = true) ∧ clM 19 [s.o0, s.o1, s.o2, s.o3, s.o4, s.o5, s.o7, s.o8, s.o9, s.o10, s.o11, s.o13, s.o16, s.o17, s.o18] = true ∧ clL 19 [s.k0, s.k1, s.k2, s.k3] = true
def gwL : Rounds (CntS gwS) (CntS gwS) := lastL 120 [1, 9, 12, 13, 15, 16, 17, 19] gwn gwV gwM gwInv 3
set_option maxHeartbeats 2000000 in
theorem gwL_ok : gwL.OkD Try.prog ΓSn 60 (roundOf Try.prog 11 2) 19 := lastL_okD
  (fun s g i hs hi => by
    obtain ⟨h1, hC, hf, ⟨i0, i2, i3, i4, i5, i6, i7⟩, hm, hl⟩ := hs
    have q6 := i6
    have q7 : in32 (s.r7 + 4 * (i : Int)) = true := in32_iff.2 (by unfold gwn toN at *; omega)
    have z7 := seg4 (p := (s.r7 + 4 * (i : Int))) (by omega) (by unfold gwn toN at *; omega)
    rw [show ((bytesN 4 : Nat) : Int) = 4 from rfl] at z7
    have n0 : ((s.r1 - (i : Int)) == 0) = false := by simp only [beq_eq_false_iff_ne]; unfold gwn toN at *; omega
    have q1 : in32 (s.r1 - (i : Int)) = true := in32_iff.2 (by unfold gwn toN at *; omega)
    have e1 : IntKind.wrap .u32 (s.r1 - (i : Int) - 1) = s.r1 - ((i + 1 : Nat) : Int) := by rw [wr_u32_id (by unfold gwn toN at *; omega) (by omega)]; omega
    have e6 : s.r6 = s.r6 := rfl
    have e7 : onV s.fd (s.r7 + 4 * (i : Int)) 4 = s.r7 + 4 * ((i + 1 : Nat) : Int) := by rw [hf]; unfold onV; simp only [cond_false, wr_u32]; unfold gwn toN at *; omega
    have ho : ((s.r1 - ((i + 1 : Nat) : Int)) == 0) = false := by simp only [beq_eq_false_iff_ne]; unfold gwn toN at *; omega
    have j0 : decide ((i : Int) ≤ 30) = true := decide_eq_true (by unfold gwn toN at *; omega)
    have hX := gw_step s.cb s.cs s.cr s.cw s.cx s.dx s.T (rowMem s.M s.r7 4 s.r0 i) s.r0 (s.r1 - (i : Int)) s.r2 s.r3 s.r4 s.r5 s.r6 (s.r7 + 4 * (i : Int)) s.ip s.fc s.fp s.fz s.fs s.fo s.fd s.x0 s.x1 s.x2 s.x3 s.x4 s.x5 s.x6 s.x7 s.cond s.ak s.ar s.ab s.ai s.aq s.ad s.bk s.br s.bb s.bi s.bq s.bd s.c s.len (s.r1 - ((i + 1 : Nat) : Int)) s.r6 (s.r7 + 4 * ((i + 1 : Nat) : Int)) false n0 q1 q6 q7 z7 e1 e6 e7 ho
    refine (gw_form s.k0 s.k1 s.k2 s.k3 s.cb s.cs s.cr s.cw s.cx s.dx s.T (rowMem s.M s.r7 4 s.r0 i) s.r0 (s.r1 - (i : Int)) s.r2 s.r3 s.r4 s.r5 s.r6 (s.r7 + 4 * (i : Int)) s.ip s.fc s.fp s.fz s.fs s.fo s.fd s.x0 s.x1 s.x2 s.x3 s.x4 s.x5 s.x6 s.x7 s.Ts s.cond s.ak s.ar s.ab s.ai s.aq s.ad s.bk s.br s.bb s.bi s.bq s.bd s.c s.len s.Ti s.o0 s.o1 s.o2 s.o3 s.o4 s.o5 s.o7 s.o8 s.o9 s.o10 s.o11 s.o13 s.o16 s.o17 s.o18 (i : Int) g).trans ?_
    rw [hX]
    simp only [j0, i0, i2, i3, i4, i5, q1, q6, q7, cond_true, Bool.and_self, Bool.and_true]
    have w1 : IntKind.wrap .i64 ((i : Int) + 1) = ((i + 1 : Nat) : Int) := by rw [wr_i64_id (by omega) (by unfold gwn toN at *; omega)]; omega
    rw [w1]
    rfl)
  (fun s g i hs hi => by
    have hr1 := hs.1
    by_cases hz : s.r1 = 0
    · have i0' : i = 0 := by unfold gwn toN at hi; omega
      subst i0'
      have hn : gwn s = 0 := by unfold gwn toN; omega
      rw [hn]
      obtain ⟨_, hC, hf, ⟨i0, i2, i3, i4, i5, i6, i7⟩, hm, hl⟩ := hs
      have q6 : in32 s.r6 = true := by exact i6
      have q7 : in32 (s.r7 + 4 * ((0 : Nat) : Int)) = true := by rw [in32_iff]; omega
      have q1 : in32 (s.r1 - ((0 : Nat) : Int)) = true := by rw [hz]; rfl
      have j0 : decide (((0 : Nat) : Int) ≤ 30) = true := rfl
      have hX := gw_zero s.cb s.cs s.cr s.cw s.cx s.dx s.T (rowMem s.M s.r7 4 s.r0 0) s.r0 (s.r1 - ((0 : Nat) : Int)) s.r2 s.r3 s.r4 s.r5 s.r6 (s.r7 + 4 * ((0 : Nat) : Int)) s.ip s.fc s.fp s.fz s.fs s.fo s.fd s.x0 s.x1 s.x2 s.x3 s.x4 s.x5 s.x6 s.x7 s.cond s.ak s.ar s.ab s.ai s.aq s.ad s.bk s.br s.bb s.bi s.bq s.bd s.c s.len (by rw [hz]; rfl)
      refine (gw_form s.k0 s.k1 s.k2 s.k3 s.cb s.cs s.cr s.cw s.cx s.dx s.T (rowMem s.M s.r7 4 s.r0 0) s.r0 (s.r1 - ((0 : Nat) : Int)) s.r2 s.r3 s.r4 s.r5 s.r6 (s.r7 + 4 * ((0 : Nat) : Int)) s.ip s.fc s.fp s.fz s.fs s.fo s.fd s.x0 s.x1 s.x2 s.x3 s.x4 s.x5 s.x6 s.x7 s.Ts s.cond s.ak s.ar s.ab s.ai s.aq s.ad s.bk s.br s.bb s.bi s.bq s.bd s.c s.len s.Ti s.o0 s.o1 s.o2 s.o3 s.o4 s.o5 s.o7 s.o8 s.o9 s.o10 s.o11 s.o13 s.o16 s.o17 s.o18 ((0 : Nat) : Int) g).trans ?_
      rw [hX]
      simp only [j0, i0, i2, i3, i4, i5, q1, q6, q7, cond_true, Bool.and_self, Bool.and_true]
      rfl
    · have hn : gwn s = i + 1 := by unfold gwn toN at *; omega
      rw [hn]
      obtain ⟨h1, hC, hf, ⟨i0, i2, i3, i4, i5, i6, i7⟩, hm, hl⟩ := hs
      have q6 := i6
      have q7 : in32 (s.r7 + 4 * (i : Int)) = true := in32_iff.2 (by unfold gwn toN at *; omega)
      have z7 := seg4 (p := (s.r7 + 4 * (i : Int))) (by omega) (by unfold gwn toN at *; omega)
      rw [show ((bytesN 4 : Nat) : Int) = 4 from rfl] at z7
      have n0 : ((s.r1 - (i : Int)) == 0) = false := by simp only [beq_eq_false_iff_ne]; unfold gwn toN at *; omega
      have q1 : in32 (s.r1 - (i : Int)) = true := in32_iff.2 (by unfold gwn toN at *; omega)
      have e1 : IntKind.wrap .u32 (s.r1 - (i : Int) - 1) = s.r1 - ((i + 1 : Nat) : Int) := by rw [wr_u32_id (by unfold gwn toN at *; omega) (by omega)]; omega
      have e6 : s.r6 = s.r6 := rfl
      have e7 : onV s.fd (s.r7 + 4 * (i : Int)) 4 = s.r7 + 4 * ((i + 1 : Nat) : Int) := by rw [hf]; unfold onV; simp only [cond_false, wr_u32]; unfold gwn toN at *; omega
      have ho : ((s.r1 - ((i + 1 : Nat) : Int)) == 0) = true := by simp only [beq_iff_eq]; unfold gwn toN at *; omega
      have j0 : decide ((i : Int) ≤ 30) = true := decide_eq_true (by unfold gwn toN at *; omega)
      have hX := gw_step s.cb s.cs s.cr s.cw s.cx s.dx s.T (rowMem s.M s.r7 4 s.r0 i) s.r0 (s.r1 - (i : Int)) s.r2 s.r3 s.r4 s.r5 s.r6 (s.r7 + 4 * (i : Int)) s.ip s.fc s.fp s.fz s.fs s.fo s.fd s.x0 s.x1 s.x2 s.x3 s.x4 s.x5 s.x6 s.x7 s.cond s.ak s.ar s.ab s.ai s.aq s.ad s.bk s.br s.bb s.bi s.bq s.bd s.c s.len (s.r1 - ((i + 1 : Nat) : Int)) s.r6 (s.r7 + 4 * ((i + 1 : Nat) : Int)) true n0 q1 q6 q7 z7 e1 e6 e7 ho
      refine (gw_form s.k0 s.k1 s.k2 s.k3 s.cb s.cs s.cr s.cw s.cx s.dx s.T (rowMem s.M s.r7 4 s.r0 i) s.r0 (s.r1 - (i : Int)) s.r2 s.r3 s.r4 s.r5 s.r6 (s.r7 + 4 * (i : Int)) s.ip s.fc s.fp s.fz s.fs s.fo s.fd s.x0 s.x1 s.x2 s.x3 s.x4 s.x5 s.x6 s.x7 s.Ts s.cond s.ak s.ar s.ab s.ai s.aq s.ad s.bk s.br s.bb s.bi s.bq s.bd s.c s.len s.Ti s.o0 s.o1 s.o2 s.o3 s.o4 s.o5 s.o7 s.o8 s.o9 s.o10 s.o11 s.o13 s.o16 s.o17 s.o18 (i : Int) g).trans ?_
      rw [hX]
      simp only [j0, i0, i2, i3, i4, i5, q1, q6, q7, cond_true, Bool.and_self, Bool.and_true]
      rfl)
  (fun s i hs => by
    obtain ⟨_, _, _, _, hm, hl⟩ := hs
    refine ⟨rfl, ?_, ?_⟩
    · simp only [clM_cons, clM_nil, Bool.and_eq_true] at hm
      simp only [gwM, clM_cons, clM_nil, hm, clO_arr, clO_dead, clO_ext, clO_cells, clL_cons, clL_nil, clS_v, clS_ptr, Bool.and_self]; rfl
    · simp only [clL_cons, clL_nil, Bool.and_eq_true] at hl
      simp only [gwV, clL_cons, clL_nil, clS_v, clS_ptr, hl, Bool.and_self]; rfl)
def gwDec : (R : Type) → List Sv → List SObj → (gwS → Option R) → Option R := fun R l m k => match l with
  | [k0, .ptr b0 b1, k1, .ptr b2 b3, .ptr b4 b5, k2, k3, .v (.int .i64 j)] => (match m with
    | [o0, o1, o2, o3, o4, o5, W6, o7, o8, o9, o10, o11, W12, o13, W14, W15, o16, o17, o18] => (match W12 with
      | .cells [.ptr g 0, .v (.int .u32 cb), .v (.int .u32 cs), .v (.bool cr), .v (.bool cw), .v (.bool cx), .v (.int .u32 db), .v (.int .u32 ds), .v (.bool dr), .v (.bool dw), .v (.bool dx)] T => (match W6 with
        | .ext tg M => (match W14 with
          | .cells [.v (.int .i64 op), .v (.int .i64 cond), .v (.int .i64 size), .v (.int .i64 ak), .v (.int .i64 ar), .v (.int .i64 ab), .v (.int .i64 ai), .v (.int .i64 aq), .v (.int .u32 ad), .v (.int .i64 bk), .v (.int .i64 br), .v (.int .i64 bb), .v (.int .i64 bi), .v (.int .i64 bq), .v (.int .u32 bd), .v (.int .u32 c), .v (.bool rep), .v (.int .i64 len)] Ti => (match W15 with
            | .cells [.v (.int .u32 r0), .v (.int .u32 r1), .v (.int .u32 r2), .v (.int .u32 r3), .v (.int .u32 r4), .v (.int .u32 r5), .v (.int .u32 r6), .v (.int .u32 r7), .v (.int .u32 ip), .v (.bool fc), .v (.bool fp), .v (.bool fz), .v (.bool fs), .v (.bool fo), .v (.bool fd), .v (.int .u64 x0), .v (.int .u64 x1), .v (.int .u64 x2), .v (.int .u64 x3), .v (.int .u64 x4), .v (.int .u64 x5), .v (.int .u64 x6), .v (.int .u64 x7)] Ts => bif decide (0 ≤ r1) && (decide (r1 < 30) && (decide (0 ≤ r7) && (decide (r7 < 100) && (!fd && (in32 r0 && (in32 r2 && (in32 r3 && (in32 r4 && (in32 r5 && (in32 r6 && (in32 r7 && (clM 19 [o0, o1, o2, o3, o4, o5, o7, o8, o9, o10, o11, o13, o16, o17, o18] && (clL 19 [k0, k1, k2, k3] && ((j == 0) && ((db == 36864) && ((ds == 256) && (dr && (dw && ((op == 47) && ((size == 4) && (rep && (Nat.beq b0 12 && (Nat.beq b1 0 && (Nat.beq b2 14 && (Nat.beq b3 0 && (Nat.beq b4 15 && (Nat.beq b5 0 && (Nat.beq g 6 && (Nat.beq tg 0))))))))))))))))))))))))))))) then k ⟨k0, k1, k2, k3, cb, cs, cr, cw, cx, dx, T, M, r0, r1, r2, r3, r4, r5, r6, r7, ip, fc, fp, fz, fs, fo, fd, x0, x1, x2, x3, x4, x5, x6, x7, Ts, cond, ak, ar, ab, ai, aq, ad, bk, br, bb, bi, bq, bd, c, len, Ti, o0, o1, o2, o3, o4, o5, o7, o8, o9, o10, o11, o13, o16, o17, o18⟩ else none
            | _ => none)
          | _ => none)
        | _ => none)
      | _ => none)
    | _ => none)
  | _ => none
theorem gwDec_ok : ∀ (R : Type) l m (k : gwS → Option R) r, gwDec R l m k = some r → ∃ s, k s = some r ∧ l = gwV s 0 ∧ m = gwM s 0 ∧ gwInv s := by
  intro R l m k r h
  unfold gwDec at h
  split at h
  · split at h
    · split at h
      · split at h
        · split at h
          · split at h
            · obtain ⟨hg, h2⟩ := cond_some h
              clear h
              simp only [Bool.and_eq_true, beq_iff_eq, decide_eq_true_eq, natB, Bool.not_eq_true'] at hg
              obtain ⟨a0, a1, d0, d1, hf, i0, i1, i2, i3, i4, i5, i6, hm, hl, rfl, rfl, rfl, rfl, rfl, rfl, rfl, rfl, rfl, rfl, rfl, rfl, rfl, rfl, rfl, rfl⟩ := hg
              have z1 : ∀ x : Int, x - ((0 : Nat) : Int) = x := fun x => by omega
              have z2 : ∀ x : Int, x + 4 * ((0 : Nat) : Int) = x := fun x => by omega
              refine ⟨_, h2, rfl, ?_, ⟨a0, a1⟩, ⟨d0, d1⟩, hf, ⟨i0, i1, i2, i3, i4, i5, i6⟩, hm, hl⟩
              simp only [gwM, z1, z2, aI_zero]
              rfl
            · cases h
          · cases h
        · cases h
      · cases h
    · cases h
  · cases h
noncomputable def gwH : Hook := lastHook Try.prog X0 gwL gwn 2 (roundOf Try.prog 11 2) gwDec
theorem gwH_ok : HookOk Try.prog X0 (.block 2 (.loop (roundOf Try.prog 11 2))) gwH := lastHook_ok ΓSn_ok gwL_ok gwDec_ok
def selF (t : List Sv) (m : List SObj) : Bool := match nth t 12 with
  | .v (.int .i64 x) => x == 1
  | _ => false
noncomputable def ΓRo5 : Env := (ΓSn.hook 11 0 (orHook selF faH fwH)).hook 11 2 (orHook selF gaH gwH)
theorem ΓRo5_ok : EnvOk Try.prog X0 ΓRo5 := (ΓSn_ok.hook (a := .loop (roundOf Try.prog 11 0)) (by kernel_rfl) (orHook_ok faH_ok fwH_ok)).hook (a := .loop (roundOf Try.prog 11 2)) (by kernel_rfl) (orHook_ok gaH_ok gwH_ok)
end Go.Proofs.Ytjcbgjakomalaaa
