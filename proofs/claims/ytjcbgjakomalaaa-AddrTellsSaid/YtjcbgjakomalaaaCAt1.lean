/- Sizes, one by one (AddrTells). -/
import Derived.Test.YtjcbgjakomalaaaEvV
import Derived.Test.YtjcbgjakomalaaaCAd3
import Derived.Test.YtjcbgjakomalaaaNLoop
namespace Go.Proofs.Ytjcbgjakomalaaa
open Go Go.Ev
set_option linter.unusedVariables false
set_option linter.unusedSimpArgs false
set_option maxRecDepth 100000
theorem at1_form (k0 : Sv) (k1 : Sv) (k2 : Sv) (k3 : Sv) (v : Int) (k : Int) (r0 : Int) (r1 : Int) (r2 : Int) (r3 : Int) (r4 : Int) (r5 : Int) (r6 : Int) (r7 : Int) (ip : Int) (fc : Bool) (fp : Bool) (fz : Bool) (fs : Bool) (fo : Bool) (fd : Bool) (x0 : Int) (x1 : Int) (x2 : Int) (x3 : Int) (x4 : Int) (x5 : Int) (x6 : Int) (x7 : Int) (Ts : TypeId) (ak : Int) (ar : Int) (ab : Int) (ai : Int) (aq : Int) (ad : Int) (Tx : TypeId) (z0 : Int) (z1 : Int) (z2 : Int) (z3 : Int) (z4 : Int) (Tz : TypeId) (o1 : SObj) (o2 : SObj) (o3 : SObj) (o4 : SObj) (o5 : SObj) (o6 : SObj) (o7 : SObj) (j : Int) (g : List Sv) :
    ev Try.prog ΓAd2 60 (fun _ => none) (roundOf Try.prog 7 2) (fr 151 [6, 7, 8, 9, 22, 61, 62, 63, 68, 69, 70] [k0, .v (.int .u64 v), .v (.int .u32 k), .ptr 0 0, .ptr 8 0, k1, k2, k3, .sl 9 0 5 5, .v (.int .i64 5), .v (.int .i64 j)] g) [.cells [.v (.int .u32 r0), .v (.int .u32 r1), .v (.int .u32 r2), .v (.int .u32 r3), .v (.int .u32 r4), .v (.int .u32 r5), .v (.int .u32 r6), .v (.int .u32 r7), .v (.int .u32 ip), .v (.bool fc), .v (.bool fp), .v (.bool fz), .v (.bool fs), .v (.bool fo), .v (.bool fd), .v (.int .u64 x0), .v (.int .u64 x1), .v (.int .u64 x2), .v (.int .u64 x3), .v (.int .u64 x4), .v (.int .u64 x5), .v (.int .u64 x6), .v (.int .u64 x7)] Ts, o1, o2, o3, o4, o5, o6, o7, .cells [.v (.int .i64 ak), .v (.int .i64 ar), .v (.int .i64 ab), .v (.int .i64 ai), .v (.int .i64 aq), .v (.int .u32 ad)] Tx, .cells [.v (.int .i64 z0), .v (.int .i64 z1), .v (.int .i64 z2), .v (.int .i64 z3), .v (.int .i64 z4)] Tz] (liveD [6, 7, 8, 9, 22, 61, 62, 63, 68, 69, 70] 10) =
    (bif decide (j < 5) then
bif decide (0 ≤ j) && decide (j < 5) then
bif ak == 3 then
bif in32 ad then
bif ofV ab ai aq ad [r0, r1, r2, r3, r4, r5, r6, r7] != ofV ab ai aq ad [r0, r1, r2, r3, r4, r5, r6, r7] then
some
(1, 151,
[k0, vd v, vw k, Sv.ptr 0 0, Sv.ptr 8 0, k1, k2, k3, Sv.sl 9 0 5 5,
vi 5, vi j],
[SObj.cells
[vw r0, vw r1, vw r2,
vw r3, vw r4, vw r5,
vw r6, vw r7, vw ip, vb fc,
vb fp, vb fz, vb fs, vb fo, vb fd,
vd x0, vd x1, vd x2,
vd x3, vd x4, vd x5,
vd x6, vd x7]
Ts,
o1, o2, o3, o4, o5, o6, o7,
SObj.cells
[vi ak, vi ar, vi ab,
vi ai, vi aq, vw ad]
Tx,
SObj.cells
[vi z0, vi z1, vi z2,
vi z3, vi z4]
Tz])
else
bif
in32 r0 &&
(in32 r1 && (in32 r2 && (in32 r3 && (in32 r4 && (in32 r5 && (in32 r6 && (in32 r7 && (in32 ad && true)))))))) &&
!10 + 12 == 10 + 6 then
bif
in32 r0 &&
(in32 r1 && (in32 r2 && (in32 r3 && (in32 r4 && (in32 r5 && (in32 r6 && (in32 r7 && (in32 ad && true)))))))) &&
(!10 + 5 == 10 + 1 && (!10 + 5 == 10 && !10 + 1 == 10)) then
bif
in32 r0 &&
(in32 r1 &&
(in32 r2 &&
(in32 r3 && (in32 r4 && (in32 r5 && (in32 r6 && (in32 r7 && (in32 ad && (true && (true && in64 v)))))))))) &&
!10 + 12 == 10 + 6 then
bif
in32 r0 &&
(in32 r1 &&
(in32 r2 &&
(in32 r3 && (in32 r4 && (in32 r5 && (in32 r6 && (in32 r7 && (in32 ad && (true && (true && in64 v)))))))))) &&
(!10 + 5 == 10 + 1 && (!10 + 5 == 10 && !10 + 1 == 10)) then
bif
ansI
(ldPT 16384 4096 false false true 36864 256 true true false 103
(wrM (fun x => 0) 36864 (rowF (fun x => 0) (fillB k) 256) 256) r0 r1 r2 r3 r4 r5 r6 r7 ip fc fp fz fs fo fd x0 x1 x2 x3
x4 x5 x6 x7 ak ar ab ai aq ad (selL j 0 [z0, z1, z2, z3, z4]))
0 !=
ansI
(ldPT 16384 4096 false false true 36864 256 true true false 82
(wrM (fun x => 0) 36864 (rowF (fun x => 0) (fillB k) 256) 256) r0 r1 r2 r3 r4 r5 r6 r7 ip fc fp fz fs fo fd x0 x1 x2 x3
x4 x5 x6 x7 ak ar ab ai aq ad (selL j 0 [z0, z1, z2, z3, z4]))
0 then
some
(1, 151,
[k0, vd v, vw k, Sv.ptr 0 0, Sv.ptr 8 0, k1, k2, k3, Sv.sl 9 0 5 5,
vi 5, vi j],
[SObj.cells
[vw r0, vw r1, vw r2,
vw r3, vw r4, vw r5,
vw r6, vw r7, vw ip, vb fc,
vb fp, vb fz, vb fs, vb fo, vb fd,
vd x0, vd x1, vd x2,
vd x3, vd x4, vd x5,
vd x6, vd x7]
Ts,
o1, o2, o3, o4, o5, o6, o7,
SObj.cells
[vi ak, vi ar, vi ab,
vi ai, vi aq, vw ad]
Tx,
SObj.cells
[vi z0, vi z1, vi z2,
vi z3, vi z4]
Tz])
else
bif
ansI
(ldPT 16384 4096 false false true 36864 256 true true false 103
(wrM (fun x => 0) 36864 (rowF (fun x => 0) (fillB k) 256) 256) r0 r1 r2 r3 r4 r5 r6 r7 ip fc fp fz fs fo fd x0 x1 x2 x3
x4 x5 x6 x7 ak ar ab ai aq ad (selL j 0 [z0, z1, z2, z3, z4]))
1 !=
ansI
(ldPT 16384 4096 false false true 36864 256 true true false 82
(wrM (fun x => 0) 36864 (rowF (fun x => 0) (fillB k) 256) 256) r0 r1 r2 r3 r4 r5 r6 r7 ip fc fp fz fs fo fd x0 x1 x2 x3
x4 x5 x6 x7 ak ar ab ai aq ad (selL j 0 [z0, z1, z2, z3, z4]))
1 then
some
(1, 151,
[k0, vd v, vw k, Sv.ptr 0 0, Sv.ptr 8 0, k1, k2, k3, Sv.sl 9 0 5 5,
vi 5, vi j],
[SObj.cells
[vw r0, vw r1, vw r2,
vw r3, vw r4, vw r5,
vw r6, vw r7, vw ip, vb fc,
vb fp, vb fz, vb fs, vb fo, vb fd,
vd x0, vd x1, vd x2,
vd x3, vd x4, vd x5,
vd x6, vd x7]
Ts,
o1, o2, o3, o4, o5, o6, o7,
SObj.cells
[vi ak, vi ar, vi ab,
vi ai, vi aq, vw ad]
Tx,
SObj.cells
[vi z0, vi z1, vi z2,
vi z3, vi z4]
Tz])
else
bif
!(ansI
(stPT 16384 4096 false false true 36864 256 true true false 103
(wrM (fun x => 0) 36864 (rowF (fun x => 0) (fillB k) 256) 256) r0 r1 r2 r3 r4 r5 r6 r7 ip fc fp fz fs fo fd x0 x1 x2 x3
x4 x5 x6 x7 ak ar ab ai aq ad (selL j 0 [z0, z1, z2, z3, z4]) v)
0 ==
ansI
(stPT 16384 4096 false false true 36864 256 true true false 82
(wrM (fun x => 0) 36864 (rowF (fun x => 0) (fillB k) 256) 256) r0 r1 r2 r3 r4 r5 r6 r7 ip fc fp fz fs fo fd x0 x1 x2 x3
x4 x5 x6 x7 ak ar ab ai aq ad (selL j 0 [z0, z1, z2, z3, z4]) v)
0 &&
(ansI
(stPT 16384 4096 false false true 36864 256 true true false 103
(wrM (fun x => 0) 36864 (rowF (fun x => 0) (fillB k) 256) 256) r0 r1 r2 r3 r4 r5 r6 r7 ip fc fp fz fs fo fd x0 x1 x2 x3
x4 x5 x6 x7 ak ar ab ai aq ad (selL j 0 [z0, z1, z2, z3, z4]) v)
1 ==
ansI
(stPT 16384 4096 false false true 36864 256 true true false 82
(wrM (fun x => 0) 36864 (rowF (fun x => 0) (fillB k) 256) 256) r0 r1 r2 r3 r4 r5 r6 r7 ip fc fp fz fs fo fd x0 x1 x2 x3
x4 x5 x6 x7 ak ar ab ai aq ad (selL j 0 [z0, z1, z2, z3, z4]) v)
1 &&
(ansI
(stPT 16384 4096 false false true 36864 256 true true false 103
(wrM (fun x => 0) 36864 (rowF (fun x => 0) (fillB k) 256) 256) r0 r1 r2 r3 r4 r5 r6 r7 ip fc fp fz fs fo fd x0 x1 x2 x3
x4 x5 x6 x7 ak ar ab ai aq ad (selL j 0 [z0, z1, z2, z3, z4]) v)
2 ==
ansI
(stPT 16384 4096 false false true 36864 256 true true false 82
(wrM (fun x => 0) 36864 (rowF (fun x => 0) (fillB k) 256) 256) r0 r1 r2 r3 r4 r5 r6 r7 ip fc fp fz fs fo fd x0 x1 x2 x3
x4 x5 x6 x7 ak ar ab ai aq ad (selL j 0 [z0, z1, z2, z3, z4]) v)
2 &&
(ansI
(stPT 16384 4096 false false true 36864 256 true true false 103
(wrM (fun x => 0) 36864 (rowF (fun x => 0) (fillB k) 256) 256) r0 r1 r2 r3 r4 r5 r6 r7 ip fc fp fz fs fo fd x0 x1 x2 x3
x4 x5 x6 x7 ak ar ab ai aq ad (selL j 0 [z0, z1, z2, z3, z4]) v)
3 ==
ansI
(stPT 16384 4096 false false true 36864 256 true true false 82
(wrM (fun x => 0) 36864 (rowF (fun x => 0) (fillB k) 256) 256) r0 r1 r2 r3 r4 r5 r6 r7 ip fc fp fz fs fo fd x0 x1 x2 x3
x4 x5 x6 x7 ak ar ab ai aq ad (selL j 0 [z0, z1, z2, z3, z4]) v)
3 &&
(ansI
(stPT 16384 4096 false false true 36864 256 true true false 103
(wrM (fun x => 0) 36864 (rowF (fun x => 0) (fillB k) 256) 256) r0 r1 r2 r3 r4 r5 r6 r7 ip fc fp fz fs fo fd x0 x1 x2 x3
x4 x5 x6 x7 ak ar ab ai aq ad (selL j 0 [z0, z1, z2, z3, z4]) v)
4 ==
ansI
(stPT 16384 4096 false false true 36864 256 true true false 82
(wrM (fun x => 0) 36864 (rowF (fun x => 0) (fillB k) 256) 256) r0 r1 r2 r3 r4 r5 r6 r7 ip fc fp fz fs fo fd x0 x1 x2 x3
x4 x5 x6 x7 ak ar ab ai aq ad (selL j 0 [z0, z1, z2, z3, z4]) v)
4 &&
(ansI
(stPT 16384 4096 false false true 36864 256 true true false 103
(wrM (fun x => 0) 36864 (rowF (fun x => 0) (fillB k) 256) 256) r0 r1 r2 r3 r4 r5 r6 r7 ip fc fp fz fs fo fd x0 x1 x2 x3
x4 x5 x6 x7 ak ar ab ai aq ad (selL j 0 [z0, z1, z2, z3, z4]) v)
5 ==
ansI
(stPT 16384 4096 false false true 36864 256 true true false 82
(wrM (fun x => 0) 36864 (rowF (fun x => 0) (fillB k) 256) 256) r0 r1 r2 r3 r4 r5 r6 r7 ip fc fp fz fs fo fd x0 x1 x2 x3
x4 x5 x6 x7 ak ar ab ai aq ad (selL j 0 [z0, z1, z2, z3, z4]) v)
5 &&
(ansI
(stPT 16384 4096 false false true 36864 256 true true false 103
(wrM (fun x => 0) 36864 (rowF (fun x => 0) (fillB k) 256) 256) r0 r1 r2 r3 r4 r5 r6 r7 ip fc fp fz fs fo fd x0 x1 x2 x3
x4 x5 x6 x7 ak ar ab ai aq ad (selL j 0 [z0, z1, z2, z3, z4]) v)
6 ==
ansI
(stPT 16384 4096 false false true 36864 256 true true false 82
(wrM (fun x => 0) 36864 (rowF (fun x => 0) (fillB k) 256) 256) r0 r1 r2 r3 r4 r5 r6 r7 ip fc fp fz fs fo fd x0 x1 x2 x3
x4 x5 x6 x7 ak ar ab ai aq ad (selL j 0 [z0, z1, z2, z3, z4]) v)
6 &&
(ansI
(stPT 16384 4096 false false true 36864 256 true true false 103
(wrM (fun x => 0) 36864 (rowF (fun x => 0) (fillB k) 256) 256) r0 r1 r2 r3 r4 r5 r6 r7 ip fc fp fz fs fo fd x0 x1 x2 x3
x4 x5 x6 x7 ak ar ab ai aq ad (selL j 0 [z0, z1, z2, z3, z4]) v)
7 ==
ansI
(stPT 16384 4096 false false true 36864 256 true true false 82
(wrM (fun x => 0) 36864 (rowF (fun x => 0) (fillB k) 256) 256) r0 r1 r2 r3 r4 r5 r6 r7 ip fc fp fz fs fo fd x0 x1 x2 x3
x4 x5 x6 x7 ak ar ab ai aq ad (selL j 0 [z0, z1, z2, z3, z4]) v)
7 &&
true))))))) &&
(ansI
(stPT 16384 4096 false false true 36864 256 true true false 103
(wrM (fun x => 0) 36864 (rowF (fun x => 0) (fillB k) 256) 256) r0 r1 r2 r3 r4 r5 r6 r7 ip fc fp fz fs fo fd x0 x1 x2 x3
x4 x5 x6 x7 ak ar ab ai aq ad (selL j 0 [z0, z1, z2, z3, z4]) v)
8 ==
ansI
(stPT 16384 4096 false false true 36864 256 true true false 82
(wrM (fun x => 0) 36864 (rowF (fun x => 0) (fillB k) 256) 256) r0 r1 r2 r3 r4 r5 r6 r7 ip fc fp fz fs fo fd x0 x1 x2 x3
x4 x5 x6 x7 ak ar ab ai aq ad (selL j 0 [z0, z1, z2, z3, z4]) v)
8 &&
(ansB
(stPT 16384 4096 false false true 36864 256 true true false 103
(wrM (fun x => 0) 36864 (rowF (fun x => 0) (fillB k) 256) 256) r0 r1 r2 r3 r4 r5 r6 r7 ip fc fp fz fs fo fd x0 x1 x2 x3
x4 x5 x6 x7 ak ar ab ai aq ad (selL j 0 [z0, z1, z2, z3, z4]) v)
9 ==
ansB
(stPT 16384 4096 false false true 36864 256 true true false 82
(wrM (fun x => 0) 36864 (rowF (fun x => 0) (fillB k) 256) 256) r0 r1 r2 r3 r4 r5 r6 r7 ip fc fp fz fs fo fd x0 x1 x2 x3
x4 x5 x6 x7 ak ar ab ai aq ad (selL j 0 [z0, z1, z2, z3, z4]) v)
9 &&
(ansB
(stPT 16384 4096 false false true 36864 256 true true false 103
(wrM (fun x => 0) 36864 (rowF (fun x => 0) (fillB k) 256) 256) r0 r1 r2 r3 r4 r5 r6 r7 ip fc fp fz fs fo fd x0 x1 x2 x3
x4 x5 x6 x7 ak ar ab ai aq ad (selL j 0 [z0, z1, z2, z3, z4]) v)
10 ==
ansB
(stPT 16384 4096 false false true 36864 256 true true false 82
(wrM (fun x => 0) 36864 (rowF (fun x => 0) (fillB k) 256) 256) r0 r1 r2 r3 r4 r5 r6 r7 ip fc fp fz fs fo fd x0 x1 x2 x3
x4 x5 x6 x7 ak ar ab ai aq ad (selL j 0 [z0, z1, z2, z3, z4]) v)
10 &&
(ansB
(stPT 16384 4096 false false true 36864 256 true true false 103
(wrM (fun x => 0) 36864 (rowF (fun x => 0) (fillB k) 256) 256) r0 r1 r2 r3 r4 r5 r6 r7 ip fc fp fz fs fo fd x0 x1 x2 x3
x4 x5 x6 x7 ak ar ab ai aq ad (selL j 0 [z0, z1, z2, z3, z4]) v)
11 ==
ansB
(stPT 16384 4096 false false true 36864 256 true true false 82
(wrM (fun x => 0) 36864 (rowF (fun x => 0) (fillB k) 256) 256) r0 r1 r2 r3 r4 r5 r6 r7 ip fc fp fz fs fo fd x0 x1 x2 x3
x4 x5 x6 x7 ak ar ab ai aq ad (selL j 0 [z0, z1, z2, z3, z4]) v)
11 &&
(ansB
(stPT 16384 4096 false false true 36864 256 true true false 103
(wrM (fun x => 0) 36864 (rowF (fun x => 0) (fillB k) 256) 256) r0 r1 r2 r3 r4 r5 r6 r7 ip fc fp fz fs fo fd x0 x1 x2 x3
x4 x5 x6 x7 ak ar ab ai aq ad (selL j 0 [z0, z1, z2, z3, z4]) v)
12 ==
ansB
(stPT 16384 4096 false false true 36864 256 true true false 82
(wrM (fun x => 0) 36864 (rowF (fun x => 0) (fillB k) 256) 256) r0 r1 r2 r3 r4 r5 r6 r7 ip fc fp fz fs fo fd x0 x1 x2 x3
x4 x5 x6 x7 ak ar ab ai aq ad (selL j 0 [z0, z1, z2, z3, z4]) v)
12 &&
(ansB
(stPT 16384 4096 false false true 36864 256 true true false 103
(wrM (fun x => 0) 36864 (rowF (fun x => 0) (fillB k) 256) 256) r0 r1 r2 r3 r4 r5 r6 r7 ip fc fp fz fs fo fd x0 x1 x2 x3
x4 x5 x6 x7 ak ar ab ai aq ad (selL j 0 [z0, z1, z2, z3, z4]) v)
13 ==
ansB
(stPT 16384 4096 false false true 36864 256 true true false 82
(wrM (fun x => 0) 36864 (rowF (fun x => 0) (fillB k) 256) 256) r0 r1 r2 r3 r4 r5 r6 r7 ip fc fp fz fs fo fd x0 x1 x2 x3
x4 x5 x6 x7 ak ar ab ai aq ad (selL j 0 [z0, z1, z2, z3, z4]) v)
13 &&
(ansB
(stPT 16384 4096 false false true 36864 256 true true false 103
(wrM (fun x => 0) 36864 (rowF (fun x => 0) (fillB k) 256) 256) r0 r1 r2 r3 r4 r5 r6 r7 ip fc fp fz fs fo fd x0 x1 x2 x3
x4 x5 x6 x7 ak ar ab ai aq ad (selL j 0 [z0, z1, z2, z3, z4]) v)
14 ==
ansB
(stPT 16384 4096 false false true 36864 256 true true false 82
(wrM (fun x => 0) 36864 (rowF (fun x => 0) (fillB k) 256) 256) r0 r1 r2 r3 r4 r5 r6 r7 ip fc fp fz fs fo fd x0 x1 x2 x3
x4 x5 x6 x7 ak ar ab ai aq ad (selL j 0 [z0, z1, z2, z3, z4]) v)
14 &&
true))))) &&
(ansI
(stPT 16384 4096 false false true 36864 256 true true false 103
(wrM (fun x => 0) 36864 (rowF (fun x => 0) (fillB k) 256) 256) r0 r1 r2 r3 r4 r5 r6 r7 ip fc fp fz fs fo fd x0 x1 x2 x3
x4 x5 x6 x7 ak ar ab ai aq ad (selL j 0 [z0, z1, z2, z3, z4]) v)
15 ==
ansI
(stPT 16384 4096 false false true 36864 256 true true false 82
(wrM (fun x => 0) 36864 (rowF (fun x => 0) (fillB k) 256) 256) r0 r1 r2 r3 r4 r5 r6 r7 ip fc fp fz fs fo fd x0 x1 x2 x3
x4 x5 x6 x7 ak ar ab ai aq ad (selL j 0 [z0, z1, z2, z3, z4]) v)
15 &&
(ansI
(stPT 16384 4096 false false true 36864 256 true true false 103
(wrM (fun x => 0) 36864 (rowF (fun x => 0) (fillB k) 256) 256) r0 r1 r2 r3 r4 r5 r6 r7 ip fc fp fz fs fo fd x0 x1 x2 x3
x4 x5 x6 x7 ak ar ab ai aq ad (selL j 0 [z0, z1, z2, z3, z4]) v)
16 ==
ansI
(stPT 16384 4096 false false true 36864 256 true true false 82
(wrM (fun x => 0) 36864 (rowF (fun x => 0) (fillB k) 256) 256) r0 r1 r2 r3 r4 r5 r6 r7 ip fc fp fz fs fo fd x0 x1 x2 x3
x4 x5 x6 x7 ak ar ab ai aq ad (selL j 0 [z0, z1, z2, z3, z4]) v)
16 &&
(ansI
(stPT 16384 4096 false false true 36864 256 true true false 103
(wrM (fun x => 0) 36864 (rowF (fun x => 0) (fillB k) 256) 256) r0 r1 r2 r3 r4 r5 r6 r7 ip fc fp fz fs fo fd x0 x1 x2 x3
x4 x5 x6 x7 ak ar ab ai aq ad (selL j 0 [z0, z1, z2, z3, z4]) v)
17 ==
ansI
(stPT 16384 4096 false false true 36864 256 true true false 82
(wrM (fun x => 0) 36864 (rowF (fun x => 0) (fillB k) 256) 256) r0 r1 r2 r3 r4 r5 r6 r7 ip fc fp fz fs fo fd x0 x1 x2 x3
x4 x5 x6 x7 ak ar ab ai aq ad (selL j 0 [z0, z1, z2, z3, z4]) v)
17 &&
(ansI
(stPT 16384 4096 false false true 36864 256 true true false 103
(wrM (fun x => 0) 36864 (rowF (fun x => 0) (fillB k) 256) 256) r0 r1 r2 r3 r4 r5 r6 r7 ip fc fp fz fs fo fd x0 x1 x2 x3
x4 x5 x6 x7 ak ar ab ai aq ad (selL j 0 [z0, z1, z2, z3, z4]) v)
18 ==
ansI
(stPT 16384 4096 false false true 36864 256 true true false 82
(wrM (fun x => 0) 36864 (rowF (fun x => 0) (fillB k) 256) 256) r0 r1 r2 r3 r4 r5 r6 r7 ip fc fp fz fs fo fd x0 x1 x2 x3
x4 x5 x6 x7 ak ar ab ai aq ad (selL j 0 [z0, z1, z2, z3, z4]) v)
18 &&
(ansI
(stPT 16384 4096 false false true 36864 256 true true false 103
(wrM (fun x => 0) 36864 (rowF (fun x => 0) (fillB k) 256) 256) r0 r1 r2 r3 r4 r5 r6 r7 ip fc fp fz fs fo fd x0 x1 x2 x3
x4 x5 x6 x7 ak ar ab ai aq ad (selL j 0 [z0, z1, z2, z3, z4]) v)
19 ==
ansI
(stPT 16384 4096 false false true 36864 256 true true false 82
(wrM (fun x => 0) 36864 (rowF (fun x => 0) (fillB k) 256) 256) r0 r1 r2 r3 r4 r5 r6 r7 ip fc fp fz fs fo fd x0 x1 x2 x3
x4 x5 x6 x7 ak ar ab ai aq ad (selL j 0 [z0, z1, z2, z3, z4]) v)
19 &&
(ansI
(stPT 16384 4096 false false true 36864 256 true true false 103
(wrM (fun x => 0) 36864 (rowF (fun x => 0) (fillB k) 256) 256) r0 r1 r2 r3 r4 r5 r6 r7 ip fc fp fz fs fo fd x0 x1 x2 x3
x4 x5 x6 x7 ak ar ab ai aq ad (selL j 0 [z0, z1, z2, z3, z4]) v)
20 ==
ansI
(stPT 16384 4096 false false true 36864 256 true true false 82
(wrM (fun x => 0) 36864 (rowF (fun x => 0) (fillB k) 256) 256) r0 r1 r2 r3 r4 r5 r6 r7 ip fc fp fz fs fo fd x0 x1 x2 x3
x4 x5 x6 x7 ak ar ab ai aq ad (selL j 0 [z0, z1, z2, z3, z4]) v)
20 &&
(ansI
(stPT 16384 4096 false false true 36864 256 true true false 103
(wrM (fun x => 0) 36864 (rowF (fun x => 0) (fillB k) 256) 256) r0 r1 r2 r3 r4 r5 r6 r7 ip fc fp fz fs fo fd x0 x1 x2 x3
x4 x5 x6 x7 ak ar ab ai aq ad (selL j 0 [z0, z1, z2, z3, z4]) v)
21 ==
ansI
(stPT 16384 4096 false false true 36864 256 true true false 82
(wrM (fun x => 0) 36864 (rowF (fun x => 0) (fillB k) 256) 256) r0 r1 r2 r3 r4 r5 r6 r7 ip fc fp fz fs fo fd x0 x1 x2 x3
x4 x5 x6 x7 ak ar ab ai aq ad (selL j 0 [z0, z1, z2, z3, z4]) v)
21 &&
(ansI
(stPT 16384 4096 false false true 36864 256 true true false 103
(wrM (fun x => 0) 36864 (rowF (fun x => 0) (fillB k) 256) 256) r0 r1 r2 r3 r4 r5 r6 r7 ip fc fp fz fs fo fd x0 x1 x2 x3
x4 x5 x6 x7 ak ar ab ai aq ad (selL j 0 [z0, z1, z2, z3, z4]) v)
22 ==
ansI
(stPT 16384 4096 false false true 36864 256 true true false 82
(wrM (fun x => 0) 36864 (rowF (fun x => 0) (fillB k) 256) 256) r0 r1 r2 r3 r4 r5 r6 r7 ip fc fp fz fs fo fd x0 x1 x2 x3
x4 x5 x6 x7 ak ar ab ai aq ad (selL j 0 [z0, z1, z2, z3, z4]) v)
22 &&
true))))))) &&
true)))) then
some
(1, 151,
[k0, vd v, vw k, Sv.ptr 0 0, Sv.ptr 8 0, k1, k2, k3, Sv.sl 9 0 5 5,
vi 5, vi j],
[SObj.cells
[vw r0, vw r1, vw r2,
vw r3, vw r4, vw r5,
vw r6, vw r7, vw ip, vb fc,
vb fp, vb fz, vb fs, vb fo, vb fd,
vd x0, vd x1, vd x2,
vd x3, vd x4, vd x5,
vd x6, vd x7]
Ts,
o1, o2, o3, o4, o5, o6, o7,
SObj.cells
[vi ak, vi ar, vi ab,
vi ai, vi aq, vw ad]
Tx,
SObj.cells
[vi z0, vi z1, vi z2,
vi z3, vi z4]
Tz])
else
bif
ansI
(stPT 16384 4096 false false true 36864 256 true true false 103
(wrM (fun x => 0) 36864 (rowF (fun x => 0) (fillB k) 256) 256) r0 r1 r2 r3 r4 r5 r6 r7 ip fc fp fz fs fo fd x0 x1 x2 x3
x4 x5 x6 x7 ak ar ab ai aq ad (selL j 0 [z0, z1, z2, z3, z4]) v)
23 !=
ansI
(stPT 16384 4096 false false true 36864 256 true true false 82
(wrM (fun x => 0) 36864 (rowF (fun x => 0) (fillB k) 256) 256) r0 r1 r2 r3 r4 r5 r6 r7 ip fc fp fz fs fo fd x0 x1 x2 x3
x4 x5 x6 x7 ak ar ab ai aq ad (selL j 0 [z0, z1, z2, z3, z4]) v)
23 then
some
(1, 151,
[k0, vd v, vw k, Sv.ptr 0 0, Sv.ptr 8 0, k1, k2, k3, Sv.sl 9 0 5 5,
vi 5, vi j],
[SObj.cells
[vw r0, vw r1, vw r2,
vw r3, vw r4, vw r5,
vw r6, vw r7, vw ip, vb fc,
vb fp, vb fz, vb fs, vb fo, vb fd,
vd x0, vd x1, vd x2,
vd x3, vd x4, vd x5,
vd x6, vd x7]
Ts,
o1, o2, o3, o4, o5, o6, o7,
SObj.cells
[vi ak, vi ar, vi ab,
vi ai, vi aq, vw ad]
Tx,
SObj.cells
[vi z0, vi z1, vi z2,
vi z3, vi z4]
Tz])
else
bif
!alikeV
(ansM
(stPT 16384 4096 false false true 36864 256 true true false 103
(wrM (fun x => 0) 36864 (rowF (fun x => 0) (fillB k) 256) 256) r0 r1 r2 r3 r4 r5 r6 r7 ip fc fp fz fs fo fd x0 x1 x2 x3
x4 x5 x6 x7 ak ar ab ai aq ad (selL j 0 [z0, z1, z2, z3, z4]) v)
1)
(ansM
(stPT 16384 4096 false false true 36864 256 true true false 82
(wrM (fun x => 0) 36864 (rowF (fun x => 0) (fillB k) 256) 256) r0 r1 r2 r3 r4 r5 r6 r7 ip fc fp fz fs fo fd x0 x1 x2 x3
x4 x5 x6 x7 ak ar ab ai aq ad (selL j 0 [z0, z1, z2, z3, z4]) v)
1) then
some
(1, 151,
[k0, vd v, vw k, Sv.ptr 0 0, Sv.ptr 8 0, k1, k2, k3, Sv.sl 9 0 5 5,
vi 5, vi j],
[SObj.cells
[vw r0, vw r1, vw r2,
vw r3, vw r4, vw r5,
vw r6, vw r7, vw ip, vb fc,
vb fp, vb fz, vb fs, vb fo, vb fd,
vd x0, vd x1, vd x2,
vd x3, vd x4, vd x5,
vd x6, vd x7]
Ts,
o1, o2, o3, o4, o5, o6, o7,
SObj.cells
[vi ak, vi ar, vi ab,
vi ai, vi aq, vw ad]
Tx,
SObj.cells
[vi z0, vi z1, vi z2,
vi z3, vi z4]
Tz])
else
some
(0, 151,
[k0, vd v, vw k, Sv.ptr 0 0, Sv.ptr 8 0, k1, k2, k3, Sv.sl 9 0 5 5,
vi 5, vi ((IntKind.wrap IntKind.i64 (j + 1)))],
[SObj.cells
[vw r0, vw r1, vw r2,
vw r3, vw r4, vw r5,
vw r6, vw r7, vw ip, vb fc,
vb fp, vb fz, vb fs, vb fo, vb fd,
vd x0, vd x1, vd x2,
vd x3, vd x4, vd x5,
vd x6, vd x7]
Ts,
o1, o2, o3, o4, o5, o6, o7,
SObj.cells
[vi ak, vi ar, vi ab,
vi ai, vi aq, vw ad]
Tx,
SObj.cells
[vi z0, vi z1, vi z2,
vi z3, vi z4]
Tz])
else none
else none
else none
else none
else none
else
bif
in32 r0 &&
(in32 r1 && (in32 r2 && (in32 r3 && (in32 r4 && (in32 r5 && (in32 r6 && (in32 r7 && (in32 ad && true)))))))) &&
!10 + 12 == 10 + 6 then
bif
in32 r0 &&
(in32 r1 && (in32 r2 && (in32 r3 && (in32 r4 && (in32 r5 && (in32 r6 && (in32 r7 && (in32 ad && true)))))))) &&
(!10 + 5 == 10 + 1 && (!10 + 5 == 10 && !10 + 1 == 10)) then
bif
in32 r0 &&
(in32 r1 &&
(in32 r2 &&
(in32 r3 && (in32 r4 && (in32 r5 && (in32 r6 && (in32 r7 && (in32 ad && (true && (true && in64 v)))))))))) &&
!10 + 12 == 10 + 6 then
bif
in32 r0 &&
(in32 r1 &&
(in32 r2 &&
(in32 r3 && (in32 r4 && (in32 r5 && (in32 r6 && (in32 r7 && (in32 ad && (true && (true && in64 v)))))))))) &&
(!10 + 5 == 10 + 1 && (!10 + 5 == 10 && !10 + 1 == 10)) then
bif
ansI
(ldPT 16384 4096 false false true 36864 256 true true false 103
(wrM (fun x => 0) 36864 (rowF (fun x => 0) (fillB k) 256) 256) r0 r1 r2 r3 r4 r5 r6 r7 ip fc fp fz fs fo fd x0 x1 x2 x3
x4 x5 x6 x7 ak ar ab ai aq ad (selL j 0 [z0, z1, z2, z3, z4]))
0 !=
ansI
(ldPT 16384 4096 false false true 36864 256 true true false 82
(wrM (fun x => 0) 36864 (rowF (fun x => 0) (fillB k) 256) 256) r0 r1 r2 r3 r4 r5 r6 r7 ip fc fp fz fs fo fd x0 x1 x2 x3
x4 x5 x6 x7 ak ar ab ai aq ad (selL j 0 [z0, z1, z2, z3, z4]))
0 then
some
(1, 151,
[k0, vd v, vw k, Sv.ptr 0 0, Sv.ptr 8 0, k1, k2, k3, Sv.sl 9 0 5 5,
vi 5, vi j],
[SObj.cells
[vw r0, vw r1, vw r2,
vw r3, vw r4, vw r5,
vw r6, vw r7, vw ip, vb fc,
vb fp, vb fz, vb fs, vb fo, vb fd,
vd x0, vd x1, vd x2,
vd x3, vd x4, vd x5,
vd x6, vd x7]
Ts,
o1, o2, o3, o4, o5, o6, o7,
SObj.cells
[vi ak, vi ar, vi ab,
vi ai, vi aq, vw ad]
Tx,
SObj.cells
[vi z0, vi z1, vi z2,
vi z3, vi z4]
Tz])
else
bif
ansI
(ldPT 16384 4096 false false true 36864 256 true true false 103
(wrM (fun x => 0) 36864 (rowF (fun x => 0) (fillB k) 256) 256) r0 r1 r2 r3 r4 r5 r6 r7 ip fc fp fz fs fo fd x0 x1 x2 x3
x4 x5 x6 x7 ak ar ab ai aq ad (selL j 0 [z0, z1, z2, z3, z4]))
1 !=
ansI
(ldPT 16384 4096 false false true 36864 256 true true false 82
(wrM (fun x => 0) 36864 (rowF (fun x => 0) (fillB k) 256) 256) r0 r1 r2 r3 r4 r5 r6 r7 ip fc fp fz fs fo fd x0 x1 x2 x3
x4 x5 x6 x7 ak ar ab ai aq ad (selL j 0 [z0, z1, z2, z3, z4]))
1 then
some
(1, 151,
[k0, vd v, vw k, Sv.ptr 0 0, Sv.ptr 8 0, k1, k2, k3, Sv.sl 9 0 5 5,
vi 5, vi j],
[SObj.cells
[vw r0, vw r1, vw r2,
vw r3, vw r4, vw r5,
vw r6, vw r7, vw ip, vb fc,
vb fp, vb fz, vb fs, vb fo, vb fd,
vd x0, vd x1, vd x2,
vd x3, vd x4, vd x5,
vd x6, vd x7]
Ts,
o1, o2, o3, o4, o5, o6, o7,
SObj.cells
[vi ak, vi ar, vi ab,
vi ai, vi aq, vw ad]
Tx,
SObj.cells
[vi z0, vi z1, vi z2,
vi z3, vi z4]
Tz])
else
bif
!(ansI
(stPT 16384 4096 false false true 36864 256 true true false 103
(wrM (fun x => 0) 36864 (rowF (fun x => 0) (fillB k) 256) 256) r0 r1 r2 r3 r4 r5 r6 r7 ip fc fp fz fs fo fd x0 x1 x2 x3
x4 x5 x6 x7 ak ar ab ai aq ad (selL j 0 [z0, z1, z2, z3, z4]) v)
0 ==
ansI
(stPT 16384 4096 false false true 36864 256 true true false 82
(wrM (fun x => 0) 36864 (rowF (fun x => 0) (fillB k) 256) 256) r0 r1 r2 r3 r4 r5 r6 r7 ip fc fp fz fs fo fd x0 x1 x2 x3
x4 x5 x6 x7 ak ar ab ai aq ad (selL j 0 [z0, z1, z2, z3, z4]) v)
0 &&
(ansI
(stPT 16384 4096 false false true 36864 256 true true false 103
(wrM (fun x => 0) 36864 (rowF (fun x => 0) (fillB k) 256) 256) r0 r1 r2 r3 r4 r5 r6 r7 ip fc fp fz fs fo fd x0 x1 x2 x3
x4 x5 x6 x7 ak ar ab ai aq ad (selL j 0 [z0, z1, z2, z3, z4]) v)
1 ==
ansI
(stPT 16384 4096 false false true 36864 256 true true false 82
(wrM (fun x => 0) 36864 (rowF (fun x => 0) (fillB k) 256) 256) r0 r1 r2 r3 r4 r5 r6 r7 ip fc fp fz fs fo fd x0 x1 x2 x3
x4 x5 x6 x7 ak ar ab ai aq ad (selL j 0 [z0, z1, z2, z3, z4]) v)
1 &&
(ansI
(stPT 16384 4096 false false true 36864 256 true true false 103
(wrM (fun x => 0) 36864 (rowF (fun x => 0) (fillB k) 256) 256) r0 r1 r2 r3 r4 r5 r6 r7 ip fc fp fz fs fo fd x0 x1 x2 x3
x4 x5 x6 x7 ak ar ab ai aq ad (selL j 0 [z0, z1, z2, z3, z4]) v)
2 ==
ansI
(stPT 16384 4096 false false true 36864 256 true true false 82
(wrM (fun x => 0) 36864 (rowF (fun x => 0) (fillB k) 256) 256) r0 r1 r2 r3 r4 r5 r6 r7 ip fc fp fz fs fo fd x0 x1 x2 x3
x4 x5 x6 x7 ak ar ab ai aq ad (selL j 0 [z0, z1, z2, z3, z4]) v)
2 &&
(ansI
(stPT 16384 4096 false false true 36864 256 true true false 103
(wrM (fun x => 0) 36864 (rowF (fun x => 0) (fillB k) 256) 256) r0 r1 r2 r3 r4 r5 r6 r7 ip fc fp fz fs fo fd x0 x1 x2 x3
x4 x5 x6 x7 ak ar ab ai aq ad (selL j 0 [z0, z1, z2, z3, z4]) v)
3 ==
ansI
(stPT 16384 4096 false false true 36864 256 true true false 82
(wrM (fun x => 0) 36864 (rowF (fun x => 0) (fillB k) 256) 256) r0 r1 r2 r3 r4 r5 r6 r7 ip fc fp fz fs fo fd x0 x1 x2 x3
x4 x5 x6 x7 ak ar ab ai aq ad (selL j 0 [z0, z1, z2, z3, z4]) v)
3 &&
(ansI
(stPT 16384 4096 false false true 36864 256 true true false 103
(wrM (fun x => 0) 36864 (rowF (fun x => 0) (fillB k) 256) 256) r0 r1 r2 r3 r4 r5 r6 r7 ip fc fp fz fs fo fd x0 x1 x2 x3
x4 x5 x6 x7 ak ar ab ai aq ad (selL j 0 [z0, z1, z2, z3, z4]) v)
4 ==
ansI
(stPT 16384 4096 false false true 36864 256 true true false 82
(wrM (fun x => 0) 36864 (rowF (fun x => 0) (fillB k) 256) 256) r0 r1 r2 r3 r4 r5 r6 r7 ip fc fp fz fs fo fd x0 x1 x2 x3
x4 x5 x6 x7 ak ar ab ai aq ad (selL j 0 [z0, z1, z2, z3, z4]) v)
4 &&
(ansI
(stPT 16384 4096 false false true 36864 256 true true false 103
(wrM (fun x => 0) 36864 (rowF (fun x => 0) (fillB k) 256) 256) r0 r1 r2 r3 r4 r5 r6 r7 ip fc fp fz fs fo fd x0 x1 x2 x3
x4 x5 x6 x7 ak ar ab ai aq ad (selL j 0 [z0, z1, z2, z3, z4]) v)
5 ==
ansI
(stPT 16384 4096 false false true 36864 256 true true false 82
(wrM (fun x => 0) 36864 (rowF (fun x => 0) (fillB k) 256) 256) r0 r1 r2 r3 r4 r5 r6 r7 ip fc fp fz fs fo fd x0 x1 x2 x3
x4 x5 x6 x7 ak ar ab ai aq ad (selL j 0 [z0, z1, z2, z3, z4]) v)
5 &&
(ansI
(stPT 16384 4096 false false true 36864 256 true true false 103
(wrM (fun x => 0) 36864 (rowF (fun x => 0) (fillB k) 256) 256) r0 r1 r2 r3 r4 r5 r6 r7 ip fc fp fz fs fo fd x0 x1 x2 x3
x4 x5 x6 x7 ak ar ab ai aq ad (selL j 0 [z0, z1, z2, z3, z4]) v)
6 ==
ansI
(stPT 16384 4096 false false true 36864 256 true true false 82
(wrM (fun x => 0) 36864 (rowF (fun x => 0) (fillB k) 256) 256) r0 r1 r2 r3 r4 r5 r6 r7 ip fc fp fz fs fo fd x0 x1 x2 x3
x4 x5 x6 x7 ak ar ab ai aq ad (selL j 0 [z0, z1, z2, z3, z4]) v)
6 &&
(ansI
(stPT 16384 4096 false false true 36864 256 true true false 103
(wrM (fun x => 0) 36864 (rowF (fun x => 0) (fillB k) 256) 256) r0 r1 r2 r3 r4 r5 r6 r7 ip fc fp fz fs fo fd x0 x1 x2 x3
x4 x5 x6 x7 ak ar ab ai aq ad (selL j 0 [z0, z1, z2, z3, z4]) v)
7 ==
ansI
(stPT 16384 4096 false false true 36864 256 true true false 82
(wrM (fun x => 0) 36864 (rowF (fun x => 0) (fillB k) 256) 256) r0 r1 r2 r3 r4 r5 r6 r7 ip fc fp fz fs fo fd x0 x1 x2 x3
x4 x5 x6 x7 ak ar ab ai aq ad (selL j 0 [z0, z1, z2, z3, z4]) v)
7 &&
true))))))) &&
(ansI
(stPT 16384 4096 false false true 36864 256 true true false 103
(wrM (fun x => 0) 36864 (rowF (fun x => 0) (fillB k) 256) 256) r0 r1 r2 r3 r4 r5 r6 r7 ip fc fp fz fs fo fd x0 x1 x2 x3
x4 x5 x6 x7 ak ar ab ai aq ad (selL j 0 [z0, z1, z2, z3, z4]) v)
8 ==
ansI
(stPT 16384 4096 false false true 36864 256 true true false 82
(wrM (fun x => 0) 36864 (rowF (fun x => 0) (fillB k) 256) 256) r0 r1 r2 r3 r4 r5 r6 r7 ip fc fp fz fs fo fd x0 x1 x2 x3
x4 x5 x6 x7 ak ar ab ai aq ad (selL j 0 [z0, z1, z2, z3, z4]) v)
8 &&
(ansB
(stPT 16384 4096 false false true 36864 256 true true false 103
(wrM (fun x => 0) 36864 (rowF (fun x => 0) (fillB k) 256) 256) r0 r1 r2 r3 r4 r5 r6 r7 ip fc fp fz fs fo fd x0 x1 x2 x3
x4 x5 x6 x7 ak ar ab ai aq ad (selL j 0 [z0, z1, z2, z3, z4]) v)
9 ==
ansB
(stPT 16384 4096 false false true 36864 256 true true false 82
(wrM (fun x => 0) 36864 (rowF (fun x => 0) (fillB k) 256) 256) r0 r1 r2 r3 r4 r5 r6 r7 ip fc fp fz fs fo fd x0 x1 x2 x3
x4 x5 x6 x7 ak ar ab ai aq ad (selL j 0 [z0, z1, z2, z3, z4]) v)
9 &&
(ansB
(stPT 16384 4096 false false true 36864 256 true true false 103
(wrM (fun x => 0) 36864 (rowF (fun x => 0) (fillB k) 256) 256) r0 r1 r2 r3 r4 r5 r6 r7 ip fc fp fz fs fo fd x0 x1 x2 x3
x4 x5 x6 x7 ak ar ab ai aq ad (selL j 0 [z0, z1, z2, z3, z4]) v)
10 ==
ansB
(stPT 16384 4096 false false true 36864 256 true true false 82
(wrM (fun x => 0) 36864 (rowF (fun x => 0) (fillB k) 256) 256) r0 r1 r2 r3 r4 r5 r6 r7 ip fc fp fz fs fo fd x0 x1 x2 x3
x4 x5 x6 x7 ak ar ab ai aq ad (selL j 0 [z0, z1, z2, z3, z4]) v)
10 &&
(ansB
(stPT 16384 4096 false false true 36864 256 true true false 103
(wrM (fun x => 0) 36864 (rowF (fun x => 0) (fillB k) 256) 256) r0 r1 r2 r3 r4 r5 r6 r7 ip fc fp fz fs fo fd x0 x1 x2 x3
x4 x5 x6 x7 ak ar ab ai aq ad (selL j 0 [z0, z1, z2, z3, z4]) v)
11 ==
ansB
(stPT 16384 4096 false false true 36864 256 true true false 82
(wrM (fun x => 0) 36864 (rowF (fun x => 0) (fillB k) 256) 256) r0 r1 r2 r3 r4 r5 r6 r7 ip fc fp fz fs fo fd x0 x1 x2 x3
x4 x5 x6 x7 ak ar ab ai aq ad (selL j 0 [z0, z1, z2, z3, z4]) v)
11 &&
(ansB
(stPT 16384 4096 false false true 36864 256 true true false 103
(wrM (fun x => 0) 36864 (rowF (fun x => 0) (fillB k) 256) 256) r0 r1 r2 r3 r4 r5 r6 r7 ip fc fp fz fs fo fd x0 x1 x2 x3
x4 x5 x6 x7 ak ar ab ai aq ad (selL j 0 [z0, z1, z2, z3, z4]) v)
12 ==
ansB
(stPT 16384 4096 false false true 36864 256 true true false 82
(wrM (fun x => 0) 36864 (rowF (fun x => 0) (fillB k) 256) 256) r0 r1 r2 r3 r4 r5 r6 r7 ip fc fp fz fs fo fd x0 x1 x2 x3
x4 x5 x6 x7 ak ar ab ai aq ad (selL j 0 [z0, z1, z2, z3, z4]) v)
12 &&
(ansB
(stPT 16384 4096 false false true 36864 256 true true false 103
(wrM (fun x => 0) 36864 (rowF (fun x => 0) (fillB k) 256) 256) r0 r1 r2 r3 r4 r5 r6 r7 ip fc fp fz fs fo fd x0 x1 x2 x3
x4 x5 x6 x7 ak ar ab ai aq ad (selL j 0 [z0, z1, z2, z3, z4]) v)
13 ==
ansB
(stPT 16384 4096 false false true 36864 256 true true false 82
(wrM (fun x => 0) 36864 (rowF (fun x => 0) (fillB k) 256) 256) r0 r1 r2 r3 r4 r5 r6 r7 ip fc fp fz fs fo fd x0 x1 x2 x3
x4 x5 x6 x7 ak ar ab ai aq ad (selL j 0 [z0, z1, z2, z3, z4]) v)
13 &&
(ansB
(stPT 16384 4096 false false true 36864 256 true true false 103
(wrM (fun x => 0) 36864 (rowF (fun x => 0) (fillB k) 256) 256) r0 r1 r2 r3 r4 r5 r6 r7 ip fc fp fz fs fo fd x0 x1 x2 x3
x4 x5 x6 x7 ak ar ab ai aq ad (selL j 0 [z0, z1, z2, z3, z4]) v)
14 ==
ansB
(stPT 16384 4096 false false true 36864 256 true true false 82
(wrM (fun x => 0) 36864 (rowF (fun x => 0) (fillB k) 256) 256) r0 r1 r2 r3 r4 r5 r6 r7 ip fc fp fz fs fo fd x0 x1 x2 x3
x4 x5 x6 x7 ak ar ab ai aq ad (selL j 0 [z0, z1, z2, z3, z4]) v)
14 &&
true))))) &&
(ansI
(stPT 16384 4096 false false true 36864 256 true true false 103
(wrM (fun x => 0) 36864 (rowF (fun x => 0) (fillB k) 256) 256) r0 r1 r2 r3 r4 r5 r6 r7 ip fc fp fz fs fo fd x0 x1 x2 x3
x4 x5 x6 x7 ak ar ab ai aq ad (selL j 0 [z0, z1, z2, z3, z4]) v)
15 ==
ansI
(stPT 16384 4096 false false true 36864 256 true true false 82
(wrM (fun x => 0) 36864 (rowF (fun x => 0) (fillB k) 256) 256) r0 r1 r2 r3 r4 r5 r6 r7 ip fc fp fz fs fo fd x0 x1 x2 x3
x4 x5 x6 x7 ak ar ab ai aq ad (selL j 0 [z0, z1, z2, z3, z4]) v)
15 &&
(ansI
(stPT 16384 4096 false false true 36864 256 true true false 103
(wrM (fun x => 0) 36864 (rowF (fun x => 0) (fillB k) 256) 256) r0 r1 r2 r3 r4 r5 r6 r7 ip fc fp fz fs fo fd x0 x1 x2 x3
x4 x5 x6 x7 ak ar ab ai aq ad (selL j 0 [z0, z1, z2, z3, z4]) v)
16 ==
ansI
(stPT 16384 4096 false false true 36864 256 true true false 82
(wrM (fun x => 0) 36864 (rowF (fun x => 0) (fillB k) 256) 256) r0 r1 r2 r3 r4 r5 r6 r7 ip fc fp fz fs fo fd x0 x1 x2 x3
x4 x5 x6 x7 ak ar ab ai aq ad (selL j 0 [z0, z1, z2, z3, z4]) v)
16 &&
(ansI
(stPT 16384 4096 false false true 36864 256 true true false 103
(wrM (fun x => 0) 36864 (rowF (fun x => 0) (fillB k) 256) 256) r0 r1 r2 r3 r4 r5 r6 r7 ip fc fp fz fs fo fd x0 x1 x2 x3
x4 x5 x6 x7 ak ar ab ai aq ad (selL j 0 [z0, z1, z2, z3, z4]) v)
17 ==
ansI
(stPT 16384 4096 false false true 36864 256 true true false 82
(wrM (fun x => 0) 36864 (rowF (fun x => 0) (fillB k) 256) 256) r0 r1 r2 r3 r4 r5 r6 r7 ip fc fp fz fs fo fd x0 x1 x2 x3
x4 x5 x6 x7 ak ar ab ai aq ad (selL j 0 [z0, z1, z2, z3, z4]) v)
17 &&
(ansI
(stPT 16384 4096 false false true 36864 256 true true false 103
(wrM (fun x => 0) 36864 (rowF (fun x => 0) (fillB k) 256) 256) r0 r1 r2 r3 r4 r5 r6 r7 ip fc fp fz fs fo fd x0 x1 x2 x3
x4 x5 x6 x7 ak ar ab ai aq ad (selL j 0 [z0, z1, z2, z3, z4]) v)
18 ==
ansI
(stPT 16384 4096 false false true 36864 256 true true false 82
(wrM (fun x => 0) 36864 (rowF (fun x => 0) (fillB k) 256) 256) r0 r1 r2 r3 r4 r5 r6 r7 ip fc fp fz fs fo fd x0 x1 x2 x3
x4 x5 x6 x7 ak ar ab ai aq ad (selL j 0 [z0, z1, z2, z3, z4]) v)
18 &&
(ansI
(stPT 16384 4096 false false true 36864 256 true true false 103
(wrM (fun x => 0) 36864 (rowF (fun x => 0) (fillB k) 256) 256) r0 r1 r2 r3 r4 r5 r6 r7 ip fc fp fz fs fo fd x0 x1 x2 x3
x4 x5 x6 x7 ak ar ab ai aq ad (selL j 0 [z0, z1, z2, z3, z4]) v)
19 ==
ansI
(stPT 16384 4096 false false true 36864 256 true true false 82
(wrM (fun x => 0) 36864 (rowF (fun x => 0) (fillB k) 256) 256) r0 r1 r2 r3 r4 r5 r6 r7 ip fc fp fz fs fo fd x0 x1 x2 x3
x4 x5 x6 x7 ak ar ab ai aq ad (selL j 0 [z0, z1, z2, z3, z4]) v)
19 &&
(ansI
(stPT 16384 4096 false false true 36864 256 true true false 103
(wrM (fun x => 0) 36864 (rowF (fun x => 0) (fillB k) 256) 256) r0 r1 r2 r3 r4 r5 r6 r7 ip fc fp fz fs fo fd x0 x1 x2 x3
x4 x5 x6 x7 ak ar ab ai aq ad (selL j 0 [z0, z1, z2, z3, z4]) v)
20 ==
ansI
(stPT 16384 4096 false false true 36864 256 true true false 82
(wrM (fun x => 0) 36864 (rowF (fun x => 0) (fillB k) 256) 256) r0 r1 r2 r3 r4 r5 r6 r7 ip fc fp fz fs fo fd x0 x1 x2 x3
x4 x5 x6 x7 ak ar ab ai aq ad (selL j 0 [z0, z1, z2, z3, z4]) v)
20 &&
(ansI
(stPT 16384 4096 false false true 36864 256 true true false 103
(wrM (fun x => 0) 36864 (rowF (fun x => 0) (fillB k) 256) 256) r0 r1 r2 r3 r4 r5 r6 r7 ip fc fp fz fs fo fd x0 x1 x2 x3
x4 x5 x6 x7 ak ar ab ai aq ad (selL j 0 [z0, z1, z2, z3, z4]) v)
21 ==
ansI
(stPT 16384 4096 false false true 36864 256 true true false 82
(wrM (fun x => 0) 36864 (rowF (fun x => 0) (fillB k) 256) 256) r0 r1 r2 r3 r4 r5 r6 r7 ip fc fp fz fs fo fd x0 x1 x2 x3
x4 x5 x6 x7 ak ar ab ai aq ad (selL j 0 [z0, z1, z2, z3, z4]) v)
21 &&
(ansI
(stPT 16384 4096 false false true 36864 256 true true false 103
(wrM (fun x => 0) 36864 (rowF (fun x => 0) (fillB k) 256) 256) r0 r1 r2 r3 r4 r5 r6 r7 ip fc fp fz fs fo fd x0 x1 x2 x3
x4 x5 x6 x7 ak ar ab ai aq ad (selL j 0 [z0, z1, z2, z3, z4]) v)
22 ==
ansI
(stPT 16384 4096 false false true 36864 256 true true false 82
(wrM (fun x => 0) 36864 (rowF (fun x => 0) (fillB k) 256) 256) r0 r1 r2 r3 r4 r5 r6 r7 ip fc fp fz fs fo fd x0 x1 x2 x3
x4 x5 x6 x7 ak ar ab ai aq ad (selL j 0 [z0, z1, z2, z3, z4]) v)
22 &&
true))))))) &&
true)))) then
some
(1, 151,
[k0, vd v, vw k, Sv.ptr 0 0, Sv.ptr 8 0, k1, k2, k3, Sv.sl 9 0 5 5,
vi 5, vi j],
[SObj.cells
[vw r0, vw r1, vw r2,
vw r3, vw r4, vw r5,
vw r6, vw r7, vw ip, vb fc,
vb fp, vb fz, vb fs, vb fo, vb fd,
vd x0, vd x1, vd x2,
vd x3, vd x4, vd x5,
vd x6, vd x7]
Ts,
o1, o2, o3, o4, o5, o6, o7,
SObj.cells
[vi ak, vi ar, vi ab,
vi ai, vi aq, vw ad]
Tx,
SObj.cells
[vi z0, vi z1, vi z2,
vi z3, vi z4]
Tz])
else
bif
ansI
(stPT 16384 4096 false false true 36864 256 true true false 103
(wrM (fun x => 0) 36864 (rowF (fun x => 0) (fillB k) 256) 256) r0 r1 r2 r3 r4 r5 r6 r7 ip fc fp fz fs fo fd x0 x1 x2 x3
x4 x5 x6 x7 ak ar ab ai aq ad (selL j 0 [z0, z1, z2, z3, z4]) v)
23 !=
ansI
(stPT 16384 4096 false false true 36864 256 true true false 82
(wrM (fun x => 0) 36864 (rowF (fun x => 0) (fillB k) 256) 256) r0 r1 r2 r3 r4 r5 r6 r7 ip fc fp fz fs fo fd x0 x1 x2 x3
x4 x5 x6 x7 ak ar ab ai aq ad (selL j 0 [z0, z1, z2, z3, z4]) v)
23 then
some
(1, 151,
[k0, vd v, vw k, Sv.ptr 0 0, Sv.ptr 8 0, k1, k2, k3, Sv.sl 9 0 5 5,
vi 5, vi j],
[SObj.cells
[vw r0, vw r1, vw r2,
vw r3, vw r4, vw r5,
vw r6, vw r7, vw ip, vb fc,
vb fp, vb fz, vb fs, vb fo, vb fd,
vd x0, vd x1, vd x2,
vd x3, vd x4, vd x5,
vd x6, vd x7]
Ts,
o1, o2, o3, o4, o5, o6, o7,
SObj.cells
[vi ak, vi ar, vi ab,
vi ai, vi aq, vw ad]
Tx,
SObj.cells
[vi z0, vi z1, vi z2,
vi z3, vi z4]
Tz])
else
bif
!alikeV
(ansM
(stPT 16384 4096 false false true 36864 256 true true false 103
(wrM (fun x => 0) 36864 (rowF (fun x => 0) (fillB k) 256) 256) r0 r1 r2 r3 r4 r5 r6 r7 ip fc fp fz fs fo fd x0 x1 x2 x3
x4 x5 x6 x7 ak ar ab ai aq ad (selL j 0 [z0, z1, z2, z3, z4]) v)
1)
(ansM
(stPT 16384 4096 false false true 36864 256 true true false 82
(wrM (fun x => 0) 36864 (rowF (fun x => 0) (fillB k) 256) 256) r0 r1 r2 r3 r4 r5 r6 r7 ip fc fp fz fs fo fd x0 x1 x2 x3
x4 x5 x6 x7 ak ar ab ai aq ad (selL j 0 [z0, z1, z2, z3, z4]) v)
1) then
some
(1, 151,
[k0, vd v, vw k, Sv.ptr 0 0, Sv.ptr 8 0, k1, k2, k3, Sv.sl 9 0 5 5,
vi 5, vi j],
[SObj.cells
[vw r0, vw r1, vw r2,
vw r3, vw r4, vw r5,
vw r6, vw r7, vw ip, vb fc,
vb fp, vb fz, vb fs, vb fo, vb fd,
vd x0, vd x1, vd x2,
vd x3, vd x4, vd x5,
vd x6, vd x7]
Ts,
o1, o2, o3, o4, o5, o6, o7,
SObj.cells
[vi ak, vi ar, vi ab,
vi ai, vi aq, vw ad]
Tx,
SObj.cells
[vi z0, vi z1, vi z2,
vi z3, vi z4]
Tz])
else
some
(0, 151,
[k0, vd v, vw k, Sv.ptr 0 0, Sv.ptr 8 0, k1, k2, k3, Sv.sl 9 0 5 5,
vi 5, vi ((IntKind.wrap IntKind.i64 (j + 1)))],
[SObj.cells
[vw r0, vw r1, vw r2,
vw r3, vw r4, vw r5,
vw r6, vw r7, vw ip, vb fc,
vb fp, vb fz, vb fs, vb fo, vb fd,
vd x0, vd x1, vd x2,
vd x3, vd x4, vd x5,
vd x6, vd x7]
Ts,
o1, o2, o3, o4, o5, o6, o7,
SObj.cells
[vi ak, vi ar, vi ab,
vi ai, vi aq, vw ad]
Tx,
SObj.cells
[vi z0, vi z1, vi z2,
vi z3, vi z4]
Tz])
else none
else none
else none
else none
else none
else
some
(4, 151,
[k0, vd v, vw k, Sv.ptr 0 0, Sv.ptr 8 0, k1, k2, k3, Sv.sl 9 0 5 5,
vi 5, vi j],
[SObj.cells
[vw r0, vw r1, vw r2,
vw r3, vw r4, vw r5,
vw r6, vw r7, vw ip, vb fc,
vb fp, vb fz, vb fs, vb fo, vb fd,
vd x0, vd x1, vd x2,
vd x3, vd x4, vd x5,
vd x6, vd x7]
Ts,
o1, o2, o3, o4, o5, o6, o7,
SObj.cells
[vi ak, vi ar, vi ab,
vi ai, vi aq, vw ad]
Tx,
SObj.cells
[vi z0, vi z1, vi z2,
vi z3, vi z4]
Tz])) := by kernel_rfl
structure at1S where
  k0 : Sv
  k1 : Sv
  k2 : Sv
  k3 : Sv
  v : Int
  k : Int
  r0 : Int
  r1 : Int
  r2 : Int
  r3 : Int
  r4 : Int
  r5 : Int
  r6 : Int
  r7 : Int
  ip : Int
  fc : Bool
  fp : Bool
  fz : Bool
  fs : Bool
  fo : Bool
  fd : Bool
  x0 : Int
  x1 : Int
  x2 : Int
  x3 : Int
  x4 : Int
  x5 : Int
  x6 : Int
  x7 : Int
  Ts : TypeId
  ak : Int
  ar : Int
  ab : Int
  ai : Int
  aq : Int
  ad : Int
  Tx : TypeId
  z0 : Int
  z1 : Int
  z2 : Int
  z3 : Int
  z4 : Int
  Tz : TypeId
  o1 : SObj
  o2 : SObj
  o3 : SObj
  o4 : SObj
  o5 : SObj
  o6 : SObj
  o7 : SObj
abbrev at1n (s : at1S) : Nat := 5
def at1V (s : at1S) (i : Nat) : List Sv := [s.k0, .v (.int .u64 s.v), .v (.int .u32 s.k), .ptr 0 0, .ptr 8 0, s.k1, s.k2, s.k3, .sl 9 0 5 5, .v (.int .i64 5), .v (.int .i64 (i : Int))]
def at1M (s : at1S) (i : Nat) : List SObj := [.cells [.v (.int .u32 s.r0), .v (.int .u32 s.r1), .v (.int .u32 s.r2), .v (.int .u32 s.r3), .v (.int .u32 s.r4), .v (.int .u32 s.r5), .v (.int .u32 s.r6), .v (.int .u32 s.r7), .v (.int .u32 s.ip), .v (.bool s.fc), .v (.bool s.fp), .v (.bool s.fz), .v (.bool s.fs), .v (.bool s.fo), .v (.bool s.fd), .v (.int .u64 s.x0), .v (.int .u64 s.x1), .v (.int .u64 s.x2), .v (.int .u64 s.x3), .v (.int .u64 s.x4), .v (.int .u64 s.x5), .v (.int .u64 s.x6), .v (.int .u64 s.x7)] s.Ts, s.o1, s.o2, s.o3, s.o4, s.o5, s.o6, s.o7, .cells [.v (.int .i64 s.ak), .v (.int .i64 s.ar), .v (.int .i64 s.ab), .v (.int .i64 s.ai), .v (.int .i64 s.aq), .v (.int .u32 s.ad)] s.Tx, .cells [.v (.int .i64 s.z0), .v (.int .i64 s.z1), .v (.int .i64 s.z2), .v (.int .i64 s.z3), .v (.int .i64 s.z4)] s.Tz]
def at1Inv (s : at1S) : Prop := in32 s.r0 = true ∧ in32 s.r1 = true ∧ in32 s.r2 = true ∧ in32 s.r3 = true ∧ in32 s.r4 = true ∧ in32 s.r5 = true ∧ in32 s.r6 = true ∧ in32 s.r7 = true ∧ in32 s.ad = true ∧ in64 s.v = true ∧ clM 10 [s.o1, s.o2, s.o3, s.o4, s.o5, s.o6, s.o7] = true ∧ clL 10 [s.k0, s.k1, s.k2, s.k3] = true
def at1L : Rounds (CntS at1S) (CntS at1S) := cntE 151 [6, 7, 8, 9, 22, 61, 62, 63, 68, 69, 70] at1n at1V at1M at1Inv 3
set_option maxHeartbeats 4000000 in
theorem at1L_ok : at1L.OkD Try.prog ΓAd2 60 (roundOf Try.prog 7 2) 10 := cntE_okD
  (fun s g i hs hi => by
    obtain ⟨h0, h1, h2, h3, h4, h5, h6, h7, h8, hv, hm, hl⟩ := hs
    have hi : i < 5 := hi
    have d1 : decide ((i : Int) < 5) = true := decide_eq_true (by omega)
    have d2 : decide (0 ≤ (i : Int)) = true := decide_eq_true (by omega)
    have w1 : IntKind.wrap .i64 ((i : Int) + 1) = ((i + 1 : Nat) : Int) := by rw [wr_i64_id (by omega) (by omega)]; omega
    have tl := ldP_T 16384 4096 false false true 36864 256 true true false 82 103 (wrM (fun x => 0) 36864 (rowF (fun x => 0) (fillB s.k) 256) 256) s.r0 s.r1 s.r2 s.r3 s.r4 s.r5 s.r6 s.r7 s.ip s.fc s.fp s.fz s.fs s.fo s.fd s.x0 s.x1 s.x2 s.x3 s.x4 s.x5 s.x6 s.x7 s.ak s.ar s.ab s.ai s.aq s.ad (selL (i : Int) 0 [s.z0, s.z1, s.z2, s.z3, s.z4])
    have ts := stP_T 16384 4096 false false true 36864 256 true true false 82 103 (wrM (fun x => 0) 36864 (rowF (fun x => 0) (fillB s.k) 256) 256) s.r0 s.r1 s.r2 s.r3 s.r4 s.r5 s.r6 s.r7 s.ip s.fc s.fp s.fz s.fs s.fo s.fd s.x0 s.x1 s.x2 s.x3 s.x4 s.x5 s.x6 s.x7 s.ak s.ar s.ab s.ai s.aq s.ad (selL (i : Int) 0 [s.z0, s.z1, s.z2, s.z3, s.z4]) s.v
    refine (at1_form s.k0 s.k1 s.k2 s.k3 s.v s.k s.r0 s.r1 s.r2 s.r3 s.r4 s.r5 s.r6 s.r7 s.ip s.fc s.fp s.fz s.fs s.fo s.fd s.x0 s.x1 s.x2 s.x3 s.x4 s.x5 s.x6 s.x7 s.Ts s.ak s.ar s.ab s.ai s.aq s.ad s.Tx s.z0 s.z1 s.z2 s.z3 s.z4 s.Tz s.o1 s.o2 s.o3 s.o4 s.o5 s.o6 s.o7 (i : Int) g).trans ?_
    simp only [d1, d2, w1, h0, h1, h2, h3, h4, h5, h6, h7, h8, hv, Nat.reduceAdd, Nat.reduceBEq, Bool.and_self, Bool.and_true, Bool.not_false, cond_true]
    simp only [ansI_sans tl, ansI_sans ts, ansB_sans ts, ansM_sans ts, beq_self_eq_true, bne_self_eq_false, alikeV_self, Bool.and_self, Bool.not_true, cond_false, Bool.cond_self]
    rfl)
  (fun s g hs => at1_form s.k0 s.k1 s.k2 s.k3 s.v s.k s.r0 s.r1 s.r2 s.r3 s.r4 s.r5 s.r6 s.r7 s.ip s.fc s.fp s.fz s.fs s.fo s.fd s.x0 s.x1 s.x2 s.x3 s.x4 s.x5 s.x6 s.x7 s.Ts s.ak s.ar s.ab s.ai s.aq s.ad s.Tx s.z0 s.z1 s.z2 s.z3 s.z4 s.Tz s.o1 s.o2 s.o3 s.o4 s.o5 s.o6 s.o7 ((5 : Nat) : Int) g)
  (fun s i hs _ => by
    obtain ⟨h0, h1, h2, h3, h4, h5, h6, h7, h8, hv, hm, hl⟩ := hs
    refine ⟨rfl, ?_, ?_⟩
    · simp only [clM_cons, clM_nil, Bool.and_eq_true] at hm
      simp only [at1M, clM_cons, clM_nil, hm, clO_cells, clL_cons, clL_nil, clS_v, Bool.and_self]
    · simp only [clL_cons, clL_nil, Bool.and_eq_true] at hl
      simp only [at1V, clL_cons, clL_nil, clS_v, clS_sl, clS_ptr, hl, Bool.and_self]; rfl)
def at1Dec : (R : Type) → List Sv → List SObj → (at1S → Option R) → Option R := fun R l m k_ => match l with
  | [k0, .v (.int .u64 v), .v (.int .u32 k), .ptr b0 b1, .ptr b2 b3, k1, k2, k3, .sl q q0 q1 q2, .v (.int .i64 n5), .v (.int .i64 j)] => (match m with
    | [W0, o1, o2, o3, o4, o5, o6, o7, W8, W9] => (match W0 with
      | .cells [.v (.int .u32 r0), .v (.int .u32 r1), .v (.int .u32 r2), .v (.int .u32 r3), .v (.int .u32 r4), .v (.int .u32 r5), .v (.int .u32 r6), .v (.int .u32 r7), .v (.int .u32 ip), .v (.bool fc), .v (.bool fp), .v (.bool fz), .v (.bool fs), .v (.bool fo), .v (.bool fd), .v (.int .u64 x0), .v (.int .u64 x1), .v (.int .u64 x2), .v (.int .u64 x3), .v (.int .u64 x4), .v (.int .u64 x5), .v (.int .u64 x6), .v (.int .u64 x7)] Ts => (match W8 with
        | .cells [.v (.int .i64 ak), .v (.int .i64 ar), .v (.int .i64 ab), .v (.int .i64 ai), .v (.int .i64 aq), .v (.int .u32 ad)] Tx => (match W9 with
          | .cells [.v (.int .i64 z0), .v (.int .i64 z1), .v (.int .i64 z2), .v (.int .i64 z3), .v (.int .i64 z4)] Tz => bif in32 r0 && (in32 r1 && (in32 r2 && (in32 r3 && (in32 r4 && (in32 r5 && (in32 r6 && (in32 r7 && (in32 ad && (in64 v && (clM 10 [o1, o2, o3, o4, o5, o6, o7] && (clL 10 [k0, k1, k2, k3] && ((j == 0) && ((n5 == 5) && (Nat.beq b0 0 && (Nat.beq b1 0 && (Nat.beq b2 8 && (Nat.beq b3 0 && (Nat.beq q 9 && (Nat.beq q0 0 && (Nat.beq q1 5 && (Nat.beq q2 5))))))))))))))))))))) then k_ ⟨k0, k1, k2, k3, v, k, r0, r1, r2, r3, r4, r5, r6, r7, ip, fc, fp, fz, fs, fo, fd, x0, x1, x2, x3, x4, x5, x6, x7, Ts, ak, ar, ab, ai, aq, ad, Tx, z0, z1, z2, z3, z4, Tz, o1, o2, o3, o4, o5, o6, o7⟩ else none
          | _ => none)
        | _ => none)
      | _ => none)
    | _ => none)
  | _ => none
theorem at1Dec_ok : ∀ (R : Type) l m (k : at1S → Option R) r, at1Dec R l m k = some r → ∃ s, k s = some r ∧ l = at1V s 0 ∧ m = at1M s 0 ∧ at1Inv s := by
  intro R l m k r h
  unfold at1Dec at h
  split at h
  · split at h
    · split at h
      · split at h
        · split at h
          · obtain ⟨hg, hk2⟩ := cond_some h
            clear h
            simp only [Bool.and_eq_true, beq_iff_eq, natB] at hg
            obtain ⟨h0, h1, h2, h3, h4, h5, h6, h7, h8, hv, hm, hl, rfl, rfl, rfl, rfl, rfl, rfl, rfl, rfl, rfl, rfl⟩ := hg
            exact ⟨_, hk2, rfl, rfl, h0, h1, h2, h3, h4, h5, h6, h7, h8, hv, hm, hl⟩
          · cases h
        · cases h
      · cases h
    · cases h
  · cases h
noncomputable def at1H : Hook := cntHook Try.prog X0 at1L at1n 2 (roundOf Try.prog 7 2) at1Dec
theorem at1H_ok : HookOk Try.prog X0 (.block 2 (.loop (roundOf Try.prog 7 2))) at1H := cntEHook_ok ΓAd2_ok at1L_ok at1Dec_ok
end Go.Proofs.Ytjcbgjakomalaaa
