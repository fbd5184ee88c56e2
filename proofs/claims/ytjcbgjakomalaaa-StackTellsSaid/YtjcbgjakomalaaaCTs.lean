/- Three states, one by one (StackTells). -/
import Derived.Test.YtjcbgjakomalaaaEvV
import Derived.Test.YtjcbgjakomalaaaCTl
import Derived.Test.YtjcbgjakomalaaaNLoop
namespace Go.Proofs.Ytjcbgjakomalaaa
open Go Go.Ev
set_option linter.unusedVariables false
set_option linter.unusedSimpArgs false
set_option maxRecDepth 100000
theorem tl_form0 (d : Int) (n : Int) (pr0 : Int) (pr1 : Int) (pr2 : Int) (pr3 : Int) (pr4 : Int) (pr5 : Int) (pr6 : Int) (pr7 : Int) (pip : Int) (pfc : Bool) (pfp : Bool) (pfz : Bool) (pfs : Bool) (pfo : Bool) (pfd : Bool) (px0 : Int) (px1 : Int) (px2 : Int) (px3 : Int) (px4 : Int) (px5 : Int) (px6 : Int) (px7 : Int) (qr0 : Int) (qr1 : Int) (qr2 : Int) (qr3 : Int) (qr4 : Int) (qr5 : Int) (qr6 : Int) (qr7 : Int) (qip : Int) (qfc : Bool) (qfp : Bool) (qfz : Bool) (qfs : Bool) (qfo : Bool) (qfd : Bool) (qx0 : Int) (qx1 : Int) (qx2 : Int) (qx3 : Int) (qx4 : Int) (qx5 : Int) (qx6 : Int) (qx7 : Int) (sr0 : Int) (sr1 : Int) (sr2 : Int) (sr3 : Int) (sr4 : Int) (sr5 : Int) (sr6 : Int) (sr7 : Int) (sip : Int) (sfc : Bool) (sfp : Bool) (sfz : Bool) (sfs : Bool) (sfo : Bool) (sfd : Bool) (sx0 : Int) (sx1 : Int) (sx2 : Int) (sx3 : Int) (sx4 : Int) (sx5 : Int) (sx6 : Int) (sx7 : Int) (op : Int) (cond : Int) (size : Int) (ak : Int) (ar : Int) (ab : Int) (ai : Int) (aq : Int) (ad : Int) (bk : Int) (br : Int) (bb : Int) (bi : Int) (bq : Int) (bd : Int) (c : Int) (rep : Bool) (len : Int) (Ti : TypeId) (Tz : TypeId) (o0 : SObj) (o1 : SObj) (o2 : SObj) (o3 : SObj) (o4 : SObj) (o5 : SObj) (o6 : SObj) (o7 : SObj) (o8 : SObj) (g : List Sv) :
    ev Try.prog ΓTl 60 (fun _ => none) (roundOf Try.prog 13 0) (fr 192 [7, 8, 20, 97, 98, 99] [.v (.int .u32 d), .v (.int .u32 n), .ptr 9 0, .sl 10 0 3 3, .v (.int .i64 3), .v (.int .i64 0)] g) [o0, o1, o2, o3, o4, o5, o6, o7, o8, .cells [.v (.int .i64 op), .v (.int .i64 cond), .v (.int .i64 size), .v (.int .i64 ak), .v (.int .i64 ar), .v (.int .i64 ab), .v (.int .i64 ai), .v (.int .i64 aq), .v (.int .u32 ad), .v (.int .i64 bk), .v (.int .i64 br), .v (.int .i64 bb), .v (.int .i64 bi), .v (.int .i64 bq), .v (.int .u32 bd), .v (.int .u32 c), .v (.bool rep), .v (.int .i64 len)] Ti, .cells [.v (.int .u32 pr0), .v (.int .u32 pr1), .v (.int .u32 pr2), .v (.int .u32 pr3), .v (.int .u32 pr4), .v (.int .u32 pr5), .v (.int .u32 pr6), .v (.int .u32 pr7), .v (.int .u32 pip), .v (.bool pfc), .v (.bool pfp), .v (.bool pfz), .v (.bool pfs), .v (.bool pfo), .v (.bool pfd), .v (.int .u64 px0), .v (.int .u64 px1), .v (.int .u64 px2), .v (.int .u64 px3), .v (.int .u64 px4), .v (.int .u64 px5), .v (.int .u64 px6), .v (.int .u64 px7), .v (.int .u32 qr0), .v (.int .u32 qr1), .v (.int .u32 qr2), .v (.int .u32 qr3), .v (.int .u32 qr4), .v (.int .u32 qr5), .v (.int .u32 qr6), .v (.int .u32 qr7), .v (.int .u32 qip), .v (.bool qfc), .v (.bool qfp), .v (.bool qfz), .v (.bool qfs), .v (.bool qfo), .v (.bool qfd), .v (.int .u64 qx0), .v (.int .u64 qx1), .v (.int .u64 qx2), .v (.int .u64 qx3), .v (.int .u64 qx4), .v (.int .u64 qx5), .v (.int .u64 qx6), .v (.int .u64 qx7), .v (.int .u32 sr0), .v (.int .u32 sr1), .v (.int .u32 sr2), .v (.int .u32 sr3), .v (.int .u32 sr4), .v (.int .u32 sr5), .v (.int .u32 sr6), .v (.int .u32 sr7), .v (.int .u32 sip), .v (.bool sfc), .v (.bool sfp), .v (.bool sfz), .v (.bool sfs), .v (.bool sfo), .v (.bool sfd), .v (.int .u64 sx0), .v (.int .u64 sx1), .v (.int .u64 sx2), .v (.int .u64 sx3), .v (.int .u64 sx4), .v (.int .u64 sx5), .v (.int .u64 sx6), .v (.int .u64 sx7)] Tz] (liveD [7, 8, 20, 97, 98, 99] 11) =
    (bif
in32 pr0 &&
(in32 pr1 &&
(in32 pr2 && (in32 pr3 && (in32 pr4 && (in32 pr5 && (in32 pr6 && (in32 pr7 && (true && (true && in32 ad))))))))) &&
!12 + 12 == 12 + 6 then
bif
in32 pr0 &&
(in32 pr1 &&
(in32 pr2 && (in32 pr3 && (in32 pr4 && (in32 pr5 && (in32 pr6 && (in32 pr7 && (true && (true && in32 ad))))))))) &&
(!12 + 5 == 12 + 1 && (!12 + 5 == 12 && !12 + 1 == 12)) then
bif
!(ansI
(skPT 16384 4096 false false true 36864 256 true true false 103
(wrM (fun x => 0) 36864 (rowF (fun x => 0) (fillB n) 256) 256) pr0 pr1 pr2 pr3 pr4 pr5 pr6 pr7 pip pfc pfp pfz pfs pfo
pfd px0 px1 px2 px3 px4 px5 px6 px7 op cond size ak ar ab ai aq ad bk br bb bi bq bd c rep len)
0 ==
ansI
(skPT 16384 4096 false false true 36864 256 true true false 82
(wrM (fun x => 0) 36864 (rowF (fun x => 0) (fillB n) 256) 256) pr0 pr1 pr2 pr3 pr4 pr5 pr6 pr7 pip pfc pfp pfz pfs pfo
pfd px0 px1 px2 px3 px4 px5 px6 px7 op cond size ak ar ab ai aq ad bk br bb bi bq bd c rep len)
0 &&
(ansI
(skPT 16384 4096 false false true 36864 256 true true false 103
(wrM (fun x => 0) 36864 (rowF (fun x => 0) (fillB n) 256) 256) pr0 pr1 pr2 pr3 pr4 pr5 pr6 pr7 pip pfc pfp pfz pfs pfo
pfd px0 px1 px2 px3 px4 px5 px6 px7 op cond size ak ar ab ai aq ad bk br bb bi bq bd c rep len)
1 ==
ansI
(skPT 16384 4096 false false true 36864 256 true true false 82
(wrM (fun x => 0) 36864 (rowF (fun x => 0) (fillB n) 256) 256) pr0 pr1 pr2 pr3 pr4 pr5 pr6 pr7 pip pfc pfp pfz pfs pfo
pfd px0 px1 px2 px3 px4 px5 px6 px7 op cond size ak ar ab ai aq ad bk br bb bi bq bd c rep len)
1 &&
(ansI
(skPT 16384 4096 false false true 36864 256 true true false 103
(wrM (fun x => 0) 36864 (rowF (fun x => 0) (fillB n) 256) 256) pr0 pr1 pr2 pr3 pr4 pr5 pr6 pr7 pip pfc pfp pfz pfs pfo
pfd px0 px1 px2 px3 px4 px5 px6 px7 op cond size ak ar ab ai aq ad bk br bb bi bq bd c rep len)
2 ==
ansI
(skPT 16384 4096 false false true 36864 256 true true false 82
(wrM (fun x => 0) 36864 (rowF (fun x => 0) (fillB n) 256) 256) pr0 pr1 pr2 pr3 pr4 pr5 pr6 pr7 pip pfc pfp pfz pfs pfo
pfd px0 px1 px2 px3 px4 px5 px6 px7 op cond size ak ar ab ai aq ad bk br bb bi bq bd c rep len)
2 &&
(ansI
(skPT 16384 4096 false false true 36864 256 true true false 103
(wrM (fun x => 0) 36864 (rowF (fun x => 0) (fillB n) 256) 256) pr0 pr1 pr2 pr3 pr4 pr5 pr6 pr7 pip pfc pfp pfz pfs pfo
pfd px0 px1 px2 px3 px4 px5 px6 px7 op cond size ak ar ab ai aq ad bk br bb bi bq bd c rep len)
3 ==
ansI
(skPT 16384 4096 false false true 36864 256 true true false 82
(wrM (fun x => 0) 36864 (rowF (fun x => 0) (fillB n) 256) 256) pr0 pr1 pr2 pr3 pr4 pr5 pr6 pr7 pip pfc pfp pfz pfs pfo
pfd px0 px1 px2 px3 px4 px5 px6 px7 op cond size ak ar ab ai aq ad bk br bb bi bq bd c rep len)
3 &&
(ansI
(skPT 16384 4096 false false true 36864 256 true true false 103
(wrM (fun x => 0) 36864 (rowF (fun x => 0) (fillB n) 256) 256) pr0 pr1 pr2 pr3 pr4 pr5 pr6 pr7 pip pfc pfp pfz pfs pfo
pfd px0 px1 px2 px3 px4 px5 px6 px7 op cond size ak ar ab ai aq ad bk br bb bi bq bd c rep len)
4 ==
ansI
(skPT 16384 4096 false false true 36864 256 true true false 82
(wrM (fun x => 0) 36864 (rowF (fun x => 0) (fillB n) 256) 256) pr0 pr1 pr2 pr3 pr4 pr5 pr6 pr7 pip pfc pfp pfz pfs pfo
pfd px0 px1 px2 px3 px4 px5 px6 px7 op cond size ak ar ab ai aq ad bk br bb bi bq bd c rep len)
4 &&
(ansI
(skPT 16384 4096 false false true 36864 256 true true false 103
(wrM (fun x => 0) 36864 (rowF (fun x => 0) (fillB n) 256) 256) pr0 pr1 pr2 pr3 pr4 pr5 pr6 pr7 pip pfc pfp pfz pfs pfo
pfd px0 px1 px2 px3 px4 px5 px6 px7 op cond size ak ar ab ai aq ad bk br bb bi bq bd c rep len)
5 ==
ansI
(skPT 16384 4096 false false true 36864 256 true true false 82
(wrM (fun x => 0) 36864 (rowF (fun x => 0) (fillB n) 256) 256) pr0 pr1 pr2 pr3 pr4 pr5 pr6 pr7 pip pfc pfp pfz pfs pfo
pfd px0 px1 px2 px3 px4 px5 px6 px7 op cond size ak ar ab ai aq ad bk br bb bi bq bd c rep len)
5 &&
(ansI
(skPT 16384 4096 false false true 36864 256 true true false 103
(wrM (fun x => 0) 36864 (rowF (fun x => 0) (fillB n) 256) 256) pr0 pr1 pr2 pr3 pr4 pr5 pr6 pr7 pip pfc pfp pfz pfs pfo
pfd px0 px1 px2 px3 px4 px5 px6 px7 op cond size ak ar ab ai aq ad bk br bb bi bq bd c rep len)
6 ==
ansI
(skPT 16384 4096 false false true 36864 256 true true false 82
(wrM (fun x => 0) 36864 (rowF (fun x => 0) (fillB n) 256) 256) pr0 pr1 pr2 pr3 pr4 pr5 pr6 pr7 pip pfc pfp pfz pfs pfo
pfd px0 px1 px2 px3 px4 px5 px6 px7 op cond size ak ar ab ai aq ad bk br bb bi bq bd c rep len)
6 &&
(ansI
(skPT 16384 4096 false false true 36864 256 true true false 103
(wrM (fun x => 0) 36864 (rowF (fun x => 0) (fillB n) 256) 256) pr0 pr1 pr2 pr3 pr4 pr5 pr6 pr7 pip pfc pfp pfz pfs pfo
pfd px0 px1 px2 px3 px4 px5 px6 px7 op cond size ak ar ab ai aq ad bk br bb bi bq bd c rep len)
7 ==
ansI
(skPT 16384 4096 false false true 36864 256 true true false 82
(wrM (fun x => 0) 36864 (rowF (fun x => 0) (fillB n) 256) 256) pr0 pr1 pr2 pr3 pr4 pr5 pr6 pr7 pip pfc pfp pfz pfs pfo
pfd px0 px1 px2 px3 px4 px5 px6 px7 op cond size ak ar ab ai aq ad bk br bb bi bq bd c rep len)
7 &&
true))))))) &&
(ansI
(skPT 16384 4096 false false true 36864 256 true true false 103
(wrM (fun x => 0) 36864 (rowF (fun x => 0) (fillB n) 256) 256) pr0 pr1 pr2 pr3 pr4 pr5 pr6 pr7 pip pfc pfp pfz pfs pfo
pfd px0 px1 px2 px3 px4 px5 px6 px7 op cond size ak ar ab ai aq ad bk br bb bi bq bd c rep len)
8 ==
ansI
(skPT 16384 4096 false false true 36864 256 true true false 82
(wrM (fun x => 0) 36864 (rowF (fun x => 0) (fillB n) 256) 256) pr0 pr1 pr2 pr3 pr4 pr5 pr6 pr7 pip pfc pfp pfz pfs pfo
pfd px0 px1 px2 px3 px4 px5 px6 px7 op cond size ak ar ab ai aq ad bk br bb bi bq bd c rep len)
8 &&
(ansB
(skPT 16384 4096 false false true 36864 256 true true false 103
(wrM (fun x => 0) 36864 (rowF (fun x => 0) (fillB n) 256) 256) pr0 pr1 pr2 pr3 pr4 pr5 pr6 pr7 pip pfc pfp pfz pfs pfo
pfd px0 px1 px2 px3 px4 px5 px6 px7 op cond size ak ar ab ai aq ad bk br bb bi bq bd c rep len)
9 ==
ansB
(skPT 16384 4096 false false true 36864 256 true true false 82
(wrM (fun x => 0) 36864 (rowF (fun x => 0) (fillB n) 256) 256) pr0 pr1 pr2 pr3 pr4 pr5 pr6 pr7 pip pfc pfp pfz pfs pfo
pfd px0 px1 px2 px3 px4 px5 px6 px7 op cond size ak ar ab ai aq ad bk br bb bi bq bd c rep len)
9 &&
(ansB
(skPT 16384 4096 false false true 36864 256 true true false 103
(wrM (fun x => 0) 36864 (rowF (fun x => 0) (fillB n) 256) 256) pr0 pr1 pr2 pr3 pr4 pr5 pr6 pr7 pip pfc pfp pfz pfs pfo
pfd px0 px1 px2 px3 px4 px5 px6 px7 op cond size ak ar ab ai aq ad bk br bb bi bq bd c rep len)
10 ==
ansB
(skPT 16384 4096 false false true 36864 256 true true false 82
(wrM (fun x => 0) 36864 (rowF (fun x => 0) (fillB n) 256) 256) pr0 pr1 pr2 pr3 pr4 pr5 pr6 pr7 pip pfc pfp pfz pfs pfo
pfd px0 px1 px2 px3 px4 px5 px6 px7 op cond size ak ar ab ai aq ad bk br bb bi bq bd c rep len)
10 &&
(ansB
(skPT 16384 4096 false false true 36864 256 true true false 103
(wrM (fun x => 0) 36864 (rowF (fun x => 0) (fillB n) 256) 256) pr0 pr1 pr2 pr3 pr4 pr5 pr6 pr7 pip pfc pfp pfz pfs pfo
pfd px0 px1 px2 px3 px4 px5 px6 px7 op cond size ak ar ab ai aq ad bk br bb bi bq bd c rep len)
11 ==
ansB
(skPT 16384 4096 false false true 36864 256 true true false 82
(wrM (fun x => 0) 36864 (rowF (fun x => 0) (fillB n) 256) 256) pr0 pr1 pr2 pr3 pr4 pr5 pr6 pr7 pip pfc pfp pfz pfs pfo
pfd px0 px1 px2 px3 px4 px5 px6 px7 op cond size ak ar ab ai aq ad bk br bb bi bq bd c rep len)
11 &&
(ansB
(skPT 16384 4096 false false true 36864 256 true true false 103
(wrM (fun x => 0) 36864 (rowF (fun x => 0) (fillB n) 256) 256) pr0 pr1 pr2 pr3 pr4 pr5 pr6 pr7 pip pfc pfp pfz pfs pfo
pfd px0 px1 px2 px3 px4 px5 px6 px7 op cond size ak ar ab ai aq ad bk br bb bi bq bd c rep len)
12 ==
ansB
(skPT 16384 4096 false false true 36864 256 true true false 82
(wrM (fun x => 0) 36864 (rowF (fun x => 0) (fillB n) 256) 256) pr0 pr1 pr2 pr3 pr4 pr5 pr6 pr7 pip pfc pfp pfz pfs pfo
pfd px0 px1 px2 px3 px4 px5 px6 px7 op cond size ak ar ab ai aq ad bk br bb bi bq bd c rep len)
12 &&
(ansB
(skPT 16384 4096 false false true 36864 256 true true false 103
(wrM (fun x => 0) 36864 (rowF (fun x => 0) (fillB n) 256) 256) pr0 pr1 pr2 pr3 pr4 pr5 pr6 pr7 pip pfc pfp pfz pfs pfo
pfd px0 px1 px2 px3 px4 px5 px6 px7 op cond size ak ar ab ai aq ad bk br bb bi bq bd c rep len)
13 ==
ansB
(skPT 16384 4096 false false true 36864 256 true true false 82
(wrM (fun x => 0) 36864 (rowF (fun x => 0) (fillB n) 256) 256) pr0 pr1 pr2 pr3 pr4 pr5 pr6 pr7 pip pfc pfp pfz pfs pfo
pfd px0 px1 px2 px3 px4 px5 px6 px7 op cond size ak ar ab ai aq ad bk br bb bi bq bd c rep len)
13 &&
(ansB
(skPT 16384 4096 false false true 36864 256 true true false 103
(wrM (fun x => 0) 36864 (rowF (fun x => 0) (fillB n) 256) 256) pr0 pr1 pr2 pr3 pr4 pr5 pr6 pr7 pip pfc pfp pfz pfs pfo
pfd px0 px1 px2 px3 px4 px5 px6 px7 op cond size ak ar ab ai aq ad bk br bb bi bq bd c rep len)
14 ==
ansB
(skPT 16384 4096 false false true 36864 256 true true false 82
(wrM (fun x => 0) 36864 (rowF (fun x => 0) (fillB n) 256) 256) pr0 pr1 pr2 pr3 pr4 pr5 pr6 pr7 pip pfc pfp pfz pfs pfo
pfd px0 px1 px2 px3 px4 px5 px6 px7 op cond size ak ar ab ai aq ad bk br bb bi bq bd c rep len)
14 &&
true))))) &&
(ansI
(skPT 16384 4096 false false true 36864 256 true true false 103
(wrM (fun x => 0) 36864 (rowF (fun x => 0) (fillB n) 256) 256) pr0 pr1 pr2 pr3 pr4 pr5 pr6 pr7 pip pfc pfp pfz pfs pfo
pfd px0 px1 px2 px3 px4 px5 px6 px7 op cond size ak ar ab ai aq ad bk br bb bi bq bd c rep len)
15 ==
ansI
(skPT 16384 4096 false false true 36864 256 true true false 82
(wrM (fun x => 0) 36864 (rowF (fun x => 0) (fillB n) 256) 256) pr0 pr1 pr2 pr3 pr4 pr5 pr6 pr7 pip pfc pfp pfz pfs pfo
pfd px0 px1 px2 px3 px4 px5 px6 px7 op cond size ak ar ab ai aq ad bk br bb bi bq bd c rep len)
15 &&
(ansI
(skPT 16384 4096 false false true 36864 256 true true false 103
(wrM (fun x => 0) 36864 (rowF (fun x => 0) (fillB n) 256) 256) pr0 pr1 pr2 pr3 pr4 pr5 pr6 pr7 pip pfc pfp pfz pfs pfo
pfd px0 px1 px2 px3 px4 px5 px6 px7 op cond size ak ar ab ai aq ad bk br bb bi bq bd c rep len)
16 ==
ansI
(skPT 16384 4096 false false true 36864 256 true true false 82
(wrM (fun x => 0) 36864 (rowF (fun x => 0) (fillB n) 256) 256) pr0 pr1 pr2 pr3 pr4 pr5 pr6 pr7 pip pfc pfp pfz pfs pfo
pfd px0 px1 px2 px3 px4 px5 px6 px7 op cond size ak ar ab ai aq ad bk br bb bi bq bd c rep len)
16 &&
(ansI
(skPT 16384 4096 false false true 36864 256 true true false 103
(wrM (fun x => 0) 36864 (rowF (fun x => 0) (fillB n) 256) 256) pr0 pr1 pr2 pr3 pr4 pr5 pr6 pr7 pip pfc pfp pfz pfs pfo
pfd px0 px1 px2 px3 px4 px5 px6 px7 op cond size ak ar ab ai aq ad bk br bb bi bq bd c rep len)
17 ==
ansI
(skPT 16384 4096 false false true 36864 256 true true false 82
(wrM (fun x => 0) 36864 (rowF (fun x => 0) (fillB n) 256) 256) pr0 pr1 pr2 pr3 pr4 pr5 pr6 pr7 pip pfc pfp pfz pfs pfo
pfd px0 px1 px2 px3 px4 px5 px6 px7 op cond size ak ar ab ai aq ad bk br bb bi bq bd c rep len)
17 &&
(ansI
(skPT 16384 4096 false false true 36864 256 true true false 103
(wrM (fun x => 0) 36864 (rowF (fun x => 0) (fillB n) 256) 256) pr0 pr1 pr2 pr3 pr4 pr5 pr6 pr7 pip pfc pfp pfz pfs pfo
pfd px0 px1 px2 px3 px4 px5 px6 px7 op cond size ak ar ab ai aq ad bk br bb bi bq bd c rep len)
18 ==
ansI
(skPT 16384 4096 false false true 36864 256 true true false 82
(wrM (fun x => 0) 36864 (rowF (fun x => 0) (fillB n) 256) 256) pr0 pr1 pr2 pr3 pr4 pr5 pr6 pr7 pip pfc pfp pfz pfs pfo
pfd px0 px1 px2 px3 px4 px5 px6 px7 op cond size ak ar ab ai aq ad bk br bb bi bq bd c rep len)
18 &&
(ansI
(skPT 16384 4096 false false true 36864 256 true true false 103
(wrM (fun x => 0) 36864 (rowF (fun x => 0) (fillB n) 256) 256) pr0 pr1 pr2 pr3 pr4 pr5 pr6 pr7 pip pfc pfp pfz pfs pfo
pfd px0 px1 px2 px3 px4 px5 px6 px7 op cond size ak ar ab ai aq ad bk br bb bi bq bd c rep len)
19 ==
ansI
(skPT 16384 4096 false false true 36864 256 true true false 82
(wrM (fun x => 0) 36864 (rowF (fun x => 0) (fillB n) 256) 256) pr0 pr1 pr2 pr3 pr4 pr5 pr6 pr7 pip pfc pfp pfz pfs pfo
pfd px0 px1 px2 px3 px4 px5 px6 px7 op cond size ak ar ab ai aq ad bk br bb bi bq bd c rep len)
19 &&
(ansI
(skPT 16384 4096 false false true 36864 256 true true false 103
(wrM (fun x => 0) 36864 (rowF (fun x => 0) (fillB n) 256) 256) pr0 pr1 pr2 pr3 pr4 pr5 pr6 pr7 pip pfc pfp pfz pfs pfo
pfd px0 px1 px2 px3 px4 px5 px6 px7 op cond size ak ar ab ai aq ad bk br bb bi bq bd c rep len)
20 ==
ansI
(skPT 16384 4096 false false true 36864 256 true true false 82
(wrM (fun x => 0) 36864 (rowF (fun x => 0) (fillB n) 256) 256) pr0 pr1 pr2 pr3 pr4 pr5 pr6 pr7 pip pfc pfp pfz pfs pfo
pfd px0 px1 px2 px3 px4 px5 px6 px7 op cond size ak ar ab ai aq ad bk br bb bi bq bd c rep len)
20 &&
(ansI
(skPT 16384 4096 false false true 36864 256 true true false 103
(wrM (fun x => 0) 36864 (rowF (fun x => 0) (fillB n) 256) 256) pr0 pr1 pr2 pr3 pr4 pr5 pr6 pr7 pip pfc pfp pfz pfs pfo
pfd px0 px1 px2 px3 px4 px5 px6 px7 op cond size ak ar ab ai aq ad bk br bb bi bq bd c rep len)
21 ==
ansI
(skPT 16384 4096 false false true 36864 256 true true false 82
(wrM (fun x => 0) 36864 (rowF (fun x => 0) (fillB n) 256) 256) pr0 pr1 pr2 pr3 pr4 pr5 pr6 pr7 pip pfc pfp pfz pfs pfo
pfd px0 px1 px2 px3 px4 px5 px6 px7 op cond size ak ar ab ai aq ad bk br bb bi bq bd c rep len)
21 &&
(ansI
(skPT 16384 4096 false false true 36864 256 true true false 103
(wrM (fun x => 0) 36864 (rowF (fun x => 0) (fillB n) 256) 256) pr0 pr1 pr2 pr3 pr4 pr5 pr6 pr7 pip pfc pfp pfz pfs pfo
pfd px0 px1 px2 px3 px4 px5 px6 px7 op cond size ak ar ab ai aq ad bk br bb bi bq bd c rep len)
22 ==
ansI
(skPT 16384 4096 false false true 36864 256 true true false 82
(wrM (fun x => 0) 36864 (rowF (fun x => 0) (fillB n) 256) 256) pr0 pr1 pr2 pr3 pr4 pr5 pr6 pr7 pip pfc pfp pfz pfs pfo
pfd px0 px1 px2 px3 px4 px5 px6 px7 op cond size ak ar ab ai aq ad bk br bb bi bq bd c rep len)
22 &&
true))))))) &&
true)))) then
some
(1, 192,
[vw d, vw n, Sv.ptr 9 0, Sv.sl 10 0 3 3,
vi 3, vi 0],
[o0, o1, o2, o3, o4, o5, o6, o7, o8,
SObj.cells
[vi op, vi cond, vi size,
vi ak, vi ar, vi ab,
vi ai, vi aq, vw ad,
vi bk, vi br, vi bb,
vi bi, vi bq, vw bd,
vw c, vb rep, vi len]
Ti,
SObj.cells
[vw pr0, vw pr1, vw pr2,
vw pr3, vw pr4, vw pr5,
vw pr6, vw pr7, vw pip,
vb pfc, vb pfp, vb pfz, vb pfs, vb pfo,
vb pfd, vd px0, vd px1,
vd px2, vd px3, vd px4,
vd px5, vd px6, vd px7,
vw qr0, vw qr1, vw qr2,
vw qr3, vw qr4, vw qr5,
vw qr6, vw qr7, vw qip,
vb qfc, vb qfp, vb qfz, vb qfs, vb qfo,
vb qfd, vd qx0, vd qx1,
vd qx2, vd qx3, vd qx4,
vd qx5, vd qx6, vd qx7,
vw sr0, vw sr1, vw sr2,
vw sr3, vw sr4, vw sr5,
vw sr6, vw sr7, vw sip,
vb sfc, vb sfp, vb sfz, vb sfs, vb sfo,
vb sfd, vd sx0, vd sx1,
vd sx2, vd sx3, vd sx4,
vd sx5, vd sx6, vd sx7]
Tz])
else
bif
ansI
(skPT 16384 4096 false false true 36864 256 true true false 103
(wrM (fun x => 0) 36864 (rowF (fun x => 0) (fillB n) 256) 256) pr0 pr1 pr2 pr3 pr4 pr5 pr6 pr7 pip pfc pfp pfz pfs pfo
pfd px0 px1 px2 px3 px4 px5 px6 px7 op cond size ak ar ab ai aq ad bk br bb bi bq bd c rep len)
23 !=
ansI
(skPT 16384 4096 false false true 36864 256 true true false 82
(wrM (fun x => 0) 36864 (rowF (fun x => 0) (fillB n) 256) 256) pr0 pr1 pr2 pr3 pr4 pr5 pr6 pr7 pip pfc pfp pfz pfs pfo
pfd px0 px1 px2 px3 px4 px5 px6 px7 op cond size ak ar ab ai aq ad bk br bb bi bq bd c rep len)
23 then
some
(1, 192,
[vw d, vw n, Sv.ptr 9 0, Sv.sl 10 0 3 3,
vi 3, vi 0],
[o0, o1, o2, o3, o4, o5, o6, o7, o8,
SObj.cells
[vi op, vi cond, vi size,
vi ak, vi ar, vi ab,
vi ai, vi aq, vw ad,
vi bk, vi br, vi bb,
vi bi, vi bq, vw bd,
vw c, vb rep, vi len]
Ti,
SObj.cells
[vw pr0, vw pr1, vw pr2,
vw pr3, vw pr4, vw pr5,
vw pr6, vw pr7, vw pip,
vb pfc, vb pfp, vb pfz, vb pfs, vb pfo,
vb pfd, vd px0, vd px1,
vd px2, vd px3, vd px4,
vd px5, vd px6, vd px7,
vw qr0, vw qr1, vw qr2,
vw qr3, vw qr4, vw qr5,
vw qr6, vw qr7, vw qip,
vb qfc, vb qfp, vb qfz, vb qfs, vb qfo,
vb qfd, vd qx0, vd qx1,
vd qx2, vd qx3, vd qx4,
vd qx5, vd qx6, vd qx7,
vw sr0, vw sr1, vw sr2,
vw sr3, vw sr4, vw sr5,
vw sr6, vw sr7, vw sip,
vb sfc, vb sfp, vb sfz, vb sfs, vb sfo,
vb sfd, vd sx0, vd sx1,
vd sx2, vd sx3, vd sx4,
vd sx5, vd sx6, vd sx7]
Tz])
else
bif
!alikeV
(ansM
(skPT 16384 4096 false false true 36864 256 true true false 103
(wrM (fun x => 0) 36864 (rowF (fun x => 0) (fillB n) 256) 256) pr0 pr1 pr2 pr3 pr4 pr5 pr6 pr7 pip pfc pfp pfz pfs pfo
pfd px0 px1 px2 px3 px4 px5 px6 px7 op cond size ak ar ab ai aq ad bk br bb bi bq bd c rep len)
1)
(ansM
(skPT 16384 4096 false false true 36864 256 true true false 82
(wrM (fun x => 0) 36864 (rowF (fun x => 0) (fillB n) 256) 256) pr0 pr1 pr2 pr3 pr4 pr5 pr6 pr7 pip pfc pfp pfz pfs pfo
pfd px0 px1 px2 px3 px4 px5 px6 px7 op cond size ak ar ab ai aq ad bk br bb bi bq bd c rep len)
1) then
some
(1, 192,
[vw d, vw n, Sv.ptr 9 0, Sv.sl 10 0 3 3,
vi 3, vi 0],
[o0, o1, o2, o3, o4, o5, o6, o7, o8,
SObj.cells
[vi op, vi cond, vi size,
vi ak, vi ar, vi ab,
vi ai, vi aq, vw ad,
vi bk, vi br, vi bb,
vi bi, vi bq, vw bd,
vw c, vb rep, vi len]
Ti,
SObj.cells
[vw pr0, vw pr1, vw pr2,
vw pr3, vw pr4, vw pr5,
vw pr6, vw pr7, vw pip,
vb pfc, vb pfp, vb pfz, vb pfs, vb pfo,
vb pfd, vd px0, vd px1,
vd px2, vd px3, vd px4,
vd px5, vd px6, vd px7,
vw qr0, vw qr1, vw qr2,
vw qr3, vw qr4, vw qr5,
vw qr6, vw qr7, vw qip,
vb qfc, vb qfp, vb qfz, vb qfs, vb qfo,
vb qfd, vd qx0, vd qx1,
vd qx2, vd qx3, vd qx4,
vd qx5, vd qx6, vd qx7,
vw sr0, vw sr1, vw sr2,
vw sr3, vw sr4, vw sr5,
vw sr6, vw sr7, vw sip,
vb sfc, vb sfp, vb sfz, vb sfs, vb sfo,
vb sfd, vd sx0, vd sx1,
vd sx2, vd sx3, vd sx4,
vd sx5, vd sx6, vd sx7]
Tz])
else
bif
in32 pr0 &&
(in32 pr1 &&
(in32 pr2 && (in32 pr3 && (in32 pr4 && (in32 pr5 && (in32 pr6 && (in32 pr7 && (true && (true && in32 d))))))))) &&
!12 + 12 == 12 + 6 then
bif
in32 pr0 &&
(in32 pr1 &&
(in32 pr2 && (in32 pr3 && (in32 pr4 && (in32 pr5 && (in32 pr6 && (in32 pr7 && (true && (true && in32 d))))))))) &&
(!12 + 5 == 12 + 1 && (!12 + 5 == 12 && !12 + 1 == 12)) then
bif
!(pr0 == pr0 &&
(pr1 == pr1 &&
(pr2 == pr2 &&
(pr3 == pr3 &&
(puV pr4 (skOk 36864 256 (IntKind.wrap IntKind.u32 (pr4 - 4)) true) ==
puV pr4 (skOk 36864 256 (IntKind.wrap IntKind.u32 (pr4 - 4)) true) &&
(pr5 == pr5 && (pr6 == pr6 && (pr7 == pr7 && true))))))) &&
(pip == pip &&
(pfc == pfc && (pfp == pfp && (pfz == pfz && (pfs == pfs && (pfo == pfo && (pfd == pfd && true))))) &&
(px0 == px0 &&
(px1 == px1 && (px2 == px2 && (px3 == px3 && (px4 == px4 && (px5 == px5 && (px6 == px6 && (px7 == px7 && true))))))) &&
true)))) then
some
(1, 192,
[vw d, vw n, Sv.ptr 9 0, Sv.sl 10 0 3 3,
vi 3, vi 0],
[o0, o1, o2, o3, o4, o5, o6, o7, o8,
SObj.cells
[vi op, vi cond, vi size,
vi ak, vi ar, vi ab,
vi ai, vi aq, vw ad,
vi bk, vi br, vi bb,
vi bi, vi bq, vw bd,
vw c, vb rep, vi len]
Ti,
SObj.cells
[vw pr0, vw pr1, vw pr2,
vw pr3, vw pr4, vw pr5,
vw pr6, vw pr7, vw pip,
vb pfc, vb pfp, vb pfz, vb pfs, vb pfo,
vb pfd, vd px0, vd px1,
vd px2, vd px3, vd px4,
vd px5, vd px6, vd px7,
vw qr0, vw qr1, vw qr2,
vw qr3, vw qr4, vw qr5,
vw qr6, vw qr7, vw qip,
vb qfc, vb qfp, vb qfz, vb qfs, vb qfo,
vb qfd, vd qx0, vd qx1,
vd qx2, vd qx3, vd qx4,
vd qx5, vd qx6, vd qx7,
vw sr0, vw sr1, vw sr2,
vw sr3, vw sr4, vw sr5,
vw sr6, vw sr7, vw sip,
vb sfc, vb sfp, vb sfz, vb sfs, vb sfo,
vb sfd, vd sx0, vd sx1,
vd sx2, vd sx3, vd sx4,
vd sx5, vd sx6, vd sx7]
Tz])
else
bif
endV (skOk 36864 256 (IntKind.wrap IntKind.u32 (pr4 - 4)) true) !=
endV (skOk 36864 256 (IntKind.wrap IntKind.u32 (pr4 - 4)) true) then
some
(1, 192,
[vw d, vw n, Sv.ptr 9 0, Sv.sl 10 0 3 3,
vi 3, vi 0],
[o0, o1, o2, o3, o4, o5, o6, o7, o8,
SObj.cells
[vi op, vi cond, vi size,
vi ak, vi ar, vi ab,
vi ai, vi aq, vw ad,
vi bk, vi br, vi bb,
vi bi, vi bq, vw bd,
vw c, vb rep, vi len]
Ti,
SObj.cells
[vw pr0, vw pr1, vw pr2,
vw pr3, vw pr4, vw pr5,
vw pr6, vw pr7, vw pip,
vb pfc, vb pfp, vb pfz, vb pfs, vb pfo,
vb pfd, vd px0, vd px1,
vd px2, vd px3, vd px4,
vd px5, vd px6, vd px7,
vw qr0, vw qr1, vw qr2,
vw qr3, vw qr4, vw qr5,
vw qr6, vw qr7, vw qip,
vb qfc, vb qfp, vb qfz, vb qfs, vb qfo,
vb qfd, vd qx0, vd qx1,
vd qx2, vd qx3, vd qx4,
vd qx5, vd qx6, vd qx7,
vw sr0, vw sr1, vw sr2,
vw sr3, vw sr4, vw sr5,
vw sr6, vw sr7, vw sip,
vb sfc, vb sfp, vb sfz, vb sfs, vb sfo,
vb sfd, vd sx0, vd sx1,
vd sx2, vd sx3, vd sx4,
vd sx5, vd sx6, vd sx7]
Tz])
else
bif
!alikeV
(stV
(ansM
(skPT 16384 4096 false false true 36864 256 true true false 103
(wrM (fun x => 0) 36864 (rowF (fun x => 0) (fillB n) 256) 256) pr0 pr1 pr2 pr3 pr4 pr5 pr6 pr7 pip pfc pfp pfz pfs pfo
pfd px0 px1 px2 px3 px4 px5 px6 px7 op cond size ak ar ab ai aq ad bk br bb bi bq bd c rep len)
1)
36864 256 (IntKind.wrap IntKind.u32 (pr4 - 4)) 4 (IntKind.wrap IntKind.u64 d) true)
(stV
(ansM
(skPT 16384 4096 false false true 36864 256 true true false 82
(wrM (fun x => 0) 36864 (rowF (fun x => 0) (fillB n) 256) 256) pr0 pr1 pr2 pr3 pr4 pr5 pr6 pr7 pip pfc pfp pfz pfs pfo
pfd px0 px1 px2 px3 px4 px5 px6 px7 op cond size ak ar ab ai aq ad bk br bb bi bq bd c rep len)
1)
36864 256 (IntKind.wrap IntKind.u32 (pr4 - 4)) 4 (IntKind.wrap IntKind.u64 d) true) then
some
(1, 192,
[vw d, vw n, Sv.ptr 9 0, Sv.sl 10 0 3 3,
vi 3, vi 0],
[o0, o1, o2, o3, o4, o5, o6, o7, o8,
SObj.cells
[vi op, vi cond, vi size,
vi ak, vi ar, vi ab,
vi ai, vi aq, vw ad,
vi bk, vi br, vi bb,
vi bi, vi bq, vw bd,
vw c, vb rep, vi len]
Ti,
SObj.cells
[vw pr0, vw pr1, vw pr2,
vw pr3, vw pr4, vw pr5,
vw pr6, vw pr7, vw pip,
vb pfc, vb pfp, vb pfz, vb pfs, vb pfo,
vb pfd, vd px0, vd px1,
vd px2, vd px3, vd px4,
vd px5, vd px6, vd px7,
vw qr0, vw qr1, vw qr2,
vw qr3, vw qr4, vw qr5,
vw qr6, vw qr7, vw qip,
vb qfc, vb qfp, vb qfz, vb qfs, vb qfo,
vb qfd, vd qx0, vd qx1,
vd qx2, vd qx3, vd qx4,
vd qx5, vd qx6, vd qx7,
vw sr0, vw sr1, vw sr2,
vw sr3, vw sr4, vw sr5,
vw sr6, vw sr7, vw sip,
vb sfc, vb sfp, vb sfz, vb sfs, vb sfo,
vb sfd, vd sx0, vd sx1,
vd sx2, vd sx3, vd sx4,
vd sx5, vd sx6, vd sx7]
Tz])
else
bif
in32 pr0 && (in32 pr1 && (in32 pr2 && (in32 pr3 && (in32 pr4 && (in32 pr5 && (in32 pr6 && (in32 pr7 && true))))))) &&
!12 + 12 == 12 + 6 then
bif
in32 pr0 && (in32 pr1 && (in32 pr2 && (in32 pr3 && (in32 pr4 && (in32 pr5 && (in32 pr6 && (in32 pr7 && true))))))) &&
(!12 + 5 == 12 + 1 && (!12 + 5 == 12 && !12 + 1 == 12)) then
bif
orV
(IntKind.wrap IntKind.u32
(ldV
(stV
(ansM
(skPT 16384 4096 false false true 36864 256 true true false 103
(wrM (fun x => 0) 36864 (rowF (fun x => 0) (fillB n) 256) 256) pr0 pr1 pr2 pr3 pr4 pr5 pr6 pr7 pip pfc pfp pfz pfs pfo
pfd px0 px1 px2 px3 px4 px5 px6 px7 op cond size ak ar ab ai aq ad bk br bb bi bq bd c rep len)
1)
36864 256 (IntKind.wrap IntKind.u32 (pr4 - 4)) 4 (IntKind.wrap IntKind.u64 d) true)
36864 256 pr4 4 true))
(skOk 36864 256 pr4 true) !=
orV
(IntKind.wrap IntKind.u32
(ldV
(stV
(ansM
(skPT 16384 4096 false false true 36864 256 true true false 82
(wrM (fun x => 0) 36864 (rowF (fun x => 0) (fillB n) 256) 256) pr0 pr1 pr2 pr3 pr4 pr5 pr6 pr7 pip pfc pfp pfz pfs pfo
pfd px0 px1 px2 px3 px4 px5 px6 px7 op cond size ak ar ab ai aq ad bk br bb bi bq bd c rep len)
1)
36864 256 (IntKind.wrap IntKind.u32 (pr4 - 4)) 4 (IntKind.wrap IntKind.u64 d) true)
36864 256 pr4 4 true))
(skOk 36864 256 pr4 true) then
some
(1, 192,
[vw d, vw n, Sv.ptr 9 0, Sv.sl 10 0 3 3,
vi 3, vi 0],
[o0, o1, o2, o3, o4, o5, o6, o7, o8,
SObj.cells
[vi op, vi cond, vi size,
vi ak, vi ar, vi ab,
vi ai, vi aq, vw ad,
vi bk, vi br, vi bb,
vi bi, vi bq, vw bd,
vw c, vb rep, vi len]
Ti,
SObj.cells
[vw pr0, vw pr1, vw pr2,
vw pr3, vw pr4, vw pr5,
vw pr6, vw pr7, vw pip,
vb pfc, vb pfp, vb pfz, vb pfs, vb pfo,
vb pfd, vd px0, vd px1,
vd px2, vd px3, vd px4,
vd px5, vd px6, vd px7,
vw qr0, vw qr1, vw qr2,
vw qr3, vw qr4, vw qr5,
vw qr6, vw qr7, vw qip,
vb qfc, vb qfp, vb qfz, vb qfs, vb qfo,
vb qfd, vd qx0, vd qx1,
vd qx2, vd qx3, vd qx4,
vd qx5, vd qx6, vd qx7,
vw sr0, vw sr1, vw sr2,
vw sr3, vw sr4, vw sr5,
vw sr6, vw sr7, vw sip,
vb sfc, vb sfp, vb sfz, vb sfs, vb sfo,
vb sfd, vd sx0, vd sx1,
vd sx2, vd sx3, vd sx4,
vd sx5, vd sx6, vd sx7]
Tz])
else
bif
!(pr0 == pr0 &&
(pr1 == pr1 &&
(pr2 == pr2 &&
(pr3 == pr3 &&
(poV pr4 (skOk 36864 256 pr4 true) == poV pr4 (skOk 36864 256 pr4 true) &&
(pr5 == pr5 && (pr6 == pr6 && (pr7 == pr7 && true))))))) &&
(pip == pip &&
(pfc == pfc && (pfp == pfp && (pfz == pfz && (pfs == pfs && (pfo == pfo && (pfd == pfd && true))))) &&
(px0 == px0 &&
(px1 == px1 && (px2 == px2 && (px3 == px3 && (px4 == px4 && (px5 == px5 && (px6 == px6 && (px7 == px7 && true))))))) &&
true)))) then
some
(1, 192,
[vw d, vw n, Sv.ptr 9 0, Sv.sl 10 0 3 3,
vi 3, vi 0],
[o0, o1, o2, o3, o4, o5, o6, o7, o8,
SObj.cells
[vi op, vi cond, vi size,
vi ak, vi ar, vi ab,
vi ai, vi aq, vw ad,
vi bk, vi br, vi bb,
vi bi, vi bq, vw bd,
vw c, vb rep, vi len]
Ti,
SObj.cells
[vw pr0, vw pr1, vw pr2,
vw pr3, vw pr4, vw pr5,
vw pr6, vw pr7, vw pip,
vb pfc, vb pfp, vb pfz, vb pfs, vb pfo,
vb pfd, vd px0, vd px1,
vd px2, vd px3, vd px4,
vd px5, vd px6, vd px7,
vw qr0, vw qr1, vw qr2,
vw qr3, vw qr4, vw qr5,
vw qr6, vw qr7, vw qip,
vb qfc, vb qfp, vb qfz, vb qfs, vb qfo,
vb qfd, vd qx0, vd qx1,
vd qx2, vd qx3, vd qx4,
vd qx5, vd qx6, vd qx7,
vw sr0, vw sr1, vw sr2,
vw sr3, vw sr4, vw sr5,
vw sr6, vw sr7, vw sip,
vb sfc, vb sfp, vb sfz, vb sfs, vb sfo,
vb sfd, vd sx0, vd sx1,
vd sx2, vd sx3, vd sx4,
vd sx5, vd sx6, vd sx7]
Tz])
else
bif endV (skOk 36864 256 pr4 true) != endV (skOk 36864 256 pr4 true) then
some
(1, 192,
[vw d, vw n, Sv.ptr 9 0, Sv.sl 10 0 3 3,
vi 3, vi 0],
[o0, o1, o2, o3, o4, o5, o6, o7, o8,
SObj.cells
[vi op, vi cond, vi size,
vi ak, vi ar, vi ab,
vi ai, vi aq, vw ad,
vi bk, vi br, vi bb,
vi bi, vi bq, vw bd,
vw c, vb rep, vi len]
Ti,
SObj.cells
[vw pr0, vw pr1, vw pr2,
vw pr3, vw pr4, vw pr5,
vw pr6, vw pr7, vw pip,
vb pfc, vb pfp, vb pfz, vb pfs, vb pfo,
vb pfd, vd px0, vd px1,
vd px2, vd px3, vd px4,
vd px5, vd px6, vd px7,
vw qr0, vw qr1, vw qr2,
vw qr3, vw qr4, vw qr5,
vw qr6, vw qr7, vw qip,
vb qfc, vb qfp, vb qfz, vb qfs, vb qfo,
vb qfd, vd qx0, vd qx1,
vd qx2, vd qx3, vd qx4,
vd qx5, vd qx6, vd qx7,
vw sr0, vw sr1, vw sr2,
vw sr3, vw sr4, vw sr5,
vw sr6, vw sr7, vw sip,
vb sfc, vb sfp, vb sfz, vb sfs, vb sfo,
vb sfd, vd sx0, vd sx1,
vd sx2, vd sx3, vd sx4,
vd sx5, vd sx6, vd sx7]
Tz])
else
some
(0, 192,
[vw d, vw n, Sv.ptr 9 0, Sv.sl 10 0 3 3,
vi 3, vi 1],
[o0, o1, o2, o3, o4, o5, o6, o7, o8,
SObj.cells
[vi op, vi cond, vi size,
vi ak, vi ar, vi ab,
vi ai, vi aq, vw ad,
vi bk, vi br, vi bb,
vi bi, vi bq, vw bd,
vw c, vb rep, vi len]
Ti,
SObj.cells
[vw pr0, vw pr1, vw pr2,
vw pr3, vw pr4, vw pr5,
vw pr6, vw pr7, vw pip,
vb pfc, vb pfp, vb pfz, vb pfs, vb pfo,
vb pfd, vd px0, vd px1,
vd px2, vd px3, vd px4,
vd px5, vd px6, vd px7,
vw qr0, vw qr1, vw qr2,
vw qr3, vw qr4, vw qr5,
vw qr6, vw qr7, vw qip,
vb qfc, vb qfp, vb qfz, vb qfs, vb qfo,
vb qfd, vd qx0, vd qx1,
vd qx2, vd qx3, vd qx4,
vd qx5, vd qx6, vd qx7,
vw sr0, vw sr1, vw sr2,
vw sr3, vw sr4, vw sr5,
vw sr6, vw sr7, vw sip,
vb sfc, vb sfp, vb sfz, vb sfs, vb sfo,
vb sfd, vd sx0, vd sx1,
vd sx2, vd sx3, vd sx4,
vd sx5, vd sx6, vd sx7]
Tz])
else none
else none
else none
else none
else none
else none) := by kernel_rfl
theorem tl_form1 (d : Int) (n : Int) (pr0 : Int) (pr1 : Int) (pr2 : Int) (pr3 : Int) (pr4 : Int) (pr5 : Int) (pr6 : Int) (pr7 : Int) (pip : Int) (pfc : Bool) (pfp : Bool) (pfz : Bool) (pfs : Bool) (pfo : Bool) (pfd : Bool) (px0 : Int) (px1 : Int) (px2 : Int) (px3 : Int) (px4 : Int) (px5 : Int) (px6 : Int) (px7 : Int) (qr0 : Int) (qr1 : Int) (qr2 : Int) (qr3 : Int) (qr4 : Int) (qr5 : Int) (qr6 : Int) (qr7 : Int) (qip : Int) (qfc : Bool) (qfp : Bool) (qfz : Bool) (qfs : Bool) (qfo : Bool) (qfd : Bool) (qx0 : Int) (qx1 : Int) (qx2 : Int) (qx3 : Int) (qx4 : Int) (qx5 : Int) (qx6 : Int) (qx7 : Int) (sr0 : Int) (sr1 : Int) (sr2 : Int) (sr3 : Int) (sr4 : Int) (sr5 : Int) (sr6 : Int) (sr7 : Int) (sip : Int) (sfc : Bool) (sfp : Bool) (sfz : Bool) (sfs : Bool) (sfo : Bool) (sfd : Bool) (sx0 : Int) (sx1 : Int) (sx2 : Int) (sx3 : Int) (sx4 : Int) (sx5 : Int) (sx6 : Int) (sx7 : Int) (op : Int) (cond : Int) (size : Int) (ak : Int) (ar : Int) (ab : Int) (ai : Int) (aq : Int) (ad : Int) (bk : Int) (br : Int) (bb : Int) (bi : Int) (bq : Int) (bd : Int) (c : Int) (rep : Bool) (len : Int) (Ti : TypeId) (Tz : TypeId) (o0 : SObj) (o1 : SObj) (o2 : SObj) (o3 : SObj) (o4 : SObj) (o5 : SObj) (o6 : SObj) (o7 : SObj) (o8 : SObj) (g : List Sv) :
    ev Try.prog ΓTl 60 (fun _ => none) (roundOf Try.prog 13 0) (fr 192 [7, 8, 20, 97, 98, 99] [.v (.int .u32 d), .v (.int .u32 n), .ptr 9 0, .sl 10 0 3 3, .v (.int .i64 3), .v (.int .i64 1)] g) [o0, o1, o2, o3, o4, o5, o6, o7, o8, .cells [.v (.int .i64 op), .v (.int .i64 cond), .v (.int .i64 size), .v (.int .i64 ak), .v (.int .i64 ar), .v (.int .i64 ab), .v (.int .i64 ai), .v (.int .i64 aq), .v (.int .u32 ad), .v (.int .i64 bk), .v (.int .i64 br), .v (.int .i64 bb), .v (.int .i64 bi), .v (.int .i64 bq), .v (.int .u32 bd), .v (.int .u32 c), .v (.bool rep), .v (.int .i64 len)] Ti, .cells [.v (.int .u32 pr0), .v (.int .u32 pr1), .v (.int .u32 pr2), .v (.int .u32 pr3), .v (.int .u32 pr4), .v (.int .u32 pr5), .v (.int .u32 pr6), .v (.int .u32 pr7), .v (.int .u32 pip), .v (.bool pfc), .v (.bool pfp), .v (.bool pfz), .v (.bool pfs), .v (.bool pfo), .v (.bool pfd), .v (.int .u64 px0), .v (.int .u64 px1), .v (.int .u64 px2), .v (.int .u64 px3), .v (.int .u64 px4), .v (.int .u64 px5), .v (.int .u64 px6), .v (.int .u64 px7), .v (.int .u32 qr0), .v (.int .u32 qr1), .v (.int .u32 qr2), .v (.int .u32 qr3), .v (.int .u32 qr4), .v (.int .u32 qr5), .v (.int .u32 qr6), .v (.int .u32 qr7), .v (.int .u32 qip), .v (.bool qfc), .v (.bool qfp), .v (.bool qfz), .v (.bool qfs), .v (.bool qfo), .v (.bool qfd), .v (.int .u64 qx0), .v (.int .u64 qx1), .v (.int .u64 qx2), .v (.int .u64 qx3), .v (.int .u64 qx4), .v (.int .u64 qx5), .v (.int .u64 qx6), .v (.int .u64 qx7), .v (.int .u32 sr0), .v (.int .u32 sr1), .v (.int .u32 sr2), .v (.int .u32 sr3), .v (.int .u32 sr4), .v (.int .u32 sr5), .v (.int .u32 sr6), .v (.int .u32 sr7), .v (.int .u32 sip), .v (.bool sfc), .v (.bool sfp), .v (.bool sfz), .v (.bool sfs), .v (.bool sfo), .v (.bool sfd), .v (.int .u64 sx0), .v (.int .u64 sx1), .v (.int .u64 sx2), .v (.int .u64 sx3), .v (.int .u64 sx4), .v (.int .u64 sx5), .v (.int .u64 sx6), .v (.int .u64 sx7)] Tz] (liveD [7, 8, 20, 97, 98, 99] 11) =
    (bif
in32 qr0 &&
(in32 qr1 &&
(in32 qr2 && (in32 qr3 && (in32 qr4 && (in32 qr5 && (in32 qr6 && (in32 qr7 && (true && (true && in32 ad))))))))) &&
!12 + 12 == 12 + 6 then
bif
in32 qr0 &&
(in32 qr1 &&
(in32 qr2 && (in32 qr3 && (in32 qr4 && (in32 qr5 && (in32 qr6 && (in32 qr7 && (true && (true && in32 ad))))))))) &&
(!12 + 5 == 12 + 1 && (!12 + 5 == 12 && !12 + 1 == 12)) then
bif
!(ansI
(skPT 16384 4096 false false true 36864 256 true true false 103
(wrM (fun x => 0) 36864 (rowF (fun x => 0) (fillB n) 256) 256) qr0 qr1 qr2 qr3 qr4 qr5 qr6 qr7 qip qfc qfp qfz qfs qfo
qfd qx0 qx1 qx2 qx3 qx4 qx5 qx6 qx7 op cond size ak ar ab ai aq ad bk br bb bi bq bd c rep len)
0 ==
ansI
(skPT 16384 4096 false false true 36864 256 true true false 82
(wrM (fun x => 0) 36864 (rowF (fun x => 0) (fillB n) 256) 256) qr0 qr1 qr2 qr3 qr4 qr5 qr6 qr7 qip qfc qfp qfz qfs qfo
qfd qx0 qx1 qx2 qx3 qx4 qx5 qx6 qx7 op cond size ak ar ab ai aq ad bk br bb bi bq bd c rep len)
0 &&
(ansI
(skPT 16384 4096 false false true 36864 256 true true false 103
(wrM (fun x => 0) 36864 (rowF (fun x => 0) (fillB n) 256) 256) qr0 qr1 qr2 qr3 qr4 qr5 qr6 qr7 qip qfc qfp qfz qfs qfo
qfd qx0 qx1 qx2 qx3 qx4 qx5 qx6 qx7 op cond size ak ar ab ai aq ad bk br bb bi bq bd c rep len)
1 ==
ansI
(skPT 16384 4096 false false true 36864 256 true true false 82
(wrM (fun x => 0) 36864 (rowF (fun x => 0) (fillB n) 256) 256) qr0 qr1 qr2 qr3 qr4 qr5 qr6 qr7 qip qfc qfp qfz qfs qfo
qfd qx0 qx1 qx2 qx3 qx4 qx5 qx6 qx7 op cond size ak ar ab ai aq ad bk br bb bi bq bd c rep len)
1 &&
(ansI
(skPT 16384 4096 false false true 36864 256 true true false 103
(wrM (fun x => 0) 36864 (rowF (fun x => 0) (fillB n) 256) 256) qr0 qr1 qr2 qr3 qr4 qr5 qr6 qr7 qip qfc qfp qfz qfs qfo
qfd qx0 qx1 qx2 qx3 qx4 qx5 qx6 qx7 op cond size ak ar ab ai aq ad bk br bb bi bq bd c rep len)
2 ==
ansI
(skPT 16384 4096 false false true 36864 256 true true false 82
(wrM (fun x => 0) 36864 (rowF (fun x => 0) (fillB n) 256) 256) qr0 qr1 qr2 qr3 qr4 qr5 qr6 qr7 qip qfc qfp qfz qfs qfo
qfd qx0 qx1 qx2 qx3 qx4 qx5 qx6 qx7 op cond size ak ar ab ai aq ad bk br bb bi bq bd c rep len)
2 &&
(ansI
(skPT 16384 4096 false false true 36864 256 true true false 103
(wrM (fun x => 0) 36864 (rowF (fun x => 0) (fillB n) 256) 256) qr0 qr1 qr2 qr3 qr4 qr5 qr6 qr7 qip qfc qfp qfz qfs qfo
qfd qx0 qx1 qx2 qx3 qx4 qx5 qx6 qx7 op cond size ak ar ab ai aq ad bk br bb bi bq bd c rep len)
3 ==
ansI
(skPT 16384 4096 false false true 36864 256 true true false 82
(wrM (fun x => 0) 36864 (rowF (fun x => 0) (fillB n) 256) 256) qr0 qr1 qr2 qr3 qr4 qr5 qr6 qr7 qip qfc qfp qfz qfs qfo
qfd qx0 qx1 qx2 qx3 qx4 qx5 qx6 qx7 op cond size ak ar ab ai aq ad bk br bb bi bq bd c rep len)
3 &&
(ansI
(skPT 16384 4096 false false true 36864 256 true true false 103
(wrM (fun x => 0) 36864 (rowF (fun x => 0) (fillB n) 256) 256) qr0 qr1 qr2 qr3 qr4 qr5 qr6 qr7 qip qfc qfp qfz qfs qfo
qfd qx0 qx1 qx2 qx3 qx4 qx5 qx6 qx7 op cond size ak ar ab ai aq ad bk br bb bi bq bd c rep len)
4 ==
ansI
(skPT 16384 4096 false false true 36864 256 true true false 82
(wrM (fun x => 0) 36864 (rowF (fun x => 0) (fillB n) 256) 256) qr0 qr1 qr2 qr3 qr4 qr5 qr6 qr7 qip qfc qfp qfz qfs qfo
qfd qx0 qx1 qx2 qx3 qx4 qx5 qx6 qx7 op cond size ak ar ab ai aq ad bk br bb bi bq bd c rep len)
4 &&
(ansI
(skPT 16384 4096 false false true 36864 256 true true false 103
(wrM (fun x => 0) 36864 (rowF (fun x => 0) (fillB n) 256) 256) qr0 qr1 qr2 qr3 qr4 qr5 qr6 qr7 qip qfc qfp qfz qfs qfo
qfd qx0 qx1 qx2 qx3 qx4 qx5 qx6 qx7 op cond size ak ar ab ai aq ad bk br bb bi bq bd c rep len)
5 ==
ansI
(skPT 16384 4096 false false true 36864 256 true true false 82
(wrM (fun x => 0) 36864 (rowF (fun x => 0) (fillB n) 256) 256) qr0 qr1 qr2 qr3 qr4 qr5 qr6 qr7 qip qfc qfp qfz qfs qfo
qfd qx0 qx1 qx2 qx3 qx4 qx5 qx6 qx7 op cond size ak ar ab ai aq ad bk br bb bi bq bd c rep len)
5 &&
(ansI
(skPT 16384 4096 false false true 36864 256 true true false 103
(wrM (fun x => 0) 36864 (rowF (fun x => 0) (fillB n) 256) 256) qr0 qr1 qr2 qr3 qr4 qr5 qr6 qr7 qip qfc qfp qfz qfs qfo
qfd qx0 qx1 qx2 qx3 qx4 qx5 qx6 qx7 op cond size ak ar ab ai aq ad bk br bb bi bq bd c rep len)
6 ==
ansI
(skPT 16384 4096 false false true 36864 256 true true false 82
(wrM (fun x => 0) 36864 (rowF (fun x => 0) (fillB n) 256) 256) qr0 qr1 qr2 qr3 qr4 qr5 qr6 qr7 qip qfc qfp qfz qfs qfo
qfd qx0 qx1 qx2 qx3 qx4 qx5 qx6 qx7 op cond size ak ar ab ai aq ad bk br bb bi bq bd c rep len)
6 &&
(ansI
(skPT 16384 4096 false false true 36864 256 true true false 103
(wrM (fun x => 0) 36864 (rowF (fun x => 0) (fillB n) 256) 256) qr0 qr1 qr2 qr3 qr4 qr5 qr6 qr7 qip qfc qfp qfz qfs qfo
qfd qx0 qx1 qx2 qx3 qx4 qx5 qx6 qx7 op cond size ak ar ab ai aq ad bk br bb bi bq bd c rep len)
7 ==
ansI
(skPT 16384 4096 false false true 36864 256 true true false 82
(wrM (fun x => 0) 36864 (rowF (fun x => 0) (fillB n) 256) 256) qr0 qr1 qr2 qr3 qr4 qr5 qr6 qr7 qip qfc qfp qfz qfs qfo
qfd qx0 qx1 qx2 qx3 qx4 qx5 qx6 qx7 op cond size ak ar ab ai aq ad bk br bb bi bq bd c rep len)
7 &&
true))))))) &&
(ansI
(skPT 16384 4096 false false true 36864 256 true true false 103
(wrM (fun x => 0) 36864 (rowF (fun x => 0) (fillB n) 256) 256) qr0 qr1 qr2 qr3 qr4 qr5 qr6 qr7 qip qfc qfp qfz qfs qfo
qfd qx0 qx1 qx2 qx3 qx4 qx5 qx6 qx7 op cond size ak ar ab ai aq ad bk br bb bi bq bd c rep len)
8 ==
ansI
(skPT 16384 4096 false false true 36864 256 true true false 82
(wrM (fun x => 0) 36864 (rowF (fun x => 0) (fillB n) 256) 256) qr0 qr1 qr2 qr3 qr4 qr5 qr6 qr7 qip qfc qfp qfz qfs qfo
qfd qx0 qx1 qx2 qx3 qx4 qx5 qx6 qx7 op cond size ak ar ab ai aq ad bk br bb bi bq bd c rep len)
8 &&
(ansB
(skPT 16384 4096 false false true 36864 256 true true false 103
(wrM (fun x => 0) 36864 (rowF (fun x => 0) (fillB n) 256) 256) qr0 qr1 qr2 qr3 qr4 qr5 qr6 qr7 qip qfc qfp qfz qfs qfo
qfd qx0 qx1 qx2 qx3 qx4 qx5 qx6 qx7 op cond size ak ar ab ai aq ad bk br bb bi bq bd c rep len)
9 ==
ansB
(skPT 16384 4096 false false true 36864 256 true true false 82
(wrM (fun x => 0) 36864 (rowF (fun x => 0) (fillB n) 256) 256) qr0 qr1 qr2 qr3 qr4 qr5 qr6 qr7 qip qfc qfp qfz qfs qfo
qfd qx0 qx1 qx2 qx3 qx4 qx5 qx6 qx7 op cond size ak ar ab ai aq ad bk br bb bi bq bd c rep len)
9 &&
(ansB
(skPT 16384 4096 false false true 36864 256 true true false 103
(wrM (fun x => 0) 36864 (rowF (fun x => 0) (fillB n) 256) 256) qr0 qr1 qr2 qr3 qr4 qr5 qr6 qr7 qip qfc qfp qfz qfs qfo
qfd qx0 qx1 qx2 qx3 qx4 qx5 qx6 qx7 op cond size ak ar ab ai aq ad bk br bb bi bq bd c rep len)
10 ==
ansB
(skPT 16384 4096 false false true 36864 256 true true false 82
(wrM (fun x => 0) 36864 (rowF (fun x => 0) (fillB n) 256) 256) qr0 qr1 qr2 qr3 qr4 qr5 qr6 qr7 qip qfc qfp qfz qfs qfo
qfd qx0 qx1 qx2 qx3 qx4 qx5 qx6 qx7 op cond size ak ar ab ai aq ad bk br bb bi bq bd c rep len)
10 &&
(ansB
(skPT 16384 4096 false false true 36864 256 true true false 103
(wrM (fun x => 0) 36864 (rowF (fun x => 0) (fillB n) 256) 256) qr0 qr1 qr2 qr3 qr4 qr5 qr6 qr7 qip qfc qfp qfz qfs qfo
qfd qx0 qx1 qx2 qx3 qx4 qx5 qx6 qx7 op cond size ak ar ab ai aq ad bk br bb bi bq bd c rep len)
11 ==
ansB
(skPT 16384 4096 false false true 36864 256 true true false 82
(wrM (fun x => 0) 36864 (rowF (fun x => 0) (fillB n) 256) 256) qr0 qr1 qr2 qr3 qr4 qr5 qr6 qr7 qip qfc qfp qfz qfs qfo
qfd qx0 qx1 qx2 qx3 qx4 qx5 qx6 qx7 op cond size ak ar ab ai aq ad bk br bb bi bq bd c rep len)
11 &&
(ansB
(skPT 16384 4096 false false true 36864 256 true true false 103
(wrM (fun x => 0) 36864 (rowF (fun x => 0) (fillB n) 256) 256) qr0 qr1 qr2 qr3 qr4 qr5 qr6 qr7 qip qfc qfp qfz qfs qfo
qfd qx0 qx1 qx2 qx3 qx4 qx5 qx6 qx7 op cond size ak ar ab ai aq ad bk br bb bi bq bd c rep len)
12 ==
ansB
(skPT 16384 4096 false false true 36864 256 true true false 82
(wrM (fun x => 0) 36864 (rowF (fun x => 0) (fillB n) 256) 256) qr0 qr1 qr2 qr3 qr4 qr5 qr6 qr7 qip qfc qfp qfz qfs qfo
qfd qx0 qx1 qx2 qx3 qx4 qx5 qx6 qx7 op cond size ak ar ab ai aq ad bk br bb bi bq bd c rep len)
12 &&
(ansB
(skPT 16384 4096 false false true 36864 256 true true false 103
(wrM (fun x => 0) 36864 (rowF (fun x => 0) (fillB n) 256) 256) qr0 qr1 qr2 qr3 qr4 qr5 qr6 qr7 qip qfc qfp qfz qfs qfo
qfd qx0 qx1 qx2 qx3 qx4 qx5 qx6 qx7 op cond size ak ar ab ai aq ad bk br bb bi bq bd c rep len)
13 ==
ansB
(skPT 16384 4096 false false true 36864 256 true true false 82
(wrM (fun x => 0) 36864 (rowF (fun x => 0) (fillB n) 256) 256) qr0 qr1 qr2 qr3 qr4 qr5 qr6 qr7 qip qfc qfp qfz qfs qfo
qfd qx0 qx1 qx2 qx3 qx4 qx5 qx6 qx7 op cond size ak ar ab ai aq ad bk br bb bi bq bd c rep len)
13 &&
(ansB
(skPT 16384 4096 false false true 36864 256 true true false 103
(wrM (fun x => 0) 36864 (rowF (fun x => 0) (fillB n) 256) 256) qr0 qr1 qr2 qr3 qr4 qr5 qr6 qr7 qip qfc qfp qfz qfs qfo
qfd qx0 qx1 qx2 qx3 qx4 qx5 qx6 qx7 op cond size ak ar ab ai aq ad bk br bb bi bq bd c rep len)
14 ==
ansB
(skPT 16384 4096 false false true 36864 256 true true false 82
(wrM (fun x => 0) 36864 (rowF (fun x => 0) (fillB n) 256) 256) qr0 qr1 qr2 qr3 qr4 qr5 qr6 qr7 qip qfc qfp qfz qfs qfo
qfd qx0 qx1 qx2 qx3 qx4 qx5 qx6 qx7 op cond size ak ar ab ai aq ad bk br bb bi bq bd c rep len)
14 &&
true))))) &&
(ansI
(skPT 16384 4096 false false true 36864 256 true true false 103
(wrM (fun x => 0) 36864 (rowF (fun x => 0) (fillB n) 256) 256) qr0 qr1 qr2 qr3 qr4 qr5 qr6 qr7 qip qfc qfp qfz qfs qfo
qfd qx0 qx1 qx2 qx3 qx4 qx5 qx6 qx7 op cond size ak ar ab ai aq ad bk br bb bi bq bd c rep len)
15 ==
ansI
(skPT 16384 4096 false false true 36864 256 true true false 82
(wrM (fun x => 0) 36864 (rowF (fun x => 0) (fillB n) 256) 256) qr0 qr1 qr2 qr3 qr4 qr5 qr6 qr7 qip qfc qfp qfz qfs qfo
qfd qx0 qx1 qx2 qx3 qx4 qx5 qx6 qx7 op cond size ak ar ab ai aq ad bk br bb bi bq bd c rep len)
15 &&
(ansI
(skPT 16384 4096 false false true 36864 256 true true false 103
(wrM (fun x => 0) 36864 (rowF (fun x => 0) (fillB n) 256) 256) qr0 qr1 qr2 qr3 qr4 qr5 qr6 qr7 qip qfc qfp qfz qfs qfo
qfd qx0 qx1 qx2 qx3 qx4 qx5 qx6 qx7 op cond size ak ar ab ai aq ad bk br bb bi bq bd c rep len)
16 ==
ansI
(skPT 16384 4096 false false true 36864 256 true true false 82
(wrM (fun x => 0) 36864 (rowF (fun x => 0) (fillB n) 256) 256) qr0 qr1 qr2 qr3 qr4 qr5 qr6 qr7 qip qfc qfp qfz qfs qfo
qfd qx0 qx1 qx2 qx3 qx4 qx5 qx6 qx7 op cond size ak ar ab ai aq ad bk br bb bi bq bd c rep len)
16 &&
(ansI
(skPT 16384 4096 false false true 36864 256 true true false 103
(wrM (fun x => 0) 36864 (rowF (fun x => 0) (fillB n) 256) 256) qr0 qr1 qr2 qr3 qr4 qr5 qr6 qr7 qip qfc qfp qfz qfs qfo
qfd qx0 qx1 qx2 qx3 qx4 qx5 qx6 qx7 op cond size ak ar ab ai aq ad bk br bb bi bq bd c rep len)
17 ==
ansI
(skPT 16384 4096 false false true 36864 256 true true false 82
(wrM (fun x => 0) 36864 (rowF (fun x => 0) (fillB n) 256) 256) qr0 qr1 qr2 qr3 qr4 qr5 qr6 qr7 qip qfc qfp qfz qfs qfo
qfd qx0 qx1 qx2 qx3 qx4 qx5 qx6 qx7 op cond size ak ar ab ai aq ad bk br bb bi bq bd c rep len)
17 &&
(ansI
(skPT 16384 4096 false false true 36864 256 true true false 103
(wrM (fun x => 0) 36864 (rowF (fun x => 0) (fillB n) 256) 256) qr0 qr1 qr2 qr3 qr4 qr5 qr6 qr7 qip qfc qfp qfz qfs qfo
qfd qx0 qx1 qx2 qx3 qx4 qx5 qx6 qx7 op cond size ak ar ab ai aq ad bk br bb bi bq bd c rep len)
18 ==
ansI
(skPT 16384 4096 false false true 36864 256 true true false 82
(wrM (fun x => 0) 36864 (rowF (fun x => 0) (fillB n) 256) 256) qr0 qr1 qr2 qr3 qr4 qr5 qr6 qr7 qip qfc qfp qfz qfs qfo
qfd qx0 qx1 qx2 qx3 qx4 qx5 qx6 qx7 op cond size ak ar ab ai aq ad bk br bb bi bq bd c rep len)
18 &&
(ansI
(skPT 16384 4096 false false true 36864 256 true true false 103
(wrM (fun x => 0) 36864 (rowF (fun x => 0) (fillB n) 256) 256) qr0 qr1 qr2 qr3 qr4 qr5 qr6 qr7 qip qfc qfp qfz qfs qfo
qfd qx0 qx1 qx2 qx3 qx4 qx5 qx6 qx7 op cond size ak ar ab ai aq ad bk br bb bi bq bd c rep len)
19 ==
ansI
(skPT 16384 4096 false false true 36864 256 true true false 82
(wrM (fun x => 0) 36864 (rowF (fun x => 0) (fillB n) 256) 256) qr0 qr1 qr2 qr3 qr4 qr5 qr6 qr7 qip qfc qfp qfz qfs qfo
qfd qx0 qx1 qx2 qx3 qx4 qx5 qx6 qx7 op cond size ak ar ab ai aq ad bk br bb bi bq bd c rep len)
19 &&
(ansI
(skPT 16384 4096 false false true 36864 256 true true false 103
(wrM (fun x => 0) 36864 (rowF (fun x => 0) (fillB n) 256) 256) qr0 qr1 qr2 qr3 qr4 qr5 qr6 qr7 qip qfc qfp qfz qfs qfo
qfd qx0 qx1 qx2 qx3 qx4 qx5 qx6 qx7 op cond size ak ar ab ai aq ad bk br bb bi bq bd c rep len)
20 ==
ansI
(skPT 16384 4096 false false true 36864 256 true true false 82
(wrM (fun x => 0) 36864 (rowF (fun x => 0) (fillB n) 256) 256) qr0 qr1 qr2 qr3 qr4 qr5 qr6 qr7 qip qfc qfp qfz qfs qfo
qfd qx0 qx1 qx2 qx3 qx4 qx5 qx6 qx7 op cond size ak ar ab ai aq ad bk br bb bi bq bd c rep len)
20 &&
(ansI
(skPT 16384 4096 false false true 36864 256 true true false 103
(wrM (fun x => 0) 36864 (rowF (fun x => 0) (fillB n) 256) 256) qr0 qr1 qr2 qr3 qr4 qr5 qr6 qr7 qip qfc qfp qfz qfs qfo
qfd qx0 qx1 qx2 qx3 qx4 qx5 qx6 qx7 op cond size ak ar ab ai aq ad bk br bb bi bq bd c rep len)
21 ==
ansI
(skPT 16384 4096 false false true 36864 256 true true false 82
(wrM (fun x => 0) 36864 (rowF (fun x => 0) (fillB n) 256) 256) qr0 qr1 qr2 qr3 qr4 qr5 qr6 qr7 qip qfc qfp qfz qfs qfo
qfd qx0 qx1 qx2 qx3 qx4 qx5 qx6 qx7 op cond size ak ar ab ai aq ad bk br bb bi bq bd c rep len)
21 &&
(ansI
(skPT 16384 4096 false false true 36864 256 true true false 103
(wrM (fun x => 0) 36864 (rowF (fun x => 0) (fillB n) 256) 256) qr0 qr1 qr2 qr3 qr4 qr5 qr6 qr7 qip qfc qfp qfz qfs qfo
qfd qx0 qx1 qx2 qx3 qx4 qx5 qx6 qx7 op cond size ak ar ab ai aq ad bk br bb bi bq bd c rep len)
22 ==
ansI
(skPT 16384 4096 false false true 36864 256 true true false 82
(wrM (fun x => 0) 36864 (rowF (fun x => 0) (fillB n) 256) 256) qr0 qr1 qr2 qr3 qr4 qr5 qr6 qr7 qip qfc qfp qfz qfs qfo
qfd qx0 qx1 qx2 qx3 qx4 qx5 qx6 qx7 op cond size ak ar ab ai aq ad bk br bb bi bq bd c rep len)
22 &&
true))))))) &&
true)))) then
some
(1, 192,
[vw d, vw n, Sv.ptr 9 0, Sv.sl 10 0 3 3,
vi 3, vi 1],
[o0, o1, o2, o3, o4, o5, o6, o7, o8,
SObj.cells
[vi op, vi cond, vi size,
vi ak, vi ar, vi ab,
vi ai, vi aq, vw ad,
vi bk, vi br, vi bb,
vi bi, vi bq, vw bd,
vw c, vb rep, vi len]
Ti,
SObj.cells
[vw pr0, vw pr1, vw pr2,
vw pr3, vw pr4, vw pr5,
vw pr6, vw pr7, vw pip,
vb pfc, vb pfp, vb pfz, vb pfs, vb pfo,
vb pfd, vd px0, vd px1,
vd px2, vd px3, vd px4,
vd px5, vd px6, vd px7,
vw qr0, vw qr1, vw qr2,
vw qr3, vw qr4, vw qr5,
vw qr6, vw qr7, vw qip,
vb qfc, vb qfp, vb qfz, vb qfs, vb qfo,
vb qfd, vd qx0, vd qx1,
vd qx2, vd qx3, vd qx4,
vd qx5, vd qx6, vd qx7,
vw sr0, vw sr1, vw sr2,
vw sr3, vw sr4, vw sr5,
vw sr6, vw sr7, vw sip,
vb sfc, vb sfp, vb sfz, vb sfs, vb sfo,
vb sfd, vd sx0, vd sx1,
vd sx2, vd sx3, vd sx4,
vd sx5, vd sx6, vd sx7]
Tz])
else
bif
ansI
(skPT 16384 4096 false false true 36864 256 true true false 103
(wrM (fun x => 0) 36864 (rowF (fun x => 0) (fillB n) 256) 256) qr0 qr1 qr2 qr3 qr4 qr5 qr6 qr7 qip qfc qfp qfz qfs qfo
qfd qx0 qx1 qx2 qx3 qx4 qx5 qx6 qx7 op cond size ak ar ab ai aq ad bk br bb bi bq bd c rep len)
23 !=
ansI
(skPT 16384 4096 false false true 36864 256 true true false 82
(wrM (fun x => 0) 36864 (rowF (fun x => 0) (fillB n) 256) 256) qr0 qr1 qr2 qr3 qr4 qr5 qr6 qr7 qip qfc qfp qfz qfs qfo
qfd qx0 qx1 qx2 qx3 qx4 qx5 qx6 qx7 op cond size ak ar ab ai aq ad bk br bb bi bq bd c rep len)
23 then
some
(1, 192,
[vw d, vw n, Sv.ptr 9 0, Sv.sl 10 0 3 3,
vi 3, vi 1],
[o0, o1, o2, o3, o4, o5, o6, o7, o8,
SObj.cells
[vi op, vi cond, vi size,
vi ak, vi ar, vi ab,
vi ai, vi aq, vw ad,
vi bk, vi br, vi bb,
vi bi, vi bq, vw bd,
vw c, vb rep, vi len]
Ti,
SObj.cells
[vw pr0, vw pr1, vw pr2,
vw pr3, vw pr4, vw pr5,
vw pr6, vw pr7, vw pip,
vb pfc, vb pfp, vb pfz, vb pfs, vb pfo,
vb pfd, vd px0, vd px1,
vd px2, vd px3, vd px4,
vd px5, vd px6, vd px7,
vw qr0, vw qr1, vw qr2,
vw qr3, vw qr4, vw qr5,
vw qr6, vw qr7, vw qip,
vb qfc, vb qfp, vb qfz, vb qfs, vb qfo,
vb qfd, vd qx0, vd qx1,
vd qx2, vd qx3, vd qx4,
vd qx5, vd qx6, vd qx7,
vw sr0, vw sr1, vw sr2,
vw sr3, vw sr4, vw sr5,
vw sr6, vw sr7, vw sip,
vb sfc, vb sfp, vb sfz, vb sfs, vb sfo,
vb sfd, vd sx0, vd sx1,
vd sx2, vd sx3, vd sx4,
vd sx5, vd sx6, vd sx7]
Tz])
else
bif
!alikeV
(ansM
(skPT 16384 4096 false false true 36864 256 true true false 103
(wrM (fun x => 0) 36864 (rowF (fun x => 0) (fillB n) 256) 256) qr0 qr1 qr2 qr3 qr4 qr5 qr6 qr7 qip qfc qfp qfz qfs qfo
qfd qx0 qx1 qx2 qx3 qx4 qx5 qx6 qx7 op cond size ak ar ab ai aq ad bk br bb bi bq bd c rep len)
1)
(ansM
(skPT 16384 4096 false false true 36864 256 true true false 82
(wrM (fun x => 0) 36864 (rowF (fun x => 0) (fillB n) 256) 256) qr0 qr1 qr2 qr3 qr4 qr5 qr6 qr7 qip qfc qfp qfz qfs qfo
qfd qx0 qx1 qx2 qx3 qx4 qx5 qx6 qx7 op cond size ak ar ab ai aq ad bk br bb bi bq bd c rep len)
1) then
some
(1, 192,
[vw d, vw n, Sv.ptr 9 0, Sv.sl 10 0 3 3,
vi 3, vi 1],
[o0, o1, o2, o3, o4, o5, o6, o7, o8,
SObj.cells
[vi op, vi cond, vi size,
vi ak, vi ar, vi ab,
vi ai, vi aq, vw ad,
vi bk, vi br, vi bb,
vi bi, vi bq, vw bd,
vw c, vb rep, vi len]
Ti,
SObj.cells
[vw pr0, vw pr1, vw pr2,
vw pr3, vw pr4, vw pr5,
vw pr6, vw pr7, vw pip,
vb pfc, vb pfp, vb pfz, vb pfs, vb pfo,
vb pfd, vd px0, vd px1,
vd px2, vd px3, vd px4,
vd px5, vd px6, vd px7,
vw qr0, vw qr1, vw qr2,
vw qr3, vw qr4, vw qr5,
vw qr6, vw qr7, vw qip,
vb qfc, vb qfp, vb qfz, vb qfs, vb qfo,
vb qfd, vd qx0, vd qx1,
vd qx2, vd qx3, vd qx4,
vd qx5, vd qx6, vd qx7,
vw sr0, vw sr1, vw sr2,
vw sr3, vw sr4, vw sr5,
vw sr6, vw sr7, vw sip,
vb sfc, vb sfp, vb sfz, vb sfs, vb sfo,
vb sfd, vd sx0, vd sx1,
vd sx2, vd sx3, vd sx4,
vd sx5, vd sx6, vd sx7]
Tz])
else
bif
in32 qr0 &&
(in32 qr1 &&
(in32 qr2 && (in32 qr3 && (in32 qr4 && (in32 qr5 && (in32 qr6 && (in32 qr7 && (true && (true && in32 d))))))))) &&
!12 + 12 == 12 + 6 then
bif
in32 qr0 &&
(in32 qr1 &&
(in32 qr2 && (in32 qr3 && (in32 qr4 && (in32 qr5 && (in32 qr6 && (in32 qr7 && (true && (true && in32 d))))))))) &&
(!12 + 5 == 12 + 1 && (!12 + 5 == 12 && !12 + 1 == 12)) then
bif
!(qr0 == qr0 &&
(qr1 == qr1 &&
(qr2 == qr2 &&
(qr3 == qr3 &&
(puV qr4 (skOk 36864 256 (IntKind.wrap IntKind.u32 (qr4 - 4)) true) ==
puV qr4 (skOk 36864 256 (IntKind.wrap IntKind.u32 (qr4 - 4)) true) &&
(qr5 == qr5 && (qr6 == qr6 && (qr7 == qr7 && true))))))) &&
(qip == qip &&
(qfc == qfc && (qfp == qfp && (qfz == qfz && (qfs == qfs && (qfo == qfo && (qfd == qfd && true))))) &&
(qx0 == qx0 &&
(qx1 == qx1 && (qx2 == qx2 && (qx3 == qx3 && (qx4 == qx4 && (qx5 == qx5 && (qx6 == qx6 && (qx7 == qx7 && true))))))) &&
true)))) then
some
(1, 192,
[vw d, vw n, Sv.ptr 9 0, Sv.sl 10 0 3 3,
vi 3, vi 1],
[o0, o1, o2, o3, o4, o5, o6, o7, o8,
SObj.cells
[vi op, vi cond, vi size,
vi ak, vi ar, vi ab,
vi ai, vi aq, vw ad,
vi bk, vi br, vi bb,
vi bi, vi bq, vw bd,
vw c, vb rep, vi len]
Ti,
SObj.cells
[vw pr0, vw pr1, vw pr2,
vw pr3, vw pr4, vw pr5,
vw pr6, vw pr7, vw pip,
vb pfc, vb pfp, vb pfz, vb pfs, vb pfo,
vb pfd, vd px0, vd px1,
vd px2, vd px3, vd px4,
vd px5, vd px6, vd px7,
vw qr0, vw qr1, vw qr2,
vw qr3, vw qr4, vw qr5,
vw qr6, vw qr7, vw qip,
vb qfc, vb qfp, vb qfz, vb qfs, vb qfo,
vb qfd, vd qx0, vd qx1,
vd qx2, vd qx3, vd qx4,
vd qx5, vd qx6, vd qx7,
vw sr0, vw sr1, vw sr2,
vw sr3, vw sr4, vw sr5,
vw sr6, vw sr7, vw sip,
vb sfc, vb sfp, vb sfz, vb sfs, vb sfo,
vb sfd, vd sx0, vd sx1,
vd sx2, vd sx3, vd sx4,
vd sx5, vd sx6, vd sx7]
Tz])
else
bif
endV (skOk 36864 256 (IntKind.wrap IntKind.u32 (qr4 - 4)) true) !=
endV (skOk 36864 256 (IntKind.wrap IntKind.u32 (qr4 - 4)) true) then
some
(1, 192,
[vw d, vw n, Sv.ptr 9 0, Sv.sl 10 0 3 3,
vi 3, vi 1],
[o0, o1, o2, o3, o4, o5, o6, o7, o8,
SObj.cells
[vi op, vi cond, vi size,
vi ak, vi ar, vi ab,
vi ai, vi aq, vw ad,
vi bk, vi br, vi bb,
vi bi, vi bq, vw bd,
vw c, vb rep, vi len]
Ti,
SObj.cells
[vw pr0, vw pr1, vw pr2,
vw pr3, vw pr4, vw pr5,
vw pr6, vw pr7, vw pip,
vb pfc, vb pfp, vb pfz, vb pfs, vb pfo,
vb pfd, vd px0, vd px1,
vd px2, vd px3, vd px4,
vd px5, vd px6, vd px7,
vw qr0, vw qr1, vw qr2,
vw qr3, vw qr4, vw qr5,
vw qr6, vw qr7, vw qip,
vb qfc, vb qfp, vb qfz, vb qfs, vb qfo,
vb qfd, vd qx0, vd qx1,
vd qx2, vd qx3, vd qx4,
vd qx5, vd qx6, vd qx7,
vw sr0, vw sr1, vw sr2,
vw sr3, vw sr4, vw sr5,
vw sr6, vw sr7, vw sip,
vb sfc, vb sfp, vb sfz, vb sfs, vb sfo,
vb sfd, vd sx0, vd sx1,
vd sx2, vd sx3, vd sx4,
vd sx5, vd sx6, vd sx7]
Tz])
else
bif
!alikeV
(stV
(ansM
(skPT 16384 4096 false false true 36864 256 true true false 103
(wrM (fun x => 0) 36864 (rowF (fun x => 0) (fillB n) 256) 256) qr0 qr1 qr2 qr3 qr4 qr5 qr6 qr7 qip qfc qfp qfz qfs qfo
qfd qx0 qx1 qx2 qx3 qx4 qx5 qx6 qx7 op cond size ak ar ab ai aq ad bk br bb bi bq bd c rep len)
1)
36864 256 (IntKind.wrap IntKind.u32 (qr4 - 4)) 4 (IntKind.wrap IntKind.u64 d) true)
(stV
(ansM
(skPT 16384 4096 false false true 36864 256 true true false 82
(wrM (fun x => 0) 36864 (rowF (fun x => 0) (fillB n) 256) 256) qr0 qr1 qr2 qr3 qr4 qr5 qr6 qr7 qip qfc qfp qfz qfs qfo
qfd qx0 qx1 qx2 qx3 qx4 qx5 qx6 qx7 op cond size ak ar ab ai aq ad bk br bb bi bq bd c rep len)
1)
36864 256 (IntKind.wrap IntKind.u32 (qr4 - 4)) 4 (IntKind.wrap IntKind.u64 d) true) then
some
(1, 192,
[vw d, vw n, Sv.ptr 9 0, Sv.sl 10 0 3 3,
vi 3, vi 1],
[o0, o1, o2, o3, o4, o5, o6, o7, o8,
SObj.cells
[vi op, vi cond, vi size,
vi ak, vi ar, vi ab,
vi ai, vi aq, vw ad,
vi bk, vi br, vi bb,
vi bi, vi bq, vw bd,
vw c, vb rep, vi len]
Ti,
SObj.cells
[vw pr0, vw pr1, vw pr2,
vw pr3, vw pr4, vw pr5,
vw pr6, vw pr7, vw pip,
vb pfc, vb pfp, vb pfz, vb pfs, vb pfo,
vb pfd, vd px0, vd px1,
vd px2, vd px3, vd px4,
vd px5, vd px6, vd px7,
vw qr0, vw qr1, vw qr2,
vw qr3, vw qr4, vw qr5,
vw qr6, vw qr7, vw qip,
vb qfc, vb qfp, vb qfz, vb qfs, vb qfo,
vb qfd, vd qx0, vd qx1,
vd qx2, vd qx3, vd qx4,
vd qx5, vd qx6, vd qx7,
vw sr0, vw sr1, vw sr2,
vw sr3, vw sr4, vw sr5,
vw sr6, vw sr7, vw sip,
vb sfc, vb sfp, vb sfz, vb sfs, vb sfo,
vb sfd, vd sx0, vd sx1,
vd sx2, vd sx3, vd sx4,
vd sx5, vd sx6, vd sx7]
Tz])
else
bif
in32 qr0 && (in32 qr1 && (in32 qr2 && (in32 qr3 && (in32 qr4 && (in32 qr5 && (in32 qr6 && (in32 qr7 && true))))))) &&
!12 + 12 == 12 + 6 then
bif
in32 qr0 && (in32 qr1 && (in32 qr2 && (in32 qr3 && (in32 qr4 && (in32 qr5 && (in32 qr6 && (in32 qr7 && true))))))) &&
(!12 + 5 == 12 + 1 && (!12 + 5 == 12 && !12 + 1 == 12)) then
bif
orV
(IntKind.wrap IntKind.u32
(ldV
(stV
(ansM
(skPT 16384 4096 false false true 36864 256 true true false 103
(wrM (fun x => 0) 36864 (rowF (fun x => 0) (fillB n) 256) 256) qr0 qr1 qr2 qr3 qr4 qr5 qr6 qr7 qip qfc qfp qfz qfs qfo
qfd qx0 qx1 qx2 qx3 qx4 qx5 qx6 qx7 op cond size ak ar ab ai aq ad bk br bb bi bq bd c rep len)
1)
36864 256 (IntKind.wrap IntKind.u32 (qr4 - 4)) 4 (IntKind.wrap IntKind.u64 d) true)
36864 256 qr4 4 true))
(skOk 36864 256 qr4 true) !=
orV
(IntKind.wrap IntKind.u32
(ldV
(stV
(ansM
(skPT 16384 4096 false false true 36864 256 true true false 82
(wrM (fun x => 0) 36864 (rowF (fun x => 0) (fillB n) 256) 256) qr0 qr1 qr2 qr3 qr4 qr5 qr6 qr7 qip qfc qfp qfz qfs qfo
qfd qx0 qx1 qx2 qx3 qx4 qx5 qx6 qx7 op cond size ak ar ab ai aq ad bk br bb bi bq bd c rep len)
1)
36864 256 (IntKind.wrap IntKind.u32 (qr4 - 4)) 4 (IntKind.wrap IntKind.u64 d) true)
36864 256 qr4 4 true))
(skOk 36864 256 qr4 true) then
some
(1, 192,
[vw d, vw n, Sv.ptr 9 0, Sv.sl 10 0 3 3,
vi 3, vi 1],
[o0, o1, o2, o3, o4, o5, o6, o7, o8,
SObj.cells
[vi op, vi cond, vi size,
vi ak, vi ar, vi ab,
vi ai, vi aq, vw ad,
vi bk, vi br, vi bb,
vi bi, vi bq, vw bd,
vw c, vb rep, vi len]
Ti,
SObj.cells
[vw pr0, vw pr1, vw pr2,
vw pr3, vw pr4, vw pr5,
vw pr6, vw pr7, vw pip,
vb pfc, vb pfp, vb pfz, vb pfs, vb pfo,
vb pfd, vd px0, vd px1,
vd px2, vd px3, vd px4,
vd px5, vd px6, vd px7,
vw qr0, vw qr1, vw qr2,
vw qr3, vw qr4, vw qr5,
vw qr6, vw qr7, vw qip,
vb qfc, vb qfp, vb qfz, vb qfs, vb qfo,
vb qfd, vd qx0, vd qx1,
vd qx2, vd qx3, vd qx4,
vd qx5, vd qx6, vd qx7,
vw sr0, vw sr1, vw sr2,
vw sr3, vw sr4, vw sr5,
vw sr6, vw sr7, vw sip,
vb sfc, vb sfp, vb sfz, vb sfs, vb sfo,
vb sfd, vd sx0, vd sx1,
vd sx2, vd sx3, vd sx4,
vd sx5, vd sx6, vd sx7]
Tz])
else
bif
!(qr0 == qr0 &&
(qr1 == qr1 &&
(qr2 == qr2 &&
(qr3 == qr3 &&
(poV qr4 (skOk 36864 256 qr4 true) == poV qr4 (skOk 36864 256 qr4 true) &&
(qr5 == qr5 && (qr6 == qr6 && (qr7 == qr7 && true))))))) &&
(qip == qip &&
(qfc == qfc && (qfp == qfp && (qfz == qfz && (qfs == qfs && (qfo == qfo && (qfd == qfd && true))))) &&
(qx0 == qx0 &&
(qx1 == qx1 && (qx2 == qx2 && (qx3 == qx3 && (qx4 == qx4 && (qx5 == qx5 && (qx6 == qx6 && (qx7 == qx7 && true))))))) &&
true)))) then
some
(1, 192,
[vw d, vw n, Sv.ptr 9 0, Sv.sl 10 0 3 3,
vi 3, vi 1],
[o0, o1, o2, o3, o4, o5, o6, o7, o8,
SObj.cells
[vi op, vi cond, vi size,
vi ak, vi ar, vi ab,
vi ai, vi aq, vw ad,
vi bk, vi br, vi bb,
vi bi, vi bq, vw bd,
vw c, vb rep, vi len]
Ti,
SObj.cells
[vw pr0, vw pr1, vw pr2,
vw pr3, vw pr4, vw pr5,
vw pr6, vw pr7, vw pip,
vb pfc, vb pfp, vb pfz, vb pfs, vb pfo,
vb pfd, vd px0, vd px1,
vd px2, vd px3, vd px4,
vd px5, vd px6, vd px7,
vw qr0, vw qr1, vw qr2,
vw qr3, vw qr4, vw qr5,
vw qr6, vw qr7, vw qip,
vb qfc, vb qfp, vb qfz, vb qfs, vb qfo,
vb qfd, vd qx0, vd qx1,
vd qx2, vd qx3, vd qx4,
vd qx5, vd qx6, vd qx7,
vw sr0, vw sr1, vw sr2,
vw sr3, vw sr4, vw sr5,
vw sr6, vw sr7, vw sip,
vb sfc, vb sfp, vb sfz, vb sfs, vb sfo,
vb sfd, vd sx0, vd sx1,
vd sx2, vd sx3, vd sx4,
vd sx5, vd sx6, vd sx7]
Tz])
else
bif endV (skOk 36864 256 qr4 true) != endV (skOk 36864 256 qr4 true) then
some
(1, 192,
[vw d, vw n, Sv.ptr 9 0, Sv.sl 10 0 3 3,
vi 3, vi 1],
[o0, o1, o2, o3, o4, o5, o6, o7, o8,
SObj.cells
[vi op, vi cond, vi size,
vi ak, vi ar, vi ab,
vi ai, vi aq, vw ad,
vi bk, vi br, vi bb,
vi bi, vi bq, vw bd,
vw c, vb rep, vi len]
Ti,
SObj.cells
[vw pr0, vw pr1, vw pr2,
vw pr3, vw pr4, vw pr5,
vw pr6, vw pr7, vw pip,
vb pfc, vb pfp, vb pfz, vb pfs, vb pfo,
vb pfd, vd px0, vd px1,
vd px2, vd px3, vd px4,
vd px5, vd px6, vd px7,
vw qr0, vw qr1, vw qr2,
vw qr3, vw qr4, vw qr5,
vw qr6, vw qr7, vw qip,
vb qfc, vb qfp, vb qfz, vb qfs, vb qfo,
vb qfd, vd qx0, vd qx1,
vd qx2, vd qx3, vd qx4,
vd qx5, vd qx6, vd qx7,
vw sr0, vw sr1, vw sr2,
vw sr3, vw sr4, vw sr5,
vw sr6, vw sr7, vw sip,
vb sfc, vb sfp, vb sfz, vb sfs, vb sfo,
vb sfd, vd sx0, vd sx1,
vd sx2, vd sx3, vd sx4,
vd sx5, vd sx6, vd sx7]
Tz])
else
some
(0, 192,
[vw d, vw n, Sv.ptr 9 0, Sv.sl 10 0 3 3,
vi 3, vi 2],
[o0, o1, o2, o3, o4, o5, o6, o7, o8,
SObj.cells
[vi op, vi cond, vi size,
vi ak, vi ar, vi ab,
vi ai, vi aq, vw ad,
vi bk, vi br, vi bb,
vi bi, vi bq, vw bd,
vw c, vb rep, vi len]
Ti,
SObj.cells
[vw pr0, vw pr1, vw pr2,
vw pr3, vw pr4, vw pr5,
vw pr6, vw pr7, vw pip,
vb pfc, vb pfp, vb pfz, vb pfs, vb pfo,
vb pfd, vd px0, vd px1,
vd px2, vd px3, vd px4,
vd px5, vd px6, vd px7,
vw qr0, vw qr1, vw qr2,
vw qr3, vw qr4, vw qr5,
vw qr6, vw qr7, vw qip,
vb qfc, vb qfp, vb qfz, vb qfs, vb qfo,
vb qfd, vd qx0, vd qx1,
vd qx2, vd qx3, vd qx4,
vd qx5, vd qx6, vd qx7,
vw sr0, vw sr1, vw sr2,
vw sr3, vw sr4, vw sr5,
vw sr6, vw sr7, vw sip,
vb sfc, vb sfp, vb sfz, vb sfs, vb sfo,
vb sfd, vd sx0, vd sx1,
vd sx2, vd sx3, vd sx4,
vd sx5, vd sx6, vd sx7]
Tz])
else none
else none
else none
else none
else none
else none) := by kernel_rfl
theorem tl_form2 (d : Int) (n : Int) (pr0 : Int) (pr1 : Int) (pr2 : Int) (pr3 : Int) (pr4 : Int) (pr5 : Int) (pr6 : Int) (pr7 : Int) (pip : Int) (pfc : Bool) (pfp : Bool) (pfz : Bool) (pfs : Bool) (pfo : Bool) (pfd : Bool) (px0 : Int) (px1 : Int) (px2 : Int) (px3 : Int) (px4 : Int) (px5 : Int) (px6 : Int) (px7 : Int) (qr0 : Int) (qr1 : Int) (qr2 : Int) (qr3 : Int) (qr4 : Int) (qr5 : Int) (qr6 : Int) (qr7 : Int) (qip : Int) (qfc : Bool) (qfp : Bool) (qfz : Bool) (qfs : Bool) (qfo : Bool) (qfd : Bool) (qx0 : Int) (qx1 : Int) (qx2 : Int) (qx3 : Int) (qx4 : Int) (qx5 : Int) (qx6 : Int) (qx7 : Int) (sr0 : Int) (sr1 : Int) (sr2 : Int) (sr3 : Int) (sr4 : Int) (sr5 : Int) (sr6 : Int) (sr7 : Int) (sip : Int) (sfc : Bool) (sfp : Bool) (sfz : Bool) (sfs : Bool) (sfo : Bool) (sfd : Bool) (sx0 : Int) (sx1 : Int) (sx2 : Int) (sx3 : Int) (sx4 : Int) (sx5 : Int) (sx6 : Int) (sx7 : Int) (op : Int) (cond : Int) (size : Int) (ak : Int) (ar : Int) (ab : Int) (ai : Int) (aq : Int) (ad : Int) (bk : Int) (br : Int) (bb : Int) (bi : Int) (bq : Int) (bd : Int) (c : Int) (rep : Bool) (len : Int) (Ti : TypeId) (Tz : TypeId) (o0 : SObj) (o1 : SObj) (o2 : SObj) (o3 : SObj) (o4 : SObj) (o5 : SObj) (o6 : SObj) (o7 : SObj) (o8 : SObj) (g : List Sv) :
    ev Try.prog ΓTl 60 (fun _ => none) (roundOf Try.prog 13 0) (fr 192 [7, 8, 20, 97, 98, 99] [.v (.int .u32 d), .v (.int .u32 n), .ptr 9 0, .sl 10 0 3 3, .v (.int .i64 3), .v (.int .i64 2)] g) [o0, o1, o2, o3, o4, o5, o6, o7, o8, .cells [.v (.int .i64 op), .v (.int .i64 cond), .v (.int .i64 size), .v (.int .i64 ak), .v (.int .i64 ar), .v (.int .i64 ab), .v (.int .i64 ai), .v (.int .i64 aq), .v (.int .u32 ad), .v (.int .i64 bk), .v (.int .i64 br), .v (.int .i64 bb), .v (.int .i64 bi), .v (.int .i64 bq), .v (.int .u32 bd), .v (.int .u32 c), .v (.bool rep), .v (.int .i64 len)] Ti, .cells [.v (.int .u32 pr0), .v (.int .u32 pr1), .v (.int .u32 pr2), .v (.int .u32 pr3), .v (.int .u32 pr4), .v (.int .u32 pr5), .v (.int .u32 pr6), .v (.int .u32 pr7), .v (.int .u32 pip), .v (.bool pfc), .v (.bool pfp), .v (.bool pfz), .v (.bool pfs), .v (.bool pfo), .v (.bool pfd), .v (.int .u64 px0), .v (.int .u64 px1), .v (.int .u64 px2), .v (.int .u64 px3), .v (.int .u64 px4), .v (.int .u64 px5), .v (.int .u64 px6), .v (.int .u64 px7), .v (.int .u32 qr0), .v (.int .u32 qr1), .v (.int .u32 qr2), .v (.int .u32 qr3), .v (.int .u32 qr4), .v (.int .u32 qr5), .v (.int .u32 qr6), .v (.int .u32 qr7), .v (.int .u32 qip), .v (.bool qfc), .v (.bool qfp), .v (.bool qfz), .v (.bool qfs), .v (.bool qfo), .v (.bool qfd), .v (.int .u64 qx0), .v (.int .u64 qx1), .v (.int .u64 qx2), .v (.int .u64 qx3), .v (.int .u64 qx4), .v (.int .u64 qx5), .v (.int .u64 qx6), .v (.int .u64 qx7), .v (.int .u32 sr0), .v (.int .u32 sr1), .v (.int .u32 sr2), .v (.int .u32 sr3), .v (.int .u32 sr4), .v (.int .u32 sr5), .v (.int .u32 sr6), .v (.int .u32 sr7), .v (.int .u32 sip), .v (.bool sfc), .v (.bool sfp), .v (.bool sfz), .v (.bool sfs), .v (.bool sfo), .v (.bool sfd), .v (.int .u64 sx0), .v (.int .u64 sx1), .v (.int .u64 sx2), .v (.int .u64 sx3), .v (.int .u64 sx4), .v (.int .u64 sx5), .v (.int .u64 sx6), .v (.int .u64 sx7)] Tz] (liveD [7, 8, 20, 97, 98, 99] 11) =
    (bif
in32 sr0 &&
(in32 sr1 &&
(in32 sr2 && (in32 sr3 && (in32 sr4 && (in32 sr5 && (in32 sr6 && (in32 sr7 && (true && (true && in32 ad))))))))) &&
!12 + 12 == 12 + 6 then
bif
in32 sr0 &&
(in32 sr1 &&
(in32 sr2 && (in32 sr3 && (in32 sr4 && (in32 sr5 && (in32 sr6 && (in32 sr7 && (true && (true && in32 ad))))))))) &&
(!12 + 5 == 12 + 1 && (!12 + 5 == 12 && !12 + 1 == 12)) then
bif
!(ansI
(skPT 16384 4096 false false true 36864 256 true true false 103
(wrM (fun x => 0) 36864 (rowF (fun x => 0) (fillB n) 256) 256) sr0 sr1 sr2 sr3 sr4 sr5 sr6 sr7 sip sfc sfp sfz sfs sfo
sfd sx0 sx1 sx2 sx3 sx4 sx5 sx6 sx7 op cond size ak ar ab ai aq ad bk br bb bi bq bd c rep len)
0 ==
ansI
(skPT 16384 4096 false false true 36864 256 true true false 82
(wrM (fun x => 0) 36864 (rowF (fun x => 0) (fillB n) 256) 256) sr0 sr1 sr2 sr3 sr4 sr5 sr6 sr7 sip sfc sfp sfz sfs sfo
sfd sx0 sx1 sx2 sx3 sx4 sx5 sx6 sx7 op cond size ak ar ab ai aq ad bk br bb bi bq bd c rep len)
0 &&
(ansI
(skPT 16384 4096 false false true 36864 256 true true false 103
(wrM (fun x => 0) 36864 (rowF (fun x => 0) (fillB n) 256) 256) sr0 sr1 sr2 sr3 sr4 sr5 sr6 sr7 sip sfc sfp sfz sfs sfo
sfd sx0 sx1 sx2 sx3 sx4 sx5 sx6 sx7 op cond size ak ar ab ai aq ad bk br bb bi bq bd c rep len)
1 ==
ansI
(skPT 16384 4096 false false true 36864 256 true true false 82
(wrM (fun x => 0) 36864 (rowF (fun x => 0) (fillB n) 256) 256) sr0 sr1 sr2 sr3 sr4 sr5 sr6 sr7 sip sfc sfp sfz sfs sfo
sfd sx0 sx1 sx2 sx3 sx4 sx5 sx6 sx7 op cond size ak ar ab ai aq ad bk br bb bi bq bd c rep len)
1 &&
(ansI
(skPT 16384 4096 false false true 36864 256 true true false 103
(wrM (fun x => 0) 36864 (rowF (fun x => 0) (fillB n) 256) 256) sr0 sr1 sr2 sr3 sr4 sr5 sr6 sr7 sip sfc sfp sfz sfs sfo
sfd sx0 sx1 sx2 sx3 sx4 sx5 sx6 sx7 op cond size ak ar ab ai aq ad bk br bb bi bq bd c rep len)
2 ==
ansI
(skPT 16384 4096 false false true 36864 256 true true false 82
(wrM (fun x => 0) 36864 (rowF (fun x => 0) (fillB n) 256) 256) sr0 sr1 sr2 sr3 sr4 sr5 sr6 sr7 sip sfc sfp sfz sfs sfo
sfd sx0 sx1 sx2 sx3 sx4 sx5 sx6 sx7 op cond size ak ar ab ai aq ad bk br bb bi bq bd c rep len)
2 &&
(ansI
(skPT 16384 4096 false false true 36864 256 true true false 103
(wrM (fun x => 0) 36864 (rowF (fun x => 0) (fillB n) 256) 256) sr0 sr1 sr2 sr3 sr4 sr5 sr6 sr7 sip sfc sfp sfz sfs sfo
sfd sx0 sx1 sx2 sx3 sx4 sx5 sx6 sx7 op cond size ak ar ab ai aq ad bk br bb bi bq bd c rep len)
3 ==
ansI
(skPT 16384 4096 false false true 36864 256 true true false 82
(wrM (fun x => 0) 36864 (rowF (fun x => 0) (fillB n) 256) 256) sr0 sr1 sr2 sr3 sr4 sr5 sr6 sr7 sip sfc sfp sfz sfs sfo
sfd sx0 sx1 sx2 sx3 sx4 sx5 sx6 sx7 op cond size ak ar ab ai aq ad bk br bb bi bq bd c rep len)
3 &&
(ansI
(skPT 16384 4096 false false true 36864 256 true true false 103
(wrM (fun x => 0) 36864 (rowF (fun x => 0) (fillB n) 256) 256) sr0 sr1 sr2 sr3 sr4 sr5 sr6 sr7 sip sfc sfp sfz sfs sfo
sfd sx0 sx1 sx2 sx3 sx4 sx5 sx6 sx7 op cond size ak ar ab ai aq ad bk br bb bi bq bd c rep len)
4 ==
ansI
(skPT 16384 4096 false false true 36864 256 true true false 82
(wrM (fun x => 0) 36864 (rowF (fun x => 0) (fillB n) 256) 256) sr0 sr1 sr2 sr3 sr4 sr5 sr6 sr7 sip sfc sfp sfz sfs sfo
sfd sx0 sx1 sx2 sx3 sx4 sx5 sx6 sx7 op cond size ak ar ab ai aq ad bk br bb bi bq bd c rep len)
4 &&
(ansI
(skPT 16384 4096 false false true 36864 256 true true false 103
(wrM (fun x => 0) 36864 (rowF (fun x => 0) (fillB n) 256) 256) sr0 sr1 sr2 sr3 sr4 sr5 sr6 sr7 sip sfc sfp sfz sfs sfo
sfd sx0 sx1 sx2 sx3 sx4 sx5 sx6 sx7 op cond size ak ar ab ai aq ad bk br bb bi bq bd c rep len)
5 ==
ansI
(skPT 16384 4096 false false true 36864 256 true true false 82
(wrM (fun x => 0) 36864 (rowF (fun x => 0) (fillB n) 256) 256) sr0 sr1 sr2 sr3 sr4 sr5 sr6 sr7 sip sfc sfp sfz sfs sfo
sfd sx0 sx1 sx2 sx3 sx4 sx5 sx6 sx7 op cond size ak ar ab ai aq ad bk br bb bi bq bd c rep len)
5 &&
(ansI
(skPT 16384 4096 false false true 36864 256 true true false 103
(wrM (fun x => 0) 36864 (rowF (fun x => 0) (fillB n) 256) 256) sr0 sr1 sr2 sr3 sr4 sr5 sr6 sr7 sip sfc sfp sfz sfs sfo
sfd sx0 sx1 sx2 sx3 sx4 sx5 sx6 sx7 op cond size ak ar ab ai aq ad bk br bb bi bq bd c rep len)
6 ==
ansI
(skPT 16384 4096 false false true 36864 256 true true false 82
(wrM (fun x => 0) 36864 (rowF (fun x => 0) (fillB n) 256) 256) sr0 sr1 sr2 sr3 sr4 sr5 sr6 sr7 sip sfc sfp sfz sfs sfo
sfd sx0 sx1 sx2 sx3 sx4 sx5 sx6 sx7 op cond size ak ar ab ai aq ad bk br bb bi bq bd c rep len)
6 &&
(ansI
(skPT 16384 4096 false false true 36864 256 true true false 103
(wrM (fun x => 0) 36864 (rowF (fun x => 0) (fillB n) 256) 256) sr0 sr1 sr2 sr3 sr4 sr5 sr6 sr7 sip sfc sfp sfz sfs sfo
sfd sx0 sx1 sx2 sx3 sx4 sx5 sx6 sx7 op cond size ak ar ab ai aq ad bk br bb bi bq bd c rep len)
7 ==
ansI
(skPT 16384 4096 false false true 36864 256 true true false 82
(wrM (fun x => 0) 36864 (rowF (fun x => 0) (fillB n) 256) 256) sr0 sr1 sr2 sr3 sr4 sr5 sr6 sr7 sip sfc sfp sfz sfs sfo
sfd sx0 sx1 sx2 sx3 sx4 sx5 sx6 sx7 op cond size ak ar ab ai aq ad bk br bb bi bq bd c rep len)
7 &&
true))))))) &&
(ansI
(skPT 16384 4096 false false true 36864 256 true true false 103
(wrM (fun x => 0) 36864 (rowF (fun x => 0) (fillB n) 256) 256) sr0 sr1 sr2 sr3 sr4 sr5 sr6 sr7 sip sfc sfp sfz sfs sfo
sfd sx0 sx1 sx2 sx3 sx4 sx5 sx6 sx7 op cond size ak ar ab ai aq ad bk br bb bi bq bd c rep len)
8 ==
ansI
(skPT 16384 4096 false false true 36864 256 true true false 82
(wrM (fun x => 0) 36864 (rowF (fun x => 0) (fillB n) 256) 256) sr0 sr1 sr2 sr3 sr4 sr5 sr6 sr7 sip sfc sfp sfz sfs sfo
sfd sx0 sx1 sx2 sx3 sx4 sx5 sx6 sx7 op cond size ak ar ab ai aq ad bk br bb bi bq bd c rep len)
8 &&
(ansB
(skPT 16384 4096 false false true 36864 256 true true false 103
(wrM (fun x => 0) 36864 (rowF (fun x => 0) (fillB n) 256) 256) sr0 sr1 sr2 sr3 sr4 sr5 sr6 sr7 sip sfc sfp sfz sfs sfo
sfd sx0 sx1 sx2 sx3 sx4 sx5 sx6 sx7 op cond size ak ar ab ai aq ad bk br bb bi bq bd c rep len)
9 ==
ansB
(skPT 16384 4096 false false true 36864 256 true true false 82
(wrM (fun x => 0) 36864 (rowF (fun x => 0) (fillB n) 256) 256) sr0 sr1 sr2 sr3 sr4 sr5 sr6 sr7 sip sfc sfp sfz sfs sfo
sfd sx0 sx1 sx2 sx3 sx4 sx5 sx6 sx7 op cond size ak ar ab ai aq ad bk br bb bi bq bd c rep len)
9 &&
(ansB
(skPT 16384 4096 false false true 36864 256 true true false 103
(wrM (fun x => 0) 36864 (rowF (fun x => 0) (fillB n) 256) 256) sr0 sr1 sr2 sr3 sr4 sr5 sr6 sr7 sip sfc sfp sfz sfs sfo
sfd sx0 sx1 sx2 sx3 sx4 sx5 sx6 sx7 op cond size ak ar ab ai aq ad bk br bb bi bq bd c rep len)
10 ==
ansB
(skPT 16384 4096 false false true 36864 256 true true false 82
(wrM (fun x => 0) 36864 (rowF (fun x => 0) (fillB n) 256) 256) sr0 sr1 sr2 sr3 sr4 sr5 sr6 sr7 sip sfc sfp sfz sfs sfo
sfd sx0 sx1 sx2 sx3 sx4 sx5 sx6 sx7 op cond size ak ar ab ai aq ad bk br bb bi bq bd c rep len)
10 &&
(ansB
(skPT 16384 4096 false false true 36864 256 true true false 103
(wrM (fun x => 0) 36864 (rowF (fun x => 0) (fillB n) 256) 256) sr0 sr1 sr2 sr3 sr4 sr5 sr6 sr7 sip sfc sfp sfz sfs sfo
sfd sx0 sx1 sx2 sx3 sx4 sx5 sx6 sx7 op cond size ak ar ab ai aq ad bk br bb bi bq bd c rep len)
11 ==
ansB
(skPT 16384 4096 false false true 36864 256 true true false 82
(wrM (fun x => 0) 36864 (rowF (fun x => 0) (fillB n) 256) 256) sr0 sr1 sr2 sr3 sr4 sr5 sr6 sr7 sip sfc sfp sfz sfs sfo
sfd sx0 sx1 sx2 sx3 sx4 sx5 sx6 sx7 op cond size ak ar ab ai aq ad bk br bb bi bq bd c rep len)
11 &&
(ansB
(skPT 16384 4096 false false true 36864 256 true true false 103
(wrM (fun x => 0) 36864 (rowF (fun x => 0) (fillB n) 256) 256) sr0 sr1 sr2 sr3 sr4 sr5 sr6 sr7 sip sfc sfp sfz sfs sfo
sfd sx0 sx1 sx2 sx3 sx4 sx5 sx6 sx7 op cond size ak ar ab ai aq ad bk br bb bi bq bd c rep len)
12 ==
ansB
(skPT 16384 4096 false false true 36864 256 true true false 82
(wrM (fun x => 0) 36864 (rowF (fun x => 0) (fillB n) 256) 256) sr0 sr1 sr2 sr3 sr4 sr5 sr6 sr7 sip sfc sfp sfz sfs sfo
sfd sx0 sx1 sx2 sx3 sx4 sx5 sx6 sx7 op cond size ak ar ab ai aq ad bk br bb bi bq bd c rep len)
12 &&
(ansB
(skPT 16384 4096 false false true 36864 256 true true false 103
(wrM (fun x => 0) 36864 (rowF (fun x => 0) (fillB n) 256) 256) sr0 sr1 sr2 sr3 sr4 sr5 sr6 sr7 sip sfc sfp sfz sfs sfo
sfd sx0 sx1 sx2 sx3 sx4 sx5 sx6 sx7 op cond size ak ar ab ai aq ad bk br bb bi bq bd c rep len)
13 ==
ansB
(skPT 16384 4096 false false true 36864 256 true true false 82
(wrM (fun x => 0) 36864 (rowF (fun x => 0) (fillB n) 256) 256) sr0 sr1 sr2 sr3 sr4 sr5 sr6 sr7 sip sfc sfp sfz sfs sfo
sfd sx0 sx1 sx2 sx3 sx4 sx5 sx6 sx7 op cond size ak ar ab ai aq ad bk br bb bi bq bd c rep len)
13 &&
(ansB
(skPT 16384 4096 false false true 36864 256 true true false 103
(wrM (fun x => 0) 36864 (rowF (fun x => 0) (fillB n) 256) 256) sr0 sr1 sr2 sr3 sr4 sr5 sr6 sr7 sip sfc sfp sfz sfs sfo
sfd sx0 sx1 sx2 sx3 sx4 sx5 sx6 sx7 op cond size ak ar ab ai aq ad bk br bb bi bq bd c rep len)
14 ==
ansB
(skPT 16384 4096 false false true 36864 256 true true false 82
(wrM (fun x => 0) 36864 (rowF (fun x => 0) (fillB n) 256) 256) sr0 sr1 sr2 sr3 sr4 sr5 sr6 sr7 sip sfc sfp sfz sfs sfo
sfd sx0 sx1 sx2 sx3 sx4 sx5 sx6 sx7 op cond size ak ar ab ai aq ad bk br bb bi bq bd c rep len)
14 &&
true))))) &&
(ansI
(skPT 16384 4096 false false true 36864 256 true true false 103
(wrM (fun x => 0) 36864 (rowF (fun x => 0) (fillB n) 256) 256) sr0 sr1 sr2 sr3 sr4 sr5 sr6 sr7 sip sfc sfp sfz sfs sfo
sfd sx0 sx1 sx2 sx3 sx4 sx5 sx6 sx7 op cond size ak ar ab ai aq ad bk br bb bi bq bd c rep len)
15 ==
ansI
(skPT 16384 4096 false false true 36864 256 true true false 82
(wrM (fun x => 0) 36864 (rowF (fun x => 0) (fillB n) 256) 256) sr0 sr1 sr2 sr3 sr4 sr5 sr6 sr7 sip sfc sfp sfz sfs sfo
sfd sx0 sx1 sx2 sx3 sx4 sx5 sx6 sx7 op cond size ak ar ab ai aq ad bk br bb bi bq bd c rep len)
15 &&
(ansI
(skPT 16384 4096 false false true 36864 256 true true false 103
(wrM (fun x => 0) 36864 (rowF (fun x => 0) (fillB n) 256) 256) sr0 sr1 sr2 sr3 sr4 sr5 sr6 sr7 sip sfc sfp sfz sfs sfo
sfd sx0 sx1 sx2 sx3 sx4 sx5 sx6 sx7 op cond size ak ar ab ai aq ad bk br bb bi bq bd c rep len)
16 ==
ansI
(skPT 16384 4096 false false true 36864 256 true true false 82
(wrM (fun x => 0) 36864 (rowF (fun x => 0) (fillB n) 256) 256) sr0 sr1 sr2 sr3 sr4 sr5 sr6 sr7 sip sfc sfp sfz sfs sfo
sfd sx0 sx1 sx2 sx3 sx4 sx5 sx6 sx7 op cond size ak ar ab ai aq ad bk br bb bi bq bd c rep len)
16 &&
(ansI
(skPT 16384 4096 false false true 36864 256 true true false 103
(wrM (fun x => 0) 36864 (rowF (fun x => 0) (fillB n) 256) 256) sr0 sr1 sr2 sr3 sr4 sr5 sr6 sr7 sip sfc sfp sfz sfs sfo
sfd sx0 sx1 sx2 sx3 sx4 sx5 sx6 sx7 op cond size ak ar ab ai aq ad bk br bb bi bq bd c rep len)
17 ==
ansI
(skPT 16384 4096 false false true 36864 256 true true false 82
(wrM (fun x => 0) 36864 (rowF (fun x => 0) (fillB n) 256) 256) sr0 sr1 sr2 sr3 sr4 sr5 sr6 sr7 sip sfc sfp sfz sfs sfo
sfd sx0 sx1 sx2 sx3 sx4 sx5 sx6 sx7 op cond size ak ar ab ai aq ad bk br bb bi bq bd c rep len)
17 &&
(ansI
(skPT 16384 4096 false false true 36864 256 true true false 103
(wrM (fun x => 0) 36864 (rowF (fun x => 0) (fillB n) 256) 256) sr0 sr1 sr2 sr3 sr4 sr5 sr6 sr7 sip sfc sfp sfz sfs sfo
sfd sx0 sx1 sx2 sx3 sx4 sx5 sx6 sx7 op cond size ak ar ab ai aq ad bk br bb bi bq bd c rep len)
18 ==
ansI
(skPT 16384 4096 false false true 36864 256 true true false 82
(wrM (fun x => 0) 36864 (rowF (fun x => 0) (fillB n) 256) 256) sr0 sr1 sr2 sr3 sr4 sr5 sr6 sr7 sip sfc sfp sfz sfs sfo
sfd sx0 sx1 sx2 sx3 sx4 sx5 sx6 sx7 op cond size ak ar ab ai aq ad bk br bb bi bq bd c rep len)
18 &&
(ansI
(skPT 16384 4096 false false true 36864 256 true true false 103
(wrM (fun x => 0) 36864 (rowF (fun x => 0) (fillB n) 256) 256) sr0 sr1 sr2 sr3 sr4 sr5 sr6 sr7 sip sfc sfp sfz sfs sfo
sfd sx0 sx1 sx2 sx3 sx4 sx5 sx6 sx7 op cond size ak ar ab ai aq ad bk br bb bi bq bd c rep len)
19 ==
ansI
(skPT 16384 4096 false false true 36864 256 true true false 82
(wrM (fun x => 0) 36864 (rowF (fun x => 0) (fillB n) 256) 256) sr0 sr1 sr2 sr3 sr4 sr5 sr6 sr7 sip sfc sfp sfz sfs sfo
sfd sx0 sx1 sx2 sx3 sx4 sx5 sx6 sx7 op cond size ak ar ab ai aq ad bk br bb bi bq bd c rep len)
19 &&
(ansI
(skPT 16384 4096 false false true 36864 256 true true false 103
(wrM (fun x => 0) 36864 (rowF (fun x => 0) (fillB n) 256) 256) sr0 sr1 sr2 sr3 sr4 sr5 sr6 sr7 sip sfc sfp sfz sfs sfo
sfd sx0 sx1 sx2 sx3 sx4 sx5 sx6 sx7 op cond size ak ar ab ai aq ad bk br bb bi bq bd c rep len)
20 ==
ansI
(skPT 16384 4096 false false true 36864 256 true true false 82
(wrM (fun x => 0) 36864 (rowF (fun x => 0) (fillB n) 256) 256) sr0 sr1 sr2 sr3 sr4 sr5 sr6 sr7 sip sfc sfp sfz sfs sfo
sfd sx0 sx1 sx2 sx3 sx4 sx5 sx6 sx7 op cond size ak ar ab ai aq ad bk br bb bi bq bd c rep len)
20 &&
(ansI
(skPT 16384 4096 false false true 36864 256 true true false 103
(wrM (fun x => 0) 36864 (rowF (fun x => 0) (fillB n) 256) 256) sr0 sr1 sr2 sr3 sr4 sr5 sr6 sr7 sip sfc sfp sfz sfs sfo
sfd sx0 sx1 sx2 sx3 sx4 sx5 sx6 sx7 op cond size ak ar ab ai aq ad bk br bb bi bq bd c rep len)
21 ==
ansI
(skPT 16384 4096 false false true 36864 256 true true false 82
(wrM (fun x => 0) 36864 (rowF (fun x => 0) (fillB n) 256) 256) sr0 sr1 sr2 sr3 sr4 sr5 sr6 sr7 sip sfc sfp sfz sfs sfo
sfd sx0 sx1 sx2 sx3 sx4 sx5 sx6 sx7 op cond size ak ar ab ai aq ad bk br bb bi bq bd c rep len)
21 &&
(ansI
(skPT 16384 4096 false false true 36864 256 true true false 103
(wrM (fun x => 0) 36864 (rowF (fun x => 0) (fillB n) 256) 256) sr0 sr1 sr2 sr3 sr4 sr5 sr6 sr7 sip sfc sfp sfz sfs sfo
sfd sx0 sx1 sx2 sx3 sx4 sx5 sx6 sx7 op cond size ak ar ab ai aq ad bk br bb bi bq bd c rep len)
22 ==
ansI
(skPT 16384 4096 false false true 36864 256 true true false 82
(wrM (fun x => 0) 36864 (rowF (fun x => 0) (fillB n) 256) 256) sr0 sr1 sr2 sr3 sr4 sr5 sr6 sr7 sip sfc sfp sfz sfs sfo
sfd sx0 sx1 sx2 sx3 sx4 sx5 sx6 sx7 op cond size ak ar ab ai aq ad bk br bb bi bq bd c rep len)
22 &&
true))))))) &&
true)))) then
some
(1, 192,
[vw d, vw n, Sv.ptr 9 0, Sv.sl 10 0 3 3,
vi 3, vi 2],
[o0, o1, o2, o3, o4, o5, o6, o7, o8,
SObj.cells
[vi op, vi cond, vi size,
vi ak, vi ar, vi ab,
vi ai, vi aq, vw ad,
vi bk, vi br, vi bb,
vi bi, vi bq, vw bd,
vw c, vb rep, vi len]
Ti,
SObj.cells
[vw pr0, vw pr1, vw pr2,
vw pr3, vw pr4, vw pr5,
vw pr6, vw pr7, vw pip,
vb pfc, vb pfp, vb pfz, vb pfs, vb pfo,
vb pfd, vd px0, vd px1,
vd px2, vd px3, vd px4,
vd px5, vd px6, vd px7,
vw qr0, vw qr1, vw qr2,
vw qr3, vw qr4, vw qr5,
vw qr6, vw qr7, vw qip,
vb qfc, vb qfp, vb qfz, vb qfs, vb qfo,
vb qfd, vd qx0, vd qx1,
vd qx2, vd qx3, vd qx4,
vd qx5, vd qx6, vd qx7,
vw sr0, vw sr1, vw sr2,
vw sr3, vw sr4, vw sr5,
vw sr6, vw sr7, vw sip,
vb sfc, vb sfp, vb sfz, vb sfs, vb sfo,
vb sfd, vd sx0, vd sx1,
vd sx2, vd sx3, vd sx4,
vd sx5, vd sx6, vd sx7]
Tz])
else
bif
ansI
(skPT 16384 4096 false false true 36864 256 true true false 103
(wrM (fun x => 0) 36864 (rowF (fun x => 0) (fillB n) 256) 256) sr0 sr1 sr2 sr3 sr4 sr5 sr6 sr7 sip sfc sfp sfz sfs sfo
sfd sx0 sx1 sx2 sx3 sx4 sx5 sx6 sx7 op cond size ak ar ab ai aq ad bk br bb bi bq bd c rep len)
23 !=
ansI
(skPT 16384 4096 false false true 36864 256 true true false 82
(wrM (fun x => 0) 36864 (rowF (fun x => 0) (fillB n) 256) 256) sr0 sr1 sr2 sr3 sr4 sr5 sr6 sr7 sip sfc sfp sfz sfs sfo
sfd sx0 sx1 sx2 sx3 sx4 sx5 sx6 sx7 op cond size ak ar ab ai aq ad bk br bb bi bq bd c rep len)
23 then
some
(1, 192,
[vw d, vw n, Sv.ptr 9 0, Sv.sl 10 0 3 3,
vi 3, vi 2],
[o0, o1, o2, o3, o4, o5, o6, o7, o8,
SObj.cells
[vi op, vi cond, vi size,
vi ak, vi ar, vi ab,
vi ai, vi aq, vw ad,
vi bk, vi br, vi bb,
vi bi, vi bq, vw bd,
vw c, vb rep, vi len]
Ti,
SObj.cells
[vw pr0, vw pr1, vw pr2,
vw pr3, vw pr4, vw pr5,
vw pr6, vw pr7, vw pip,
vb pfc, vb pfp, vb pfz, vb pfs, vb pfo,
vb pfd, vd px0, vd px1,
vd px2, vd px3, vd px4,
vd px5, vd px6, vd px7,
vw qr0, vw qr1, vw qr2,
vw qr3, vw qr4, vw qr5,
vw qr6, vw qr7, vw qip,
vb qfc, vb qfp, vb qfz, vb qfs, vb qfo,
vb qfd, vd qx0, vd qx1,
vd qx2, vd qx3, vd qx4,
vd qx5, vd qx6, vd qx7,
vw sr0, vw sr1, vw sr2,
vw sr3, vw sr4, vw sr5,
vw sr6, vw sr7, vw sip,
vb sfc, vb sfp, vb sfz, vb sfs, vb sfo,
vb sfd, vd sx0, vd sx1,
vd sx2, vd sx3, vd sx4,
vd sx5, vd sx6, vd sx7]
Tz])
else
bif
!alikeV
(ansM
(skPT 16384 4096 false false true 36864 256 true true false 103
(wrM (fun x => 0) 36864 (rowF (fun x => 0) (fillB n) 256) 256) sr0 sr1 sr2 sr3 sr4 sr5 sr6 sr7 sip sfc sfp sfz sfs sfo
sfd sx0 sx1 sx2 sx3 sx4 sx5 sx6 sx7 op cond size ak ar ab ai aq ad bk br bb bi bq bd c rep len)
1)
(ansM
(skPT 16384 4096 false false true 36864 256 true true false 82
(wrM (fun x => 0) 36864 (rowF (fun x => 0) (fillB n) 256) 256) sr0 sr1 sr2 sr3 sr4 sr5 sr6 sr7 sip sfc sfp sfz sfs sfo
sfd sx0 sx1 sx2 sx3 sx4 sx5 sx6 sx7 op cond size ak ar ab ai aq ad bk br bb bi bq bd c rep len)
1) then
some
(1, 192,
[vw d, vw n, Sv.ptr 9 0, Sv.sl 10 0 3 3,
vi 3, vi 2],
[o0, o1, o2, o3, o4, o5, o6, o7, o8,
SObj.cells
[vi op, vi cond, vi size,
vi ak, vi ar, vi ab,
vi ai, vi aq, vw ad,
vi bk, vi br, vi bb,
vi bi, vi bq, vw bd,
vw c, vb rep, vi len]
Ti,
SObj.cells
[vw pr0, vw pr1, vw pr2,
vw pr3, vw pr4, vw pr5,
vw pr6, vw pr7, vw pip,
vb pfc, vb pfp, vb pfz, vb pfs, vb pfo,
vb pfd, vd px0, vd px1,
vd px2, vd px3, vd px4,
vd px5, vd px6, vd px7,
vw qr0, vw qr1, vw qr2,
vw qr3, vw qr4, vw qr5,
vw qr6, vw qr7, vw qip,
vb qfc, vb qfp, vb qfz, vb qfs, vb qfo,
vb qfd, vd qx0, vd qx1,
vd qx2, vd qx3, vd qx4,
vd qx5, vd qx6, vd qx7,
vw sr0, vw sr1, vw sr2,
vw sr3, vw sr4, vw sr5,
vw sr6, vw sr7, vw sip,
vb sfc, vb sfp, vb sfz, vb sfs, vb sfo,
vb sfd, vd sx0, vd sx1,
vd sx2, vd sx3, vd sx4,
vd sx5, vd sx6, vd sx7]
Tz])
else
bif
in32 sr0 &&
(in32 sr1 &&
(in32 sr2 && (in32 sr3 && (in32 sr4 && (in32 sr5 && (in32 sr6 && (in32 sr7 && (true && (true && in32 d))))))))) &&
!12 + 12 == 12 + 6 then
bif
in32 sr0 &&
(in32 sr1 &&
(in32 sr2 && (in32 sr3 && (in32 sr4 && (in32 sr5 && (in32 sr6 && (in32 sr7 && (true && (true && in32 d))))))))) &&
(!12 + 5 == 12 + 1 && (!12 + 5 == 12 && !12 + 1 == 12)) then
bif
!(sr0 == sr0 &&
(sr1 == sr1 &&
(sr2 == sr2 &&
(sr3 == sr3 &&
(puV sr4 (skOk 36864 256 (IntKind.wrap IntKind.u32 (sr4 - 4)) true) ==
puV sr4 (skOk 36864 256 (IntKind.wrap IntKind.u32 (sr4 - 4)) true) &&
(sr5 == sr5 && (sr6 == sr6 && (sr7 == sr7 && true))))))) &&
(sip == sip &&
(sfc == sfc && (sfp == sfp && (sfz == sfz && (sfs == sfs && (sfo == sfo && (sfd == sfd && true))))) &&
(sx0 == sx0 &&
(sx1 == sx1 && (sx2 == sx2 && (sx3 == sx3 && (sx4 == sx4 && (sx5 == sx5 && (sx6 == sx6 && (sx7 == sx7 && true))))))) &&
true)))) then
some
(1, 192,
[vw d, vw n, Sv.ptr 9 0, Sv.sl 10 0 3 3,
vi 3, vi 2],
[o0, o1, o2, o3, o4, o5, o6, o7, o8,
SObj.cells
[vi op, vi cond, vi size,
vi ak, vi ar, vi ab,
vi ai, vi aq, vw ad,
vi bk, vi br, vi bb,
vi bi, vi bq, vw bd,
vw c, vb rep, vi len]
Ti,
SObj.cells
[vw pr0, vw pr1, vw pr2,
vw pr3, vw pr4, vw pr5,
vw pr6, vw pr7, vw pip,
vb pfc, vb pfp, vb pfz, vb pfs, vb pfo,
vb pfd, vd px0, vd px1,
vd px2, vd px3, vd px4,
vd px5, vd px6, vd px7,
vw qr0, vw qr1, vw qr2,
vw qr3, vw qr4, vw qr5,
vw qr6, vw qr7, vw qip,
vb qfc, vb qfp, vb qfz, vb qfs, vb qfo,
vb qfd, vd qx0, vd qx1,
vd qx2, vd qx3, vd qx4,
vd qx5, vd qx6, vd qx7,
vw sr0, vw sr1, vw sr2,
vw sr3, vw sr4, vw sr5,
vw sr6, vw sr7, vw sip,
vb sfc, vb sfp, vb sfz, vb sfs, vb sfo,
vb sfd, vd sx0, vd sx1,
vd sx2, vd sx3, vd sx4,
vd sx5, vd sx6, vd sx7]
Tz])
else
bif
endV (skOk 36864 256 (IntKind.wrap IntKind.u32 (sr4 - 4)) true) !=
endV (skOk 36864 256 (IntKind.wrap IntKind.u32 (sr4 - 4)) true) then
some
(1, 192,
[vw d, vw n, Sv.ptr 9 0, Sv.sl 10 0 3 3,
vi 3, vi 2],
[o0, o1, o2, o3, o4, o5, o6, o7, o8,
SObj.cells
[vi op, vi cond, vi size,
vi ak, vi ar, vi ab,
vi ai, vi aq, vw ad,
vi bk, vi br, vi bb,
vi bi, vi bq, vw bd,
vw c, vb rep, vi len]
Ti,
SObj.cells
[vw pr0, vw pr1, vw pr2,
vw pr3, vw pr4, vw pr5,
vw pr6, vw pr7, vw pip,
vb pfc, vb pfp, vb pfz, vb pfs, vb pfo,
vb pfd, vd px0, vd px1,
vd px2, vd px3, vd px4,
vd px5, vd px6, vd px7,
vw qr0, vw qr1, vw qr2,
vw qr3, vw qr4, vw qr5,
vw qr6, vw qr7, vw qip,
vb qfc, vb qfp, vb qfz, vb qfs, vb qfo,
vb qfd, vd qx0, vd qx1,
vd qx2, vd qx3, vd qx4,
vd qx5, vd qx6, vd qx7,
vw sr0, vw sr1, vw sr2,
vw sr3, vw sr4, vw sr5,
vw sr6, vw sr7, vw sip,
vb sfc, vb sfp, vb sfz, vb sfs, vb sfo,
vb sfd, vd sx0, vd sx1,
vd sx2, vd sx3, vd sx4,
vd sx5, vd sx6, vd sx7]
Tz])
else
bif
!alikeV
(stV
(ansM
(skPT 16384 4096 false false true 36864 256 true true false 103
(wrM (fun x => 0) 36864 (rowF (fun x => 0) (fillB n) 256) 256) sr0 sr1 sr2 sr3 sr4 sr5 sr6 sr7 sip sfc sfp sfz sfs sfo
sfd sx0 sx1 sx2 sx3 sx4 sx5 sx6 sx7 op cond size ak ar ab ai aq ad bk br bb bi bq bd c rep len)
1)
36864 256 (IntKind.wrap IntKind.u32 (sr4 - 4)) 4 (IntKind.wrap IntKind.u64 d) true)
(stV
(ansM
(skPT 16384 4096 false false true 36864 256 true true false 82
(wrM (fun x => 0) 36864 (rowF (fun x => 0) (fillB n) 256) 256) sr0 sr1 sr2 sr3 sr4 sr5 sr6 sr7 sip sfc sfp sfz sfs sfo
sfd sx0 sx1 sx2 sx3 sx4 sx5 sx6 sx7 op cond size ak ar ab ai aq ad bk br bb bi bq bd c rep len)
1)
36864 256 (IntKind.wrap IntKind.u32 (sr4 - 4)) 4 (IntKind.wrap IntKind.u64 d) true) then
some
(1, 192,
[vw d, vw n, Sv.ptr 9 0, Sv.sl 10 0 3 3,
vi 3, vi 2],
[o0, o1, o2, o3, o4, o5, o6, o7, o8,
SObj.cells
[vi op, vi cond, vi size,
vi ak, vi ar, vi ab,
vi ai, vi aq, vw ad,
vi bk, vi br, vi bb,
vi bi, vi bq, vw bd,
vw c, vb rep, vi len]
Ti,
SObj.cells
[vw pr0, vw pr1, vw pr2,
vw pr3, vw pr4, vw pr5,
vw pr6, vw pr7, vw pip,
vb pfc, vb pfp, vb pfz, vb pfs, vb pfo,
vb pfd, vd px0, vd px1,
vd px2, vd px3, vd px4,
vd px5, vd px6, vd px7,
vw qr0, vw qr1, vw qr2,
vw qr3, vw qr4, vw qr5,
vw qr6, vw qr7, vw qip,
vb qfc, vb qfp, vb qfz, vb qfs, vb qfo,
vb qfd, vd qx0, vd qx1,
vd qx2, vd qx3, vd qx4,
vd qx5, vd qx6, vd qx7,
vw sr0, vw sr1, vw sr2,
vw sr3, vw sr4, vw sr5,
vw sr6, vw sr7, vw sip,
vb sfc, vb sfp, vb sfz, vb sfs, vb sfo,
vb sfd, vd sx0, vd sx1,
vd sx2, vd sx3, vd sx4,
vd sx5, vd sx6, vd sx7]
Tz])
else
bif
in32 sr0 && (in32 sr1 && (in32 sr2 && (in32 sr3 && (in32 sr4 && (in32 sr5 && (in32 sr6 && (in32 sr7 && true))))))) &&
!12 + 12 == 12 + 6 then
bif
in32 sr0 && (in32 sr1 && (in32 sr2 && (in32 sr3 && (in32 sr4 && (in32 sr5 && (in32 sr6 && (in32 sr7 && true))))))) &&
(!12 + 5 == 12 + 1 && (!12 + 5 == 12 && !12 + 1 == 12)) then
bif
orV
(IntKind.wrap IntKind.u32
(ldV
(stV
(ansM
(skPT 16384 4096 false false true 36864 256 true true false 103
(wrM (fun x => 0) 36864 (rowF (fun x => 0) (fillB n) 256) 256) sr0 sr1 sr2 sr3 sr4 sr5 sr6 sr7 sip sfc sfp sfz sfs sfo
sfd sx0 sx1 sx2 sx3 sx4 sx5 sx6 sx7 op cond size ak ar ab ai aq ad bk br bb bi bq bd c rep len)
1)
36864 256 (IntKind.wrap IntKind.u32 (sr4 - 4)) 4 (IntKind.wrap IntKind.u64 d) true)
36864 256 sr4 4 true))
(skOk 36864 256 sr4 true) !=
orV
(IntKind.wrap IntKind.u32
(ldV
(stV
(ansM
(skPT 16384 4096 false false true 36864 256 true true false 82
(wrM (fun x => 0) 36864 (rowF (fun x => 0) (fillB n) 256) 256) sr0 sr1 sr2 sr3 sr4 sr5 sr6 sr7 sip sfc sfp sfz sfs sfo
sfd sx0 sx1 sx2 sx3 sx4 sx5 sx6 sx7 op cond size ak ar ab ai aq ad bk br bb bi bq bd c rep len)
1)
36864 256 (IntKind.wrap IntKind.u32 (sr4 - 4)) 4 (IntKind.wrap IntKind.u64 d) true)
36864 256 sr4 4 true))
(skOk 36864 256 sr4 true) then
some
(1, 192,
[vw d, vw n, Sv.ptr 9 0, Sv.sl 10 0 3 3,
vi 3, vi 2],
[o0, o1, o2, o3, o4, o5, o6, o7, o8,
SObj.cells
[vi op, vi cond, vi size,
vi ak, vi ar, vi ab,
vi ai, vi aq, vw ad,
vi bk, vi br, vi bb,
vi bi, vi bq, vw bd,
vw c, vb rep, vi len]
Ti,
SObj.cells
[vw pr0, vw pr1, vw pr2,
vw pr3, vw pr4, vw pr5,
vw pr6, vw pr7, vw pip,
vb pfc, vb pfp, vb pfz, vb pfs, vb pfo,
vb pfd, vd px0, vd px1,
vd px2, vd px3, vd px4,
vd px5, vd px6, vd px7,
vw qr0, vw qr1, vw qr2,
vw qr3, vw qr4, vw qr5,
vw qr6, vw qr7, vw qip,
vb qfc, vb qfp, vb qfz, vb qfs, vb qfo,
vb qfd, vd qx0, vd qx1,
vd qx2, vd qx3, vd qx4,
vd qx5, vd qx6, vd qx7,
vw sr0, vw sr1, vw sr2,
vw sr3, vw sr4, vw sr5,
vw sr6, vw sr7, vw sip,
vb sfc, vb sfp, vb sfz, vb sfs, vb sfo,
vb sfd, vd sx0, vd sx1,
vd sx2, vd sx3, vd sx4,
vd sx5, vd sx6, vd sx7]
Tz])
else
bif
!(sr0 == sr0 &&
(sr1 == sr1 &&
(sr2 == sr2 &&
(sr3 == sr3 &&
(poV sr4 (skOk 36864 256 sr4 true) == poV sr4 (skOk 36864 256 sr4 true) &&
(sr5 == sr5 && (sr6 == sr6 && (sr7 == sr7 && true))))))) &&
(sip == sip &&
(sfc == sfc && (sfp == sfp && (sfz == sfz && (sfs == sfs && (sfo == sfo && (sfd == sfd && true))))) &&
(sx0 == sx0 &&
(sx1 == sx1 && (sx2 == sx2 && (sx3 == sx3 && (sx4 == sx4 && (sx5 == sx5 && (sx6 == sx6 && (sx7 == sx7 && true))))))) &&
true)))) then
some
(1, 192,
[vw d, vw n, Sv.ptr 9 0, Sv.sl 10 0 3 3,
vi 3, vi 2],
[o0, o1, o2, o3, o4, o5, o6, o7, o8,
SObj.cells
[vi op, vi cond, vi size,
vi ak, vi ar, vi ab,
vi ai, vi aq, vw ad,
vi bk, vi br, vi bb,
vi bi, vi bq, vw bd,
vw c, vb rep, vi len]
Ti,
SObj.cells
[vw pr0, vw pr1, vw pr2,
vw pr3, vw pr4, vw pr5,
vw pr6, vw pr7, vw pip,
vb pfc, vb pfp, vb pfz, vb pfs, vb pfo,
vb pfd, vd px0, vd px1,
vd px2, vd px3, vd px4,
vd px5, vd px6, vd px7,
vw qr0, vw qr1, vw qr2,
vw qr3, vw qr4, vw qr5,
vw qr6, vw qr7, vw qip,
vb qfc, vb qfp, vb qfz, vb qfs, vb qfo,
vb qfd, vd qx0, vd qx1,
vd qx2, vd qx3, vd qx4,
vd qx5, vd qx6, vd qx7,
vw sr0, vw sr1, vw sr2,
vw sr3, vw sr4, vw sr5,
vw sr6, vw sr7, vw sip,
vb sfc, vb sfp, vb sfz, vb sfs, vb sfo,
vb sfd, vd sx0, vd sx1,
vd sx2, vd sx3, vd sx4,
vd sx5, vd sx6, vd sx7]
Tz])
else
bif endV (skOk 36864 256 sr4 true) != endV (skOk 36864 256 sr4 true) then
some
(1, 192,
[vw d, vw n, Sv.ptr 9 0, Sv.sl 10 0 3 3,
vi 3, vi 2],
[o0, o1, o2, o3, o4, o5, o6, o7, o8,
SObj.cells
[vi op, vi cond, vi size,
vi ak, vi ar, vi ab,
vi ai, vi aq, vw ad,
vi bk, vi br, vi bb,
vi bi, vi bq, vw bd,
vw c, vb rep, vi len]
Ti,
SObj.cells
[vw pr0, vw pr1, vw pr2,
vw pr3, vw pr4, vw pr5,
vw pr6, vw pr7, vw pip,
vb pfc, vb pfp, vb pfz, vb pfs, vb pfo,
vb pfd, vd px0, vd px1,
vd px2, vd px3, vd px4,
vd px5, vd px6, vd px7,
vw qr0, vw qr1, vw qr2,
vw qr3, vw qr4, vw qr5,
vw qr6, vw qr7, vw qip,
vb qfc, vb qfp, vb qfz, vb qfs, vb qfo,
vb qfd, vd qx0, vd qx1,
vd qx2, vd qx3, vd qx4,
vd qx5, vd qx6, vd qx7,
vw sr0, vw sr1, vw sr2,
vw sr3, vw sr4, vw sr5,
vw sr6, vw sr7, vw sip,
vb sfc, vb sfp, vb sfz, vb sfs, vb sfo,
vb sfd, vd sx0, vd sx1,
vd sx2, vd sx3, vd sx4,
vd sx5, vd sx6, vd sx7]
Tz])
else
some
(0, 192,
[vw d, vw n, Sv.ptr 9 0, Sv.sl 10 0 3 3,
vi 3, vi 3],
[o0, o1, o2, o3, o4, o5, o6, o7, o8,
SObj.cells
[vi op, vi cond, vi size,
vi ak, vi ar, vi ab,
vi ai, vi aq, vw ad,
vi bk, vi br, vi bb,
vi bi, vi bq, vw bd,
vw c, vb rep, vi len]
Ti,
SObj.cells
[vw pr0, vw pr1, vw pr2,
vw pr3, vw pr4, vw pr5,
vw pr6, vw pr7, vw pip,
vb pfc, vb pfp, vb pfz, vb pfs, vb pfo,
vb pfd, vd px0, vd px1,
vd px2, vd px3, vd px4,
vd px5, vd px6, vd px7,
vw qr0, vw qr1, vw qr2,
vw qr3, vw qr4, vw qr5,
vw qr6, vw qr7, vw qip,
vb qfc, vb qfp, vb qfz, vb qfs, vb qfo,
vb qfd, vd qx0, vd qx1,
vd qx2, vd qx3, vd qx4,
vd qx5, vd qx6, vd qx7,
vw sr0, vw sr1, vw sr2,
vw sr3, vw sr4, vw sr5,
vw sr6, vw sr7, vw sip,
vb sfc, vb sfp, vb sfz, vb sfs, vb sfo,
vb sfd, vd sx0, vd sx1,
vd sx2, vd sx3, vd sx4,
vd sx5, vd sx6, vd sx7]
Tz])
else none
else none
else none
else none
else none
else none) := by kernel_rfl
theorem tl_form3 (d : Int) (n : Int) (pr0 : Int) (pr1 : Int) (pr2 : Int) (pr3 : Int) (pr4 : Int) (pr5 : Int) (pr6 : Int) (pr7 : Int) (pip : Int) (pfc : Bool) (pfp : Bool) (pfz : Bool) (pfs : Bool) (pfo : Bool) (pfd : Bool) (px0 : Int) (px1 : Int) (px2 : Int) (px3 : Int) (px4 : Int) (px5 : Int) (px6 : Int) (px7 : Int) (qr0 : Int) (qr1 : Int) (qr2 : Int) (qr3 : Int) (qr4 : Int) (qr5 : Int) (qr6 : Int) (qr7 : Int) (qip : Int) (qfc : Bool) (qfp : Bool) (qfz : Bool) (qfs : Bool) (qfo : Bool) (qfd : Bool) (qx0 : Int) (qx1 : Int) (qx2 : Int) (qx3 : Int) (qx4 : Int) (qx5 : Int) (qx6 : Int) (qx7 : Int) (sr0 : Int) (sr1 : Int) (sr2 : Int) (sr3 : Int) (sr4 : Int) (sr5 : Int) (sr6 : Int) (sr7 : Int) (sip : Int) (sfc : Bool) (sfp : Bool) (sfz : Bool) (sfs : Bool) (sfo : Bool) (sfd : Bool) (sx0 : Int) (sx1 : Int) (sx2 : Int) (sx3 : Int) (sx4 : Int) (sx5 : Int) (sx6 : Int) (sx7 : Int) (op : Int) (cond : Int) (size : Int) (ak : Int) (ar : Int) (ab : Int) (ai : Int) (aq : Int) (ad : Int) (bk : Int) (br : Int) (bb : Int) (bi : Int) (bq : Int) (bd : Int) (c : Int) (rep : Bool) (len : Int) (Ti : TypeId) (Tz : TypeId) (o0 : SObj) (o1 : SObj) (o2 : SObj) (o3 : SObj) (o4 : SObj) (o5 : SObj) (o6 : SObj) (o7 : SObj) (o8 : SObj) (g : List Sv) :
    ev Try.prog ΓTl 60 (fun _ => none) (roundOf Try.prog 13 0) (fr 192 [7, 8, 20, 97, 98, 99] [.v (.int .u32 d), .v (.int .u32 n), .ptr 9 0, .sl 10 0 3 3, .v (.int .i64 3), .v (.int .i64 3)] g) [o0, o1, o2, o3, o4, o5, o6, o7, o8, .cells [.v (.int .i64 op), .v (.int .i64 cond), .v (.int .i64 size), .v (.int .i64 ak), .v (.int .i64 ar), .v (.int .i64 ab), .v (.int .i64 ai), .v (.int .i64 aq), .v (.int .u32 ad), .v (.int .i64 bk), .v (.int .i64 br), .v (.int .i64 bb), .v (.int .i64 bi), .v (.int .i64 bq), .v (.int .u32 bd), .v (.int .u32 c), .v (.bool rep), .v (.int .i64 len)] Ti, .cells [.v (.int .u32 pr0), .v (.int .u32 pr1), .v (.int .u32 pr2), .v (.int .u32 pr3), .v (.int .u32 pr4), .v (.int .u32 pr5), .v (.int .u32 pr6), .v (.int .u32 pr7), .v (.int .u32 pip), .v (.bool pfc), .v (.bool pfp), .v (.bool pfz), .v (.bool pfs), .v (.bool pfo), .v (.bool pfd), .v (.int .u64 px0), .v (.int .u64 px1), .v (.int .u64 px2), .v (.int .u64 px3), .v (.int .u64 px4), .v (.int .u64 px5), .v (.int .u64 px6), .v (.int .u64 px7), .v (.int .u32 qr0), .v (.int .u32 qr1), .v (.int .u32 qr2), .v (.int .u32 qr3), .v (.int .u32 qr4), .v (.int .u32 qr5), .v (.int .u32 qr6), .v (.int .u32 qr7), .v (.int .u32 qip), .v (.bool qfc), .v (.bool qfp), .v (.bool qfz), .v (.bool qfs), .v (.bool qfo), .v (.bool qfd), .v (.int .u64 qx0), .v (.int .u64 qx1), .v (.int .u64 qx2), .v (.int .u64 qx3), .v (.int .u64 qx4), .v (.int .u64 qx5), .v (.int .u64 qx6), .v (.int .u64 qx7), .v (.int .u32 sr0), .v (.int .u32 sr1), .v (.int .u32 sr2), .v (.int .u32 sr3), .v (.int .u32 sr4), .v (.int .u32 sr5), .v (.int .u32 sr6), .v (.int .u32 sr7), .v (.int .u32 sip), .v (.bool sfc), .v (.bool sfp), .v (.bool sfz), .v (.bool sfs), .v (.bool sfo), .v (.bool sfd), .v (.int .u64 sx0), .v (.int .u64 sx1), .v (.int .u64 sx2), .v (.int .u64 sx3), .v (.int .u64 sx4), .v (.int .u64 sx5), .v (.int .u64 sx6), .v (.int .u64 sx7)] Tz] (liveD [7, 8, 20, 97, 98, 99] 11) =
    (some
(2, 192,
[vw d, vw n, Sv.ptr 9 0, Sv.sl 10 0 3 3,
vi 3, vi 3],
[o0, o1, o2, o3, o4, o5, o6, o7, o8,
SObj.cells
[vi op, vi cond, vi size,
vi ak, vi ar, vi ab,
vi ai, vi aq, vw ad,
vi bk, vi br, vi bb,
vi bi, vi bq, vw bd,
vw c, vb rep, vi len]
Ti,
SObj.cells
[vw pr0, vw pr1, vw pr2,
vw pr3, vw pr4, vw pr5,
vw pr6, vw pr7, vw pip,
vb pfc, vb pfp, vb pfz, vb pfs, vb pfo,
vb pfd, vd px0, vd px1,
vd px2, vd px3, vd px4,
vd px5, vd px6, vd px7,
vw qr0, vw qr1, vw qr2,
vw qr3, vw qr4, vw qr5,
vw qr6, vw qr7, vw qip,
vb qfc, vb qfp, vb qfz, vb qfs, vb qfo,
vb qfd, vd qx0, vd qx1,
vd qx2, vd qx3, vd qx4,
vd qx5, vd qx6, vd qx7,
vw sr0, vw sr1, vw sr2,
vw sr3, vw sr4, vw sr5,
vw sr6, vw sr7, vw sip,
vb sfc, vb sfp, vb sfz, vb sfs, vb sfo,
vb sfd, vd sx0, vd sx1,
vd sx2, vd sx3, vd sx4,
vd sx5, vd sx6, vd sx7]
Tz])) := by kernel_rfl
structure tlS where
  d : Int
  n : Int
  pr0 : Int
  pr1 : Int
  pr2 : Int
  pr3 : Int
  pr4 : Int
  pr5 : Int
  pr6 : Int
  pr7 : Int
  pip : Int
  pfc : Bool
  pfp : Bool
  pfz : Bool
  pfs : Bool
  pfo : Bool
  pfd : Bool
  px0 : Int
  px1 : Int
  px2 : Int
  px3 : Int
  px4 : Int
  px5 : Int
  px6 : Int
  px7 : Int
  qr0 : Int
  qr1 : Int
  qr2 : Int
  qr3 : Int
  qr4 : Int
  qr5 : Int
  qr6 : Int
  qr7 : Int
  qip : Int
  qfc : Bool
  qfp : Bool
  qfz : Bool
  qfs : Bool
  qfo : Bool
  qfd : Bool
  qx0 : Int
  qx1 : Int
  qx2 : Int
  qx3 : Int
  qx4 : Int
  qx5 : Int
  qx6 : Int
  qx7 : Int
  sr0 : Int
  sr1 : Int
  sr2 : Int
  sr3 : Int
  sr4 : Int
  sr5 : Int
  sr6 : Int
  sr7 : Int
  sip : Int
  sfc : Bool
  sfp : Bool
  sfz : Bool
  sfs : Bool
  sfo : Bool
  sfd : Bool
  sx0 : Int
  sx1 : Int
  sx2 : Int
  sx3 : Int
  sx4 : Int
  sx5 : Int
  sx6 : Int
  sx7 : Int
  op : Int
  cond : Int
  size : Int
  ak : Int
  ar : Int
  ab : Int
  ai : Int
  aq : Int
  ad : Int
  bk : Int
  br : Int
  bb : Int
  bi : Int
  bq : Int
  bd : Int
  c : Int
  rep : Bool
  len : Int
  Ti : TypeId
  Tz : TypeId
  o0 : SObj
  o1 : SObj
  o2 : SObj
  o3 : SObj
  o4 : SObj
  o5 : SObj
  o6 : SObj
  o7 : SObj
  o8 : SObj
abbrev tln (s : tlS) : Nat := 3
def tlV (s : tlS) (i : Nat) : List Sv := [.v (.int .u32 s.d), .v (.int .u32 s.n), .ptr 9 0, .sl 10 0 3 3, .v (.int .i64 3), .v (.int .i64 (i : Int))]
def tlM (s : tlS) (i : Nat) : List SObj := [s.o0, s.o1, s.o2, s.o3, s.o4, s.o5, s.o6, s.o7, s.o8, .cells [.v (.int .i64 s.op), .v (.int .i64 s.cond), .v (.int .i64 s.size), .v (.int .i64 s.ak), .v (.int .i64 s.ar), .v (.int .i64 s.ab), .v (.int .i64 s.ai), .v (.int .i64 s.aq), .v (.int .u32 s.ad), .v (.int .i64 s.bk), .v (.int .i64 s.br), .v (.int .i64 s.bb), .v (.int .i64 s.bi), .v (.int .i64 s.bq), .v (.int .u32 s.bd), .v (.int .u32 s.c), .v (.bool s.rep), .v (.int .i64 s.len)] s.Ti, .cells [.v (.int .u32 s.pr0), .v (.int .u32 s.pr1), .v (.int .u32 s.pr2), .v (.int .u32 s.pr3), .v (.int .u32 s.pr4), .v (.int .u32 s.pr5), .v (.int .u32 s.pr6), .v (.int .u32 s.pr7), .v (.int .u32 s.pip), .v (.bool s.pfc), .v (.bool s.pfp), .v (.bool s.pfz), .v (.bool s.pfs), .v (.bool s.pfo), .v (.bool s.pfd), .v (.int .u64 s.px0), .v (.int .u64 s.px1), .v (.int .u64 s.px2), .v (.int .u64 s.px3), .v (.int .u64 s.px4), .v (.int .u64 s.px5), .v (.int .u64 s.px6), .v (.int .u64 s.px7), .v (.int .u32 s.qr0), .v (.int .u32 s.qr1), .v (.int .u32 s.qr2), .v (.int .u32 s.qr3), .v (.int .u32 s.qr4), .v (.int .u32 s.qr5), .v (.int .u32 s.qr6), .v (.int .u32 s.qr7), .v (.int .u32 s.qip), .v (.bool s.qfc), .v (.bool s.qfp), .v (.bool s.qfz), .v (.bool s.qfs), .v (.bool s.qfo), .v (.bool s.qfd), .v (.int .u64 s.qx0), .v (.int .u64 s.qx1), .v (.int .u64 s.qx2), .v (.int .u64 s.qx3), .v (.int .u64 s.qx4), .v (.int .u64 s.qx5), .v (.int .u64 s.qx6), .v (.int .u64 s.qx7), .v (.int .u32 s.sr0), .v (.int .u32 s.sr1), .v (.int .u32 s.sr2), .v (.int .u32 s.sr3), .v (.int .u32 s.sr4), .v (.int .u32 s.sr5), .v (.int .u32 s.sr6), .v (.int .u32 s.sr7), .v (.int .u32 s.sip), .v (.bool s.sfc), .v (.bool s.sfp), .v (.bool s.sfz), .v (.bool s.sfs), .v (.bool s.sfo), .v (.bool s.sfd), .v (.int .u64 s.sx0), .v (.int .u64 s.sx1), .v (.int .u64 s.sx2), .v (.int .u64 s.sx3), .v (.int .u64 s.sx4), .v (.int .u64 s.sx5), .v (.int .u64 s.sx6), .v (.int .u64 s.sx7)] s.Tz]
def tlInv (s : tlS) : Prop := in32 s.pr0 = true ∧ in32 s.pr1 = true ∧ in32 s.pr2 = true ∧ in32 s.pr3 = true ∧ in32 s.pr4 = true ∧ in32 s.pr5 = true ∧ in32 s.pr6 = true ∧ in32 s.pr7 = true ∧ in32 s.qr0 = true ∧ in32 s.qr1 = true ∧ in32 s.qr2 = true ∧ in32 s.qr3 = true ∧ in32 s.qr4 = true ∧ in32 s.qr5 = true ∧ in32 s.qr6 = true ∧ in32 s.qr7 = true ∧ in32 s.sr0 = true ∧ in32 s.sr1 = true ∧ in32 s.sr2 = true ∧ in32 s.sr3 = true ∧ in32 s.sr4 = true ∧ in32 s.sr5 = true ∧ in32 s.sr6 = true ∧ in32 s.sr7 = true ∧ in32 s.ad = true ∧ in32 s.d = true ∧ clM 11 [s.o0, s.o1, s.o2, s.o3, s.o4, s.o5, s.o6, s.o7, s.o8] = true
def tlL : Rounds (CntS tlS) (CntS tlS) := cntE 192 [7, 8, 20, 97, 98, 99] tln tlV tlM tlInv 1
set_option maxHeartbeats 4000000 in
theorem tlL_ok : tlL.OkD Try.prog ΓTl 60 (roundOf Try.prog 13 0) 11 := cntE_okD
  (fun s g i hs hi => by
    obtain ⟨h0, h1, h2, h3, h4, h5, h6, h7, h8, h9, h10, h11, h12, h13, h14, h15, h16, h17, h18, h19, h20, h21, h22, h23, h24, h25, hm⟩ := hs
    match i, (show i < 3 from hi) with
    | 0, _ =>
      have tl := skP_T 16384 4096 false false true 36864 256 true true false 82 103 (wrM (fun x => 0) 36864 (rowF (fun x => 0) (fillB s.n) 256) 256) s.pr0 s.pr1 s.pr2 s.pr3 s.pr4 s.pr5 s.pr6 s.pr7 s.pip s.pfc s.pfp s.pfz s.pfs s.pfo s.pfd s.px0 s.px1 s.px2 s.px3 s.px4 s.px5 s.px6 s.px7 s.op s.cond s.size s.ak s.ar s.ab s.ai s.aq s.ad s.bk s.br s.bb s.bi s.bq s.bd s.c s.rep s.len
      refine (tl_form0 s.d s.n s.pr0 s.pr1 s.pr2 s.pr3 s.pr4 s.pr5 s.pr6 s.pr7 s.pip s.pfc s.pfp s.pfz s.pfs s.pfo s.pfd s.px0 s.px1 s.px2 s.px3 s.px4 s.px5 s.px6 s.px7 s.qr0 s.qr1 s.qr2 s.qr3 s.qr4 s.qr5 s.qr6 s.qr7 s.qip s.qfc s.qfp s.qfz s.qfs s.qfo s.qfd s.qx0 s.qx1 s.qx2 s.qx3 s.qx4 s.qx5 s.qx6 s.qx7 s.sr0 s.sr1 s.sr2 s.sr3 s.sr4 s.sr5 s.sr6 s.sr7 s.sip s.sfc s.sfp s.sfz s.sfs s.sfo s.sfd s.sx0 s.sx1 s.sx2 s.sx3 s.sx4 s.sx5 s.sx6 s.sx7 s.op s.cond s.size s.ak s.ar s.ab s.ai s.aq s.ad s.bk s.br s.bb s.bi s.bq s.bd s.c s.rep s.len s.Ti s.Tz s.o0 s.o1 s.o2 s.o3 s.o4 s.o5 s.o6 s.o7 s.o8 g).trans ?_
      simp only [h0, h1, h2, h3, h4, h5, h6, h7, h8, h9, h10, h11, h12, h13, h14, h15, h16, h17, h18, h19, h20, h21, h22, h23, h24, h25, in32_wr, Nat.reduceAdd, Nat.reduceBEq, Bool.and_self, Bool.and_true, Bool.true_and, Bool.not_false, cond_true]
      simp only [ansI_sans tl, ansB_sans tl, ansM_sans tl, beq_self_eq_true, bne_self_eq_false, alikeV_self, Bool.and_self, Bool.or_self, Bool.not_true, cond_false, Bool.cond_self]
      rfl
    | 1, _ =>
      have tl := skP_T 16384 4096 false false true 36864 256 true true false 82 103 (wrM (fun x => 0) 36864 (rowF (fun x => 0) (fillB s.n) 256) 256) s.qr0 s.qr1 s.qr2 s.qr3 s.qr4 s.qr5 s.qr6 s.qr7 s.qip s.qfc s.qfp s.qfz s.qfs s.qfo s.qfd s.qx0 s.qx1 s.qx2 s.qx3 s.qx4 s.qx5 s.qx6 s.qx7 s.op s.cond s.size s.ak s.ar s.ab s.ai s.aq s.ad s.bk s.br s.bb s.bi s.bq s.bd s.c s.rep s.len
      refine (tl_form1 s.d s.n s.pr0 s.pr1 s.pr2 s.pr3 s.pr4 s.pr5 s.pr6 s.pr7 s.pip s.pfc s.pfp s.pfz s.pfs s.pfo s.pfd s.px0 s.px1 s.px2 s.px3 s.px4 s.px5 s.px6 s.px7 s.qr0 s.qr1 s.qr2 s.qr3 s.qr4 s.qr5 s.qr6 s.qr7 s.qip s.qfc s.qfp s.qfz s.qfs s.qfo s.qfd s.qx0 s.qx1 s.qx2 s.qx3 s.qx4 s.qx5 s.qx6 s.qx7 s.sr0 s.sr1 s.sr2 s.sr3 s.sr4 s.sr5 s.sr6 s.sr7 s.sip s.sfc s.sfp s.sfz s.sfs s.sfo s.sfd s.sx0 s.sx1 s.sx2 s.sx3 s.sx4 s.sx5 s.sx6 s.sx7 s.op s.cond s.size s.ak s.ar s.ab s.ai s.aq s.ad s.bk s.br s.bb s.bi s.bq s.bd s.c s.rep s.len s.Ti s.Tz s.o0 s.o1 s.o2 s.o3 s.o4 s.o5 s.o6 s.o7 s.o8 g).trans ?_
      simp only [h0, h1, h2, h3, h4, h5, h6, h7, h8, h9, h10, h11, h12, h13, h14, h15, h16, h17, h18, h19, h20, h21, h22, h23, h24, h25, in32_wr, Nat.reduceAdd, Nat.reduceBEq, Bool.and_self, Bool.and_true, Bool.true_and, Bool.not_false, cond_true]
      simp only [ansI_sans tl, ansB_sans tl, ansM_sans tl, beq_self_eq_true, bne_self_eq_false, alikeV_self, Bool.and_self, Bool.or_self, Bool.not_true, cond_false, Bool.cond_self]
      rfl
    | 2, _ =>
      have tl := skP_T 16384 4096 false false true 36864 256 true true false 82 103 (wrM (fun x => 0) 36864 (rowF (fun x => 0) (fillB s.n) 256) 256) s.sr0 s.sr1 s.sr2 s.sr3 s.sr4 s.sr5 s.sr6 s.sr7 s.sip s.sfc s.sfp s.sfz s.sfs s.sfo s.sfd s.sx0 s.sx1 s.sx2 s.sx3 s.sx4 s.sx5 s.sx6 s.sx7 s.op s.cond s.size s.ak s.ar s.ab s.ai s.aq s.ad s.bk s.br s.bb s.bi s.bq s.bd s.c s.rep s.len
      refine (tl_form2 s.d s.n s.pr0 s.pr1 s.pr2 s.pr3 s.pr4 s.pr5 s.pr6 s.pr7 s.pip s.pfc s.pfp s.pfz s.pfs s.pfo s.pfd s.px0 s.px1 s.px2 s.px3 s.px4 s.px5 s.px6 s.px7 s.qr0 s.qr1 s.qr2 s.qr3 s.qr4 s.qr5 s.qr6 s.qr7 s.qip s.qfc s.qfp s.qfz s.qfs s.qfo s.qfd s.qx0 s.qx1 s.qx2 s.qx3 s.qx4 s.qx5 s.qx6 s.qx7 s.sr0 s.sr1 s.sr2 s.sr3 s.sr4 s.sr5 s.sr6 s.sr7 s.sip s.sfc s.sfp s.sfz s.sfs s.sfo s.sfd s.sx0 s.sx1 s.sx2 s.sx3 s.sx4 s.sx5 s.sx6 s.sx7 s.op s.cond s.size s.ak s.ar s.ab s.ai s.aq s.ad s.bk s.br s.bb s.bi s.bq s.bd s.c s.rep s.len s.Ti s.Tz s.o0 s.o1 s.o2 s.o3 s.o4 s.o5 s.o6 s.o7 s.o8 g).trans ?_
      simp only [h0, h1, h2, h3, h4, h5, h6, h7, h8, h9, h10, h11, h12, h13, h14, h15, h16, h17, h18, h19, h20, h21, h22, h23, h24, h25, in32_wr, Nat.reduceAdd, Nat.reduceBEq, Bool.and_self, Bool.and_true, Bool.true_and, Bool.not_false, cond_true]
      simp only [ansI_sans tl, ansB_sans tl, ansM_sans tl, beq_self_eq_true, bne_self_eq_false, alikeV_self, Bool.and_self, Bool.or_self, Bool.not_true, cond_false, Bool.cond_self]
      rfl)
  (fun s g hs => tl_form3 s.d s.n s.pr0 s.pr1 s.pr2 s.pr3 s.pr4 s.pr5 s.pr6 s.pr7 s.pip s.pfc s.pfp s.pfz s.pfs s.pfo s.pfd s.px0 s.px1 s.px2 s.px3 s.px4 s.px5 s.px6 s.px7 s.qr0 s.qr1 s.qr2 s.qr3 s.qr4 s.qr5 s.qr6 s.qr7 s.qip s.qfc s.qfp s.qfz s.qfs s.qfo s.qfd s.qx0 s.qx1 s.qx2 s.qx3 s.qx4 s.qx5 s.qx6 s.qx7 s.sr0 s.sr1 s.sr2 s.sr3 s.sr4 s.sr5 s.sr6 s.sr7 s.sip s.sfc s.sfp s.sfz s.sfs s.sfo s.sfd s.sx0 s.sx1 s.sx2 s.sx3 s.sx4 s.sx5 s.sx6 s.sx7 s.op s.cond s.size s.ak s.ar s.ab s.ai s.aq s.ad s.bk s.br s.bb s.bi s.bq s.bd s.c s.rep s.len s.Ti s.Tz s.o0 s.o1 s.o2 s.o3 s.o4 s.o5 s.o6 s.o7 s.o8 g)
  (fun s i hs _ => by
    obtain ⟨h0, h1, h2, h3, h4, h5, h6, h7, h8, h9, h10, h11, h12, h13, h14, h15, h16, h17, h18, h19, h20, h21, h22, h23, h24, h25, hm⟩ := hs
    refine ⟨rfl, ?_, ?_⟩
    · simp only [clM_cons, clM_nil, Bool.and_eq_true] at hm
      simp only [tlM, clM_cons, clM_nil, hm, clO_cells, clL_cons, clL_nil, clS_v, Bool.and_self]
    · rfl)
def tlDec : (R : Type) → List Sv → List SObj → (tlS → Option R) → Option R := fun R l m k_ => match l with
  | [.v (.int .u32 d), .v (.int .u32 n), .ptr b0 b1, .sl q0 q1 q2 q3, .v (.int .i64 n3), .v (.int .i64 j)] => (match m with
    | [o0, o1, o2, o3, o4, o5, o6, o7, o8, W9, W10] => (match W9 with
      | .cells [.v (.int .i64 op), .v (.int .i64 cond), .v (.int .i64 size), .v (.int .i64 ak), .v (.int .i64 ar), .v (.int .i64 ab), .v (.int .i64 ai), .v (.int .i64 aq), .v (.int .u32 ad), .v (.int .i64 bk), .v (.int .i64 br), .v (.int .i64 bb), .v (.int .i64 bi), .v (.int .i64 bq), .v (.int .u32 bd), .v (.int .u32 c), .v (.bool rep), .v (.int .i64 len)] Ti => (match W10 with
        | .cells Z Tz => (match Z.take 23 with
          | [.v (.int .u32 pr0), .v (.int .u32 pr1), .v (.int .u32 pr2), .v (.int .u32 pr3), .v (.int .u32 pr4), .v (.int .u32 pr5), .v (.int .u32 pr6), .v (.int .u32 pr7), .v (.int .u32 pip), .v (.bool pfc), .v (.bool pfp), .v (.bool pfz), .v (.bool pfs), .v (.bool pfo), .v (.bool pfd), .v (.int .u64 px0), .v (.int .u64 px1), .v (.int .u64 px2), .v (.int .u64 px3), .v (.int .u64 px4), .v (.int .u64 px5), .v (.int .u64 px6), .v (.int .u64 px7)] => (match (Z.drop 23).take 23 with
            | [.v (.int .u32 qr0), .v (.int .u32 qr1), .v (.int .u32 qr2), .v (.int .u32 qr3), .v (.int .u32 qr4), .v (.int .u32 qr5), .v (.int .u32 qr6), .v (.int .u32 qr7), .v (.int .u32 qip), .v (.bool qfc), .v (.bool qfp), .v (.bool qfz), .v (.bool qfs), .v (.bool qfo), .v (.bool qfd), .v (.int .u64 qx0), .v (.int .u64 qx1), .v (.int .u64 qx2), .v (.int .u64 qx3), .v (.int .u64 qx4), .v (.int .u64 qx5), .v (.int .u64 qx6), .v (.int .u64 qx7)] => (match Z.drop 46 with
              | [.v (.int .u32 sr0), .v (.int .u32 sr1), .v (.int .u32 sr2), .v (.int .u32 sr3), .v (.int .u32 sr4), .v (.int .u32 sr5), .v (.int .u32 sr6), .v (.int .u32 sr7), .v (.int .u32 sip), .v (.bool sfc), .v (.bool sfp), .v (.bool sfz), .v (.bool sfs), .v (.bool sfo), .v (.bool sfd), .v (.int .u64 sx0), .v (.int .u64 sx1), .v (.int .u64 sx2), .v (.int .u64 sx3), .v (.int .u64 sx4), .v (.int .u64 sx5), .v (.int .u64 sx6), .v (.int .u64 sx7)] => bif in32 pr0 && (in32 pr1 && (in32 pr2 && (in32 pr3 && (in32 pr4 && (in32 pr5 && (in32 pr6 && (in32 pr7 && (in32 qr0 && (in32 qr1 && (in32 qr2 && (in32 qr3 && (in32 qr4 && (in32 qr5 && (in32 qr6 && (in32 qr7 && (in32 sr0 && (in32 sr1 && (in32 sr2 && (in32 sr3 && (in32 sr4 && (in32 sr5 && (in32 sr6 && (in32 sr7 && (in32 ad && (in32 d && (clM 11 [o0, o1, o2, o3, o4, o5, o6, o7, o8] && ((j == 0) && ((n3 == 3) && (Nat.beq b0 9 && (Nat.beq b1 0 && (Nat.beq q0 10 && (Nat.beq q1 0 && (Nat.beq q2 3 && (Nat.beq q3 3)))))))))))))))))))))))))))))))))) then k_ ⟨d, n, pr0, pr1, pr2, pr3, pr4, pr5, pr6, pr7, pip, pfc, pfp, pfz, pfs, pfo, pfd, px0, px1, px2, px3, px4, px5, px6, px7, qr0, qr1, qr2, qr3, qr4, qr5, qr6, qr7, qip, qfc, qfp, qfz, qfs, qfo, qfd, qx0, qx1, qx2, qx3, qx4, qx5, qx6, qx7, sr0, sr1, sr2, sr3, sr4, sr5, sr6, sr7, sip, sfc, sfp, sfz, sfs, sfo, sfd, sx0, sx1, sx2, sx3, sx4, sx5, sx6, sx7, op, cond, size, ak, ar, ab, ai, aq, ad, bk, br, bb, bi, bq, bd, c, rep, len, Ti, Tz, o0, o1, o2, o3, o4, o5, o6, o7, o8⟩ else none
              | _ => none)
            | _ => none)
          | _ => none)
        | _ => none)
      | _ => none)
    | _ => none)
  | _ => none
theorem three {Z a b c : List Sv} (h1 : Z.take 23 = a) (h2 : (Z.drop 23).take 23 = b) (h3 : Z.drop 46 = c) : Z = a ++ (b ++ c) := by
  have e : Z.drop 46 = (Z.drop 23).drop 23 := by rw [List.drop_drop]
  rw [← h1, ← h2, ← h3, e, List.take_append_drop, List.take_append_drop]
set_option maxHeartbeats 4000000 in
theorem tlDec_ok : ∀ (R : Type) l m (k : tlS → Option R) r, tlDec R l m k = some r → ∃ s, k s = some r ∧ l = tlV s 0 ∧ m = tlM s 0 ∧ tlInv s := by
  intro R l m k r h
  unfold tlDec at h
  split at h
  · split at h
    · split at h
      · split at h
        · split at h
          · rename List.take 23 _ = _ => e1
            split at h
            · rename List.take 23 _ = _ => e2
              split at h
              · rename List.drop 46 _ = _ => e3
                obtain ⟨hg, hk2⟩ := cond_some h
                clear h
                simp only [Bool.and_eq_true, beq_iff_eq, natB] at hg
                obtain ⟨h0, h1, h2, h3, h4, h5, h6, h7, h8, h9, h10, h11, h12, h13, h14, h15, h16, h17, h18, h19, h20, h21, h22, h23, h24, h25, hm, rfl, rfl, rfl, rfl, rfl, rfl, rfl, rfl⟩ := hg
                refine ⟨_, hk2, rfl, ?_, h0, h1, h2, h3, h4, h5, h6, h7, h8, h9, h10, h11, h12, h13, h14, h15, h16, h17, h18, h19, h20, h21, h22, h23, h24, h25, hm⟩
                rw [three e1 e2 e3]
                rfl
              · cases h
            · cases h
          · cases h
        · cases h
      · cases h
    · cases h
  · cases h
noncomputable def ΓTs : Env := ΓTl.hook 13 0 (cntHook Try.prog X0 tlL tln 0 (roundOf Try.prog 13 0) tlDec)
theorem ΓTs_ok : EnvOk Try.prog X0 ΓTs := ΓTl_ok.hook (a := .loop (roundOf Try.prog 13 0)) (by kernel_rfl) (cntEHook_ok ΓTl_ok tlL_ok tlDec_ok)
end Go.Proofs.Ytjcbgjakomalaaa
