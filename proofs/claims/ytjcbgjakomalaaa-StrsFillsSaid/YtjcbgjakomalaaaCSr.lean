/- One round of a row of bytes: the document. -/
import Derived.Test.YtjcbgjakomalaaaEvV
import Derived.Test.YtjcbgjakomalaaaCSo
import Derived.Test.YtjcbgjakomalaaaCSp
import Derived.Test.YtjcbgjakomalaaaNSeat2
namespace Go.Proofs.Ytjcbgjakomalaaa
open Go Go.Ev
set_option linter.unusedVariables false
set_option linter.unusedSimpArgs false
set_option maxRecDepth 100000
theorem strsR46b_form (cb cs : Int) (cr cw cx : Bool) (db ds : Int) (dr dw dx : Bool) (T T2 : TypeId) (M : Int → Int) (r0 r1 r2 r3 r4 r5 r6 r7 ip : Int) (fc fp fz fs fo fd : Bool) (x0 x1 x2 x3 x4 x5 x6 x7 : Int) (cond : Int) (ak ar ab ai aq ad bk br bb bi bq bd c : Int) (len : Int) :
    evF Try.prog ΓSo 400 45 [.ptr 0 0, .agg [.v (.int .u32 r0), .v (.int .u32 r1), .v (.int .u32 r2), .v (.int .u32 r3), .v (.int .u32 r4), .v (.int .u32 r5), .v (.int .u32 r6), .v (.int .u32 r7), .v (.int .u32 ip), .v (.bool fc), .v (.bool fp), .v (.bool fz), .v (.bool fs), .v (.bool fo), .v (.bool fd), .v (.int .u64 x0), .v (.int .u64 x1), .v (.int .u64 x2), .v (.int .u64 x3), .v (.int .u64 x4), .v (.int .u64 x5), .v (.int .u64 x6), .v (.int .u64 x7)], .agg [.v (.int .i64 46), .v (.int .i64 cond), .v (.int .i64 1), .v (.int .i64 ak), .v (.int .i64 ar), .v (.int .i64 ab), .v (.int .i64 ai), .v (.int .i64 aq), .v (.int .u32 ad), .v (.int .i64 bk), .v (.int .i64 br), .v (.int .i64 bb), .v (.int .i64 bi), .v (.int .i64 bq), .v (.int .u32 bd), .v (.int .u32 c), .v (.bool false), .v (.int .i64 len)]] [.cells [.ptr 1 0, .v (.int .u32 cb), .v (.int .u32 cs), .v (.bool cr), .v (.bool cw), .v (.bool cx), .v (.int .u32 db), .v (.int .u32 ds), .v (.bool dr), .v (.bool dw), .v (.bool dx)] T, .cells [.mp 2] T2, .bm .u32 .u8 M] (kTk 3) kNo =
    (bif fd then
bif in32 db && (in32 ds && in32 r6) && true then
bif segE db ds r6 1 (mayV dr dw dx 0) != 0 then
some
(Sv.tup
[Sv.agg
[vw r0, vw r1, vw r2,
vw r3, vw r4, vw r5,
vw r6, vw r7, vw ip, vb fc,
vb fp, vb fz, vb fs, vb fo, vb fd,
vd x0, vd x1, vd x2,
vd x3, vd x4, vd x5,
vd x6, vd x7],
vi 2, vb true],
[SObj.cells
[Sv.ptr 1 0, vw cb, vw cs, vb cr,
vb cw, vb cx, vw db, vw ds,
vb dr, vb dw, vb dx]
T,
SObj.cells [Sv.mp 2] T2, SObj.bm IntKind.u32 IntKind.u8 M])
else
bif in32 db && (in32 ds && in32 r7) && true then
bif segE db ds r7 1 (mayV dr dw dx 1) != 0 then
some
(Sv.tup
[Sv.agg
[vw r0, vw r1, vw r2,
vw r3, vw r4, vw r5,
vw r6, vw r7, vw ip, vb fc,
vb fp, vb fz, vb fs, vb fo, vb fd,
vd x0, vd x1, vd x2,
vd x3, vd x4, vd x5,
vd x6, vd x7],
vi 2, vb true],
[SObj.cells
[Sv.ptr 1 0, vw cb, vw cs, vb cr,
vb cw, vb cx, vw db, vw ds,
vb dr, vb dw, vb dx]
T,
SObj.cells [Sv.mp 2] T2,
SObj.bm IntKind.u32 IntKind.u8 (stV M db ds r7 1 (ldV M db ds r6 1 (mayV dr dw dx 0)) (mayV dr dw dx 1))])
else
some
(Sv.tup
[Sv.agg
[vw r0, vw r1, vw r2,
vw r3, vw r4, vw r5,
vw ((IntKind.wrap IntKind.u32 (r6 + 4294967295))),
vw ((IntKind.wrap IntKind.u32 (r7 + 4294967295))), vw ip,
vb fc, vb fp, vb fz, vb fs, vb fo,
vb fd, vd x0, vd x1, vd x2,
vd x3, vd x4, vd x5,
vd x6, vd x7],
vi 0, vb true],
[SObj.cells
[Sv.ptr 1 0, vw cb, vw cs, vb cr,
vb cw, vb cx, vw db, vw ds,
vb dr, vb dw, vb dx]
T,
SObj.cells [Sv.mp 2] T2,
SObj.bm IntKind.u32 IntKind.u8 (stV M db ds r7 1 (ldV M db ds r6 1 (mayV dr dw dx 0)) (mayV dr dw dx 1))])
else none
else none
else
bif in32 db && (in32 ds && in32 r6) && true then
bif segE db ds r6 1 (mayV dr dw dx 0) != 0 then
some
(Sv.tup
[Sv.agg
[vw r0, vw r1, vw r2,
vw r3, vw r4, vw r5,
vw r6, vw r7, vw ip, vb fc,
vb fp, vb fz, vb fs, vb fo, vb fd,
vd x0, vd x1, vd x2,
vd x3, vd x4, vd x5,
vd x6, vd x7],
vi 2, vb true],
[SObj.cells
[Sv.ptr 1 0, vw cb, vw cs, vb cr,
vb cw, vb cx, vw db, vw ds,
vb dr, vb dw, vb dx]
T,
SObj.cells [Sv.mp 2] T2, SObj.bm IntKind.u32 IntKind.u8 M])
else
bif in32 db && (in32 ds && in32 r7) && true then
bif segE db ds r7 1 (mayV dr dw dx 1) != 0 then
some
(Sv.tup
[Sv.agg
[vw r0, vw r1, vw r2,
vw r3, vw r4, vw r5,
vw r6, vw r7, vw ip, vb fc,
vb fp, vb fz, vb fs, vb fo, vb fd,
vd x0, vd x1, vd x2,
vd x3, vd x4, vd x5,
vd x6, vd x7],
vi 2, vb true],
[SObj.cells
[Sv.ptr 1 0, vw cb, vw cs, vb cr,
vb cw, vb cx, vw db, vw ds,
vb dr, vb dw, vb dx]
T,
SObj.cells [Sv.mp 2] T2,
SObj.bm IntKind.u32 IntKind.u8 (stV M db ds r7 1 (ldV M db ds r6 1 (mayV dr dw dx 0)) (mayV dr dw dx 1))])
else
some
(Sv.tup
[Sv.agg
[vw r0, vw r1, vw r2,
vw r3, vw r4, vw r5,
vw ((IntKind.wrap IntKind.u32 (r6 + 1))),
vw ((IntKind.wrap IntKind.u32 (r7 + 1))), vw ip, vb fc,
vb fp, vb fz, vb fs, vb fo, vb fd,
vd x0, vd x1, vd x2,
vd x3, vd x4, vd x5,
vd x6, vd x7],
vi 0, vb true],
[SObj.cells
[Sv.ptr 1 0, vw cb, vw cs, vb cr,
vb cw, vb cx, vw db, vw ds,
vb dr, vb dw, vb dx]
T,
SObj.cells [Sv.mp 2] T2,
SObj.bm IntKind.u32 IntKind.u8 (stV M db ds r7 1 (ldV M db ds r6 1 (mayV dr dw dx 0)) (mayV dr dw dx 1))])
else none
else none) := by kernel_rfl
theorem strsR46b_ev (cb cs : Int) (cr cw cx : Bool) (db ds : Int) (dr dw dx : Bool) (T T2 : TypeId) (M : Int → Int) (r0 r1 r2 r3 r4 r5 r6 r7 ip : Int) (fc fp fz fs fo fd : Bool) (x0 x1 x2 x3 x4 x5 x6 x7 : Int) (cond : Int) (ak ar ab ai aq ad bk br bb bi bq bd c : Int) (len : Int) (hg : (in32 r0 && (in32 r1 && (in32 r2 && (in32 r3 && (in32 r4 && (in32 r5 && (in32 r6 && (in32 r7 && (in32 db && (in32 ds)))))))))) = true) : evF Try.prog ΓSo 400 45 [.ptr 0 0, .agg [.v (.int .u32 r0), .v (.int .u32 r1), .v (.int .u32 r2), .v (.int .u32 r3), .v (.int .u32 r4), .v (.int .u32 r5), .v (.int .u32 r6), .v (.int .u32 r7), .v (.int .u32 ip), .v (.bool fc), .v (.bool fp), .v (.bool fz), .v (.bool fs), .v (.bool fo), .v (.bool fd), .v (.int .u64 x0), .v (.int .u64 x1), .v (.int .u64 x2), .v (.int .u64 x3), .v (.int .u64 x4), .v (.int .u64 x5), .v (.int .u64 x6), .v (.int .u64 x7)], .agg [.v (.int .i64 46), .v (.int .i64 cond), .v (.int .i64 1), .v (.int .i64 ak), .v (.int .i64 ar), .v (.int .i64 ab), .v (.int .i64 ai), .v (.int .i64 aq), .v (.int .u32 ad), .v (.int .i64 bk), .v (.int .i64 br), .v (.int .i64 bb), .v (.int .i64 bi), .v (.int .i64 bq), .v (.int .u32 bd), .v (.int .u32 c), .v (.bool false), .v (.int .i64 len)]] [.cells [.ptr 1 0, .v (.int .u32 cb), .v (.int .u32 cs), .v (.bool cr), .v (.bool cw), .v (.bool cx), .v (.int .u32 db), .v (.int .u32 ds), .v (.bool dr), .v (.bool dw), .v (.bool dx)] T, .cells [.mp 2] T2, .bm .u32 .u8 M] (kTk 3) kNo = some (.tup [.agg [.v (.int .u32 (ansI (strsP46bT cb cs cr cw cx db ds dr dw dx T M r0 r1 r2 r3 r4 r5 r6 r7 ip fc fp fz fs fo fd x0 x1 x2 x3 x4 x5 x6 x7 cond ak ar ab ai aq ad bk br bb bi bq bd c len) 0)), .v (.int .u32 (ansI (strsP46bT cb cs cr cw cx db ds dr dw dx T M r0 r1 r2 r3 r4 r5 r6 r7 ip fc fp fz fs fo fd x0 x1 x2 x3 x4 x5 x6 x7 cond ak ar ab ai aq ad bk br bb bi bq bd c len) 1)), .v (.int .u32 (ansI (strsP46bT cb cs cr cw cx db ds dr dw dx T M r0 r1 r2 r3 r4 r5 r6 r7 ip fc fp fz fs fo fd x0 x1 x2 x3 x4 x5 x6 x7 cond ak ar ab ai aq ad bk br bb bi bq bd c len) 2)), .v (.int .u32 (ansI (strsP46bT cb cs cr cw cx db ds dr dw dx T M r0 r1 r2 r3 r4 r5 r6 r7 ip fc fp fz fs fo fd x0 x1 x2 x3 x4 x5 x6 x7 cond ak ar ab ai aq ad bk br bb bi bq bd c len) 3)), .v (.int .u32 (ansI (strsP46bT cb cs cr cw cx db ds dr dw dx T M r0 r1 r2 r3 r4 r5 r6 r7 ip fc fp fz fs fo fd x0 x1 x2 x3 x4 x5 x6 x7 cond ak ar ab ai aq ad bk br bb bi bq bd c len) 4)), .v (.int .u32 (ansI (strsP46bT cb cs cr cw cx db ds dr dw dx T M r0 r1 r2 r3 r4 r5 r6 r7 ip fc fp fz fs fo fd x0 x1 x2 x3 x4 x5 x6 x7 cond ak ar ab ai aq ad bk br bb bi bq bd c len) 5)), .v (.int .u32 (ansI (strsP46bT cb cs cr cw cx db ds dr dw dx T M r0 r1 r2 r3 r4 r5 r6 r7 ip fc fp fz fs fo fd x0 x1 x2 x3 x4 x5 x6 x7 cond ak ar ab ai aq ad bk br bb bi bq bd c len) 6)), .v (.int .u32 (ansI (strsP46bT cb cs cr cw cx db ds dr dw dx T M r0 r1 r2 r3 r4 r5 r6 r7 ip fc fp fz fs fo fd x0 x1 x2 x3 x4 x5 x6 x7 cond ak ar ab ai aq ad bk br bb bi bq bd c len) 7)), .v (.int .u32 (ansI (strsP46bT cb cs cr cw cx db ds dr dw dx T M r0 r1 r2 r3 r4 r5 r6 r7 ip fc fp fz fs fo fd x0 x1 x2 x3 x4 x5 x6 x7 cond ak ar ab ai aq ad bk br bb bi bq bd c len) 8)), .v (.bool (ansB (strsP46bT cb cs cr cw cx db ds dr dw dx T M r0 r1 r2 r3 r4 r5 r6 r7 ip fc fp fz fs fo fd x0 x1 x2 x3 x4 x5 x6 x7 cond ak ar ab ai aq ad bk br bb bi bq bd c len) 9)), .v (.bool (ansB (strsP46bT cb cs cr cw cx db ds dr dw dx T M r0 r1 r2 r3 r4 r5 r6 r7 ip fc fp fz fs fo fd x0 x1 x2 x3 x4 x5 x6 x7 cond ak ar ab ai aq ad bk br bb bi bq bd c len) 10)), .v (.bool (ansB (strsP46bT cb cs cr cw cx db ds dr dw dx T M r0 r1 r2 r3 r4 r5 r6 r7 ip fc fp fz fs fo fd x0 x1 x2 x3 x4 x5 x6 x7 cond ak ar ab ai aq ad bk br bb bi bq bd c len) 11)), .v (.bool (ansB (strsP46bT cb cs cr cw cx db ds dr dw dx T M r0 r1 r2 r3 r4 r5 r6 r7 ip fc fp fz fs fo fd x0 x1 x2 x3 x4 x5 x6 x7 cond ak ar ab ai aq ad bk br bb bi bq bd c len) 12)), .v (.bool (ansB (strsP46bT cb cs cr cw cx db ds dr dw dx T M r0 r1 r2 r3 r4 r5 r6 r7 ip fc fp fz fs fo fd x0 x1 x2 x3 x4 x5 x6 x7 cond ak ar ab ai aq ad bk br bb bi bq bd c len) 13)), .v (.bool (ansB (strsP46bT cb cs cr cw cx db ds dr dw dx T M r0 r1 r2 r3 r4 r5 r6 r7 ip fc fp fz fs fo fd x0 x1 x2 x3 x4 x5 x6 x7 cond ak ar ab ai aq ad bk br bb bi bq bd c len) 14)), .v (.int .u64 (ansI (strsP46bT cb cs cr cw cx db ds dr dw dx T M r0 r1 r2 r3 r4 r5 r6 r7 ip fc fp fz fs fo fd x0 x1 x2 x3 x4 x5 x6 x7 cond ak ar ab ai aq ad bk br bb bi bq bd c len) 15)), .v (.int .u64 (ansI (strsP46bT cb cs cr cw cx db ds dr dw dx T M r0 r1 r2 r3 r4 r5 r6 r7 ip fc fp fz fs fo fd x0 x1 x2 x3 x4 x5 x6 x7 cond ak ar ab ai aq ad bk br bb bi bq bd c len) 16)), .v (.int .u64 (ansI (strsP46bT cb cs cr cw cx db ds dr dw dx T M r0 r1 r2 r3 r4 r5 r6 r7 ip fc fp fz fs fo fd x0 x1 x2 x3 x4 x5 x6 x7 cond ak ar ab ai aq ad bk br bb bi bq bd c len) 17)), .v (.int .u64 (ansI (strsP46bT cb cs cr cw cx db ds dr dw dx T M r0 r1 r2 r3 r4 r5 r6 r7 ip fc fp fz fs fo fd x0 x1 x2 x3 x4 x5 x6 x7 cond ak ar ab ai aq ad bk br bb bi bq bd c len) 18)), .v (.int .u64 (ansI (strsP46bT cb cs cr cw cx db ds dr dw dx T M r0 r1 r2 r3 r4 r5 r6 r7 ip fc fp fz fs fo fd x0 x1 x2 x3 x4 x5 x6 x7 cond ak ar ab ai aq ad bk br bb bi bq bd c len) 19)), .v (.int .u64 (ansI (strsP46bT cb cs cr cw cx db ds dr dw dx T M r0 r1 r2 r3 r4 r5 r6 r7 ip fc fp fz fs fo fd x0 x1 x2 x3 x4 x5 x6 x7 cond ak ar ab ai aq ad bk br bb bi bq bd c len) 20)), .v (.int .u64 (ansI (strsP46bT cb cs cr cw cx db ds dr dw dx T M r0 r1 r2 r3 r4 r5 r6 r7 ip fc fp fz fs fo fd x0 x1 x2 x3 x4 x5 x6 x7 cond ak ar ab ai aq ad bk br bb bi bq bd c len) 21)), .v (.int .u64 (ansI (strsP46bT cb cs cr cw cx db ds dr dw dx T M r0 r1 r2 r3 r4 r5 r6 r7 ip fc fp fz fs fo fd x0 x1 x2 x3 x4 x5 x6 x7 cond ak ar ab ai aq ad bk br bb bi bq bd c len) 22))], .v (.int .i64 (ansI (strsP46bT cb cs cr cw cx db ds dr dw dx T M r0 r1 r2 r3 r4 r5 r6 r7 ip fc fp fz fs fo fd x0 x1 x2 x3 x4 x5 x6 x7 cond ak ar ab ai aq ad bk br bb bi bq bd c len) 23)), .v (.bool (ansB (strsP46bT cb cs cr cw cx db ds dr dw dx T M r0 r1 r2 r3 r4 r5 r6 r7 ip fc fp fz fs fo fd x0 x1 x2 x3 x4 x5 x6 x7 cond ak ar ab ai aq ad bk br bb bi bq bd c len) 24))], [.cells [.ptr 1 0, .v (.int .u32 cb), .v (.int .u32 cs), .v (.bool cr), .v (.bool cw), .v (.bool cx), .v (.int .u32 db), .v (.int .u32 ds), .v (.bool dr), .v (.bool dw), .v (.bool dx)] T, .cells [.mp 2] T2, .bm .u32 .u8 (ansM (strsP46bT cb cs cr cw cx db ds dr dw dx T M r0 r1 r2 r3 r4 r5 r6 r7 ip fc fp fz fs fo fd x0 x1 x2 x3 x4 x5 x6 x7 cond ak ar ab ai aq ad bk br bb bi bq bd c len) 1)]) := by
  rw [strsR46b_form]
  have h := strsP46b_tree cb cs cr cw cx db ds dr dw dx T M r0 r1 r2 r3 r4 r5 r6 r7 ip fc fp fz fs fo fd x0 x1 x2 x3 x4 x5 x6 x7 cond ak ar ab ai aq ad bk br bb bi bq bd c len
  rw [h]
  simp only [Bool.and_eq_true] at hg
  simp only [hg, Bool.and_self, Bool.and_true, Bool.true_and, cond_true]
  cases fd <;> (
    cases h6 : (segE db ds r6 1 (mayV dr dw dx 0) != 0) <;> cases h7 : (segE db ds r7 1 (mayV dr dw dx 1) != 0) <;> (simp only [h6, h7, cond_true, cond_false]; first | rfl | (rw [stV_lo]; rfl) | (rw [ld_lo]; rfl)))
theorem strsR46w_form (cb cs : Int) (cr cw cx : Bool) (db ds : Int) (dr dw dx : Bool) (T T2 : TypeId) (M : Int → Int) (r0 r1 r2 r3 r4 r5 r6 r7 ip : Int) (fc fp fz fs fo fd : Bool) (x0 x1 x2 x3 x4 x5 x6 x7 : Int) (cond : Int) (ak ar ab ai aq ad bk br bb bi bq bd c : Int) (len : Int) :
    evF Try.prog ΓSo 400 45 [.ptr 0 0, .agg [.v (.int .u32 r0), .v (.int .u32 r1), .v (.int .u32 r2), .v (.int .u32 r3), .v (.int .u32 r4), .v (.int .u32 r5), .v (.int .u32 r6), .v (.int .u32 r7), .v (.int .u32 ip), .v (.bool fc), .v (.bool fp), .v (.bool fz), .v (.bool fs), .v (.bool fo), .v (.bool fd), .v (.int .u64 x0), .v (.int .u64 x1), .v (.int .u64 x2), .v (.int .u64 x3), .v (.int .u64 x4), .v (.int .u64 x5), .v (.int .u64 x6), .v (.int .u64 x7)], .agg [.v (.int .i64 46), .v (.int .i64 cond), .v (.int .i64 4), .v (.int .i64 ak), .v (.int .i64 ar), .v (.int .i64 ab), .v (.int .i64 ai), .v (.int .i64 aq), .v (.int .u32 ad), .v (.int .i64 bk), .v (.int .i64 br), .v (.int .i64 bb), .v (.int .i64 bi), .v (.int .i64 bq), .v (.int .u32 bd), .v (.int .u32 c), .v (.bool false), .v (.int .i64 len)]] [.cells [.ptr 1 0, .v (.int .u32 cb), .v (.int .u32 cs), .v (.bool cr), .v (.bool cw), .v (.bool cx), .v (.int .u32 db), .v (.int .u32 ds), .v (.bool dr), .v (.bool dw), .v (.bool dx)] T, .cells [.mp 2] T2, .bm .u32 .u8 M] (kTk 3) kNo =
    (bif fd then
bif in32 db && (in32 ds && in32 r6) && true then
bif segE db ds r6 4 (mayV dr dw dx 0) != 0 then
some
(Sv.tup
[Sv.agg
[vw r0, vw r1, vw r2,
vw r3, vw r4, vw r5,
vw r6, vw r7, vw ip, vb fc,
vb fp, vb fz, vb fs, vb fo, vb fd,
vd x0, vd x1, vd x2,
vd x3, vd x4, vd x5,
vd x6, vd x7],
vi 2, vb true],
[SObj.cells
[Sv.ptr 1 0, vw cb, vw cs, vb cr,
vb cw, vb cx, vw db, vw ds,
vb dr, vb dw, vb dx]
T,
SObj.cells [Sv.mp 2] T2, SObj.bm IntKind.u32 IntKind.u8 M])
else
bif in32 db && (in32 ds && in32 r7) && true then
bif segE db ds r7 4 (mayV dr dw dx 1) != 0 then
some
(Sv.tup
[Sv.agg
[vw r0, vw r1, vw r2,
vw r3, vw r4, vw r5,
vw r6, vw r7, vw ip, vb fc,
vb fp, vb fz, vb fs, vb fo, vb fd,
vd x0, vd x1, vd x2,
vd x3, vd x4, vd x5,
vd x6, vd x7],
vi 2, vb true],
[SObj.cells
[Sv.ptr 1 0, vw cb, vw cs, vb cr,
vb cw, vb cx, vw db, vw ds,
vb dr, vb dw, vb dx]
T,
SObj.cells [Sv.mp 2] T2,
SObj.bm IntKind.u32 IntKind.u8 (stV M db ds r7 4 (ldV M db ds r6 4 (mayV dr dw dx 0)) (mayV dr dw dx 1))])
else
some
(Sv.tup
[Sv.agg
[vw r0, vw r1, vw r2,
vw r3, vw r4, vw r5,
vw ((IntKind.wrap IntKind.u32 (r6 + 4294967292))),
vw ((IntKind.wrap IntKind.u32 (r7 + 4294967292))), vw ip,
vb fc, vb fp, vb fz, vb fs, vb fo,
vb fd, vd x0, vd x1, vd x2,
vd x3, vd x4, vd x5,
vd x6, vd x7],
vi 0, vb true],
[SObj.cells
[Sv.ptr 1 0, vw cb, vw cs, vb cr,
vb cw, vb cx, vw db, vw ds,
vb dr, vb dw, vb dx]
T,
SObj.cells [Sv.mp 2] T2,
SObj.bm IntKind.u32 IntKind.u8 (stV M db ds r7 4 (ldV M db ds r6 4 (mayV dr dw dx 0)) (mayV dr dw dx 1))])
else none
else none
else
bif in32 db && (in32 ds && in32 r6) && true then
bif segE db ds r6 4 (mayV dr dw dx 0) != 0 then
some
(Sv.tup
[Sv.agg
[vw r0, vw r1, vw r2,
vw r3, vw r4, vw r5,
vw r6, vw r7, vw ip, vb fc,
vb fp, vb fz, vb fs, vb fo, vb fd,
vd x0, vd x1, vd x2,
vd x3, vd x4, vd x5,
vd x6, vd x7],
vi 2, vb true],
[SObj.cells
[Sv.ptr 1 0, vw cb, vw cs, vb cr,
vb cw, vb cx, vw db, vw ds,
vb dr, vb dw, vb dx]
T,
SObj.cells [Sv.mp 2] T2, SObj.bm IntKind.u32 IntKind.u8 M])
else
bif in32 db && (in32 ds && in32 r7) && true then
bif segE db ds r7 4 (mayV dr dw dx 1) != 0 then
some
(Sv.tup
[Sv.agg
[vw r0, vw r1, vw r2,
vw r3, vw r4, vw r5,
vw r6, vw r7, vw ip, vb fc,
vb fp, vb fz, vb fs, vb fo, vb fd,
vd x0, vd x1, vd x2,
vd x3, vd x4, vd x5,
vd x6, vd x7],
vi 2, vb true],
[SObj.cells
[Sv.ptr 1 0, vw cb, vw cs, vb cr,
vb cw, vb cx, vw db, vw ds,
vb dr, vb dw, vb dx]
T,
SObj.cells [Sv.mp 2] T2,
SObj.bm IntKind.u32 IntKind.u8 (stV M db ds r7 4 (ldV M db ds r6 4 (mayV dr dw dx 0)) (mayV dr dw dx 1))])
else
some
(Sv.tup
[Sv.agg
[vw r0, vw r1, vw r2,
vw r3, vw r4, vw r5,
vw ((IntKind.wrap IntKind.u32 (r6 + 4))),
vw ((IntKind.wrap IntKind.u32 (r7 + 4))), vw ip, vb fc,
vb fp, vb fz, vb fs, vb fo, vb fd,
vd x0, vd x1, vd x2,
vd x3, vd x4, vd x5,
vd x6, vd x7],
vi 0, vb true],
[SObj.cells
[Sv.ptr 1 0, vw cb, vw cs, vb cr,
vb cw, vb cx, vw db, vw ds,
vb dr, vb dw, vb dx]
T,
SObj.cells [Sv.mp 2] T2,
SObj.bm IntKind.u32 IntKind.u8 (stV M db ds r7 4 (ldV M db ds r6 4 (mayV dr dw dx 0)) (mayV dr dw dx 1))])
else none
else none) := by kernel_rfl
theorem strsR46w_ev (cb cs : Int) (cr cw cx : Bool) (db ds : Int) (dr dw dx : Bool) (T T2 : TypeId) (M : Int → Int) (r0 r1 r2 r3 r4 r5 r6 r7 ip : Int) (fc fp fz fs fo fd : Bool) (x0 x1 x2 x3 x4 x5 x6 x7 : Int) (cond : Int) (ak ar ab ai aq ad bk br bb bi bq bd c : Int) (len : Int) (hg : (in32 r0 && (in32 r1 && (in32 r2 && (in32 r3 && (in32 r4 && (in32 r5 && (in32 r6 && (in32 r7 && (in32 db && (in32 ds)))))))))) = true) : evF Try.prog ΓSo 400 45 [.ptr 0 0, .agg [.v (.int .u32 r0), .v (.int .u32 r1), .v (.int .u32 r2), .v (.int .u32 r3), .v (.int .u32 r4), .v (.int .u32 r5), .v (.int .u32 r6), .v (.int .u32 r7), .v (.int .u32 ip), .v (.bool fc), .v (.bool fp), .v (.bool fz), .v (.bool fs), .v (.bool fo), .v (.bool fd), .v (.int .u64 x0), .v (.int .u64 x1), .v (.int .u64 x2), .v (.int .u64 x3), .v (.int .u64 x4), .v (.int .u64 x5), .v (.int .u64 x6), .v (.int .u64 x7)], .agg [.v (.int .i64 46), .v (.int .i64 cond), .v (.int .i64 4), .v (.int .i64 ak), .v (.int .i64 ar), .v (.int .i64 ab), .v (.int .i64 ai), .v (.int .i64 aq), .v (.int .u32 ad), .v (.int .i64 bk), .v (.int .i64 br), .v (.int .i64 bb), .v (.int .i64 bi), .v (.int .i64 bq), .v (.int .u32 bd), .v (.int .u32 c), .v (.bool false), .v (.int .i64 len)]] [.cells [.ptr 1 0, .v (.int .u32 cb), .v (.int .u32 cs), .v (.bool cr), .v (.bool cw), .v (.bool cx), .v (.int .u32 db), .v (.int .u32 ds), .v (.bool dr), .v (.bool dw), .v (.bool dx)] T, .cells [.mp 2] T2, .bm .u32 .u8 M] (kTk 3) kNo = some (.tup [.agg [.v (.int .u32 (ansI (strsP46wT cb cs cr cw cx db ds dr dw dx T M r0 r1 r2 r3 r4 r5 r6 r7 ip fc fp fz fs fo fd x0 x1 x2 x3 x4 x5 x6 x7 cond ak ar ab ai aq ad bk br bb bi bq bd c len) 0)), .v (.int .u32 (ansI (strsP46wT cb cs cr cw cx db ds dr dw dx T M r0 r1 r2 r3 r4 r5 r6 r7 ip fc fp fz fs fo fd x0 x1 x2 x3 x4 x5 x6 x7 cond ak ar ab ai aq ad bk br bb bi bq bd c len) 1)), .v (.int .u32 (ansI (strsP46wT cb cs cr cw cx db ds dr dw dx T M r0 r1 r2 r3 r4 r5 r6 r7 ip fc fp fz fs fo fd x0 x1 x2 x3 x4 x5 x6 x7 cond ak ar ab ai aq ad bk br bb bi bq bd c len) 2)), .v (.int .u32 (ansI (strsP46wT cb cs cr cw cx db ds dr dw dx T M r0 r1 r2 r3 r4 r5 r6 r7 ip fc fp fz fs fo fd x0 x1 x2 x3 x4 x5 x6 x7 cond ak ar ab ai aq ad bk br bb bi bq bd c len) 3)), .v (.int .u32 (ansI (strsP46wT cb cs cr cw cx db ds dr dw dx T M r0 r1 r2 r3 r4 r5 r6 r7 ip fc fp fz fs fo fd x0 x1 x2 x3 x4 x5 x6 x7 cond ak ar ab ai aq ad bk br bb bi bq bd c len) 4)), .v (.int .u32 (ansI (strsP46wT cb cs cr cw cx db ds dr dw dx T M r0 r1 r2 r3 r4 r5 r6 r7 ip fc fp fz fs fo fd x0 x1 x2 x3 x4 x5 x6 x7 cond ak ar ab ai aq ad bk br bb bi bq bd c len) 5)), .v (.int .u32 (ansI (strsP46wT cb cs cr cw cx db ds dr dw dx T M r0 r1 r2 r3 r4 r5 r6 r7 ip fc fp fz fs fo fd x0 x1 x2 x3 x4 x5 x6 x7 cond ak ar ab ai aq ad bk br bb bi bq bd c len) 6)), .v (.int .u32 (ansI (strsP46wT cb cs cr cw cx db ds dr dw dx T M r0 r1 r2 r3 r4 r5 r6 r7 ip fc fp fz fs fo fd x0 x1 x2 x3 x4 x5 x6 x7 cond ak ar ab ai aq ad bk br bb bi bq bd c len) 7)), .v (.int .u32 (ansI (strsP46wT cb cs cr cw cx db ds dr dw dx T M r0 r1 r2 r3 r4 r5 r6 r7 ip fc fp fz fs fo fd x0 x1 x2 x3 x4 x5 x6 x7 cond ak ar ab ai aq ad bk br bb bi bq bd c len) 8)), .v (.bool (ansB (strsP46wT cb cs cr cw cx db ds dr dw dx T M r0 r1 r2 r3 r4 r5 r6 r7 ip fc fp fz fs fo fd x0 x1 x2 x3 x4 x5 x6 x7 cond ak ar ab ai aq ad bk br bb bi bq bd c len) 9)), .v (.bool (ansB (strsP46wT cb cs cr cw cx db ds dr dw dx T M r0 r1 r2 r3 r4 r5 r6 r7 ip fc fp fz fs fo fd x0 x1 x2 x3 x4 x5 x6 x7 cond ak ar ab ai aq ad bk br bb bi bq bd c len) 10)), .v (.bool (ansB (strsP46wT cb cs cr cw cx db ds dr dw dx T M r0 r1 r2 r3 r4 r5 r6 r7 ip fc fp fz fs fo fd x0 x1 x2 x3 x4 x5 x6 x7 cond ak ar ab ai aq ad bk br bb bi bq bd c len) 11)), .v (.bool (ansB (strsP46wT cb cs cr cw cx db ds dr dw dx T M r0 r1 r2 r3 r4 r5 r6 r7 ip fc fp fz fs fo fd x0 x1 x2 x3 x4 x5 x6 x7 cond ak ar ab ai aq ad bk br bb bi bq bd c len) 12)), .v (.bool (ansB (strsP46wT cb cs cr cw cx db ds dr dw dx T M r0 r1 r2 r3 r4 r5 r6 r7 ip fc fp fz fs fo fd x0 x1 x2 x3 x4 x5 x6 x7 cond ak ar ab ai aq ad bk br bb bi bq bd c len) 13)), .v (.bool (ansB (strsP46wT cb cs cr cw cx db ds dr dw dx T M r0 r1 r2 r3 r4 r5 r6 r7 ip fc fp fz fs fo fd x0 x1 x2 x3 x4 x5 x6 x7 cond ak ar ab ai aq ad bk br bb bi bq bd c len) 14)), .v (.int .u64 (ansI (strsP46wT cb cs cr cw cx db ds dr dw dx T M r0 r1 r2 r3 r4 r5 r6 r7 ip fc fp fz fs fo fd x0 x1 x2 x3 x4 x5 x6 x7 cond ak ar ab ai aq ad bk br bb bi bq bd c len) 15)), .v (.int .u64 (ansI (strsP46wT cb cs cr cw cx db ds dr dw dx T M r0 r1 r2 r3 r4 r5 r6 r7 ip fc fp fz fs fo fd x0 x1 x2 x3 x4 x5 x6 x7 cond ak ar ab ai aq ad bk br bb bi bq bd c len) 16)), .v (.int .u64 (ansI (strsP46wT cb cs cr cw cx db ds dr dw dx T M r0 r1 r2 r3 r4 r5 r6 r7 ip fc fp fz fs fo fd x0 x1 x2 x3 x4 x5 x6 x7 cond ak ar ab ai aq ad bk br bb bi bq bd c len) 17)), .v (.int .u64 (ansI (strsP46wT cb cs cr cw cx db ds dr dw dx T M r0 r1 r2 r3 r4 r5 r6 r7 ip fc fp fz fs fo fd x0 x1 x2 x3 x4 x5 x6 x7 cond ak ar ab ai aq ad bk br bb bi bq bd c len) 18)), .v (.int .u64 (ansI (strsP46wT cb cs cr cw cx db ds dr dw dx T M r0 r1 r2 r3 r4 r5 r6 r7 ip fc fp fz fs fo fd x0 x1 x2 x3 x4 x5 x6 x7 cond ak ar ab ai aq ad bk br bb bi bq bd c len) 19)), .v (.int .u64 (ansI (strsP46wT cb cs cr cw cx db ds dr dw dx T M r0 r1 r2 r3 r4 r5 r6 r7 ip fc fp fz fs fo fd x0 x1 x2 x3 x4 x5 x6 x7 cond ak ar ab ai aq ad bk br bb bi bq bd c len) 20)), .v (.int .u64 (ansI (strsP46wT cb cs cr cw cx db ds dr dw dx T M r0 r1 r2 r3 r4 r5 r6 r7 ip fc fp fz fs fo fd x0 x1 x2 x3 x4 x5 x6 x7 cond ak ar ab ai aq ad bk br bb bi bq bd c len) 21)), .v (.int .u64 (ansI (strsP46wT cb cs cr cw cx db ds dr dw dx T M r0 r1 r2 r3 r4 r5 r6 r7 ip fc fp fz fs fo fd x0 x1 x2 x3 x4 x5 x6 x7 cond ak ar ab ai aq ad bk br bb bi bq bd c len) 22))], .v (.int .i64 (ansI (strsP46wT cb cs cr cw cx db ds dr dw dx T M r0 r1 r2 r3 r4 r5 r6 r7 ip fc fp fz fs fo fd x0 x1 x2 x3 x4 x5 x6 x7 cond ak ar ab ai aq ad bk br bb bi bq bd c len) 23)), .v (.bool (ansB (strsP46wT cb cs cr cw cx db ds dr dw dx T M r0 r1 r2 r3 r4 r5 r6 r7 ip fc fp fz fs fo fd x0 x1 x2 x3 x4 x5 x6 x7 cond ak ar ab ai aq ad bk br bb bi bq bd c len) 24))], [.cells [.ptr 1 0, .v (.int .u32 cb), .v (.int .u32 cs), .v (.bool cr), .v (.bool cw), .v (.bool cx), .v (.int .u32 db), .v (.int .u32 ds), .v (.bool dr), .v (.bool dw), .v (.bool dx)] T, .cells [.mp 2] T2, .bm .u32 .u8 (ansM (strsP46wT cb cs cr cw cx db ds dr dw dx T M r0 r1 r2 r3 r4 r5 r6 r7 ip fc fp fz fs fo fd x0 x1 x2 x3 x4 x5 x6 x7 cond ak ar ab ai aq ad bk br bb bi bq bd c len) 1)]) := by
  rw [strsR46w_form]
  have h := strsP46w_tree cb cs cr cw cx db ds dr dw dx T M r0 r1 r2 r3 r4 r5 r6 r7 ip fc fp fz fs fo fd x0 x1 x2 x3 x4 x5 x6 x7 cond ak ar ab ai aq ad bk br bb bi bq bd c len
  rw [h]
  simp only [Bool.and_eq_true] at hg
  simp only [hg, Bool.and_self, Bool.and_true, Bool.true_and, cond_true]
  cases fd <;> (
    cases h6 : (segE db ds r6 4 (mayV dr dw dx 0) != 0) <;> cases h7 : (segE db ds r7 4 (mayV dr dw dx 1) != 0) <;> (simp only [h6, h7, cond_true, cond_false]; first | rfl | (rw [stV_lo]; rfl) | (rw [ld_lo]; rfl)))
theorem strsR47b_form (cb cs : Int) (cr cw cx : Bool) (db ds : Int) (dr dw dx : Bool) (T T2 : TypeId) (M : Int → Int) (r0 r1 r2 r3 r4 r5 r6 r7 ip : Int) (fc fp fz fs fo fd : Bool) (x0 x1 x2 x3 x4 x5 x6 x7 : Int) (cond : Int) (ak ar ab ai aq ad bk br bb bi bq bd c : Int) (len : Int) :
    evF Try.prog ΓSo 400 45 [.ptr 0 0, .agg [.v (.int .u32 r0), .v (.int .u32 r1), .v (.int .u32 r2), .v (.int .u32 r3), .v (.int .u32 r4), .v (.int .u32 r5), .v (.int .u32 r6), .v (.int .u32 r7), .v (.int .u32 ip), .v (.bool fc), .v (.bool fp), .v (.bool fz), .v (.bool fs), .v (.bool fo), .v (.bool fd), .v (.int .u64 x0), .v (.int .u64 x1), .v (.int .u64 x2), .v (.int .u64 x3), .v (.int .u64 x4), .v (.int .u64 x5), .v (.int .u64 x6), .v (.int .u64 x7)], .agg [.v (.int .i64 47), .v (.int .i64 cond), .v (.int .i64 1), .v (.int .i64 ak), .v (.int .i64 ar), .v (.int .i64 ab), .v (.int .i64 ai), .v (.int .i64 aq), .v (.int .u32 ad), .v (.int .i64 bk), .v (.int .i64 br), .v (.int .i64 bb), .v (.int .i64 bi), .v (.int .i64 bq), .v (.int .u32 bd), .v (.int .u32 c), .v (.bool false), .v (.int .i64 len)]] [.cells [.ptr 1 0, .v (.int .u32 cb), .v (.int .u32 cs), .v (.bool cr), .v (.bool cw), .v (.bool cx), .v (.int .u32 db), .v (.int .u32 ds), .v (.bool dr), .v (.bool dw), .v (.bool dx)] T, .cells [.mp 2] T2, .bm .u32 .u8 M] (kTk 3) kNo =
    (bif fd then
bif in32 db && (in32 ds && in32 r7) && true then
bif segE db ds r7 1 (mayV dr dw dx 1) != 0 then
some
(Sv.tup
[Sv.agg
[vw r0, vw r1, vw r2,
vw r3, vw r4, vw r5,
vw r6, vw r7, vw ip, vb fc,
vb fp, vb fz, vb fs, vb fo, vb fd,
vd x0, vd x1, vd x2,
vd x3, vd x4, vd x5,
vd x6, vd x7],
vi 2, vb true],
[SObj.cells
[Sv.ptr 1 0, vw cb, vw cs, vb cr,
vb cw, vb cx, vw db, vw ds,
vb dr, vb dw, vb dx]
T,
SObj.cells [Sv.mp 2] T2,
SObj.bm IntKind.u32 IntKind.u8 (stV M db ds r7 1 (IntKind.wrap IntKind.u64 r0) (mayV dr dw dx 1))])
else
some
(Sv.tup
[Sv.agg
[vw r0, vw r1, vw r2,
vw r3, vw r4, vw r5,
vw r6, vw ((IntKind.wrap IntKind.u32 (r7 + 4294967295))),
vw ip, vb fc, vb fp, vb fz, vb fs,
vb fo, vb fd, vd x0, vd x1,
vd x2, vd x3, vd x4,
vd x5, vd x6, vd x7],
vi 0, vb true],
[SObj.cells
[Sv.ptr 1 0, vw cb, vw cs, vb cr,
vb cw, vb cx, vw db, vw ds,
vb dr, vb dw, vb dx]
T,
SObj.cells [Sv.mp 2] T2,
SObj.bm IntKind.u32 IntKind.u8 (stV M db ds r7 1 (IntKind.wrap IntKind.u64 r0) (mayV dr dw dx 1))])
else none
else
bif in32 db && (in32 ds && in32 r7) && true then
bif segE db ds r7 1 (mayV dr dw dx 1) != 0 then
some
(Sv.tup
[Sv.agg
[vw r0, vw r1, vw r2,
vw r3, vw r4, vw r5,
vw r6, vw r7, vw ip, vb fc,
vb fp, vb fz, vb fs, vb fo, vb fd,
vd x0, vd x1, vd x2,
vd x3, vd x4, vd x5,
vd x6, vd x7],
vi 2, vb true],
[SObj.cells
[Sv.ptr 1 0, vw cb, vw cs, vb cr,
vb cw, vb cx, vw db, vw ds,
vb dr, vb dw, vb dx]
T,
SObj.cells [Sv.mp 2] T2,
SObj.bm IntKind.u32 IntKind.u8 (stV M db ds r7 1 (IntKind.wrap IntKind.u64 r0) (mayV dr dw dx 1))])
else
some
(Sv.tup
[Sv.agg
[vw r0, vw r1, vw r2,
vw r3, vw r4, vw r5,
vw r6, vw ((IntKind.wrap IntKind.u32 (r7 + 1))),
vw ip, vb fc, vb fp, vb fz, vb fs,
vb fo, vb fd, vd x0, vd x1,
vd x2, vd x3, vd x4,
vd x5, vd x6, vd x7],
vi 0, vb true],
[SObj.cells
[Sv.ptr 1 0, vw cb, vw cs, vb cr,
vb cw, vb cx, vw db, vw ds,
vb dr, vb dw, vb dx]
T,
SObj.cells [Sv.mp 2] T2,
SObj.bm IntKind.u32 IntKind.u8 (stV M db ds r7 1 (IntKind.wrap IntKind.u64 r0) (mayV dr dw dx 1))])
else none) := by kernel_rfl
theorem strsR47b_ev (cb cs : Int) (cr cw cx : Bool) (db ds : Int) (dr dw dx : Bool) (T T2 : TypeId) (M : Int → Int) (r0 r1 r2 r3 r4 r5 r6 r7 ip : Int) (fc fp fz fs fo fd : Bool) (x0 x1 x2 x3 x4 x5 x6 x7 : Int) (cond : Int) (ak ar ab ai aq ad bk br bb bi bq bd c : Int) (len : Int) (hg : (in32 r0 && (in32 r1 && (in32 r2 && (in32 r3 && (in32 r4 && (in32 r5 && (in32 r6 && (in32 r7 && (in32 db && (in32 ds)))))))))) = true) : evF Try.prog ΓSo 400 45 [.ptr 0 0, .agg [.v (.int .u32 r0), .v (.int .u32 r1), .v (.int .u32 r2), .v (.int .u32 r3), .v (.int .u32 r4), .v (.int .u32 r5), .v (.int .u32 r6), .v (.int .u32 r7), .v (.int .u32 ip), .v (.bool fc), .v (.bool fp), .v (.bool fz), .v (.bool fs), .v (.bool fo), .v (.bool fd), .v (.int .u64 x0), .v (.int .u64 x1), .v (.int .u64 x2), .v (.int .u64 x3), .v (.int .u64 x4), .v (.int .u64 x5), .v (.int .u64 x6), .v (.int .u64 x7)], .agg [.v (.int .i64 47), .v (.int .i64 cond), .v (.int .i64 1), .v (.int .i64 ak), .v (.int .i64 ar), .v (.int .i64 ab), .v (.int .i64 ai), .v (.int .i64 aq), .v (.int .u32 ad), .v (.int .i64 bk), .v (.int .i64 br), .v (.int .i64 bb), .v (.int .i64 bi), .v (.int .i64 bq), .v (.int .u32 bd), .v (.int .u32 c), .v (.bool false), .v (.int .i64 len)]] [.cells [.ptr 1 0, .v (.int .u32 cb), .v (.int .u32 cs), .v (.bool cr), .v (.bool cw), .v (.bool cx), .v (.int .u32 db), .v (.int .u32 ds), .v (.bool dr), .v (.bool dw), .v (.bool dx)] T, .cells [.mp 2] T2, .bm .u32 .u8 M] (kTk 3) kNo = some (.tup [.agg [.v (.int .u32 (ansI (strsP47bT cb cs cr cw cx db ds dr dw dx T M r0 r1 r2 r3 r4 r5 r6 r7 ip fc fp fz fs fo fd x0 x1 x2 x3 x4 x5 x6 x7 cond ak ar ab ai aq ad bk br bb bi bq bd c len) 0)), .v (.int .u32 (ansI (strsP47bT cb cs cr cw cx db ds dr dw dx T M r0 r1 r2 r3 r4 r5 r6 r7 ip fc fp fz fs fo fd x0 x1 x2 x3 x4 x5 x6 x7 cond ak ar ab ai aq ad bk br bb bi bq bd c len) 1)), .v (.int .u32 (ansI (strsP47bT cb cs cr cw cx db ds dr dw dx T M r0 r1 r2 r3 r4 r5 r6 r7 ip fc fp fz fs fo fd x0 x1 x2 x3 x4 x5 x6 x7 cond ak ar ab ai aq ad bk br bb bi bq bd c len) 2)), .v (.int .u32 (ansI (strsP47bT cb cs cr cw cx db ds dr dw dx T M r0 r1 r2 r3 r4 r5 r6 r7 ip fc fp fz fs fo fd x0 x1 x2 x3 x4 x5 x6 x7 cond ak ar ab ai aq ad bk br bb bi bq bd c len) 3)), .v (.int .u32 (ansI (strsP47bT cb cs cr cw cx db ds dr dw dx T M r0 r1 r2 r3 r4 r5 r6 r7 ip fc fp fz fs fo fd x0 x1 x2 x3 x4 x5 x6 x7 cond ak ar ab ai aq ad bk br bb bi bq bd c len) 4)), .v (.int .u32 (ansI (strsP47bT cb cs cr cw cx db ds dr dw dx T M r0 r1 r2 r3 r4 r5 r6 r7 ip fc fp fz fs fo fd x0 x1 x2 x3 x4 x5 x6 x7 cond ak ar ab ai aq ad bk br bb bi bq bd c len) 5)), .v (.int .u32 (ansI (strsP47bT cb cs cr cw cx db ds dr dw dx T M r0 r1 r2 r3 r4 r5 r6 r7 ip fc fp fz fs fo fd x0 x1 x2 x3 x4 x5 x6 x7 cond ak ar ab ai aq ad bk br bb bi bq bd c len) 6)), .v (.int .u32 (ansI (strsP47bT cb cs cr cw cx db ds dr dw dx T M r0 r1 r2 r3 r4 r5 r6 r7 ip fc fp fz fs fo fd x0 x1 x2 x3 x4 x5 x6 x7 cond ak ar ab ai aq ad bk br bb bi bq bd c len) 7)), .v (.int .u32 (ansI (strsP47bT cb cs cr cw cx db ds dr dw dx T M r0 r1 r2 r3 r4 r5 r6 r7 ip fc fp fz fs fo fd x0 x1 x2 x3 x4 x5 x6 x7 cond ak ar ab ai aq ad bk br bb bi bq bd c len) 8)), .v (.bool (ansB (strsP47bT cb cs cr cw cx db ds dr dw dx T M r0 r1 r2 r3 r4 r5 r6 r7 ip fc fp fz fs fo fd x0 x1 x2 x3 x4 x5 x6 x7 cond ak ar ab ai aq ad bk br bb bi bq bd c len) 9)), .v (.bool (ansB (strsP47bT cb cs cr cw cx db ds dr dw dx T M r0 r1 r2 r3 r4 r5 r6 r7 ip fc fp fz fs fo fd x0 x1 x2 x3 x4 x5 x6 x7 cond ak ar ab ai aq ad bk br bb bi bq bd c len) 10)), .v (.bool (ansB (strsP47bT cb cs cr cw cx db ds dr dw dx T M r0 r1 r2 r3 r4 r5 r6 r7 ip fc fp fz fs fo fd x0 x1 x2 x3 x4 x5 x6 x7 cond ak ar ab ai aq ad bk br bb bi bq bd c len) 11)), .v (.bool (ansB (strsP47bT cb cs cr cw cx db ds dr dw dx T M r0 r1 r2 r3 r4 r5 r6 r7 ip fc fp fz fs fo fd x0 x1 x2 x3 x4 x5 x6 x7 cond ak ar ab ai aq ad bk br bb bi bq bd c len) 12)), .v (.bool (ansB (strsP47bT cb cs cr cw cx db ds dr dw dx T M r0 r1 r2 r3 r4 r5 r6 r7 ip fc fp fz fs fo fd x0 x1 x2 x3 x4 x5 x6 x7 cond ak ar ab ai aq ad bk br bb bi bq bd c len) 13)), .v (.bool (ansB (strsP47bT cb cs cr cw cx db ds dr dw dx T M r0 r1 r2 r3 r4 r5 r6 r7 ip fc fp fz fs fo fd x0 x1 x2 x3 x4 x5 x6 x7 cond ak ar ab ai aq ad bk br bb bi bq bd c len) 14)), .v (.int .u64 (ansI (strsP47bT cb cs cr cw cx db ds dr dw dx T M r0 r1 r2 r3 r4 r5 r6 r7 ip fc fp fz fs fo fd x0 x1 x2 x3 x4 x5 x6 x7 cond ak ar ab ai aq ad bk br bb bi bq bd c len) 15)), .v (.int .u64 (ansI (strsP47bT cb cs cr cw cx db ds dr dw dx T M r0 r1 r2 r3 r4 r5 r6 r7 ip fc fp fz fs fo fd x0 x1 x2 x3 x4 x5 x6 x7 cond ak ar ab ai aq ad bk br bb bi bq bd c len) 16)), .v (.int .u64 (ansI (strsP47bT cb cs cr cw cx db ds dr dw dx T M r0 r1 r2 r3 r4 r5 r6 r7 ip fc fp fz fs fo fd x0 x1 x2 x3 x4 x5 x6 x7 cond ak ar ab ai aq ad bk br bb bi bq bd c len) 17)), .v (.int .u64 (ansI (strsP47bT cb cs cr cw cx db ds dr dw dx T M r0 r1 r2 r3 r4 r5 r6 r7 ip fc fp fz fs fo fd x0 x1 x2 x3 x4 x5 x6 x7 cond ak ar ab ai aq ad bk br bb bi bq bd c len) 18)), .v (.int .u64 (ansI (strsP47bT cb cs cr cw cx db ds dr dw dx T M r0 r1 r2 r3 r4 r5 r6 r7 ip fc fp fz fs fo fd x0 x1 x2 x3 x4 x5 x6 x7 cond ak ar ab ai aq ad bk br bb bi bq bd c len) 19)), .v (.int .u64 (ansI (strsP47bT cb cs cr cw cx db ds dr dw dx T M r0 r1 r2 r3 r4 r5 r6 r7 ip fc fp fz fs fo fd x0 x1 x2 x3 x4 x5 x6 x7 cond ak ar ab ai aq ad bk br bb bi bq bd c len) 20)), .v (.int .u64 (ansI (strsP47bT cb cs cr cw cx db ds dr dw dx T M r0 r1 r2 r3 r4 r5 r6 r7 ip fc fp fz fs fo fd x0 x1 x2 x3 x4 x5 x6 x7 cond ak ar ab ai aq ad bk br bb bi bq bd c len) 21)), .v (.int .u64 (ansI (strsP47bT cb cs cr cw cx db ds dr dw dx T M r0 r1 r2 r3 r4 r5 r6 r7 ip fc fp fz fs fo fd x0 x1 x2 x3 x4 x5 x6 x7 cond ak ar ab ai aq ad bk br bb bi bq bd c len) 22))], .v (.int .i64 (ansI (strsP47bT cb cs cr cw cx db ds dr dw dx T M r0 r1 r2 r3 r4 r5 r6 r7 ip fc fp fz fs fo fd x0 x1 x2 x3 x4 x5 x6 x7 cond ak ar ab ai aq ad bk br bb bi bq bd c len) 23)), .v (.bool (ansB (strsP47bT cb cs cr cw cx db ds dr dw dx T M r0 r1 r2 r3 r4 r5 r6 r7 ip fc fp fz fs fo fd x0 x1 x2 x3 x4 x5 x6 x7 cond ak ar ab ai aq ad bk br bb bi bq bd c len) 24))], [.cells [.ptr 1 0, .v (.int .u32 cb), .v (.int .u32 cs), .v (.bool cr), .v (.bool cw), .v (.bool cx), .v (.int .u32 db), .v (.int .u32 ds), .v (.bool dr), .v (.bool dw), .v (.bool dx)] T, .cells [.mp 2] T2, .bm .u32 .u8 (ansM (strsP47bT cb cs cr cw cx db ds dr dw dx T M r0 r1 r2 r3 r4 r5 r6 r7 ip fc fp fz fs fo fd x0 x1 x2 x3 x4 x5 x6 x7 cond ak ar ab ai aq ad bk br bb bi bq bd c len) 1)]) := by
  rw [strsR47b_form]
  have h := strsP47b_tree cb cs cr cw cx db ds dr dw dx T M r0 r1 r2 r3 r4 r5 r6 r7 ip fc fp fz fs fo fd x0 x1 x2 x3 x4 x5 x6 x7 cond ak ar ab ai aq ad bk br bb bi bq bd c len
  rw [h]
  simp only [Bool.and_eq_true] at hg
  simp only [hg, Bool.and_self, Bool.and_true, Bool.true_and, cond_true]
  cases fd <;> (
    cases h7 : (segE db ds r7 1 (mayV dr dw dx 1) != 0) <;> (simp only [h7, cond_true, cond_false]; first | rfl | (rw [stV_lo]; rfl) | (rw [ld_lo]; rfl)))
theorem strsR47w_form (cb cs : Int) (cr cw cx : Bool) (db ds : Int) (dr dw dx : Bool) (T T2 : TypeId) (M : Int → Int) (r0 r1 r2 r3 r4 r5 r6 r7 ip : Int) (fc fp fz fs fo fd : Bool) (x0 x1 x2 x3 x4 x5 x6 x7 : Int) (cond : Int) (ak ar ab ai aq ad bk br bb bi bq bd c : Int) (len : Int) :
    evF Try.prog ΓSo 400 45 [.ptr 0 0, .agg [.v (.int .u32 r0), .v (.int .u32 r1), .v (.int .u32 r2), .v (.int .u32 r3), .v (.int .u32 r4), .v (.int .u32 r5), .v (.int .u32 r6), .v (.int .u32 r7), .v (.int .u32 ip), .v (.bool fc), .v (.bool fp), .v (.bool fz), .v (.bool fs), .v (.bool fo), .v (.bool fd), .v (.int .u64 x0), .v (.int .u64 x1), .v (.int .u64 x2), .v (.int .u64 x3), .v (.int .u64 x4), .v (.int .u64 x5), .v (.int .u64 x6), .v (.int .u64 x7)], .agg [.v (.int .i64 47), .v (.int .i64 cond), .v (.int .i64 4), .v (.int .i64 ak), .v (.int .i64 ar), .v (.int .i64 ab), .v (.int .i64 ai), .v (.int .i64 aq), .v (.int .u32 ad), .v (.int .i64 bk), .v (.int .i64 br), .v (.int .i64 bb), .v (.int .i64 bi), .v (.int .i64 bq), .v (.int .u32 bd), .v (.int .u32 c), .v (.bool false), .v (.int .i64 len)]] [.cells [.ptr 1 0, .v (.int .u32 cb), .v (.int .u32 cs), .v (.bool cr), .v (.bool cw), .v (.bool cx), .v (.int .u32 db), .v (.int .u32 ds), .v (.bool dr), .v (.bool dw), .v (.bool dx)] T, .cells [.mp 2] T2, .bm .u32 .u8 M] (kTk 3) kNo =
    (bif fd then
bif in32 db && (in32 ds && in32 r7) && true then
bif segE db ds r7 4 (mayV dr dw dx 1) != 0 then
some
(Sv.tup
[Sv.agg
[vw r0, vw r1, vw r2,
vw r3, vw r4, vw r5,
vw r6, vw r7, vw ip, vb fc,
vb fp, vb fz, vb fs, vb fo, vb fd,
vd x0, vd x1, vd x2,
vd x3, vd x4, vd x5,
vd x6, vd x7],
vi 2, vb true],
[SObj.cells
[Sv.ptr 1 0, vw cb, vw cs, vb cr,
vb cw, vb cx, vw db, vw ds,
vb dr, vb dw, vb dx]
T,
SObj.cells [Sv.mp 2] T2,
SObj.bm IntKind.u32 IntKind.u8 (stV M db ds r7 4 (IntKind.wrap IntKind.u64 r0) (mayV dr dw dx 1))])
else
some
(Sv.tup
[Sv.agg
[vw r0, vw r1, vw r2,
vw r3, vw r4, vw r5,
vw r6, vw ((IntKind.wrap IntKind.u32 (r7 + 4294967292))),
vw ip, vb fc, vb fp, vb fz, vb fs,
vb fo, vb fd, vd x0, vd x1,
vd x2, vd x3, vd x4,
vd x5, vd x6, vd x7],
vi 0, vb true],
[SObj.cells
[Sv.ptr 1 0, vw cb, vw cs, vb cr,
vb cw, vb cx, vw db, vw ds,
vb dr, vb dw, vb dx]
T,
SObj.cells [Sv.mp 2] T2,
SObj.bm IntKind.u32 IntKind.u8 (stV M db ds r7 4 (IntKind.wrap IntKind.u64 r0) (mayV dr dw dx 1))])
else none
else
bif in32 db && (in32 ds && in32 r7) && true then
bif segE db ds r7 4 (mayV dr dw dx 1) != 0 then
some
(Sv.tup
[Sv.agg
[vw r0, vw r1, vw r2,
vw r3, vw r4, vw r5,
vw r6, vw r7, vw ip, vb fc,
vb fp, vb fz, vb fs, vb fo, vb fd,
vd x0, vd x1, vd x2,
vd x3, vd x4, vd x5,
vd x6, vd x7],
vi 2, vb true],
[SObj.cells
[Sv.ptr 1 0, vw cb, vw cs, vb cr,
vb cw, vb cx, vw db, vw ds,
vb dr, vb dw, vb dx]
T,
SObj.cells [Sv.mp 2] T2,
SObj.bm IntKind.u32 IntKind.u8 (stV M db ds r7 4 (IntKind.wrap IntKind.u64 r0) (mayV dr dw dx 1))])
else
some
(Sv.tup
[Sv.agg
[vw r0, vw r1, vw r2,
vw r3, vw r4, vw r5,
vw r6, vw ((IntKind.wrap IntKind.u32 (r7 + 4))),
vw ip, vb fc, vb fp, vb fz, vb fs,
vb fo, vb fd, vd x0, vd x1,
vd x2, vd x3, vd x4,
vd x5, vd x6, vd x7],
vi 0, vb true],
[SObj.cells
[Sv.ptr 1 0, vw cb, vw cs, vb cr,
vb cw, vb cx, vw db, vw ds,
vb dr, vb dw, vb dx]
T,
SObj.cells [Sv.mp 2] T2,
SObj.bm IntKind.u32 IntKind.u8 (stV M db ds r7 4 (IntKind.wrap IntKind.u64 r0) (mayV dr dw dx 1))])
else none) := by kernel_rfl
theorem strsR47w_ev (cb cs : Int) (cr cw cx : Bool) (db ds : Int) (dr dw dx : Bool) (T T2 : TypeId) (M : Int → Int) (r0 r1 r2 r3 r4 r5 r6 r7 ip : Int) (fc fp fz fs fo fd : Bool) (x0 x1 x2 x3 x4 x5 x6 x7 : Int) (cond : Int) (ak ar ab ai aq ad bk br bb bi bq bd c : Int) (len : Int) (hg : (in32 r0 && (in32 r1 && (in32 r2 && (in32 r3 && (in32 r4 && (in32 r5 && (in32 r6 && (in32 r7 && (in32 db && (in32 ds)))))))))) = true) : evF Try.prog ΓSo 400 45 [.ptr 0 0, .agg [.v (.int .u32 r0), .v (.int .u32 r1), .v (.int .u32 r2), .v (.int .u32 r3), .v (.int .u32 r4), .v (.int .u32 r5), .v (.int .u32 r6), .v (.int .u32 r7), .v (.int .u32 ip), .v (.bool fc), .v (.bool fp), .v (.bool fz), .v (.bool fs), .v (.bool fo), .v (.bool fd), .v (.int .u64 x0), .v (.int .u64 x1), .v (.int .u64 x2), .v (.int .u64 x3), .v (.int .u64 x4), .v (.int .u64 x5), .v (.int .u64 x6), .v (.int .u64 x7)], .agg [.v (.int .i64 47), .v (.int .i64 cond), .v (.int .i64 4), .v (.int .i64 ak), .v (.int .i64 ar), .v (.int .i64 ab), .v (.int .i64 ai), .v (.int .i64 aq), .v (.int .u32 ad), .v (.int .i64 bk), .v (.int .i64 br), .v (.int .i64 bb), .v (.int .i64 bi), .v (.int .i64 bq), .v (.int .u32 bd), .v (.int .u32 c), .v (.bool false), .v (.int .i64 len)]] [.cells [.ptr 1 0, .v (.int .u32 cb), .v (.int .u32 cs), .v (.bool cr), .v (.bool cw), .v (.bool cx), .v (.int .u32 db), .v (.int .u32 ds), .v (.bool dr), .v (.bool dw), .v (.bool dx)] T, .cells [.mp 2] T2, .bm .u32 .u8 M] (kTk 3) kNo = some (.tup [.agg [.v (.int .u32 (ansI (strsP47wT cb cs cr cw cx db ds dr dw dx T M r0 r1 r2 r3 r4 r5 r6 r7 ip fc fp fz fs fo fd x0 x1 x2 x3 x4 x5 x6 x7 cond ak ar ab ai aq ad bk br bb bi bq bd c len) 0)), .v (.int .u32 (ansI (strsP47wT cb cs cr cw cx db ds dr dw dx T M r0 r1 r2 r3 r4 r5 r6 r7 ip fc fp fz fs fo fd x0 x1 x2 x3 x4 x5 x6 x7 cond ak ar ab ai aq ad bk br bb bi bq bd c len) 1)), .v (.int .u32 (ansI (strsP47wT cb cs cr cw cx db ds dr dw dx T M r0 r1 r2 r3 r4 r5 r6 r7 ip fc fp fz fs fo fd x0 x1 x2 x3 x4 x5 x6 x7 cond ak ar ab ai aq ad bk br bb bi bq bd c len) 2)), .v (.int .u32 (ansI (strsP47wT cb cs cr cw cx db ds dr dw dx T M r0 r1 r2 r3 r4 r5 r6 r7 ip fc fp fz fs fo fd x0 x1 x2 x3 x4 x5 x6 x7 cond ak ar ab ai aq ad bk br bb bi bq bd c len) 3)), .v (.int .u32 (ansI (strsP47wT cb cs cr cw cx db ds dr dw dx T M r0 r1 r2 r3 r4 r5 r6 r7 ip fc fp fz fs fo fd x0 x1 x2 x3 x4 x5 x6 x7 cond ak ar ab ai aq ad bk br bb bi bq bd c len) 4)), .v (.int .u32 (ansI (strsP47wT cb cs cr cw cx db ds dr dw dx T M r0 r1 r2 r3 r4 r5 r6 r7 ip fc fp fz fs fo fd x0 x1 x2 x3 x4 x5 x6 x7 cond ak ar ab ai aq ad bk br bb bi bq bd c len) 5)), .v (.int .u32 (ansI (strsP47wT cb cs cr cw cx db ds dr dw dx T M r0 r1 r2 r3 r4 r5 r6 r7 ip fc fp fz fs fo fd x0 x1 x2 x3 x4 x5 x6 x7 cond ak ar ab ai aq ad bk br bb bi bq bd c len) 6)), .v (.int .u32 (ansI (strsP47wT cb cs cr cw cx db ds dr dw dx T M r0 r1 r2 r3 r4 r5 r6 r7 ip fc fp fz fs fo fd x0 x1 x2 x3 x4 x5 x6 x7 cond ak ar ab ai aq ad bk br bb bi bq bd c len) 7)), .v (.int .u32 (ansI (strsP47wT cb cs cr cw cx db ds dr dw dx T M r0 r1 r2 r3 r4 r5 r6 r7 ip fc fp fz fs fo fd x0 x1 x2 x3 x4 x5 x6 x7 cond ak ar ab ai aq ad bk br bb bi bq bd c len) 8)), .v (.bool (ansB (strsP47wT cb cs cr cw cx db ds dr dw dx T M r0 r1 r2 r3 r4 r5 r6 r7 ip fc fp fz fs fo fd x0 x1 x2 x3 x4 x5 x6 x7 cond ak ar ab ai aq ad bk br bb bi bq bd c len) 9)), .v (.bool (ansB (strsP47wT cb cs cr cw cx db ds dr dw dx T M r0 r1 r2 r3 r4 r5 r6 r7 ip fc fp fz fs fo fd x0 x1 x2 x3 x4 x5 x6 x7 cond ak ar ab ai aq ad bk br bb bi bq bd c len) 10)), .v (.bool (ansB (strsP47wT cb cs cr cw cx db ds dr dw dx T M r0 r1 r2 r3 r4 r5 r6 r7 ip fc fp fz fs fo fd x0 x1 x2 x3 x4 x5 x6 x7 cond ak ar ab ai aq ad bk br bb bi bq bd c len) 11)), .v (.bool (ansB (strsP47wT cb cs cr cw cx db ds dr dw dx T M r0 r1 r2 r3 r4 r5 r6 r7 ip fc fp fz fs fo fd x0 x1 x2 x3 x4 x5 x6 x7 cond ak ar ab ai aq ad bk br bb bi bq bd c len) 12)), .v (.bool (ansB (strsP47wT cb cs cr cw cx db ds dr dw dx T M r0 r1 r2 r3 r4 r5 r6 r7 ip fc fp fz fs fo fd x0 x1 x2 x3 x4 x5 x6 x7 cond ak ar ab ai aq ad bk br bb bi bq bd c len) 13)), .v (.bool (ansB (strsP47wT cb cs cr cw cx db ds dr dw dx T M r0 r1 r2 r3 r4 r5 r6 r7 ip fc fp fz fs fo fd x0 x1 x2 x3 x4 x5 x6 x7 cond ak ar ab ai aq ad bk br bb bi bq bd c len) 14)), .v (.int .u64 (ansI (strsP47wT cb cs cr cw cx db ds dr dw dx T M r0 r1 r2 r3 r4 r5 r6 r7 ip fc fp fz fs fo fd x0 x1 x2 x3 x4 x5 x6 x7 cond ak ar ab ai aq ad bk br bb bi bq bd c len) 15)), .v (.int .u64 (ansI (strsP47wT cb cs cr cw cx db ds dr dw dx T M r0 r1 r2 r3 r4 r5 r6 r7 ip fc fp fz fs fo fd x0 x1 x2 x3 x4 x5 x6 x7 cond ak ar ab ai aq ad bk br bb bi bq bd c len) 16)), .v (.int .u64 (ansI (strsP47wT cb cs cr cw cx db ds dr dw dx T M r0 r1 r2 r3 r4 r5 r6 r7 ip fc fp fz fs fo fd x0 x1 x2 x3 x4 x5 x6 x7 cond ak ar ab ai aq ad bk br bb bi bq bd c len) 17)), .v (.int .u64 (ansI (strsP47wT cb cs cr cw cx db ds dr dw dx T M r0 r1 r2 r3 r4 r5 r6 r7 ip fc fp fz fs fo fd x0 x1 x2 x3 x4 x5 x6 x7 cond ak ar ab ai aq ad bk br bb bi bq bd c len) 18)), .v (.int .u64 (ansI (strsP47wT cb cs cr cw cx db ds dr dw dx T M r0 r1 r2 r3 r4 r5 r6 r7 ip fc fp fz fs fo fd x0 x1 x2 x3 x4 x5 x6 x7 cond ak ar ab ai aq ad bk br bb bi bq bd c len) 19)), .v (.int .u64 (ansI (strsP47wT cb cs cr cw cx db ds dr dw dx T M r0 r1 r2 r3 r4 r5 r6 r7 ip fc fp fz fs fo fd x0 x1 x2 x3 x4 x5 x6 x7 cond ak ar ab ai aq ad bk br bb bi bq bd c len) 20)), .v (.int .u64 (ansI (strsP47wT cb cs cr cw cx db ds dr dw dx T M r0 r1 r2 r3 r4 r5 r6 r7 ip fc fp fz fs fo fd x0 x1 x2 x3 x4 x5 x6 x7 cond ak ar ab ai aq ad bk br bb bi bq bd c len) 21)), .v (.int .u64 (ansI (strsP47wT cb cs cr cw cx db ds dr dw dx T M r0 r1 r2 r3 r4 r5 r6 r7 ip fc fp fz fs fo fd x0 x1 x2 x3 x4 x5 x6 x7 cond ak ar ab ai aq ad bk br bb bi bq bd c len) 22))], .v (.int .i64 (ansI (strsP47wT cb cs cr cw cx db ds dr dw dx T M r0 r1 r2 r3 r4 r5 r6 r7 ip fc fp fz fs fo fd x0 x1 x2 x3 x4 x5 x6 x7 cond ak ar ab ai aq ad bk br bb bi bq bd c len) 23)), .v (.bool (ansB (strsP47wT cb cs cr cw cx db ds dr dw dx T M r0 r1 r2 r3 r4 r5 r6 r7 ip fc fp fz fs fo fd x0 x1 x2 x3 x4 x5 x6 x7 cond ak ar ab ai aq ad bk br bb bi bq bd c len) 24))], [.cells [.ptr 1 0, .v (.int .u32 cb), .v (.int .u32 cs), .v (.bool cr), .v (.bool cw), .v (.bool cx), .v (.int .u32 db), .v (.int .u32 ds), .v (.bool dr), .v (.bool dw), .v (.bool dx)] T, .cells [.mp 2] T2, .bm .u32 .u8 (ansM (strsP47wT cb cs cr cw cx db ds dr dw dx T M r0 r1 r2 r3 r4 r5 r6 r7 ip fc fp fz fs fo fd x0 x1 x2 x3 x4 x5 x6 x7 cond ak ar ab ai aq ad bk br bb bi bq bd c len) 1)]) := by
  rw [strsR47w_form]
  have h := strsP47w_tree cb cs cr cw cx db ds dr dw dx T M r0 r1 r2 r3 r4 r5 r6 r7 ip fc fp fz fs fo fd x0 x1 x2 x3 x4 x5 x6 x7 cond ak ar ab ai aq ad bk br bb bi bq bd c len
  rw [h]
  simp only [Bool.and_eq_true] at hg
  simp only [hg, Bool.and_self, Bool.and_true, Bool.true_and, cond_true]
  cases fd <;> (
    cases h7 : (segE db ds r7 4 (mayV dr dw dx 1) != 0) <;> (simp only [h7, cond_true, cond_false]; first | rfl | (rw [stV_lo]; rfl) | (rw [ld_lo]; rfl)))
theorem strsR48b_form (cb cs : Int) (cr cw cx : Bool) (db ds : Int) (dr dw dx : Bool) (T T2 : TypeId) (M : Int → Int) (r0 r1 r2 r3 r4 r5 r6 r7 ip : Int) (fc fp fz fs fo fd : Bool) (x0 x1 x2 x3 x4 x5 x6 x7 : Int) (cond : Int) (ak ar ab ai aq ad bk br bb bi bq bd c : Int) (len : Int) :
    evF Try.prog ΓSo 400 45 [.ptr 0 0, .agg [.v (.int .u32 r0), .v (.int .u32 r1), .v (.int .u32 r2), .v (.int .u32 r3), .v (.int .u32 r4), .v (.int .u32 r5), .v (.int .u32 r6), .v (.int .u32 r7), .v (.int .u32 ip), .v (.bool fc), .v (.bool fp), .v (.bool fz), .v (.bool fs), .v (.bool fo), .v (.bool fd), .v (.int .u64 x0), .v (.int .u64 x1), .v (.int .u64 x2), .v (.int .u64 x3), .v (.int .u64 x4), .v (.int .u64 x5), .v (.int .u64 x6), .v (.int .u64 x7)], .agg [.v (.int .i64 48), .v (.int .i64 cond), .v (.int .i64 1), .v (.int .i64 ak), .v (.int .i64 ar), .v (.int .i64 ab), .v (.int .i64 ai), .v (.int .i64 aq), .v (.int .u32 ad), .v (.int .i64 bk), .v (.int .i64 br), .v (.int .i64 bb), .v (.int .i64 bi), .v (.int .i64 bq), .v (.int .u32 bd), .v (.int .u32 c), .v (.bool false), .v (.int .i64 len)]] [.cells [.ptr 1 0, .v (.int .u32 cb), .v (.int .u32 cs), .v (.bool cr), .v (.bool cw), .v (.bool cx), .v (.int .u32 db), .v (.int .u32 ds), .v (.bool dr), .v (.bool dw), .v (.bool dx)] T, .cells [.mp 2] T2, .bm .u32 .u8 M] (kTk 3) kNo =
    (bif fd then
bif in32 db && (in32 ds && in32 r6) && true then
bif segE db ds r6 1 (mayV dr dw dx 0) != 0 then
some
(Sv.tup
[Sv.agg
[vw r0, vw r1, vw r2,
vw r3, vw r4, vw r5,
vw r6, vw r7, vw ip, vb fc,
vb fp, vb fz, vb fs, vb fo, vb fd,
vd x0, vd x1, vd x2,
vd x3, vd x4, vd x5,
vd x6, vd x7],
vi 2, vb true],
[SObj.cells
[Sv.ptr 1 0, vw cb, vw cs, vb cr,
vb cw, vb cx, vw db, vw ds,
vb dr, vb dw, vb dx]
T,
SObj.cells [Sv.mp 2] T2, SObj.bm IntKind.u32 IntKind.u8 M])
else
some
(Sv.tup
[Sv.agg
[Sv.v
(Value.int IntKind.u32
(bitsL BinOp.or IntKind.u32 (bitsL BinOp.andNot IntKind.u32 r0 255)
(IntKind.wrap IntKind.u32
(IntKind.wrap IntKind.u32 (bitsL BinOp.and IntKind.u64 (ldV M db ds r6 1 (mayV dr dw dx 0)) 255) * 1)))),
vw r1, vw r2, vw r3,
vw r4, vw r5,
vw ((IntKind.wrap IntKind.u32 (r6 + 4294967295))), vw r7,
vw ip, vb fc, vb fp, vb fz, vb fs,
vb fo, vb fd, vd x0, vd x1,
vd x2, vd x3, vd x4,
vd x5, vd x6, vd x7],
vi 0, vb true],
[SObj.cells
[Sv.ptr 1 0, vw cb, vw cs, vb cr,
vb cw, vb cx, vw db, vw ds,
vb dr, vb dw, vb dx]
T,
SObj.cells [Sv.mp 2] T2, SObj.bm IntKind.u32 IntKind.u8 M])
else none
else
bif in32 db && (in32 ds && in32 r6) && true then
bif segE db ds r6 1 (mayV dr dw dx 0) != 0 then
some
(Sv.tup
[Sv.agg
[vw r0, vw r1, vw r2,
vw r3, vw r4, vw r5,
vw r6, vw r7, vw ip, vb fc,
vb fp, vb fz, vb fs, vb fo, vb fd,
vd x0, vd x1, vd x2,
vd x3, vd x4, vd x5,
vd x6, vd x7],
vi 2, vb true],
[SObj.cells
[Sv.ptr 1 0, vw cb, vw cs, vb cr,
vb cw, vb cx, vw db, vw ds,
vb dr, vb dw, vb dx]
T,
SObj.cells [Sv.mp 2] T2, SObj.bm IntKind.u32 IntKind.u8 M])
else
some
(Sv.tup
[Sv.agg
[Sv.v
(Value.int IntKind.u32
(bitsL BinOp.or IntKind.u32 (bitsL BinOp.andNot IntKind.u32 r0 255)
(IntKind.wrap IntKind.u32
(IntKind.wrap IntKind.u32 (bitsL BinOp.and IntKind.u64 (ldV M db ds r6 1 (mayV dr dw dx 0)) 255) * 1)))),
vw r1, vw r2, vw r3,
vw r4, vw r5,
vw ((IntKind.wrap IntKind.u32 (r6 + 1))), vw r7,
vw ip, vb fc, vb fp, vb fz, vb fs,
vb fo, vb fd, vd x0, vd x1,
vd x2, vd x3, vd x4,
vd x5, vd x6, vd x7],
vi 0, vb true],
[SObj.cells
[Sv.ptr 1 0, vw cb, vw cs, vb cr,
vb cw, vb cx, vw db, vw ds,
vb dr, vb dw, vb dx]
T,
SObj.cells [Sv.mp 2] T2, SObj.bm IntKind.u32 IntKind.u8 M])
else none) := by kernel_rfl
theorem strsR48b_ev (cb cs : Int) (cr cw cx : Bool) (db ds : Int) (dr dw dx : Bool) (T T2 : TypeId) (M : Int → Int) (r0 r1 r2 r3 r4 r5 r6 r7 ip : Int) (fc fp fz fs fo fd : Bool) (x0 x1 x2 x3 x4 x5 x6 x7 : Int) (cond : Int) (ak ar ab ai aq ad bk br bb bi bq bd c : Int) (len : Int) (hg : (in32 r0 && (in32 r1 && (in32 r2 && (in32 r3 && (in32 r4 && (in32 r5 && (in32 r6 && (in32 r7 && (in32 db && (in32 ds)))))))))) = true) : evF Try.prog ΓSo 400 45 [.ptr 0 0, .agg [.v (.int .u32 r0), .v (.int .u32 r1), .v (.int .u32 r2), .v (.int .u32 r3), .v (.int .u32 r4), .v (.int .u32 r5), .v (.int .u32 r6), .v (.int .u32 r7), .v (.int .u32 ip), .v (.bool fc), .v (.bool fp), .v (.bool fz), .v (.bool fs), .v (.bool fo), .v (.bool fd), .v (.int .u64 x0), .v (.int .u64 x1), .v (.int .u64 x2), .v (.int .u64 x3), .v (.int .u64 x4), .v (.int .u64 x5), .v (.int .u64 x6), .v (.int .u64 x7)], .agg [.v (.int .i64 48), .v (.int .i64 cond), .v (.int .i64 1), .v (.int .i64 ak), .v (.int .i64 ar), .v (.int .i64 ab), .v (.int .i64 ai), .v (.int .i64 aq), .v (.int .u32 ad), .v (.int .i64 bk), .v (.int .i64 br), .v (.int .i64 bb), .v (.int .i64 bi), .v (.int .i64 bq), .v (.int .u32 bd), .v (.int .u32 c), .v (.bool false), .v (.int .i64 len)]] [.cells [.ptr 1 0, .v (.int .u32 cb), .v (.int .u32 cs), .v (.bool cr), .v (.bool cw), .v (.bool cx), .v (.int .u32 db), .v (.int .u32 ds), .v (.bool dr), .v (.bool dw), .v (.bool dx)] T, .cells [.mp 2] T2, .bm .u32 .u8 M] (kTk 3) kNo = some (.tup [.agg [.v (.int .u32 (ansI (strsP48bT cb cs cr cw cx db ds dr dw dx T M r0 r1 r2 r3 r4 r5 r6 r7 ip fc fp fz fs fo fd x0 x1 x2 x3 x4 x5 x6 x7 cond ak ar ab ai aq ad bk br bb bi bq bd c len) 0)), .v (.int .u32 (ansI (strsP48bT cb cs cr cw cx db ds dr dw dx T M r0 r1 r2 r3 r4 r5 r6 r7 ip fc fp fz fs fo fd x0 x1 x2 x3 x4 x5 x6 x7 cond ak ar ab ai aq ad bk br bb bi bq bd c len) 1)), .v (.int .u32 (ansI (strsP48bT cb cs cr cw cx db ds dr dw dx T M r0 r1 r2 r3 r4 r5 r6 r7 ip fc fp fz fs fo fd x0 x1 x2 x3 x4 x5 x6 x7 cond ak ar ab ai aq ad bk br bb bi bq bd c len) 2)), .v (.int .u32 (ansI (strsP48bT cb cs cr cw cx db ds dr dw dx T M r0 r1 r2 r3 r4 r5 r6 r7 ip fc fp fz fs fo fd x0 x1 x2 x3 x4 x5 x6 x7 cond ak ar ab ai aq ad bk br bb bi bq bd c len) 3)), .v (.int .u32 (ansI (strsP48bT cb cs cr cw cx db ds dr dw dx T M r0 r1 r2 r3 r4 r5 r6 r7 ip fc fp fz fs fo fd x0 x1 x2 x3 x4 x5 x6 x7 cond ak ar ab ai aq ad bk br bb bi bq bd c len) 4)), .v (.int .u32 (ansI (strsP48bT cb cs cr cw cx db ds dr dw dx T M r0 r1 r2 r3 r4 r5 r6 r7 ip fc fp fz fs fo fd x0 x1 x2 x3 x4 x5 x6 x7 cond ak ar ab ai aq ad bk br bb bi bq bd c len) 5)), .v (.int .u32 (ansI (strsP48bT cb cs cr cw cx db ds dr dw dx T M r0 r1 r2 r3 r4 r5 r6 r7 ip fc fp fz fs fo fd x0 x1 x2 x3 x4 x5 x6 x7 cond ak ar ab ai aq ad bk br bb bi bq bd c len) 6)), .v (.int .u32 (ansI (strsP48bT cb cs cr cw cx db ds dr dw dx T M r0 r1 r2 r3 r4 r5 r6 r7 ip fc fp fz fs fo fd x0 x1 x2 x3 x4 x5 x6 x7 cond ak ar ab ai aq ad bk br bb bi bq bd c len) 7)), .v (.int .u32 (ansI (strsP48bT cb cs cr cw cx db ds dr dw dx T M r0 r1 r2 r3 r4 r5 r6 r7 ip fc fp fz fs fo fd x0 x1 x2 x3 x4 x5 x6 x7 cond ak ar ab ai aq ad bk br bb bi bq bd c len) 8)), .v (.bool (ansB (strsP48bT cb cs cr cw cx db ds dr dw dx T M r0 r1 r2 r3 r4 r5 r6 r7 ip fc fp fz fs fo fd x0 x1 x2 x3 x4 x5 x6 x7 cond ak ar ab ai aq ad bk br bb bi bq bd c len) 9)), .v (.bool (ansB (strsP48bT cb cs cr cw cx db ds dr dw dx T M r0 r1 r2 r3 r4 r5 r6 r7 ip fc fp fz fs fo fd x0 x1 x2 x3 x4 x5 x6 x7 cond ak ar ab ai aq ad bk br bb bi bq bd c len) 10)), .v (.bool (ansB (strsP48bT cb cs cr cw cx db ds dr dw dx T M r0 r1 r2 r3 r4 r5 r6 r7 ip fc fp fz fs fo fd x0 x1 x2 x3 x4 x5 x6 x7 cond ak ar ab ai aq ad bk br bb bi bq bd c len) 11)), .v (.bool (ansB (strsP48bT cb cs cr cw cx db ds dr dw dx T M r0 r1 r2 r3 r4 r5 r6 r7 ip fc fp fz fs fo fd x0 x1 x2 x3 x4 x5 x6 x7 cond ak ar ab ai aq ad bk br bb bi bq bd c len) 12)), .v (.bool (ansB (strsP48bT cb cs cr cw cx db ds dr dw dx T M r0 r1 r2 r3 r4 r5 r6 r7 ip fc fp fz fs fo fd x0 x1 x2 x3 x4 x5 x6 x7 cond ak ar ab ai aq ad bk br bb bi bq bd c len) 13)), .v (.bool (ansB (strsP48bT cb cs cr cw cx db ds dr dw dx T M r0 r1 r2 r3 r4 r5 r6 r7 ip fc fp fz fs fo fd x0 x1 x2 x3 x4 x5 x6 x7 cond ak ar ab ai aq ad bk br bb bi bq bd c len) 14)), .v (.int .u64 (ansI (strsP48bT cb cs cr cw cx db ds dr dw dx T M r0 r1 r2 r3 r4 r5 r6 r7 ip fc fp fz fs fo fd x0 x1 x2 x3 x4 x5 x6 x7 cond ak ar ab ai aq ad bk br bb bi bq bd c len) 15)), .v (.int .u64 (ansI (strsP48bT cb cs cr cw cx db ds dr dw dx T M r0 r1 r2 r3 r4 r5 r6 r7 ip fc fp fz fs fo fd x0 x1 x2 x3 x4 x5 x6 x7 cond ak ar ab ai aq ad bk br bb bi bq bd c len) 16)), .v (.int .u64 (ansI (strsP48bT cb cs cr cw cx db ds dr dw dx T M r0 r1 r2 r3 r4 r5 r6 r7 ip fc fp fz fs fo fd x0 x1 x2 x3 x4 x5 x6 x7 cond ak ar ab ai aq ad bk br bb bi bq bd c len) 17)), .v (.int .u64 (ansI (strsP48bT cb cs cr cw cx db ds dr dw dx T M r0 r1 r2 r3 r4 r5 r6 r7 ip fc fp fz fs fo fd x0 x1 x2 x3 x4 x5 x6 x7 cond ak ar ab ai aq ad bk br bb bi bq bd c len) 18)), .v (.int .u64 (ansI (strsP48bT cb cs cr cw cx db ds dr dw dx T M r0 r1 r2 r3 r4 r5 r6 r7 ip fc fp fz fs fo fd x0 x1 x2 x3 x4 x5 x6 x7 cond ak ar ab ai aq ad bk br bb bi bq bd c len) 19)), .v (.int .u64 (ansI (strsP48bT cb cs cr cw cx db ds dr dw dx T M r0 r1 r2 r3 r4 r5 r6 r7 ip fc fp fz fs fo fd x0 x1 x2 x3 x4 x5 x6 x7 cond ak ar ab ai aq ad bk br bb bi bq bd c len) 20)), .v (.int .u64 (ansI (strsP48bT cb cs cr cw cx db ds dr dw dx T M r0 r1 r2 r3 r4 r5 r6 r7 ip fc fp fz fs fo fd x0 x1 x2 x3 x4 x5 x6 x7 cond ak ar ab ai aq ad bk br bb bi bq bd c len) 21)), .v (.int .u64 (ansI (strsP48bT cb cs cr cw cx db ds dr dw dx T M r0 r1 r2 r3 r4 r5 r6 r7 ip fc fp fz fs fo fd x0 x1 x2 x3 x4 x5 x6 x7 cond ak ar ab ai aq ad bk br bb bi bq bd c len) 22))], .v (.int .i64 (ansI (strsP48bT cb cs cr cw cx db ds dr dw dx T M r0 r1 r2 r3 r4 r5 r6 r7 ip fc fp fz fs fo fd x0 x1 x2 x3 x4 x5 x6 x7 cond ak ar ab ai aq ad bk br bb bi bq bd c len) 23)), .v (.bool (ansB (strsP48bT cb cs cr cw cx db ds dr dw dx T M r0 r1 r2 r3 r4 r5 r6 r7 ip fc fp fz fs fo fd x0 x1 x2 x3 x4 x5 x6 x7 cond ak ar ab ai aq ad bk br bb bi bq bd c len) 24))], [.cells [.ptr 1 0, .v (.int .u32 cb), .v (.int .u32 cs), .v (.bool cr), .v (.bool cw), .v (.bool cx), .v (.int .u32 db), .v (.int .u32 ds), .v (.bool dr), .v (.bool dw), .v (.bool dx)] T, .cells [.mp 2] T2, .bm .u32 .u8 (ansM (strsP48bT cb cs cr cw cx db ds dr dw dx T M r0 r1 r2 r3 r4 r5 r6 r7 ip fc fp fz fs fo fd x0 x1 x2 x3 x4 x5 x6 x7 cond ak ar ab ai aq ad bk br bb bi bq bd c len) 1)]) := by
  rw [strsR48b_form]
  have h := strsP48b_tree cb cs cr cw cx db ds dr dw dx T M r0 r1 r2 r3 r4 r5 r6 r7 ip fc fp fz fs fo fd x0 x1 x2 x3 x4 x5 x6 x7 cond ak ar ab ai aq ad bk br bb bi bq bd c len
  rw [h]
  simp only [Bool.and_eq_true] at hg
  simp only [hg, Bool.and_self, Bool.and_true, Bool.true_and, cond_true]
  cases fd <;> (
    cases h6 : (segE db ds r6 1 (mayV dr dw dx 0) != 0) <;> (simp only [h6, cond_true, cond_false]; first | rfl | (rw [stV_lo]; rfl) | (rw [ld_lo]; rfl)))
theorem strsR48w_form (cb cs : Int) (cr cw cx : Bool) (db ds : Int) (dr dw dx : Bool) (T T2 : TypeId) (M : Int → Int) (r0 r1 r2 r3 r4 r5 r6 r7 ip : Int) (fc fp fz fs fo fd : Bool) (x0 x1 x2 x3 x4 x5 x6 x7 : Int) (cond : Int) (ak ar ab ai aq ad bk br bb bi bq bd c : Int) (len : Int) :
    evF Try.prog ΓSo 400 45 [.ptr 0 0, .agg [.v (.int .u32 r0), .v (.int .u32 r1), .v (.int .u32 r2), .v (.int .u32 r3), .v (.int .u32 r4), .v (.int .u32 r5), .v (.int .u32 r6), .v (.int .u32 r7), .v (.int .u32 ip), .v (.bool fc), .v (.bool fp), .v (.bool fz), .v (.bool fs), .v (.bool fo), .v (.bool fd), .v (.int .u64 x0), .v (.int .u64 x1), .v (.int .u64 x2), .v (.int .u64 x3), .v (.int .u64 x4), .v (.int .u64 x5), .v (.int .u64 x6), .v (.int .u64 x7)], .agg [.v (.int .i64 48), .v (.int .i64 cond), .v (.int .i64 4), .v (.int .i64 ak), .v (.int .i64 ar), .v (.int .i64 ab), .v (.int .i64 ai), .v (.int .i64 aq), .v (.int .u32 ad), .v (.int .i64 bk), .v (.int .i64 br), .v (.int .i64 bb), .v (.int .i64 bi), .v (.int .i64 bq), .v (.int .u32 bd), .v (.int .u32 c), .v (.bool false), .v (.int .i64 len)]] [.cells [.ptr 1 0, .v (.int .u32 cb), .v (.int .u32 cs), .v (.bool cr), .v (.bool cw), .v (.bool cx), .v (.int .u32 db), .v (.int .u32 ds), .v (.bool dr), .v (.bool dw), .v (.bool dx)] T, .cells [.mp 2] T2, .bm .u32 .u8 M] (kTk 3) kNo =
    (bif fd then
bif in32 db && (in32 ds && in32 r6) && true then
bif segE db ds r6 4 (mayV dr dw dx 0) != 0 then
some
(Sv.tup
[Sv.agg
[vw r0, vw r1, vw r2,
vw r3, vw r4, vw r5,
vw r6, vw r7, vw ip, vb fc,
vb fp, vb fz, vb fs, vb fo, vb fd,
vd x0, vd x1, vd x2,
vd x3, vd x4, vd x5,
vd x6, vd x7],
vi 2, vb true],
[SObj.cells
[Sv.ptr 1 0, vw cb, vw cs, vb cr,
vb cw, vb cx, vw db, vw ds,
vb dr, vb dw, vb dx]
T,
SObj.cells [Sv.mp 2] T2, SObj.bm IntKind.u32 IntKind.u8 M])
else
some
(Sv.tup
[Sv.agg
[vw ((IntKind.wrap IntKind.u32 (ldV M db ds r6 4 (mayV dr dw dx 0)))),
vw r1, vw r2, vw r3,
vw r4, vw r5,
vw ((IntKind.wrap IntKind.u32 (r6 + 4294967292))), vw r7,
vw ip, vb fc, vb fp, vb fz, vb fs,
vb fo, vb fd, vd x0, vd x1,
vd x2, vd x3, vd x4,
vd x5, vd x6, vd x7],
vi 0, vb true],
[SObj.cells
[Sv.ptr 1 0, vw cb, vw cs, vb cr,
vb cw, vb cx, vw db, vw ds,
vb dr, vb dw, vb dx]
T,
SObj.cells [Sv.mp 2] T2, SObj.bm IntKind.u32 IntKind.u8 M])
else none
else
bif in32 db && (in32 ds && in32 r6) && true then
bif segE db ds r6 4 (mayV dr dw dx 0) != 0 then
some
(Sv.tup
[Sv.agg
[vw r0, vw r1, vw r2,
vw r3, vw r4, vw r5,
vw r6, vw r7, vw ip, vb fc,
vb fp, vb fz, vb fs, vb fo, vb fd,
vd x0, vd x1, vd x2,
vd x3, vd x4, vd x5,
vd x6, vd x7],
vi 2, vb true],
[SObj.cells
[Sv.ptr 1 0, vw cb, vw cs, vb cr,
vb cw, vb cx, vw db, vw ds,
vb dr, vb dw, vb dx]
T,
SObj.cells [Sv.mp 2] T2, SObj.bm IntKind.u32 IntKind.u8 M])
else
some
(Sv.tup
[Sv.agg
[vw ((IntKind.wrap IntKind.u32 (ldV M db ds r6 4 (mayV dr dw dx 0)))),
vw r1, vw r2, vw r3,
vw r4, vw r5,
vw ((IntKind.wrap IntKind.u32 (r6 + 4))), vw r7,
vw ip, vb fc, vb fp, vb fz, vb fs,
vb fo, vb fd, vd x0, vd x1,
vd x2, vd x3, vd x4,
vd x5, vd x6, vd x7],
vi 0, vb true],
[SObj.cells
[Sv.ptr 1 0, vw cb, vw cs, vb cr,
vb cw, vb cx, vw db, vw ds,
vb dr, vb dw, vb dx]
T,
SObj.cells [Sv.mp 2] T2, SObj.bm IntKind.u32 IntKind.u8 M])
else none) := by kernel_rfl
theorem strsR48w_ev (cb cs : Int) (cr cw cx : Bool) (db ds : Int) (dr dw dx : Bool) (T T2 : TypeId) (M : Int → Int) (r0 r1 r2 r3 r4 r5 r6 r7 ip : Int) (fc fp fz fs fo fd : Bool) (x0 x1 x2 x3 x4 x5 x6 x7 : Int) (cond : Int) (ak ar ab ai aq ad bk br bb bi bq bd c : Int) (len : Int) (hg : (in32 r0 && (in32 r1 && (in32 r2 && (in32 r3 && (in32 r4 && (in32 r5 && (in32 r6 && (in32 r7 && (in32 db && (in32 ds)))))))))) = true) : evF Try.prog ΓSo 400 45 [.ptr 0 0, .agg [.v (.int .u32 r0), .v (.int .u32 r1), .v (.int .u32 r2), .v (.int .u32 r3), .v (.int .u32 r4), .v (.int .u32 r5), .v (.int .u32 r6), .v (.int .u32 r7), .v (.int .u32 ip), .v (.bool fc), .v (.bool fp), .v (.bool fz), .v (.bool fs), .v (.bool fo), .v (.bool fd), .v (.int .u64 x0), .v (.int .u64 x1), .v (.int .u64 x2), .v (.int .u64 x3), .v (.int .u64 x4), .v (.int .u64 x5), .v (.int .u64 x6), .v (.int .u64 x7)], .agg [.v (.int .i64 48), .v (.int .i64 cond), .v (.int .i64 4), .v (.int .i64 ak), .v (.int .i64 ar), .v (.int .i64 ab), .v (.int .i64 ai), .v (.int .i64 aq), .v (.int .u32 ad), .v (.int .i64 bk), .v (.int .i64 br), .v (.int .i64 bb), .v (.int .i64 bi), .v (.int .i64 bq), .v (.int .u32 bd), .v (.int .u32 c), .v (.bool false), .v (.int .i64 len)]] [.cells [.ptr 1 0, .v (.int .u32 cb), .v (.int .u32 cs), .v (.bool cr), .v (.bool cw), .v (.bool cx), .v (.int .u32 db), .v (.int .u32 ds), .v (.bool dr), .v (.bool dw), .v (.bool dx)] T, .cells [.mp 2] T2, .bm .u32 .u8 M] (kTk 3) kNo = some (.tup [.agg [.v (.int .u32 (ansI (strsP48wT cb cs cr cw cx db ds dr dw dx T M r0 r1 r2 r3 r4 r5 r6 r7 ip fc fp fz fs fo fd x0 x1 x2 x3 x4 x5 x6 x7 cond ak ar ab ai aq ad bk br bb bi bq bd c len) 0)), .v (.int .u32 (ansI (strsP48wT cb cs cr cw cx db ds dr dw dx T M r0 r1 r2 r3 r4 r5 r6 r7 ip fc fp fz fs fo fd x0 x1 x2 x3 x4 x5 x6 x7 cond ak ar ab ai aq ad bk br bb bi bq bd c len) 1)), .v (.int .u32 (ansI (strsP48wT cb cs cr cw cx db ds dr dw dx T M r0 r1 r2 r3 r4 r5 r6 r7 ip fc fp fz fs fo fd x0 x1 x2 x3 x4 x5 x6 x7 cond ak ar ab ai aq ad bk br bb bi bq bd c len) 2)), .v (.int .u32 (ansI (strsP48wT cb cs cr cw cx db ds dr dw dx T M r0 r1 r2 r3 r4 r5 r6 r7 ip fc fp fz fs fo fd x0 x1 x2 x3 x4 x5 x6 x7 cond ak ar ab ai aq ad bk br bb bi bq bd c len) 3)), .v (.int .u32 (ansI (strsP48wT cb cs cr cw cx db ds dr dw dx T M r0 r1 r2 r3 r4 r5 r6 r7 ip fc fp fz fs fo fd x0 x1 x2 x3 x4 x5 x6 x7 cond ak ar ab ai aq ad bk br bb bi bq bd c len) 4)), .v (.int .u32 (ansI (strsP48wT cb cs cr cw cx db ds dr dw dx T M r0 r1 r2 r3 r4 r5 r6 r7 ip fc fp fz fs fo fd x0 x1 x2 x3 x4 x5 x6 x7 cond ak ar ab ai aq ad bk br bb bi bq bd c len) 5)), .v (.int .u32 (ansI (strsP48wT cb cs cr cw cx db ds dr dw dx T M r0 r1 r2 r3 r4 r5 r6 r7 ip fc fp fz fs fo fd x0 x1 x2 x3 x4 x5 x6 x7 cond ak ar ab ai aq ad bk br bb bi bq bd c len) 6)), .v (.int .u32 (ansI (strsP48wT cb cs cr cw cx db ds dr dw dx T M r0 r1 r2 r3 r4 r5 r6 r7 ip fc fp fz fs fo fd x0 x1 x2 x3 x4 x5 x6 x7 cond ak ar ab ai aq ad bk br bb bi bq bd c len) 7)), .v (.int .u32 (ansI (strsP48wT cb cs cr cw cx db ds dr dw dx T M r0 r1 r2 r3 r4 r5 r6 r7 ip fc fp fz fs fo fd x0 x1 x2 x3 x4 x5 x6 x7 cond ak ar ab ai aq ad bk br bb bi bq bd c len) 8)), .v (.bool (ansB (strsP48wT cb cs cr cw cx db ds dr dw dx T M r0 r1 r2 r3 r4 r5 r6 r7 ip fc fp fz fs fo fd x0 x1 x2 x3 x4 x5 x6 x7 cond ak ar ab ai aq ad bk br bb bi bq bd c len) 9)), .v (.bool (ansB (strsP48wT cb cs cr cw cx db ds dr dw dx T M r0 r1 r2 r3 r4 r5 r6 r7 ip fc fp fz fs fo fd x0 x1 x2 x3 x4 x5 x6 x7 cond ak ar ab ai aq ad bk br bb bi bq bd c len) 10)), .v (.bool (ansB (strsP48wT cb cs cr cw cx db ds dr dw dx T M r0 r1 r2 r3 r4 r5 r6 r7 ip fc fp fz fs fo fd x0 x1 x2 x3 x4 x5 x6 x7 cond ak ar ab ai aq ad bk br bb bi bq bd c len) 11)), .v (.bool (ansB (strsP48wT cb cs cr cw cx db ds dr dw dx T M r0 r1 r2 r3 r4 r5 r6 r7 ip fc fp fz fs fo fd x0 x1 x2 x3 x4 x5 x6 x7 cond ak ar ab ai aq ad bk br bb bi bq bd c len) 12)), .v (.bool (ansB (strsP48wT cb cs cr cw cx db ds dr dw dx T M r0 r1 r2 r3 r4 r5 r6 r7 ip fc fp fz fs fo fd x0 x1 x2 x3 x4 x5 x6 x7 cond ak ar ab ai aq ad bk br bb bi bq bd c len) 13)), .v (.bool (ansB (strsP48wT cb cs cr cw cx db ds dr dw dx T M r0 r1 r2 r3 r4 r5 r6 r7 ip fc fp fz fs fo fd x0 x1 x2 x3 x4 x5 x6 x7 cond ak ar ab ai aq ad bk br bb bi bq bd c len) 14)), .v (.int .u64 (ansI (strsP48wT cb cs cr cw cx db ds dr dw dx T M r0 r1 r2 r3 r4 r5 r6 r7 ip fc fp fz fs fo fd x0 x1 x2 x3 x4 x5 x6 x7 cond ak ar ab ai aq ad bk br bb bi bq bd c len) 15)), .v (.int .u64 (ansI (strsP48wT cb cs cr cw cx db ds dr dw dx T M r0 r1 r2 r3 r4 r5 r6 r7 ip fc fp fz fs fo fd x0 x1 x2 x3 x4 x5 x6 x7 cond ak ar ab ai aq ad bk br bb bi bq bd c len) 16)), .v (.int .u64 (ansI (strsP48wT cb cs cr cw cx db ds dr dw dx T M r0 r1 r2 r3 r4 r5 r6 r7 ip fc fp fz fs fo fd x0 x1 x2 x3 x4 x5 x6 x7 cond ak ar ab ai aq ad bk br bb bi bq bd c len) 17)), .v (.int .u64 (ansI (strsP48wT cb cs cr cw cx db ds dr dw dx T M r0 r1 r2 r3 r4 r5 r6 r7 ip fc fp fz fs fo fd x0 x1 x2 x3 x4 x5 x6 x7 cond ak ar ab ai aq ad bk br bb bi bq bd c len) 18)), .v (.int .u64 (ansI (strsP48wT cb cs cr cw cx db ds dr dw dx T M r0 r1 r2 r3 r4 r5 r6 r7 ip fc fp fz fs fo fd x0 x1 x2 x3 x4 x5 x6 x7 cond ak ar ab ai aq ad bk br bb bi bq bd c len) 19)), .v (.int .u64 (ansI (strsP48wT cb cs cr cw cx db ds dr dw dx T M r0 r1 r2 r3 r4 r5 r6 r7 ip fc fp fz fs fo fd x0 x1 x2 x3 x4 x5 x6 x7 cond ak ar ab ai aq ad bk br bb bi bq bd c len) 20)), .v (.int .u64 (ansI (strsP48wT cb cs cr cw cx db ds dr dw dx T M r0 r1 r2 r3 r4 r5 r6 r7 ip fc fp fz fs fo fd x0 x1 x2 x3 x4 x5 x6 x7 cond ak ar ab ai aq ad bk br bb bi bq bd c len) 21)), .v (.int .u64 (ansI (strsP48wT cb cs cr cw cx db ds dr dw dx T M r0 r1 r2 r3 r4 r5 r6 r7 ip fc fp fz fs fo fd x0 x1 x2 x3 x4 x5 x6 x7 cond ak ar ab ai aq ad bk br bb bi bq bd c len) 22))], .v (.int .i64 (ansI (strsP48wT cb cs cr cw cx db ds dr dw dx T M r0 r1 r2 r3 r4 r5 r6 r7 ip fc fp fz fs fo fd x0 x1 x2 x3 x4 x5 x6 x7 cond ak ar ab ai aq ad bk br bb bi bq bd c len) 23)), .v (.bool (ansB (strsP48wT cb cs cr cw cx db ds dr dw dx T M r0 r1 r2 r3 r4 r5 r6 r7 ip fc fp fz fs fo fd x0 x1 x2 x3 x4 x5 x6 x7 cond ak ar ab ai aq ad bk br bb bi bq bd c len) 24))], [.cells [.ptr 1 0, .v (.int .u32 cb), .v (.int .u32 cs), .v (.bool cr), .v (.bool cw), .v (.bool cx), .v (.int .u32 db), .v (.int .u32 ds), .v (.bool dr), .v (.bool dw), .v (.bool dx)] T, .cells [.mp 2] T2, .bm .u32 .u8 (ansM (strsP48wT cb cs cr cw cx db ds dr dw dx T M r0 r1 r2 r3 r4 r5 r6 r7 ip fc fp fz fs fo fd x0 x1 x2 x3 x4 x5 x6 x7 cond ak ar ab ai aq ad bk br bb bi bq bd c len) 1)]) := by
  rw [strsR48w_form]
  have h := strsP48w_tree cb cs cr cw cx db ds dr dw dx T M r0 r1 r2 r3 r4 r5 r6 r7 ip fc fp fz fs fo fd x0 x1 x2 x3 x4 x5 x6 x7 cond ak ar ab ai aq ad bk br bb bi bq bd c len
  rw [h]
  simp only [Bool.and_eq_true] at hg
  simp only [hg, Bool.and_self, Bool.and_true, Bool.true_and, cond_true]
  cases fd <;> (
    cases h6 : (segE db ds r6 4 (mayV dr dw dx 0) != 0) <;> (simp only [h6, cond_true, cond_false]; first | rfl | (rw [stV_lo]; rfl) | (rw [ld_lo]; rfl)))
theorem strsR46rb_form (cb cs : Int) (cr cw cx : Bool) (db ds : Int) (dr dw dx : Bool) (T T2 : TypeId) (M : Int → Int) (r0 r1 r2 r3 r4 r5 r6 r7 ip : Int) (fc fp fz fs fo fd : Bool) (x0 x1 x2 x3 x4 x5 x6 x7 : Int) (cond : Int) (ak ar ab ai aq ad bk br bb bi bq bd c : Int) (len : Int) :
    evF Try.prog ΓSo 400 45 [.ptr 0 0, .agg [.v (.int .u32 r0), .v (.int .u32 r1), .v (.int .u32 r2), .v (.int .u32 r3), .v (.int .u32 r4), .v (.int .u32 r5), .v (.int .u32 r6), .v (.int .u32 r7), .v (.int .u32 ip), .v (.bool fc), .v (.bool fp), .v (.bool fz), .v (.bool fs), .v (.bool fo), .v (.bool fd), .v (.int .u64 x0), .v (.int .u64 x1), .v (.int .u64 x2), .v (.int .u64 x3), .v (.int .u64 x4), .v (.int .u64 x5), .v (.int .u64 x6), .v (.int .u64 x7)], .agg [.v (.int .i64 46), .v (.int .i64 cond), .v (.int .i64 1), .v (.int .i64 ak), .v (.int .i64 ar), .v (.int .i64 ab), .v (.int .i64 ai), .v (.int .i64 aq), .v (.int .u32 ad), .v (.int .i64 bk), .v (.int .i64 br), .v (.int .i64 bb), .v (.int .i64 bi), .v (.int .i64 bq), .v (.int .u32 bd), .v (.int .u32 c), .v (.bool true), .v (.int .i64 len)]] [.cells [.ptr 1 0, .v (.int .u32 cb), .v (.int .u32 cs), .v (.bool cr), .v (.bool cw), .v (.bool cx), .v (.int .u32 db), .v (.int .u32 ds), .v (.bool dr), .v (.bool dw), .v (.bool dx)] T, .cells [.mp 2] T2, .bm .u32 .u8 M] (kTk 3) kNo =
    (bif r1 == 0 then
some
(Sv.tup
[Sv.agg
[vw r0, vw r1, vw r2,
vw r3, vw r4, vw r5,
vw r6, vw r7, vw ip, vb fc,
vb fp, vb fz, vb fs, vb fo, vb fd,
vd x0, vd x1, vd x2,
vd x3, vd x4, vd x5,
vd x6, vd x7],
vi 0, vb true],
[SObj.cells
[Sv.ptr 1 0, vw cb, vw cs, vb cr,
vb cw, vb cx, vw db, vw ds,
vb dr, vb dw, vb dx]
T,
SObj.cells [Sv.mp 2] T2, SObj.bm IntKind.u32 IntKind.u8 M])
else
bif fd then
bif in32 db && (in32 ds && in32 r6) && true then
bif segE db ds r6 1 (mayV dr dw dx 0) != 0 then
some
(Sv.tup
[Sv.agg
[vw r0, vw r1, vw r2,
vw r3, vw r4, vw r5,
vw r6, vw r7, vw ip, vb fc,
vb fp, vb fz, vb fs, vb fo, vb fd,
vd x0, vd x1, vd x2,
vd x3, vd x4, vd x5,
vd x6, vd x7],
vi 2, vb true],
[SObj.cells
[Sv.ptr 1 0, vw cb, vw cs, vb cr,
vb cw, vb cx, vw db, vw ds,
vb dr, vb dw, vb dx]
T,
SObj.cells [Sv.mp 2] T2, SObj.bm IntKind.u32 IntKind.u8 M])
else
bif in32 db && (in32 ds && in32 r7) && true then
bif segE db ds r7 1 (mayV dr dw dx 1) != 0 then
some
(Sv.tup
[Sv.agg
[vw r0, vw r1, vw r2,
vw r3, vw r4, vw r5,
vw r6, vw r7, vw ip, vb fc,
vb fp, vb fz, vb fs, vb fo, vb fd,
vd x0, vd x1, vd x2,
vd x3, vd x4, vd x5,
vd x6, vd x7],
vi 2, vb true],
[SObj.cells
[Sv.ptr 1 0, vw cb, vw cs, vb cr,
vb cw, vb cx, vw db, vw ds,
vb dr, vb dw, vb dx]
T,
SObj.cells [Sv.mp 2] T2,
SObj.bm IntKind.u32 IntKind.u8 (stV M db ds r7 1 (ldV M db ds r6 1 (mayV dr dw dx 0)) (mayV dr dw dx 1))])
else
some
(Sv.tup
[Sv.agg
[vw r0, vw ((IntKind.wrap IntKind.u32 (r1 - 1))),
vw r2, vw r3, vw r4,
vw r5, vw ((IntKind.wrap IntKind.u32 (r6 + 4294967295))),
vw ((IntKind.wrap IntKind.u32 (r7 + 4294967295))), vw ip,
vb fc, vb fp, vb fz, vb fs, vb fo,
vb fd, vd x0, vd x1, vd x2,
vd x3, vd x4, vd x5,
vd x6, vd x7],
vi 0, vb ((IntKind.wrap IntKind.u32 (r1 - 1) == 0))],
[SObj.cells
[Sv.ptr 1 0, vw cb, vw cs, vb cr,
vb cw, vb cx, vw db, vw ds,
vb dr, vb dw, vb dx]
T,
SObj.cells [Sv.mp 2] T2,
SObj.bm IntKind.u32 IntKind.u8 (stV M db ds r7 1 (ldV M db ds r6 1 (mayV dr dw dx 0)) (mayV dr dw dx 1))])
else none
else none
else
bif in32 db && (in32 ds && in32 r6) && true then
bif segE db ds r6 1 (mayV dr dw dx 0) != 0 then
some
(Sv.tup
[Sv.agg
[vw r0, vw r1, vw r2,
vw r3, vw r4, vw r5,
vw r6, vw r7, vw ip, vb fc,
vb fp, vb fz, vb fs, vb fo, vb fd,
vd x0, vd x1, vd x2,
vd x3, vd x4, vd x5,
vd x6, vd x7],
vi 2, vb true],
[SObj.cells
[Sv.ptr 1 0, vw cb, vw cs, vb cr,
vb cw, vb cx, vw db, vw ds,
vb dr, vb dw, vb dx]
T,
SObj.cells [Sv.mp 2] T2, SObj.bm IntKind.u32 IntKind.u8 M])
else
bif in32 db && (in32 ds && in32 r7) && true then
bif segE db ds r7 1 (mayV dr dw dx 1) != 0 then
some
(Sv.tup
[Sv.agg
[vw r0, vw r1, vw r2,
vw r3, vw r4, vw r5,
vw r6, vw r7, vw ip, vb fc,
vb fp, vb fz, vb fs, vb fo, vb fd,
vd x0, vd x1, vd x2,
vd x3, vd x4, vd x5,
vd x6, vd x7],
vi 2, vb true],
[SObj.cells
[Sv.ptr 1 0, vw cb, vw cs, vb cr,
vb cw, vb cx, vw db, vw ds,
vb dr, vb dw, vb dx]
T,
SObj.cells [Sv.mp 2] T2,
SObj.bm IntKind.u32 IntKind.u8 (stV M db ds r7 1 (ldV M db ds r6 1 (mayV dr dw dx 0)) (mayV dr dw dx 1))])
else
some
(Sv.tup
[Sv.agg
[vw r0, vw ((IntKind.wrap IntKind.u32 (r1 - 1))),
vw r2, vw r3, vw r4,
vw r5, vw ((IntKind.wrap IntKind.u32 (r6 + 1))),
vw ((IntKind.wrap IntKind.u32 (r7 + 1))), vw ip, vb fc,
vb fp, vb fz, vb fs, vb fo, vb fd,
vd x0, vd x1, vd x2,
vd x3, vd x4, vd x5,
vd x6, vd x7],
vi 0, vb ((IntKind.wrap IntKind.u32 (r1 - 1) == 0))],
[SObj.cells
[Sv.ptr 1 0, vw cb, vw cs, vb cr,
vb cw, vb cx, vw db, vw ds,
vb dr, vb dw, vb dx]
T,
SObj.cells [Sv.mp 2] T2,
SObj.bm IntKind.u32 IntKind.u8 (stV M db ds r7 1 (ldV M db ds r6 1 (mayV dr dw dx 0)) (mayV dr dw dx 1))])
else none
else none) := by kernel_rfl
theorem strsR46rb_ev (cb cs : Int) (cr cw cx : Bool) (db ds : Int) (dr dw dx : Bool) (T T2 : TypeId) (M : Int → Int) (r0 r1 r2 r3 r4 r5 r6 r7 ip : Int) (fc fp fz fs fo fd : Bool) (x0 x1 x2 x3 x4 x5 x6 x7 : Int) (cond : Int) (ak ar ab ai aq ad bk br bb bi bq bd c : Int) (len : Int) (hg : (in32 r0 && (in32 r1 && (in32 r2 && (in32 r3 && (in32 r4 && (in32 r5 && (in32 r6 && (in32 r7 && (in32 db && (in32 ds)))))))))) = true) : evF Try.prog ΓSo 400 45 [.ptr 0 0, .agg [.v (.int .u32 r0), .v (.int .u32 r1), .v (.int .u32 r2), .v (.int .u32 r3), .v (.int .u32 r4), .v (.int .u32 r5), .v (.int .u32 r6), .v (.int .u32 r7), .v (.int .u32 ip), .v (.bool fc), .v (.bool fp), .v (.bool fz), .v (.bool fs), .v (.bool fo), .v (.bool fd), .v (.int .u64 x0), .v (.int .u64 x1), .v (.int .u64 x2), .v (.int .u64 x3), .v (.int .u64 x4), .v (.int .u64 x5), .v (.int .u64 x6), .v (.int .u64 x7)], .agg [.v (.int .i64 46), .v (.int .i64 cond), .v (.int .i64 1), .v (.int .i64 ak), .v (.int .i64 ar), .v (.int .i64 ab), .v (.int .i64 ai), .v (.int .i64 aq), .v (.int .u32 ad), .v (.int .i64 bk), .v (.int .i64 br), .v (.int .i64 bb), .v (.int .i64 bi), .v (.int .i64 bq), .v (.int .u32 bd), .v (.int .u32 c), .v (.bool true), .v (.int .i64 len)]] [.cells [.ptr 1 0, .v (.int .u32 cb), .v (.int .u32 cs), .v (.bool cr), .v (.bool cw), .v (.bool cx), .v (.int .u32 db), .v (.int .u32 ds), .v (.bool dr), .v (.bool dw), .v (.bool dx)] T, .cells [.mp 2] T2, .bm .u32 .u8 M] (kTk 3) kNo = some (.tup [.agg [.v (.int .u32 (ansI (strsP46rbT cb cs cr cw cx db ds dr dw dx T M r0 r1 r2 r3 r4 r5 r6 r7 ip fc fp fz fs fo fd x0 x1 x2 x3 x4 x5 x6 x7 cond ak ar ab ai aq ad bk br bb bi bq bd c len) 0)), .v (.int .u32 (ansI (strsP46rbT cb cs cr cw cx db ds dr dw dx T M r0 r1 r2 r3 r4 r5 r6 r7 ip fc fp fz fs fo fd x0 x1 x2 x3 x4 x5 x6 x7 cond ak ar ab ai aq ad bk br bb bi bq bd c len) 1)), .v (.int .u32 (ansI (strsP46rbT cb cs cr cw cx db ds dr dw dx T M r0 r1 r2 r3 r4 r5 r6 r7 ip fc fp fz fs fo fd x0 x1 x2 x3 x4 x5 x6 x7 cond ak ar ab ai aq ad bk br bb bi bq bd c len) 2)), .v (.int .u32 (ansI (strsP46rbT cb cs cr cw cx db ds dr dw dx T M r0 r1 r2 r3 r4 r5 r6 r7 ip fc fp fz fs fo fd x0 x1 x2 x3 x4 x5 x6 x7 cond ak ar ab ai aq ad bk br bb bi bq bd c len) 3)), .v (.int .u32 (ansI (strsP46rbT cb cs cr cw cx db ds dr dw dx T M r0 r1 r2 r3 r4 r5 r6 r7 ip fc fp fz fs fo fd x0 x1 x2 x3 x4 x5 x6 x7 cond ak ar ab ai aq ad bk br bb bi bq bd c len) 4)), .v (.int .u32 (ansI (strsP46rbT cb cs cr cw cx db ds dr dw dx T M r0 r1 r2 r3 r4 r5 r6 r7 ip fc fp fz fs fo fd x0 x1 x2 x3 x4 x5 x6 x7 cond ak ar ab ai aq ad bk br bb bi bq bd c len) 5)), .v (.int .u32 (ansI (strsP46rbT cb cs cr cw cx db ds dr dw dx T M r0 r1 r2 r3 r4 r5 r6 r7 ip fc fp fz fs fo fd x0 x1 x2 x3 x4 x5 x6 x7 cond ak ar ab ai aq ad bk br bb bi bq bd c len) 6)), .v (.int .u32 (ansI (strsP46rbT cb cs cr cw cx db ds dr dw dx T M r0 r1 r2 r3 r4 r5 r6 r7 ip fc fp fz fs fo fd x0 x1 x2 x3 x4 x5 x6 x7 cond ak ar ab ai aq ad bk br bb bi bq bd c len) 7)), .v (.int .u32 (ansI (strsP46rbT cb cs cr cw cx db ds dr dw dx T M r0 r1 r2 r3 r4 r5 r6 r7 ip fc fp fz fs fo fd x0 x1 x2 x3 x4 x5 x6 x7 cond ak ar ab ai aq ad bk br bb bi bq bd c len) 8)), .v (.bool (ansB (strsP46rbT cb cs cr cw cx db ds dr dw dx T M r0 r1 r2 r3 r4 r5 r6 r7 ip fc fp fz fs fo fd x0 x1 x2 x3 x4 x5 x6 x7 cond ak ar ab ai aq ad bk br bb bi bq bd c len) 9)), .v (.bool (ansB (strsP46rbT cb cs cr cw cx db ds dr dw dx T M r0 r1 r2 r3 r4 r5 r6 r7 ip fc fp fz fs fo fd x0 x1 x2 x3 x4 x5 x6 x7 cond ak ar ab ai aq ad bk br bb bi bq bd c len) 10)), .v (.bool (ansB (strsP46rbT cb cs cr cw cx db ds dr dw dx T M r0 r1 r2 r3 r4 r5 r6 r7 ip fc fp fz fs fo fd x0 x1 x2 x3 x4 x5 x6 x7 cond ak ar ab ai aq ad bk br bb bi bq bd c len) 11)), .v (.bool (ansB (strsP46rbT cb cs cr cw cx db ds dr dw dx T M r0 r1 r2 r3 r4 r5 r6 r7 ip fc fp fz fs fo fd x0 x1 x2 x3 x4 x5 x6 x7 cond ak ar ab ai aq ad bk br bb bi bq bd c len) 12)), .v (.bool (ansB (strsP46rbT cb cs cr cw cx db ds dr dw dx T M r0 r1 r2 r3 r4 r5 r6 r7 ip fc fp fz fs fo fd x0 x1 x2 x3 x4 x5 x6 x7 cond ak ar ab ai aq ad bk br bb bi bq bd c len) 13)), .v (.bool (ansB (strsP46rbT cb cs cr cw cx db ds dr dw dx T M r0 r1 r2 r3 r4 r5 r6 r7 ip fc fp fz fs fo fd x0 x1 x2 x3 x4 x5 x6 x7 cond ak ar ab ai aq ad bk br bb bi bq bd c len) 14)), .v (.int .u64 (ansI (strsP46rbT cb cs cr cw cx db ds dr dw dx T M r0 r1 r2 r3 r4 r5 r6 r7 ip fc fp fz fs fo fd x0 x1 x2 x3 x4 x5 x6 x7 cond ak ar ab ai aq ad bk br bb bi bq bd c len) 15)), .v (.int .u64 (ansI (strsP46rbT cb cs cr cw cx db ds dr dw dx T M r0 r1 r2 r3 r4 r5 r6 r7 ip fc fp fz fs fo fd x0 x1 x2 x3 x4 x5 x6 x7 cond ak ar ab ai aq ad bk br bb bi bq bd c len) 16)), .v (.int .u64 (ansI (strsP46rbT cb cs cr cw cx db ds dr dw dx T M r0 r1 r2 r3 r4 r5 r6 r7 ip fc fp fz fs fo fd x0 x1 x2 x3 x4 x5 x6 x7 cond ak ar ab ai aq ad bk br bb bi bq bd c len) 17)), .v (.int .u64 (ansI (strsP46rbT cb cs cr cw cx db ds dr dw dx T M r0 r1 r2 r3 r4 r5 r6 r7 ip fc fp fz fs fo fd x0 x1 x2 x3 x4 x5 x6 x7 cond ak ar ab ai aq ad bk br bb bi bq bd c len) 18)), .v (.int .u64 (ansI (strsP46rbT cb cs cr cw cx db ds dr dw dx T M r0 r1 r2 r3 r4 r5 r6 r7 ip fc fp fz fs fo fd x0 x1 x2 x3 x4 x5 x6 x7 cond ak ar ab ai aq ad bk br bb bi bq bd c len) 19)), .v (.int .u64 (ansI (strsP46rbT cb cs cr cw cx db ds dr dw dx T M r0 r1 r2 r3 r4 r5 r6 r7 ip fc fp fz fs fo fd x0 x1 x2 x3 x4 x5 x6 x7 cond ak ar ab ai aq ad bk br bb bi bq bd c len) 20)), .v (.int .u64 (ansI (strsP46rbT cb cs cr cw cx db ds dr dw dx T M r0 r1 r2 r3 r4 r5 r6 r7 ip fc fp fz fs fo fd x0 x1 x2 x3 x4 x5 x6 x7 cond ak ar ab ai aq ad bk br bb bi bq bd c len) 21)), .v (.int .u64 (ansI (strsP46rbT cb cs cr cw cx db ds dr dw dx T M r0 r1 r2 r3 r4 r5 r6 r7 ip fc fp fz fs fo fd x0 x1 x2 x3 x4 x5 x6 x7 cond ak ar ab ai aq ad bk br bb bi bq bd c len) 22))], .v (.int .i64 (ansI (strsP46rbT cb cs cr cw cx db ds dr dw dx T M r0 r1 r2 r3 r4 r5 r6 r7 ip fc fp fz fs fo fd x0 x1 x2 x3 x4 x5 x6 x7 cond ak ar ab ai aq ad bk br bb bi bq bd c len) 23)), .v (.bool (ansB (strsP46rbT cb cs cr cw cx db ds dr dw dx T M r0 r1 r2 r3 r4 r5 r6 r7 ip fc fp fz fs fo fd x0 x1 x2 x3 x4 x5 x6 x7 cond ak ar ab ai aq ad bk br bb bi bq bd c len) 24))], [.cells [.ptr 1 0, .v (.int .u32 cb), .v (.int .u32 cs), .v (.bool cr), .v (.bool cw), .v (.bool cx), .v (.int .u32 db), .v (.int .u32 ds), .v (.bool dr), .v (.bool dw), .v (.bool dx)] T, .cells [.mp 2] T2, .bm .u32 .u8 (ansM (strsP46rbT cb cs cr cw cx db ds dr dw dx T M r0 r1 r2 r3 r4 r5 r6 r7 ip fc fp fz fs fo fd x0 x1 x2 x3 x4 x5 x6 x7 cond ak ar ab ai aq ad bk br bb bi bq bd c len) 1)]) := by
  rw [strsR46rb_form]
  have h := strsP46rb_tree cb cs cr cw cx db ds dr dw dx T M r0 r1 r2 r3 r4 r5 r6 r7 ip fc fp fz fs fo fd x0 x1 x2 x3 x4 x5 x6 x7 cond ak ar ab ai aq ad bk br bb bi bq bd c len
  rw [h]
  simp only [Bool.and_eq_true] at hg
  simp only [hg, Bool.and_self, Bool.and_true, Bool.true_and, cond_true]
  cases fd <;> (
    cases h1 : (r1 == 0)
    rotate_left
    · simp only [cond_true]; rfl
    cases h6 : (segE db ds r6 1 (mayV dr dw dx 0) != 0) <;> cases h7 : (segE db ds r7 1 (mayV dr dw dx 1) != 0) <;> (simp only [h1, h6, h7, cond_true, cond_false]; first | rfl | (rw [stV_lo]; rfl) | (rw [ld_lo]; rfl)))
theorem strsR46rw_form (cb cs : Int) (cr cw cx : Bool) (db ds : Int) (dr dw dx : Bool) (T T2 : TypeId) (M : Int → Int) (r0 r1 r2 r3 r4 r5 r6 r7 ip : Int) (fc fp fz fs fo fd : Bool) (x0 x1 x2 x3 x4 x5 x6 x7 : Int) (cond : Int) (ak ar ab ai aq ad bk br bb bi bq bd c : Int) (len : Int) :
    evF Try.prog ΓSo 400 45 [.ptr 0 0, .agg [.v (.int .u32 r0), .v (.int .u32 r1), .v (.int .u32 r2), .v (.int .u32 r3), .v (.int .u32 r4), .v (.int .u32 r5), .v (.int .u32 r6), .v (.int .u32 r7), .v (.int .u32 ip), .v (.bool fc), .v (.bool fp), .v (.bool fz), .v (.bool fs), .v (.bool fo), .v (.bool fd), .v (.int .u64 x0), .v (.int .u64 x1), .v (.int .u64 x2), .v (.int .u64 x3), .v (.int .u64 x4), .v (.int .u64 x5), .v (.int .u64 x6), .v (.int .u64 x7)], .agg [.v (.int .i64 46), .v (.int .i64 cond), .v (.int .i64 4), .v (.int .i64 ak), .v (.int .i64 ar), .v (.int .i64 ab), .v (.int .i64 ai), .v (.int .i64 aq), .v (.int .u32 ad), .v (.int .i64 bk), .v (.int .i64 br), .v (.int .i64 bb), .v (.int .i64 bi), .v (.int .i64 bq), .v (.int .u32 bd), .v (.int .u32 c), .v (.bool true), .v (.int .i64 len)]] [.cells [.ptr 1 0, .v (.int .u32 cb), .v (.int .u32 cs), .v (.bool cr), .v (.bool cw), .v (.bool cx), .v (.int .u32 db), .v (.int .u32 ds), .v (.bool dr), .v (.bool dw), .v (.bool dx)] T, .cells [.mp 2] T2, .bm .u32 .u8 M] (kTk 3) kNo =
    (bif r1 == 0 then
some
(Sv.tup
[Sv.agg
[vw r0, vw r1, vw r2,
vw r3, vw r4, vw r5,
vw r6, vw r7, vw ip, vb fc,
vb fp, vb fz, vb fs, vb fo, vb fd,
vd x0, vd x1, vd x2,
vd x3, vd x4, vd x5,
vd x6, vd x7],
vi 0, vb true],
[SObj.cells
[Sv.ptr 1 0, vw cb, vw cs, vb cr,
vb cw, vb cx, vw db, vw ds,
vb dr, vb dw, vb dx]
T,
SObj.cells [Sv.mp 2] T2, SObj.bm IntKind.u32 IntKind.u8 M])
else
bif fd then
bif in32 db && (in32 ds && in32 r6) && true then
bif segE db ds r6 4 (mayV dr dw dx 0) != 0 then
some
(Sv.tup
[Sv.agg
[vw r0, vw r1, vw r2,
vw r3, vw r4, vw r5,
vw r6, vw r7, vw ip, vb fc,
vb fp, vb fz, vb fs, vb fo, vb fd,
vd x0, vd x1, vd x2,
vd x3, vd x4, vd x5,
vd x6, vd x7],
vi 2, vb true],
[SObj.cells
[Sv.ptr 1 0, vw cb, vw cs, vb cr,
vb cw, vb cx, vw db, vw ds,
vb dr, vb dw, vb dx]
T,
SObj.cells [Sv.mp 2] T2, SObj.bm IntKind.u32 IntKind.u8 M])
else
bif in32 db && (in32 ds && in32 r7) && true then
bif segE db ds r7 4 (mayV dr dw dx 1) != 0 then
some
(Sv.tup
[Sv.agg
[vw r0, vw r1, vw r2,
vw r3, vw r4, vw r5,
vw r6, vw r7, vw ip, vb fc,
vb fp, vb fz, vb fs, vb fo, vb fd,
vd x0, vd x1, vd x2,
vd x3, vd x4, vd x5,
vd x6, vd x7],
vi 2, vb true],
[SObj.cells
[Sv.ptr 1 0, vw cb, vw cs, vb cr,
vb cw, vb cx, vw db, vw ds,
vb dr, vb dw, vb dx]
T,
SObj.cells [Sv.mp 2] T2,
SObj.bm IntKind.u32 IntKind.u8 (stV M db ds r7 4 (ldV M db ds r6 4 (mayV dr dw dx 0)) (mayV dr dw dx 1))])
else
some
(Sv.tup
[Sv.agg
[vw r0, vw ((IntKind.wrap IntKind.u32 (r1 - 1))),
vw r2, vw r3, vw r4,
vw r5, vw ((IntKind.wrap IntKind.u32 (r6 + 4294967292))),
vw ((IntKind.wrap IntKind.u32 (r7 + 4294967292))), vw ip,
vb fc, vb fp, vb fz, vb fs, vb fo,
vb fd, vd x0, vd x1, vd x2,
vd x3, vd x4, vd x5,
vd x6, vd x7],
vi 0, vb ((IntKind.wrap IntKind.u32 (r1 - 1) == 0))],
[SObj.cells
[Sv.ptr 1 0, vw cb, vw cs, vb cr,
vb cw, vb cx, vw db, vw ds,
vb dr, vb dw, vb dx]
T,
SObj.cells [Sv.mp 2] T2,
SObj.bm IntKind.u32 IntKind.u8 (stV M db ds r7 4 (ldV M db ds r6 4 (mayV dr dw dx 0)) (mayV dr dw dx 1))])
else none
else none
else
bif in32 db && (in32 ds && in32 r6) && true then
bif segE db ds r6 4 (mayV dr dw dx 0) != 0 then
some
(Sv.tup
[Sv.agg
[vw r0, vw r1, vw r2,
vw r3, vw r4, vw r5,
vw r6, vw r7, vw ip, vb fc,
vb fp, vb fz, vb fs, vb fo, vb fd,
vd x0, vd x1, vd x2,
vd x3, vd x4, vd x5,
vd x6, vd x7],
vi 2, vb true],
[SObj.cells
[Sv.ptr 1 0, vw cb, vw cs, vb cr,
vb cw, vb cx, vw db, vw ds,
vb dr, vb dw, vb dx]
T,
SObj.cells [Sv.mp 2] T2, SObj.bm IntKind.u32 IntKind.u8 M])
else
bif in32 db && (in32 ds && in32 r7) && true then
bif segE db ds r7 4 (mayV dr dw dx 1) != 0 then
some
(Sv.tup
[Sv.agg
[vw r0, vw r1, vw r2,
vw r3, vw r4, vw r5,
vw r6, vw r7, vw ip, vb fc,
vb fp, vb fz, vb fs, vb fo, vb fd,
vd x0, vd x1, vd x2,
vd x3, vd x4, vd x5,
vd x6, vd x7],
vi 2, vb true],
[SObj.cells
[Sv.ptr 1 0, vw cb, vw cs, vb cr,
vb cw, vb cx, vw db, vw ds,
vb dr, vb dw, vb dx]
T,
SObj.cells [Sv.mp 2] T2,
SObj.bm IntKind.u32 IntKind.u8 (stV M db ds r7 4 (ldV M db ds r6 4 (mayV dr dw dx 0)) (mayV dr dw dx 1))])
else
some
(Sv.tup
[Sv.agg
[vw r0, vw ((IntKind.wrap IntKind.u32 (r1 - 1))),
vw r2, vw r3, vw r4,
vw r5, vw ((IntKind.wrap IntKind.u32 (r6 + 4))),
vw ((IntKind.wrap IntKind.u32 (r7 + 4))), vw ip, vb fc,
vb fp, vb fz, vb fs, vb fo, vb fd,
vd x0, vd x1, vd x2,
vd x3, vd x4, vd x5,
vd x6, vd x7],
vi 0, vb ((IntKind.wrap IntKind.u32 (r1 - 1) == 0))],
[SObj.cells
[Sv.ptr 1 0, vw cb, vw cs, vb cr,
vb cw, vb cx, vw db, vw ds,
vb dr, vb dw, vb dx]
T,
SObj.cells [Sv.mp 2] T2,
SObj.bm IntKind.u32 IntKind.u8 (stV M db ds r7 4 (ldV M db ds r6 4 (mayV dr dw dx 0)) (mayV dr dw dx 1))])
else none
else none) := by kernel_rfl
theorem strsR46rw_ev (cb cs : Int) (cr cw cx : Bool) (db ds : Int) (dr dw dx : Bool) (T T2 : TypeId) (M : Int → Int) (r0 r1 r2 r3 r4 r5 r6 r7 ip : Int) (fc fp fz fs fo fd : Bool) (x0 x1 x2 x3 x4 x5 x6 x7 : Int) (cond : Int) (ak ar ab ai aq ad bk br bb bi bq bd c : Int) (len : Int) (hg : (in32 r0 && (in32 r1 && (in32 r2 && (in32 r3 && (in32 r4 && (in32 r5 && (in32 r6 && (in32 r7 && (in32 db && (in32 ds)))))))))) = true) : evF Try.prog ΓSo 400 45 [.ptr 0 0, .agg [.v (.int .u32 r0), .v (.int .u32 r1), .v (.int .u32 r2), .v (.int .u32 r3), .v (.int .u32 r4), .v (.int .u32 r5), .v (.int .u32 r6), .v (.int .u32 r7), .v (.int .u32 ip), .v (.bool fc), .v (.bool fp), .v (.bool fz), .v (.bool fs), .v (.bool fo), .v (.bool fd), .v (.int .u64 x0), .v (.int .u64 x1), .v (.int .u64 x2), .v (.int .u64 x3), .v (.int .u64 x4), .v (.int .u64 x5), .v (.int .u64 x6), .v (.int .u64 x7)], .agg [.v (.int .i64 46), .v (.int .i64 cond), .v (.int .i64 4), .v (.int .i64 ak), .v (.int .i64 ar), .v (.int .i64 ab), .v (.int .i64 ai), .v (.int .i64 aq), .v (.int .u32 ad), .v (.int .i64 bk), .v (.int .i64 br), .v (.int .i64 bb), .v (.int .i64 bi), .v (.int .i64 bq), .v (.int .u32 bd), .v (.int .u32 c), .v (.bool true), .v (.int .i64 len)]] [.cells [.ptr 1 0, .v (.int .u32 cb), .v (.int .u32 cs), .v (.bool cr), .v (.bool cw), .v (.bool cx), .v (.int .u32 db), .v (.int .u32 ds), .v (.bool dr), .v (.bool dw), .v (.bool dx)] T, .cells [.mp 2] T2, .bm .u32 .u8 M] (kTk 3) kNo = some (.tup [.agg [.v (.int .u32 (ansI (strsP46rwT cb cs cr cw cx db ds dr dw dx T M r0 r1 r2 r3 r4 r5 r6 r7 ip fc fp fz fs fo fd x0 x1 x2 x3 x4 x5 x6 x7 cond ak ar ab ai aq ad bk br bb bi bq bd c len) 0)), .v (.int .u32 (ansI (strsP46rwT cb cs cr cw cx db ds dr dw dx T M r0 r1 r2 r3 r4 r5 r6 r7 ip fc fp fz fs fo fd x0 x1 x2 x3 x4 x5 x6 x7 cond ak ar ab ai aq ad bk br bb bi bq bd c len) 1)), .v (.int .u32 (ansI (strsP46rwT cb cs cr cw cx db ds dr dw dx T M r0 r1 r2 r3 r4 r5 r6 r7 ip fc fp fz fs fo fd x0 x1 x2 x3 x4 x5 x6 x7 cond ak ar ab ai aq ad bk br bb bi bq bd c len) 2)), .v (.int .u32 (ansI (strsP46rwT cb cs cr cw cx db ds dr dw dx T M r0 r1 r2 r3 r4 r5 r6 r7 ip fc fp fz fs fo fd x0 x1 x2 x3 x4 x5 x6 x7 cond ak ar ab ai aq ad bk br bb bi bq bd c len) 3)), .v (.int .u32 (ansI (strsP46rwT cb cs cr cw cx db ds dr dw dx T M r0 r1 r2 r3 r4 r5 r6 r7 ip fc fp fz fs fo fd x0 x1 x2 x3 x4 x5 x6 x7 cond ak ar ab ai aq ad bk br bb bi bq bd c len) 4)), .v (.int .u32 (ansI (strsP46rwT cb cs cr cw cx db ds dr dw dx T M r0 r1 r2 r3 r4 r5 r6 r7 ip fc fp fz fs fo fd x0 x1 x2 x3 x4 x5 x6 x7 cond ak ar ab ai aq ad bk br bb bi bq bd c len) 5)), .v (.int .u32 (ansI (strsP46rwT cb cs cr cw cx db ds dr dw dx T M r0 r1 r2 r3 r4 r5 r6 r7 ip fc fp fz fs fo fd x0 x1 x2 x3 x4 x5 x6 x7 cond ak ar ab ai aq ad bk br bb bi bq bd c len) 6)), .v (.int .u32 (ansI (strsP46rwT cb cs cr cw cx db ds dr dw dx T M r0 r1 r2 r3 r4 r5 r6 r7 ip fc fp fz fs fo fd x0 x1 x2 x3 x4 x5 x6 x7 cond ak ar ab ai aq ad bk br bb bi bq bd c len) 7)), .v (.int .u32 (ansI (strsP46rwT cb cs cr cw cx db ds dr dw dx T M r0 r1 r2 r3 r4 r5 r6 r7 ip fc fp fz fs fo fd x0 x1 x2 x3 x4 x5 x6 x7 cond ak ar ab ai aq ad bk br bb bi bq bd c len) 8)), .v (.bool (ansB (strsP46rwT cb cs cr cw cx db ds dr dw dx T M r0 r1 r2 r3 r4 r5 r6 r7 ip fc fp fz fs fo fd x0 x1 x2 x3 x4 x5 x6 x7 cond ak ar ab ai aq ad bk br bb bi bq bd c len) 9)), .v (.bool (ansB (strsP46rwT cb cs cr cw cx db ds dr dw dx T M r0 r1 r2 r3 r4 r5 r6 r7 ip fc fp fz fs fo fd x0 x1 x2 x3 x4 x5 x6 x7 cond ak ar ab ai aq ad bk br bb bi bq bd c len) 10)), .v (.bool (ansB (strsP46rwT cb cs cr cw cx db ds dr dw dx T M r0 r1 r2 r3 r4 r5 r6 r7 ip fc fp fz fs fo fd x0 x1 x2 x3 x4 x5 x6 x7 cond ak ar ab ai aq ad bk br bb bi bq bd c len) 11)), .v (.bool (ansB (strsP46rwT cb cs cr cw cx db ds dr dw dx T M r0 r1 r2 r3 r4 r5 r6 r7 ip fc fp fz fs fo fd x0 x1 x2 x3 x4 x5 x6 x7 cond ak ar ab ai aq ad bk br bb bi bq bd c len) 12)), .v (.bool (ansB (strsP46rwT cb cs cr cw cx db ds dr dw dx T M r0 r1 r2 r3 r4 r5 r6 r7 ip fc fp fz fs fo fd x0 x1 x2 x3 x4 x5 x6 x7 cond ak ar ab ai aq ad bk br bb bi bq bd c len) 13)), .v (.bool (ansB (strsP46rwT cb cs cr cw cx db ds dr dw dx T M r0 r1 r2 r3 r4 r5 r6 r7 ip fc fp fz fs fo fd x0 x1 x2 x3 x4 x5 x6 x7 cond ak ar ab ai aq ad bk br bb bi bq bd c len) 14)), .v (.int .u64 (ansI (strsP46rwT cb cs cr cw cx db ds dr dw dx T M r0 r1 r2 r3 r4 r5 r6 r7 ip fc fp fz fs fo fd x0 x1 x2 x3 x4 x5 x6 x7 cond ak ar ab ai aq ad bk br bb bi bq bd c len) 15)), .v (.int .u64 (ansI (strsP46rwT cb cs cr cw cx db ds dr dw dx T M r0 r1 r2 r3 r4 r5 r6 r7 ip fc fp fz fs fo fd x0 x1 x2 x3 x4 x5 x6 x7 cond ak ar ab ai aq ad bk br bb bi bq bd c len) 16)), .v (.int .u64 (ansI (strsP46rwT cb cs cr cw cx db ds dr dw dx T M r0 r1 r2 r3 r4 r5 r6 r7 ip fc fp fz fs fo fd x0 x1 x2 x3 x4 x5 x6 x7 cond ak ar ab ai aq ad bk br bb bi bq bd c len) 17)), .v (.int .u64 (ansI (strsP46rwT cb cs cr cw cx db ds dr dw dx T M r0 r1 r2 r3 r4 r5 r6 r7 ip fc fp fz fs fo fd x0 x1 x2 x3 x4 x5 x6 x7 cond ak ar ab ai aq ad bk br bb bi bq bd c len) 18)), .v (.int .u64 (ansI (strsP46rwT cb cs cr cw cx db ds dr dw dx T M r0 r1 r2 r3 r4 r5 r6 r7 ip fc fp fz fs fo fd x0 x1 x2 x3 x4 x5 x6 x7 cond ak ar ab ai aq ad bk br bb bi bq bd c len) 19)), .v (.int .u64 (ansI (strsP46rwT cb cs cr cw cx db ds dr dw dx T M r0 r1 r2 r3 r4 r5 r6 r7 ip fc fp fz fs fo fd x0 x1 x2 x3 x4 x5 x6 x7 cond ak ar ab ai aq ad bk br bb bi bq bd c len) 20)), .v (.int .u64 (ansI (strsP46rwT cb cs cr cw cx db ds dr dw dx T M r0 r1 r2 r3 r4 r5 r6 r7 ip fc fp fz fs fo fd x0 x1 x2 x3 x4 x5 x6 x7 cond ak ar ab ai aq ad bk br bb bi bq bd c len) 21)), .v (.int .u64 (ansI (strsP46rwT cb cs cr cw cx db ds dr dw dx T M r0 r1 r2 r3 r4 r5 r6 r7 ip fc fp fz fs fo fd x0 x1 x2 x3 x4 x5 x6 x7 cond ak ar ab ai aq ad bk br bb bi bq bd c len) 22))], .v (.int .i64 (ansI (strsP46rwT cb cs cr cw cx db ds dr dw dx T M r0 r1 r2 r3 r4 r5 r6 r7 ip fc fp fz fs fo fd x0 x1 x2 x3 x4 x5 x6 x7 cond ak ar ab ai aq ad bk br bb bi bq bd c len) 23)), .v (.bool (ansB (strsP46rwT cb cs cr cw cx db ds dr dw dx T M r0 r1 r2 r3 r4 r5 r6 r7 ip fc fp fz fs fo fd x0 x1 x2 x3 x4 x5 x6 x7 cond ak ar ab ai aq ad bk br bb bi bq bd c len) 24))], [.cells [.ptr 1 0, .v (.int .u32 cb), .v (.int .u32 cs), .v (.bool cr), .v (.bool cw), .v (.bool cx), .v (.int .u32 db), .v (.int .u32 ds), .v (.bool dr), .v (.bool dw), .v (.bool dx)] T, .cells [.mp 2] T2, .bm .u32 .u8 (ansM (strsP46rwT cb cs cr cw cx db ds dr dw dx T M r0 r1 r2 r3 r4 r5 r6 r7 ip fc fp fz fs fo fd x0 x1 x2 x3 x4 x5 x6 x7 cond ak ar ab ai aq ad bk br bb bi bq bd c len) 1)]) := by
  rw [strsR46rw_form]
  have h := strsP46rw_tree cb cs cr cw cx db ds dr dw dx T M r0 r1 r2 r3 r4 r5 r6 r7 ip fc fp fz fs fo fd x0 x1 x2 x3 x4 x5 x6 x7 cond ak ar ab ai aq ad bk br bb bi bq bd c len
  rw [h]
  simp only [Bool.and_eq_true] at hg
  simp only [hg, Bool.and_self, Bool.and_true, Bool.true_and, cond_true]
  cases fd <;> (
    cases h1 : (r1 == 0)
    rotate_left
    · simp only [cond_true]; rfl
    cases h6 : (segE db ds r6 4 (mayV dr dw dx 0) != 0) <;> cases h7 : (segE db ds r7 4 (mayV dr dw dx 1) != 0) <;> (simp only [h1, h6, h7, cond_true, cond_false]; first | rfl | (rw [stV_lo]; rfl) | (rw [ld_lo]; rfl)))
theorem strsR47rb_form (cb cs : Int) (cr cw cx : Bool) (db ds : Int) (dr dw dx : Bool) (T T2 : TypeId) (M : Int → Int) (r0 r1 r2 r3 r4 r5 r6 r7 ip : Int) (fc fp fz fs fo fd : Bool) (x0 x1 x2 x3 x4 x5 x6 x7 : Int) (cond : Int) (ak ar ab ai aq ad bk br bb bi bq bd c : Int) (len : Int) :
    evF Try.prog ΓSo 400 45 [.ptr 0 0, .agg [.v (.int .u32 r0), .v (.int .u32 r1), .v (.int .u32 r2), .v (.int .u32 r3), .v (.int .u32 r4), .v (.int .u32 r5), .v (.int .u32 r6), .v (.int .u32 r7), .v (.int .u32 ip), .v (.bool fc), .v (.bool fp), .v (.bool fz), .v (.bool fs), .v (.bool fo), .v (.bool fd), .v (.int .u64 x0), .v (.int .u64 x1), .v (.int .u64 x2), .v (.int .u64 x3), .v (.int .u64 x4), .v (.int .u64 x5), .v (.int .u64 x6), .v (.int .u64 x7)], .agg [.v (.int .i64 47), .v (.int .i64 cond), .v (.int .i64 1), .v (.int .i64 ak), .v (.int .i64 ar), .v (.int .i64 ab), .v (.int .i64 ai), .v (.int .i64 aq), .v (.int .u32 ad), .v (.int .i64 bk), .v (.int .i64 br), .v (.int .i64 bb), .v (.int .i64 bi), .v (.int .i64 bq), .v (.int .u32 bd), .v (.int .u32 c), .v (.bool true), .v (.int .i64 len)]] [.cells [.ptr 1 0, .v (.int .u32 cb), .v (.int .u32 cs), .v (.bool cr), .v (.bool cw), .v (.bool cx), .v (.int .u32 db), .v (.int .u32 ds), .v (.bool dr), .v (.bool dw), .v (.bool dx)] T, .cells [.mp 2] T2, .bm .u32 .u8 M] (kTk 3) kNo =
    (bif r1 == 0 then
some
(Sv.tup
[Sv.agg
[vw r0, vw r1, vw r2,
vw r3, vw r4, vw r5,
vw r6, vw r7, vw ip, vb fc,
vb fp, vb fz, vb fs, vb fo, vb fd,
vd x0, vd x1, vd x2,
vd x3, vd x4, vd x5,
vd x6, vd x7],
vi 0, vb true],
[SObj.cells
[Sv.ptr 1 0, vw cb, vw cs, vb cr,
vb cw, vb cx, vw db, vw ds,
vb dr, vb dw, vb dx]
T,
SObj.cells [Sv.mp 2] T2, SObj.bm IntKind.u32 IntKind.u8 M])
else
bif fd then
bif in32 db && (in32 ds && in32 r7) && true then
bif segE db ds r7 1 (mayV dr dw dx 1) != 0 then
some
(Sv.tup
[Sv.agg
[vw r0, vw r1, vw r2,
vw r3, vw r4, vw r5,
vw r6, vw r7, vw ip, vb fc,
vb fp, vb fz, vb fs, vb fo, vb fd,
vd x0, vd x1, vd x2,
vd x3, vd x4, vd x5,
vd x6, vd x7],
vi 2, vb true],
[SObj.cells
[Sv.ptr 1 0, vw cb, vw cs, vb cr,
vb cw, vb cx, vw db, vw ds,
vb dr, vb dw, vb dx]
T,
SObj.cells [Sv.mp 2] T2,
SObj.bm IntKind.u32 IntKind.u8 (stV M db ds r7 1 (IntKind.wrap IntKind.u64 r0) (mayV dr dw dx 1))])
else
some
(Sv.tup
[Sv.agg
[vw r0, vw ((IntKind.wrap IntKind.u32 (r1 - 1))),
vw r2, vw r3, vw r4,
vw r5, vw r6,
vw ((IntKind.wrap IntKind.u32 (r7 + 4294967295))), vw ip,
vb fc, vb fp, vb fz, vb fs, vb fo,
vb fd, vd x0, vd x1, vd x2,
vd x3, vd x4, vd x5,
vd x6, vd x7],
vi 0, vb ((IntKind.wrap IntKind.u32 (r1 - 1) == 0))],
[SObj.cells
[Sv.ptr 1 0, vw cb, vw cs, vb cr,
vb cw, vb cx, vw db, vw ds,
vb dr, vb dw, vb dx]
T,
SObj.cells [Sv.mp 2] T2,
SObj.bm IntKind.u32 IntKind.u8 (stV M db ds r7 1 (IntKind.wrap IntKind.u64 r0) (mayV dr dw dx 1))])
else none
else
bif in32 db && (in32 ds && in32 r7) && true then
bif segE db ds r7 1 (mayV dr dw dx 1) != 0 then
some
(Sv.tup
[Sv.agg
[vw r0, vw r1, vw r2,
vw r3, vw r4, vw r5,
vw r6, vw r7, vw ip, vb fc,
vb fp, vb fz, vb fs, vb fo, vb fd,
vd x0, vd x1, vd x2,
vd x3, vd x4, vd x5,
vd x6, vd x7],
vi 2, vb true],
[SObj.cells
[Sv.ptr 1 0, vw cb, vw cs, vb cr,
vb cw, vb cx, vw db, vw ds,
vb dr, vb dw, vb dx]
T,
SObj.cells [Sv.mp 2] T2,
SObj.bm IntKind.u32 IntKind.u8 (stV M db ds r7 1 (IntKind.wrap IntKind.u64 r0) (mayV dr dw dx 1))])
else
some
(Sv.tup
[Sv.agg
[vw r0, vw ((IntKind.wrap IntKind.u32 (r1 - 1))),
vw r2, vw r3, vw r4,
vw r5, vw r6,
vw ((IntKind.wrap IntKind.u32 (r7 + 1))), vw ip, vb fc,
vb fp, vb fz, vb fs, vb fo, vb fd,
vd x0, vd x1, vd x2,
vd x3, vd x4, vd x5,
vd x6, vd x7],
vi 0, vb ((IntKind.wrap IntKind.u32 (r1 - 1) == 0))],
[SObj.cells
[Sv.ptr 1 0, vw cb, vw cs, vb cr,
vb cw, vb cx, vw db, vw ds,
vb dr, vb dw, vb dx]
T,
SObj.cells [Sv.mp 2] T2,
SObj.bm IntKind.u32 IntKind.u8 (stV M db ds r7 1 (IntKind.wrap IntKind.u64 r0) (mayV dr dw dx 1))])
else none) := by kernel_rfl
theorem strsR47rb_ev (cb cs : Int) (cr cw cx : Bool) (db ds : Int) (dr dw dx : Bool) (T T2 : TypeId) (M : Int → Int) (r0 r1 r2 r3 r4 r5 r6 r7 ip : Int) (fc fp fz fs fo fd : Bool) (x0 x1 x2 x3 x4 x5 x6 x7 : Int) (cond : Int) (ak ar ab ai aq ad bk br bb bi bq bd c : Int) (len : Int) (hg : (in32 r0 && (in32 r1 && (in32 r2 && (in32 r3 && (in32 r4 && (in32 r5 && (in32 r6 && (in32 r7 && (in32 db && (in32 ds)))))))))) = true) : evF Try.prog ΓSo 400 45 [.ptr 0 0, .agg [.v (.int .u32 r0), .v (.int .u32 r1), .v (.int .u32 r2), .v (.int .u32 r3), .v (.int .u32 r4), .v (.int .u32 r5), .v (.int .u32 r6), .v (.int .u32 r7), .v (.int .u32 ip), .v (.bool fc), .v (.bool fp), .v (.bool fz), .v (.bool fs), .v (.bool fo), .v (.bool fd), .v (.int .u64 x0), .v (.int .u64 x1), .v (.int .u64 x2), .v (.int .u64 x3), .v (.int .u64 x4), .v (.int .u64 x5), .v (.int .u64 x6), .v (.int .u64 x7)], .agg [.v (.int .i64 47), .v (.int .i64 cond), .v (.int .i64 1), .v (.int .i64 ak), .v (.int .i64 ar), .v (.int .i64 ab), .v (.int .i64 ai), .v (.int .i64 aq), .v (.int .u32 ad), .v (.int .i64 bk), .v (.int .i64 br), .v (.int .i64 bb), .v (.int .i64 bi), .v (.int .i64 bq), .v (.int .u32 bd), .v (.int .u32 c), .v (.bool true), .v (.int .i64 len)]] [.cells [.ptr 1 0, .v (.int .u32 cb), .v (.int .u32 cs), .v (.bool cr), .v (.bool cw), .v (.bool cx), .v (.int .u32 db), .v (.int .u32 ds), .v (.bool dr), .v (.bool dw), .v (.bool dx)] T, .cells [.mp 2] T2, .bm .u32 .u8 M] (kTk 3) kNo = some (.tup [.agg [.v (.int .u32 (ansI (strsP47rbT cb cs cr cw cx db ds dr dw dx T M r0 r1 r2 r3 r4 r5 r6 r7 ip fc fp fz fs fo fd x0 x1 x2 x3 x4 x5 x6 x7 cond ak ar ab ai aq ad bk br bb bi bq bd c len) 0)), .v (.int .u32 (ansI (strsP47rbT cb cs cr cw cx db ds dr dw dx T M r0 r1 r2 r3 r4 r5 r6 r7 ip fc fp fz fs fo fd x0 x1 x2 x3 x4 x5 x6 x7 cond ak ar ab ai aq ad bk br bb bi bq bd c len) 1)), .v (.int .u32 (ansI (strsP47rbT cb cs cr cw cx db ds dr dw dx T M r0 r1 r2 r3 r4 r5 r6 r7 ip fc fp fz fs fo fd x0 x1 x2 x3 x4 x5 x6 x7 cond ak ar ab ai aq ad bk br bb bi bq bd c len) 2)), .v (.int .u32 (ansI (strsP47rbT cb cs cr cw cx db ds dr dw dx T M r0 r1 r2 r3 r4 r5 r6 r7 ip fc fp fz fs fo fd x0 x1 x2 x3 x4 x5 x6 x7 cond ak ar ab ai aq ad bk br bb bi bq bd c len) 3)), .v (.int .u32 (ansI (strsP47rbT cb cs cr cw cx db ds dr dw dx T M r0 r1 r2 r3 r4 r5 r6 r7 ip fc fp fz fs fo fd x0 x1 x2 x3 x4 x5 x6 x7 cond ak ar ab ai aq ad bk br bb bi bq bd c len) 4)), .v (.int .u32 (ansI (strsP47rbT cb cs cr cw cx db ds dr dw dx T M r0 r1 r2 r3 r4 r5 r6 r7 ip fc fp fz fs fo fd x0 x1 x2 x3 x4 x5 x6 x7 cond ak ar ab ai aq ad bk br bb bi bq bd c len) 5)), .v (.int .u32 (ansI (strsP47rbT cb cs cr cw cx db ds dr dw dx T M r0 r1 r2 r3 r4 r5 r6 r7 ip fc fp fz fs fo fd x0 x1 x2 x3 x4 x5 x6 x7 cond ak ar ab ai aq ad bk br bb bi bq bd c len) 6)), .v (.int .u32 (ansI (strsP47rbT cb cs cr cw cx db ds dr dw dx T M r0 r1 r2 r3 r4 r5 r6 r7 ip fc fp fz fs fo fd x0 x1 x2 x3 x4 x5 x6 x7 cond ak ar ab ai aq ad bk br bb bi bq bd c len) 7)), .v (.int .u32 (ansI (strsP47rbT cb cs cr cw cx db ds dr dw dx T M r0 r1 r2 r3 r4 r5 r6 r7 ip fc fp fz fs fo fd x0 x1 x2 x3 x4 x5 x6 x7 cond ak ar ab ai aq ad bk br bb bi bq bd c len) 8)), .v (.bool (ansB (strsP47rbT cb cs cr cw cx db ds dr dw dx T M r0 r1 r2 r3 r4 r5 r6 r7 ip fc fp fz fs fo fd x0 x1 x2 x3 x4 x5 x6 x7 cond ak ar ab ai aq ad bk br bb bi bq bd c len) 9)), .v (.bool (ansB (strsP47rbT cb cs cr cw cx db ds dr dw dx T M r0 r1 r2 r3 r4 r5 r6 r7 ip fc fp fz fs fo fd x0 x1 x2 x3 x4 x5 x6 x7 cond ak ar ab ai aq ad bk br bb bi bq bd c len) 10)), .v (.bool (ansB (strsP47rbT cb cs cr cw cx db ds dr dw dx T M r0 r1 r2 r3 r4 r5 r6 r7 ip fc fp fz fs fo fd x0 x1 x2 x3 x4 x5 x6 x7 cond ak ar ab ai aq ad bk br bb bi bq bd c len) 11)), .v (.bool (ansB (strsP47rbT cb cs cr cw cx db ds dr dw dx T M r0 r1 r2 r3 r4 r5 r6 r7 ip fc fp fz fs fo fd x0 x1 x2 x3 x4 x5 x6 x7 cond ak ar ab ai aq ad bk br bb bi bq bd c len) 12)), .v (.bool (ansB (strsP47rbT cb cs cr cw cx db ds dr dw dx T M r0 r1 r2 r3 r4 r5 r6 r7 ip fc fp fz fs fo fd x0 x1 x2 x3 x4 x5 x6 x7 cond ak ar ab ai aq ad bk br bb bi bq bd c len) 13)), .v (.bool (ansB (strsP47rbT cb cs cr cw cx db ds dr dw dx T M r0 r1 r2 r3 r4 r5 r6 r7 ip fc fp fz fs fo fd x0 x1 x2 x3 x4 x5 x6 x7 cond ak ar ab ai aq ad bk br bb bi bq bd c len) 14)), .v (.int .u64 (ansI (strsP47rbT cb cs cr cw cx db ds dr dw dx T M r0 r1 r2 r3 r4 r5 r6 r7 ip fc fp fz fs fo fd x0 x1 x2 x3 x4 x5 x6 x7 cond ak ar ab ai aq ad bk br bb bi bq bd c len) 15)), .v (.int .u64 (ansI (strsP47rbT cb cs cr cw cx db ds dr dw dx T M r0 r1 r2 r3 r4 r5 r6 r7 ip fc fp fz fs fo fd x0 x1 x2 x3 x4 x5 x6 x7 cond ak ar ab ai aq ad bk br bb bi bq bd c len) 16)), .v (.int .u64 (ansI (strsP47rbT cb cs cr cw cx db ds dr dw dx T M r0 r1 r2 r3 r4 r5 r6 r7 ip fc fp fz fs fo fd x0 x1 x2 x3 x4 x5 x6 x7 cond ak ar ab ai aq ad bk br bb bi bq bd c len) 17)), .v (.int .u64 (ansI (strsP47rbT cb cs cr cw cx db ds dr dw dx T M r0 r1 r2 r3 r4 r5 r6 r7 ip fc fp fz fs fo fd x0 x1 x2 x3 x4 x5 x6 x7 cond ak ar ab ai aq ad bk br bb bi bq bd c len) 18)), .v (.int .u64 (ansI (strsP47rbT cb cs cr cw cx db ds dr dw dx T M r0 r1 r2 r3 r4 r5 r6 r7 ip fc fp fz fs fo fd x0 x1 x2 x3 x4 x5 x6 x7 cond ak ar ab ai aq ad bk br bb bi bq bd c len) 19)), .v (.int .u64 (ansI (strsP47rbT cb cs cr cw cx db ds dr dw dx T M r0 r1 r2 r3 r4 r5 r6 r7 ip fc fp fz fs fo fd x0 x1 x2 x3 x4 x5 x6 x7 cond ak ar ab ai aq ad bk br bb bi bq bd c len) 20)), .v (.int .u64 (ansI (strsP47rbT cb cs cr cw cx db ds dr dw dx T M r0 r1 r2 r3 r4 r5 r6 r7 ip fc fp fz fs fo fd x0 x1 x2 x3 x4 x5 x6 x7 cond ak ar ab ai aq ad bk br bb bi bq bd c len) 21)), .v (.int .u64 (ansI (strsP47rbT cb cs cr cw cx db ds dr dw dx T M r0 r1 r2 r3 r4 r5 r6 r7 ip fc fp fz fs fo fd x0 x1 x2 x3 x4 x5 x6 x7 cond ak ar ab ai aq ad bk br bb bi bq bd c len) 22))], .v (.int .i64 (ansI (strsP47rbT cb cs cr cw cx db ds dr dw dx T M r0 r1 r2 r3 r4 r5 r6 r7 ip fc fp fz fs fo fd x0 x1 x2 x3 x4 x5 x6 x7 cond ak ar ab ai aq ad bk br bb bi bq bd c len) 23)), .v (.bool (ansB (strsP47rbT cb cs cr cw cx db ds dr dw dx T M r0 r1 r2 r3 r4 r5 r6 r7 ip fc fp fz fs fo fd x0 x1 x2 x3 x4 x5 x6 x7 cond ak ar ab ai aq ad bk br bb bi bq bd c len) 24))], [.cells [.ptr 1 0, .v (.int .u32 cb), .v (.int .u32 cs), .v (.bool cr), .v (.bool cw), .v (.bool cx), .v (.int .u32 db), .v (.int .u32 ds), .v (.bool dr), .v (.bool dw), .v (.bool dx)] T, .cells [.mp 2] T2, .bm .u32 .u8 (ansM (strsP47rbT cb cs cr cw cx db ds dr dw dx T M r0 r1 r2 r3 r4 r5 r6 r7 ip fc fp fz fs fo fd x0 x1 x2 x3 x4 x5 x6 x7 cond ak ar ab ai aq ad bk br bb bi bq bd c len) 1)]) := by
  rw [strsR47rb_form]
  have h := strsP47rb_tree cb cs cr cw cx db ds dr dw dx T M r0 r1 r2 r3 r4 r5 r6 r7 ip fc fp fz fs fo fd x0 x1 x2 x3 x4 x5 x6 x7 cond ak ar ab ai aq ad bk br bb bi bq bd c len
  rw [h]
  simp only [Bool.and_eq_true] at hg
  simp only [hg, Bool.and_self, Bool.and_true, Bool.true_and, cond_true]
  cases fd <;> (
    cases h1 : (r1 == 0)
    rotate_left
    · simp only [cond_true]; rfl
    cases h7 : (segE db ds r7 1 (mayV dr dw dx 1) != 0) <;> (simp only [h1, h7, cond_true, cond_false]; first | rfl | (rw [stV_lo]; rfl) | (rw [ld_lo]; rfl)))
theorem strsR47rw_form (cb cs : Int) (cr cw cx : Bool) (db ds : Int) (dr dw dx : Bool) (T T2 : TypeId) (M : Int → Int) (r0 r1 r2 r3 r4 r5 r6 r7 ip : Int) (fc fp fz fs fo fd : Bool) (x0 x1 x2 x3 x4 x5 x6 x7 : Int) (cond : Int) (ak ar ab ai aq ad bk br bb bi bq bd c : Int) (len : Int) :
    evF Try.prog ΓSo 400 45 [.ptr 0 0, .agg [.v (.int .u32 r0), .v (.int .u32 r1), .v (.int .u32 r2), .v (.int .u32 r3), .v (.int .u32 r4), .v (.int .u32 r5), .v (.int .u32 r6), .v (.int .u32 r7), .v (.int .u32 ip), .v (.bool fc), .v (.bool fp), .v (.bool fz), .v (.bool fs), .v (.bool fo), .v (.bool fd), .v (.int .u64 x0), .v (.int .u64 x1), .v (.int .u64 x2), .v (.int .u64 x3), .v (.int .u64 x4), .v (.int .u64 x5), .v (.int .u64 x6), .v (.int .u64 x7)], .agg [.v (.int .i64 47), .v (.int .i64 cond), .v (.int .i64 4), .v (.int .i64 ak), .v (.int .i64 ar), .v (.int .i64 ab), .v (.int .i64 ai), .v (.int .i64 aq), .v (.int .u32 ad), .v (.int .i64 bk), .v (.int .i64 br), .v (.int .i64 bb), .v (.int .i64 bi), .v (.int .i64 bq), .v (.int .u32 bd), .v (.int .u32 c), .v (.bool true), .v (.int .i64 len)]] [.cells [.ptr 1 0, .v (.int .u32 cb), .v (.int .u32 cs), .v (.bool cr), .v (.bool cw), .v (.bool cx), .v (.int .u32 db), .v (.int .u32 ds), .v (.bool dr), .v (.bool dw), .v (.bool dx)] T, .cells [.mp 2] T2, .bm .u32 .u8 M] (kTk 3) kNo =
    (bif r1 == 0 then
some
(Sv.tup
[Sv.agg
[vw r0, vw r1, vw r2,
vw r3, vw r4, vw r5,
vw r6, vw r7, vw ip, vb fc,
vb fp, vb fz, vb fs, vb fo, vb fd,
vd x0, vd x1, vd x2,
vd x3, vd x4, vd x5,
vd x6, vd x7],
vi 0, vb true],
[SObj.cells
[Sv.ptr 1 0, vw cb, vw cs, vb cr,
vb cw, vb cx, vw db, vw ds,
vb dr, vb dw, vb dx]
T,
SObj.cells [Sv.mp 2] T2, SObj.bm IntKind.u32 IntKind.u8 M])
else
bif fd then
bif in32 db && (in32 ds && in32 r7) && true then
bif segE db ds r7 4 (mayV dr dw dx 1) != 0 then
some
(Sv.tup
[Sv.agg
[vw r0, vw r1, vw r2,
vw r3, vw r4, vw r5,
vw r6, vw r7, vw ip, vb fc,
vb fp, vb fz, vb fs, vb fo, vb fd,
vd x0, vd x1, vd x2,
vd x3, vd x4, vd x5,
vd x6, vd x7],
vi 2, vb true],
[SObj.cells
[Sv.ptr 1 0, vw cb, vw cs, vb cr,
vb cw, vb cx, vw db, vw ds,
vb dr, vb dw, vb dx]
T,
SObj.cells [Sv.mp 2] T2,
SObj.bm IntKind.u32 IntKind.u8 (stV M db ds r7 4 (IntKind.wrap IntKind.u64 r0) (mayV dr dw dx 1))])
else
some
(Sv.tup
[Sv.agg
[vw r0, vw ((IntKind.wrap IntKind.u32 (r1 - 1))),
vw r2, vw r3, vw r4,
vw r5, vw r6,
vw ((IntKind.wrap IntKind.u32 (r7 + 4294967292))), vw ip,
vb fc, vb fp, vb fz, vb fs, vb fo,
vb fd, vd x0, vd x1, vd x2,
vd x3, vd x4, vd x5,
vd x6, vd x7],
vi 0, vb ((IntKind.wrap IntKind.u32 (r1 - 1) == 0))],
[SObj.cells
[Sv.ptr 1 0, vw cb, vw cs, vb cr,
vb cw, vb cx, vw db, vw ds,
vb dr, vb dw, vb dx]
T,
SObj.cells [Sv.mp 2] T2,
SObj.bm IntKind.u32 IntKind.u8 (stV M db ds r7 4 (IntKind.wrap IntKind.u64 r0) (mayV dr dw dx 1))])
else none
else
bif in32 db && (in32 ds && in32 r7) && true then
bif segE db ds r7 4 (mayV dr dw dx 1) != 0 then
some
(Sv.tup
[Sv.agg
[vw r0, vw r1, vw r2,
vw r3, vw r4, vw r5,
vw r6, vw r7, vw ip, vb fc,
vb fp, vb fz, vb fs, vb fo, vb fd,
vd x0, vd x1, vd x2,
vd x3, vd x4, vd x5,
vd x6, vd x7],
vi 2, vb true],
[SObj.cells
[Sv.ptr 1 0, vw cb, vw cs, vb cr,
vb cw, vb cx, vw db, vw ds,
vb dr, vb dw, vb dx]
T,
SObj.cells [Sv.mp 2] T2,
SObj.bm IntKind.u32 IntKind.u8 (stV M db ds r7 4 (IntKind.wrap IntKind.u64 r0) (mayV dr dw dx 1))])
else
some
(Sv.tup
[Sv.agg
[vw r0, vw ((IntKind.wrap IntKind.u32 (r1 - 1))),
vw r2, vw r3, vw r4,
vw r5, vw r6,
vw ((IntKind.wrap IntKind.u32 (r7 + 4))), vw ip, vb fc,
vb fp, vb fz, vb fs, vb fo, vb fd,
vd x0, vd x1, vd x2,
vd x3, vd x4, vd x5,
vd x6, vd x7],
vi 0, vb ((IntKind.wrap IntKind.u32 (r1 - 1) == 0))],
[SObj.cells
[Sv.ptr 1 0, vw cb, vw cs, vb cr,
vb cw, vb cx, vw db, vw ds,
vb dr, vb dw, vb dx]
T,
SObj.cells [Sv.mp 2] T2,
SObj.bm IntKind.u32 IntKind.u8 (stV M db ds r7 4 (IntKind.wrap IntKind.u64 r0) (mayV dr dw dx 1))])
else none) := by kernel_rfl
theorem strsR47rw_ev (cb cs : Int) (cr cw cx : Bool) (db ds : Int) (dr dw dx : Bool) (T T2 : TypeId) (M : Int → Int) (r0 r1 r2 r3 r4 r5 r6 r7 ip : Int) (fc fp fz fs fo fd : Bool) (x0 x1 x2 x3 x4 x5 x6 x7 : Int) (cond : Int) (ak ar ab ai aq ad bk br bb bi bq bd c : Int) (len : Int) (hg : (in32 r0 && (in32 r1 && (in32 r2 && (in32 r3 && (in32 r4 && (in32 r5 && (in32 r6 && (in32 r7 && (in32 db && (in32 ds)))))))))) = true) : evF Try.prog ΓSo 400 45 [.ptr 0 0, .agg [.v (.int .u32 r0), .v (.int .u32 r1), .v (.int .u32 r2), .v (.int .u32 r3), .v (.int .u32 r4), .v (.int .u32 r5), .v (.int .u32 r6), .v (.int .u32 r7), .v (.int .u32 ip), .v (.bool fc), .v (.bool fp), .v (.bool fz), .v (.bool fs), .v (.bool fo), .v (.bool fd), .v (.int .u64 x0), .v (.int .u64 x1), .v (.int .u64 x2), .v (.int .u64 x3), .v (.int .u64 x4), .v (.int .u64 x5), .v (.int .u64 x6), .v (.int .u64 x7)], .agg [.v (.int .i64 47), .v (.int .i64 cond), .v (.int .i64 4), .v (.int .i64 ak), .v (.int .i64 ar), .v (.int .i64 ab), .v (.int .i64 ai), .v (.int .i64 aq), .v (.int .u32 ad), .v (.int .i64 bk), .v (.int .i64 br), .v (.int .i64 bb), .v (.int .i64 bi), .v (.int .i64 bq), .v (.int .u32 bd), .v (.int .u32 c), .v (.bool true), .v (.int .i64 len)]] [.cells [.ptr 1 0, .v (.int .u32 cb), .v (.int .u32 cs), .v (.bool cr), .v (.bool cw), .v (.bool cx), .v (.int .u32 db), .v (.int .u32 ds), .v (.bool dr), .v (.bool dw), .v (.bool dx)] T, .cells [.mp 2] T2, .bm .u32 .u8 M] (kTk 3) kNo = some (.tup [.agg [.v (.int .u32 (ansI (strsP47rwT cb cs cr cw cx db ds dr dw dx T M r0 r1 r2 r3 r4 r5 r6 r7 ip fc fp fz fs fo fd x0 x1 x2 x3 x4 x5 x6 x7 cond ak ar ab ai aq ad bk br bb bi bq bd c len) 0)), .v (.int .u32 (ansI (strsP47rwT cb cs cr cw cx db ds dr dw dx T M r0 r1 r2 r3 r4 r5 r6 r7 ip fc fp fz fs fo fd x0 x1 x2 x3 x4 x5 x6 x7 cond ak ar ab ai aq ad bk br bb bi bq bd c len) 1)), .v (.int .u32 (ansI (strsP47rwT cb cs cr cw cx db ds dr dw dx T M r0 r1 r2 r3 r4 r5 r6 r7 ip fc fp fz fs fo fd x0 x1 x2 x3 x4 x5 x6 x7 cond ak ar ab ai aq ad bk br bb bi bq bd c len) 2)), .v (.int .u32 (ansI (strsP47rwT cb cs cr cw cx db ds dr dw dx T M r0 r1 r2 r3 r4 r5 r6 r7 ip fc fp fz fs fo fd x0 x1 x2 x3 x4 x5 x6 x7 cond ak ar ab ai aq ad bk br bb bi bq bd c len) 3)), .v (.int .u32 (ansI (strsP47rwT cb cs cr cw cx db ds dr dw dx T M r0 r1 r2 r3 r4 r5 r6 r7 ip fc fp fz fs fo fd x0 x1 x2 x3 x4 x5 x6 x7 cond ak ar ab ai aq ad bk br bb bi bq bd c len) 4)), .v (.int .u32 (ansI (strsP47rwT cb cs cr cw cx db ds dr dw dx T M r0 r1 r2 r3 r4 r5 r6 r7 ip fc fp fz fs fo fd x0 x1 x2 x3 x4 x5 x6 x7 cond ak ar ab ai aq ad bk br bb bi bq bd c len) 5)), .v (.int .u32 (ansI (strsP47rwT cb cs cr cw cx db ds dr dw dx T M r0 r1 r2 r3 r4 r5 r6 r7 ip fc fp fz fs fo fd x0 x1 x2 x3 x4 x5 x6 x7 cond ak ar ab ai aq ad bk br bb bi bq bd c len) 6)), .v (.int .u32 (ansI (strsP47rwT cb cs cr cw cx db ds dr dw dx T M r0 r1 r2 r3 r4 r5 r6 r7 ip fc fp fz fs fo fd x0 x1 x2 x3 x4 x5 x6 x7 cond ak ar ab ai aq ad bk br bb bi bq bd c len) 7)), .v (.int .u32 (ansI (strsP47rwT cb cs cr cw cx db ds dr dw dx T M r0 r1 r2 r3 r4 r5 r6 r7 ip fc fp fz fs fo fd x0 x1 x2 x3 x4 x5 x6 x7 cond ak ar ab ai aq ad bk br bb bi bq bd c len) 8)), .v (.bool (ansB (strsP47rwT cb cs cr cw cx db ds dr dw dx T M r0 r1 r2 r3 r4 r5 r6 r7 ip fc fp fz fs fo fd x0 x1 x2 x3 x4 x5 x6 x7 cond ak ar ab ai aq ad bk br bb bi bq bd c len) 9)), .v (.bool (ansB (strsP47rwT cb cs cr cw cx db ds dr dw dx T M r0 r1 r2 r3 r4 r5 r6 r7 ip fc fp fz fs fo fd x0 x1 x2 x3 x4 x5 x6 x7 cond ak ar ab ai aq ad bk br bb bi bq bd c len) 10)), .v (.bool (ansB (strsP47rwT cb cs cr cw cx db ds dr dw dx T M r0 r1 r2 r3 r4 r5 r6 r7 ip fc fp fz fs fo fd x0 x1 x2 x3 x4 x5 x6 x7 cond ak ar ab ai aq ad bk br bb bi bq bd c len) 11)), .v (.bool (ansB (strsP47rwT cb cs cr cw cx db ds dr dw dx T M r0 r1 r2 r3 r4 r5 r6 r7 ip fc fp fz fs fo fd x0 x1 x2 x3 x4 x5 x6 x7 cond ak ar ab ai aq ad bk br bb bi bq bd c len) 12)), .v (.bool (ansB (strsP47rwT cb cs cr cw cx db ds dr dw dx T M r0 r1 r2 r3 r4 r5 r6 r7 ip fc fp fz fs fo fd x0 x1 x2 x3 x4 x5 x6 x7 cond ak ar ab ai aq ad bk br bb bi bq bd c len) 13)), .v (.bool (ansB (strsP47rwT cb cs cr cw cx db ds dr dw dx T M r0 r1 r2 r3 r4 r5 r6 r7 ip fc fp fz fs fo fd x0 x1 x2 x3 x4 x5 x6 x7 cond ak ar ab ai aq ad bk br bb bi bq bd c len) 14)), .v (.int .u64 (ansI (strsP47rwT cb cs cr cw cx db ds dr dw dx T M r0 r1 r2 r3 r4 r5 r6 r7 ip fc fp fz fs fo fd x0 x1 x2 x3 x4 x5 x6 x7 cond ak ar ab ai aq ad bk br bb bi bq bd c len) 15)), .v (.int .u64 (ansI (strsP47rwT cb cs cr cw cx db ds dr dw dx T M r0 r1 r2 r3 r4 r5 r6 r7 ip fc fp fz fs fo fd x0 x1 x2 x3 x4 x5 x6 x7 cond ak ar ab ai aq ad bk br bb bi bq bd c len) 16)), .v (.int .u64 (ansI (strsP47rwT cb cs cr cw cx db ds dr dw dx T M r0 r1 r2 r3 r4 r5 r6 r7 ip fc fp fz fs fo fd x0 x1 x2 x3 x4 x5 x6 x7 cond ak ar ab ai aq ad bk br bb bi bq bd c len) 17)), .v (.int .u64 (ansI (strsP47rwT cb cs cr cw cx db ds dr dw dx T M r0 r1 r2 r3 r4 r5 r6 r7 ip fc fp fz fs fo fd x0 x1 x2 x3 x4 x5 x6 x7 cond ak ar ab ai aq ad bk br bb bi bq bd c len) 18)), .v (.int .u64 (ansI (strsP47rwT cb cs cr cw cx db ds dr dw dx T M r0 r1 r2 r3 r4 r5 r6 r7 ip fc fp fz fs fo fd x0 x1 x2 x3 x4 x5 x6 x7 cond ak ar ab ai aq ad bk br bb bi bq bd c len) 19)), .v (.int .u64 (ansI (strsP47rwT cb cs cr cw cx db ds dr dw dx T M r0 r1 r2 r3 r4 r5 r6 r7 ip fc fp fz fs fo fd x0 x1 x2 x3 x4 x5 x6 x7 cond ak ar ab ai aq ad bk br bb bi bq bd c len) 20)), .v (.int .u64 (ansI (strsP47rwT cb cs cr cw cx db ds dr dw dx T M r0 r1 r2 r3 r4 r5 r6 r7 ip fc fp fz fs fo fd x0 x1 x2 x3 x4 x5 x6 x7 cond ak ar ab ai aq ad bk br bb bi bq bd c len) 21)), .v (.int .u64 (ansI (strsP47rwT cb cs cr cw cx db ds dr dw dx T M r0 r1 r2 r3 r4 r5 r6 r7 ip fc fp fz fs fo fd x0 x1 x2 x3 x4 x5 x6 x7 cond ak ar ab ai aq ad bk br bb bi bq bd c len) 22))], .v (.int .i64 (ansI (strsP47rwT cb cs cr cw cx db ds dr dw dx T M r0 r1 r2 r3 r4 r5 r6 r7 ip fc fp fz fs fo fd x0 x1 x2 x3 x4 x5 x6 x7 cond ak ar ab ai aq ad bk br bb bi bq bd c len) 23)), .v (.bool (ansB (strsP47rwT cb cs cr cw cx db ds dr dw dx T M r0 r1 r2 r3 r4 r5 r6 r7 ip fc fp fz fs fo fd x0 x1 x2 x3 x4 x5 x6 x7 cond ak ar ab ai aq ad bk br bb bi bq bd c len) 24))], [.cells [.ptr 1 0, .v (.int .u32 cb), .v (.int .u32 cs), .v (.bool cr), .v (.bool cw), .v (.bool cx), .v (.int .u32 db), .v (.int .u32 ds), .v (.bool dr), .v (.bool dw), .v (.bool dx)] T, .cells [.mp 2] T2, .bm .u32 .u8 (ansM (strsP47rwT cb cs cr cw cx db ds dr dw dx T M r0 r1 r2 r3 r4 r5 r6 r7 ip fc fp fz fs fo fd x0 x1 x2 x3 x4 x5 x6 x7 cond ak ar ab ai aq ad bk br bb bi bq bd c len) 1)]) := by
  rw [strsR47rw_form]
  have h := strsP47rw_tree cb cs cr cw cx db ds dr dw dx T M r0 r1 r2 r3 r4 r5 r6 r7 ip fc fp fz fs fo fd x0 x1 x2 x3 x4 x5 x6 x7 cond ak ar ab ai aq ad bk br bb bi bq bd c len
  rw [h]
  simp only [Bool.and_eq_true] at hg
  simp only [hg, Bool.and_self, Bool.and_true, Bool.true_and, cond_true]
  cases fd <;> (
    cases h1 : (r1 == 0)
    rotate_left
    · simp only [cond_true]; rfl
    cases h7 : (segE db ds r7 4 (mayV dr dw dx 1) != 0) <;> (simp only [h1, h7, cond_true, cond_false]; first | rfl | (rw [stV_lo]; rfl) | (rw [ld_lo]; rfl)))
noncomputable def strsRB (R : Type) (m : List SObj) (k : Sv → List SObj → Option R) (b : Nat) (g : Nat) (cb : Int) (cs : Int) (cr : Bool) (cw : Bool) (cx : Bool) (db : Int) (ds : Int) (dr : Bool) (dw : Bool) (dx : Bool) (T : TypeId) (M : Int → Int) (j : Nat) (T2 : TypeId) (r0 : Int) (r1 : Int) (r2 : Int) (r3 : Int) (r4 : Int) (r5 : Int) (r6 : Int) (r7 : Int) (ip : Int) (fc : Bool) (fp : Bool) (fz : Bool) (fs : Bool) (fo : Bool) (fd : Bool) (x0 : Int) (x1 : Int) (x2 : Int) (x3 : Int) (x4 : Int) (x5 : Int) (x6 : Int) (x7 : Int) (op : Int) (cond : Int) (size : Int) (ak : Int) (ar : Int) (ab : Int) (ai : Int) (aq : Int) (ad : Int) (bk : Int) (br : Int) (bb : Int) (bi : Int) (bq : Int) (bd : Int) (c : Int) (rep : Bool) (len : Int) : Option R :=
  bif (in32 r0 && (in32 r1 && (in32 r2 && (in32 r3 && (in32 r4 && (in32 r5 && (in32 r6 && (in32 r7 && (in32 db && (in32 ds)))))))))) && (!(b == g) && (!(b == j) && !(g == j))) then (bif (op == 46) && ((size == 1) && (!rep)) then k (.tup [.agg [.v (.int .u32 (ansI (strsP46bT cb cs cr cw cx db ds dr dw dx T M r0 r1 r2 r3 r4 r5 r6 r7 ip fc fp fz fs fo fd x0 x1 x2 x3 x4 x5 x6 x7 cond ak ar ab ai aq ad bk br bb bi bq bd c len) 0)), .v (.int .u32 (ansI (strsP46bT cb cs cr cw cx db ds dr dw dx T M r0 r1 r2 r3 r4 r5 r6 r7 ip fc fp fz fs fo fd x0 x1 x2 x3 x4 x5 x6 x7 cond ak ar ab ai aq ad bk br bb bi bq bd c len) 1)), .v (.int .u32 (ansI (strsP46bT cb cs cr cw cx db ds dr dw dx T M r0 r1 r2 r3 r4 r5 r6 r7 ip fc fp fz fs fo fd x0 x1 x2 x3 x4 x5 x6 x7 cond ak ar ab ai aq ad bk br bb bi bq bd c len) 2)), .v (.int .u32 (ansI (strsP46bT cb cs cr cw cx db ds dr dw dx T M r0 r1 r2 r3 r4 r5 r6 r7 ip fc fp fz fs fo fd x0 x1 x2 x3 x4 x5 x6 x7 cond ak ar ab ai aq ad bk br bb bi bq bd c len) 3)), .v (.int .u32 (ansI (strsP46bT cb cs cr cw cx db ds dr dw dx T M r0 r1 r2 r3 r4 r5 r6 r7 ip fc fp fz fs fo fd x0 x1 x2 x3 x4 x5 x6 x7 cond ak ar ab ai aq ad bk br bb bi bq bd c len) 4)), .v (.int .u32 (ansI (strsP46bT cb cs cr cw cx db ds dr dw dx T M r0 r1 r2 r3 r4 r5 r6 r7 ip fc fp fz fs fo fd x0 x1 x2 x3 x4 x5 x6 x7 cond ak ar ab ai aq ad bk br bb bi bq bd c len) 5)), .v (.int .u32 (ansI (strsP46bT cb cs cr cw cx db ds dr dw dx T M r0 r1 r2 r3 r4 r5 r6 r7 ip fc fp fz fs fo fd x0 x1 x2 x3 x4 x5 x6 x7 cond ak ar ab ai aq ad bk br bb bi bq bd c len) 6)), .v (.int .u32 (ansI (strsP46bT cb cs cr cw cx db ds dr dw dx T M r0 r1 r2 r3 r4 r5 r6 r7 ip fc fp fz fs fo fd x0 x1 x2 x3 x4 x5 x6 x7 cond ak ar ab ai aq ad bk br bb bi bq bd c len) 7)), .v (.int .u32 (ansI (strsP46bT cb cs cr cw cx db ds dr dw dx T M r0 r1 r2 r3 r4 r5 r6 r7 ip fc fp fz fs fo fd x0 x1 x2 x3 x4 x5 x6 x7 cond ak ar ab ai aq ad bk br bb bi bq bd c len) 8)), .v (.bool (ansB (strsP46bT cb cs cr cw cx db ds dr dw dx T M r0 r1 r2 r3 r4 r5 r6 r7 ip fc fp fz fs fo fd x0 x1 x2 x3 x4 x5 x6 x7 cond ak ar ab ai aq ad bk br bb bi bq bd c len) 9)), .v (.bool (ansB (strsP46bT cb cs cr cw cx db ds dr dw dx T M r0 r1 r2 r3 r4 r5 r6 r7 ip fc fp fz fs fo fd x0 x1 x2 x3 x4 x5 x6 x7 cond ak ar ab ai aq ad bk br bb bi bq bd c len) 10)), .v (.bool (ansB (strsP46bT cb cs cr cw cx db ds dr dw dx T M r0 r1 r2 r3 r4 r5 r6 r7 ip fc fp fz fs fo fd x0 x1 x2 x3 x4 x5 x6 x7 cond ak ar ab ai aq ad bk br bb bi bq bd c len) 11)), .v (.bool (ansB (strsP46bT cb cs cr cw cx db ds dr dw dx T M r0 r1 r2 r3 r4 r5 r6 r7 ip fc fp fz fs fo fd x0 x1 x2 x3 x4 x5 x6 x7 cond ak ar ab ai aq ad bk br bb bi bq bd c len) 12)), .v (.bool (ansB (strsP46bT cb cs cr cw cx db ds dr dw dx T M r0 r1 r2 r3 r4 r5 r6 r7 ip fc fp fz fs fo fd x0 x1 x2 x3 x4 x5 x6 x7 cond ak ar ab ai aq ad bk br bb bi bq bd c len) 13)), .v (.bool (ansB (strsP46bT cb cs cr cw cx db ds dr dw dx T M r0 r1 r2 r3 r4 r5 r6 r7 ip fc fp fz fs fo fd x0 x1 x2 x3 x4 x5 x6 x7 cond ak ar ab ai aq ad bk br bb bi bq bd c len) 14)), .v (.int .u64 (ansI (strsP46bT cb cs cr cw cx db ds dr dw dx T M r0 r1 r2 r3 r4 r5 r6 r7 ip fc fp fz fs fo fd x0 x1 x2 x3 x4 x5 x6 x7 cond ak ar ab ai aq ad bk br bb bi bq bd c len) 15)), .v (.int .u64 (ansI (strsP46bT cb cs cr cw cx db ds dr dw dx T M r0 r1 r2 r3 r4 r5 r6 r7 ip fc fp fz fs fo fd x0 x1 x2 x3 x4 x5 x6 x7 cond ak ar ab ai aq ad bk br bb bi bq bd c len) 16)), .v (.int .u64 (ansI (strsP46bT cb cs cr cw cx db ds dr dw dx T M r0 r1 r2 r3 r4 r5 r6 r7 ip fc fp fz fs fo fd x0 x1 x2 x3 x4 x5 x6 x7 cond ak ar ab ai aq ad bk br bb bi bq bd c len) 17)), .v (.int .u64 (ansI (strsP46bT cb cs cr cw cx db ds dr dw dx T M r0 r1 r2 r3 r4 r5 r6 r7 ip fc fp fz fs fo fd x0 x1 x2 x3 x4 x5 x6 x7 cond ak ar ab ai aq ad bk br bb bi bq bd c len) 18)), .v (.int .u64 (ansI (strsP46bT cb cs cr cw cx db ds dr dw dx T M r0 r1 r2 r3 r4 r5 r6 r7 ip fc fp fz fs fo fd x0 x1 x2 x3 x4 x5 x6 x7 cond ak ar ab ai aq ad bk br bb bi bq bd c len) 19)), .v (.int .u64 (ansI (strsP46bT cb cs cr cw cx db ds dr dw dx T M r0 r1 r2 r3 r4 r5 r6 r7 ip fc fp fz fs fo fd x0 x1 x2 x3 x4 x5 x6 x7 cond ak ar ab ai aq ad bk br bb bi bq bd c len) 20)), .v (.int .u64 (ansI (strsP46bT cb cs cr cw cx db ds dr dw dx T M r0 r1 r2 r3 r4 r5 r6 r7 ip fc fp fz fs fo fd x0 x1 x2 x3 x4 x5 x6 x7 cond ak ar ab ai aq ad bk br bb bi bq bd c len) 21)), .v (.int .u64 (ansI (strsP46bT cb cs cr cw cx db ds dr dw dx T M r0 r1 r2 r3 r4 r5 r6 r7 ip fc fp fz fs fo fd x0 x1 x2 x3 x4 x5 x6 x7 cond ak ar ab ai aq ad bk br bb bi bq bd c len) 22))], .v (.int .i64 (ansI (strsP46bT cb cs cr cw cx db ds dr dw dx T M r0 r1 r2 r3 r4 r5 r6 r7 ip fc fp fz fs fo fd x0 x1 x2 x3 x4 x5 x6 x7 cond ak ar ab ai aq ad bk br bb bi bq bd c len) 23)), .v (.bool (ansB (strsP46bT cb cs cr cw cx db ds dr dw dx T M r0 r1 r2 r3 r4 r5 r6 r7 ip fc fp fz fs fo fd x0 x1 x2 x3 x4 x5 x6 x7 cond ak ar ab ai aq ad bk br bb bi bq bd c len) 24))]) ((((m.set b (.cells [.ptr g 0, .v (.int .u32 cb), .v (.int .u32 cs), .v (.bool cr), .v (.bool cw), .v (.bool cx), .v (.int .u32 db), .v (.int .u32 ds), .v (.bool dr), .v (.bool dw), .v (.bool dx)] T)).set g (.cells [.mp j] T2)).set j (.bm .u32 .u8 (ansM (strsP46bT cb cs cr cw cx db ds dr dw dx T M r0 r1 r2 r3 r4 r5 r6 r7 ip fc fp fz fs fo fd x0 x1 x2 x3 x4 x5 x6 x7 cond ak ar ab ai aq ad bk br bb bi bq bd c len) 1))) ++ []) else bif (op == 46) && ((size == 4) && (!rep)) then k (.tup [.agg [.v (.int .u32 (ansI (strsP46wT cb cs cr cw cx db ds dr dw dx T M r0 r1 r2 r3 r4 r5 r6 r7 ip fc fp fz fs fo fd x0 x1 x2 x3 x4 x5 x6 x7 cond ak ar ab ai aq ad bk br bb bi bq bd c len) 0)), .v (.int .u32 (ansI (strsP46wT cb cs cr cw cx db ds dr dw dx T M r0 r1 r2 r3 r4 r5 r6 r7 ip fc fp fz fs fo fd x0 x1 x2 x3 x4 x5 x6 x7 cond ak ar ab ai aq ad bk br bb bi bq bd c len) 1)), .v (.int .u32 (ansI (strsP46wT cb cs cr cw cx db ds dr dw dx T M r0 r1 r2 r3 r4 r5 r6 r7 ip fc fp fz fs fo fd x0 x1 x2 x3 x4 x5 x6 x7 cond ak ar ab ai aq ad bk br bb bi bq bd c len) 2)), .v (.int .u32 (ansI (strsP46wT cb cs cr cw cx db ds dr dw dx T M r0 r1 r2 r3 r4 r5 r6 r7 ip fc fp fz fs fo fd x0 x1 x2 x3 x4 x5 x6 x7 cond ak ar ab ai aq ad bk br bb bi bq bd c len) 3)), .v (.int .u32 (ansI (strsP46wT cb cs cr cw cx db ds dr dw dx T M r0 r1 r2 r3 r4 r5 r6 r7 ip fc fp fz fs fo fd x0 x1 x2 x3 x4 x5 x6 x7 cond ak ar ab ai aq ad bk br bb bi bq bd c len) 4)), .v (.int .u32 (ansI (strsP46wT cb cs cr cw cx db ds dr dw dx T M r0 r1 r2 r3 r4 r5 r6 r7 ip fc fp fz fs fo fd x0 x1 x2 x3 x4 x5 x6 x7 cond ak ar ab ai aq ad bk br bb bi bq bd c len) 5)), .v (.int .u32 (ansI (strsP46wT cb cs cr cw cx db ds dr dw dx T M r0 r1 r2 r3 r4 r5 r6 r7 ip fc fp fz fs fo fd x0 x1 x2 x3 x4 x5 x6 x7 cond ak ar ab ai aq ad bk br bb bi bq bd c len) 6)), .v (.int .u32 (ansI (strsP46wT cb cs cr cw cx db ds dr dw dx T M r0 r1 r2 r3 r4 r5 r6 r7 ip fc fp fz fs fo fd x0 x1 x2 x3 x4 x5 x6 x7 cond ak ar ab ai aq ad bk br bb bi bq bd c len) 7)), .v (.int .u32 (ansI (strsP46wT cb cs cr cw cx db ds dr dw dx T M r0 r1 r2 r3 r4 r5 r6 r7 ip fc fp fz fs fo fd x0 x1 x2 x3 x4 x5 x6 x7 cond ak ar ab ai aq ad bk br bb bi bq bd c len) 8)), .v (.bool (ansB (strsP46wT cb cs cr cw cx db ds dr dw dx T M r0 r1 r2 r3 r4 r5 r6 r7 ip fc fp fz fs fo fd x0 x1 x2 x3 x4 x5 x6 x7 cond ak ar ab ai aq ad bk br bb bi bq bd c len) 9)), .v (.bool (ansB (strsP46wT cb cs cr cw cx db ds dr dw dx T M r0 r1 r2 r3 r4 r5 r6 r7 ip fc fp fz fs fo fd x0 x1 x2 x3 x4 x5 x6 x7 cond ak ar ab ai aq ad bk br bb bi bq bd c len) 10)), .v (.bool (ansB (strsP46wT cb cs cr cw cx db ds dr dw dx T M r0 r1 r2 r3 r4 r5 r6 r7 ip fc fp fz fs fo fd x0 x1 x2 x3 x4 x5 x6 x7 cond ak ar ab ai aq ad bk br bb bi bq bd c len) 11)), .v (.bool (ansB (strsP46wT cb cs cr cw cx db ds dr dw dx T M r0 r1 r2 r3 r4 r5 r6 r7 ip fc fp fz fs fo fd x0 x1 x2 x3 x4 x5 x6 x7 cond ak ar ab ai aq ad bk br bb bi bq bd c len) 12)), .v (.bool (ansB (strsP46wT cb cs cr cw cx db ds dr dw dx T M r0 r1 r2 r3 r4 r5 r6 r7 ip fc fp fz fs fo fd x0 x1 x2 x3 x4 x5 x6 x7 cond ak ar ab ai aq ad bk br bb bi bq bd c len) 13)), .v (.bool (ansB (strsP46wT cb cs cr cw cx db ds dr dw dx T M r0 r1 r2 r3 r4 r5 r6 r7 ip fc fp fz fs fo fd x0 x1 x2 x3 x4 x5 x6 x7 cond ak ar ab ai aq ad bk br bb bi bq bd c len) 14)), .v (.int .u64 (ansI (strsP46wT cb cs cr cw cx db ds dr dw dx T M r0 r1 r2 r3 r4 r5 r6 r7 ip fc fp fz fs fo fd x0 x1 x2 x3 x4 x5 x6 x7 cond ak ar ab ai aq ad bk br bb bi bq bd c len) 15)), .v (.int .u64 (ansI (strsP46wT cb cs cr cw cx db ds dr dw dx T M r0 r1 r2 r3 r4 r5 r6 r7 ip fc fp fz fs fo fd x0 x1 x2 x3 x4 x5 x6 x7 cond ak ar ab ai aq ad bk br bb bi bq bd c len) 16)), .v (.int .u64 (ansI (strsP46wT cb cs cr cw cx db ds dr dw dx T M r0 r1 r2 r3 r4 r5 r6 r7 ip fc fp fz fs fo fd x0 x1 x2 x3 x4 x5 x6 x7 cond ak ar ab ai aq ad bk br bb bi bq bd c len) 17)), .v (.int .u64 (ansI (strsP46wT cb cs cr cw cx db ds dr dw dx T M r0 r1 r2 r3 r4 r5 r6 r7 ip fc fp fz fs fo fd x0 x1 x2 x3 x4 x5 x6 x7 cond ak ar ab ai aq ad bk br bb bi bq bd c len) 18)), .v (.int .u64 (ansI (strsP46wT cb cs cr cw cx db ds dr dw dx T M r0 r1 r2 r3 r4 r5 r6 r7 ip fc fp fz fs fo fd x0 x1 x2 x3 x4 x5 x6 x7 cond ak ar ab ai aq ad bk br bb bi bq bd c len) 19)), .v (.int .u64 (ansI (strsP46wT cb cs cr cw cx db ds dr dw dx T M r0 r1 r2 r3 r4 r5 r6 r7 ip fc fp fz fs fo fd x0 x1 x2 x3 x4 x5 x6 x7 cond ak ar ab ai aq ad bk br bb bi bq bd c len) 20)), .v (.int .u64 (ansI (strsP46wT cb cs cr cw cx db ds dr dw dx T M r0 r1 r2 r3 r4 r5 r6 r7 ip fc fp fz fs fo fd x0 x1 x2 x3 x4 x5 x6 x7 cond ak ar ab ai aq ad bk br bb bi bq bd c len) 21)), .v (.int .u64 (ansI (strsP46wT cb cs cr cw cx db ds dr dw dx T M r0 r1 r2 r3 r4 r5 r6 r7 ip fc fp fz fs fo fd x0 x1 x2 x3 x4 x5 x6 x7 cond ak ar ab ai aq ad bk br bb bi bq bd c len) 22))], .v (.int .i64 (ansI (strsP46wT cb cs cr cw cx db ds dr dw dx T M r0 r1 r2 r3 r4 r5 r6 r7 ip fc fp fz fs fo fd x0 x1 x2 x3 x4 x5 x6 x7 cond ak ar ab ai aq ad bk br bb bi bq bd c len) 23)), .v (.bool (ansB (strsP46wT cb cs cr cw cx db ds dr dw dx T M r0 r1 r2 r3 r4 r5 r6 r7 ip fc fp fz fs fo fd x0 x1 x2 x3 x4 x5 x6 x7 cond ak ar ab ai aq ad bk br bb bi bq bd c len) 24))]) ((((m.set b (.cells [.ptr g 0, .v (.int .u32 cb), .v (.int .u32 cs), .v (.bool cr), .v (.bool cw), .v (.bool cx), .v (.int .u32 db), .v (.int .u32 ds), .v (.bool dr), .v (.bool dw), .v (.bool dx)] T)).set g (.cells [.mp j] T2)).set j (.bm .u32 .u8 (ansM (strsP46wT cb cs cr cw cx db ds dr dw dx T M r0 r1 r2 r3 r4 r5 r6 r7 ip fc fp fz fs fo fd x0 x1 x2 x3 x4 x5 x6 x7 cond ak ar ab ai aq ad bk br bb bi bq bd c len) 1))) ++ []) else bif (op == 47) && ((size == 1) && (!rep)) then k (.tup [.agg [.v (.int .u32 (ansI (strsP47bT cb cs cr cw cx db ds dr dw dx T M r0 r1 r2 r3 r4 r5 r6 r7 ip fc fp fz fs fo fd x0 x1 x2 x3 x4 x5 x6 x7 cond ak ar ab ai aq ad bk br bb bi bq bd c len) 0)), .v (.int .u32 (ansI (strsP47bT cb cs cr cw cx db ds dr dw dx T M r0 r1 r2 r3 r4 r5 r6 r7 ip fc fp fz fs fo fd x0 x1 x2 x3 x4 x5 x6 x7 cond ak ar ab ai aq ad bk br bb bi bq bd c len) 1)), .v (.int .u32 (ansI (strsP47bT cb cs cr cw cx db ds dr dw dx T M r0 r1 r2 r3 r4 r5 r6 r7 ip fc fp fz fs fo fd x0 x1 x2 x3 x4 x5 x6 x7 cond ak ar ab ai aq ad bk br bb bi bq bd c len) 2)), .v (.int .u32 (ansI (strsP47bT cb cs cr cw cx db ds dr dw dx T M r0 r1 r2 r3 r4 r5 r6 r7 ip fc fp fz fs fo fd x0 x1 x2 x3 x4 x5 x6 x7 cond ak ar ab ai aq ad bk br bb bi bq bd c len) 3)), .v (.int .u32 (ansI (strsP47bT cb cs cr cw cx db ds dr dw dx T M r0 r1 r2 r3 r4 r5 r6 r7 ip fc fp fz fs fo fd x0 x1 x2 x3 x4 x5 x6 x7 cond ak ar ab ai aq ad bk br bb bi bq bd c len) 4)), .v (.int .u32 (ansI (strsP47bT cb cs cr cw cx db ds dr dw dx T M r0 r1 r2 r3 r4 r5 r6 r7 ip fc fp fz fs fo fd x0 x1 x2 x3 x4 x5 x6 x7 cond ak ar ab ai aq ad bk br bb bi bq bd c len) 5)), .v (.int .u32 (ansI (strsP47bT cb cs cr cw cx db ds dr dw dx T M r0 r1 r2 r3 r4 r5 r6 r7 ip fc fp fz fs fo fd x0 x1 x2 x3 x4 x5 x6 x7 cond ak ar ab ai aq ad bk br bb bi bq bd c len) 6)), .v (.int .u32 (ansI (strsP47bT cb cs cr cw cx db ds dr dw dx T M r0 r1 r2 r3 r4 r5 r6 r7 ip fc fp fz fs fo fd x0 x1 x2 x3 x4 x5 x6 x7 cond ak ar ab ai aq ad bk br bb bi bq bd c len) 7)), .v (.int .u32 (ansI (strsP47bT cb cs cr cw cx db ds dr dw dx T M r0 r1 r2 r3 r4 r5 r6 r7 ip fc fp fz fs fo fd x0 x1 x2 x3 x4 x5 x6 x7 cond ak ar ab ai aq ad bk br bb bi bq bd c len) 8)), .v (.bool (ansB (strsP47bT cb cs cr cw cx db ds dr dw dx T M r0 r1 r2 r3 r4 r5 r6 r7 ip fc fp fz fs fo fd x0 x1 x2 x3 x4 x5 x6 x7 cond ak ar ab ai aq ad bk br bb bi bq bd c len) 9)), .v (.bool (ansB (strsP47bT cb cs cr cw cx db ds dr dw dx T M r0 r1 r2 r3 r4 r5 r6 r7 ip fc fp fz fs fo fd x0 x1 x2 x3 x4 x5 x6 x7 cond ak ar ab ai aq ad bk br bb bi bq bd c len) 10)), .v (.bool (ansB (strsP47bT cb cs cr cw cx db ds dr dw dx T M r0 r1 r2 r3 r4 r5 r6 r7 ip fc fp fz fs fo fd x0 x1 x2 x3 x4 x5 x6 x7 cond ak ar ab ai aq ad bk br bb bi bq bd c len) 11)), .v (.bool (ansB (strsP47bT cb cs cr cw cx db ds dr dw dx T M r0 r1 r2 r3 r4 r5 r6 r7 ip fc fp fz fs fo fd x0 x1 x2 x3 x4 x5 x6 x7 cond ak ar ab ai aq ad bk br bb bi bq bd c len) 12)), .v (.bool (ansB (strsP47bT cb cs cr cw cx db ds dr dw dx T M r0 r1 r2 r3 r4 r5 r6 r7 ip fc fp fz fs fo fd x0 x1 x2 x3 x4 x5 x6 x7 cond ak ar ab ai aq ad bk br bb bi bq bd c len) 13)), .v (.bool (ansB (strsP47bT cb cs cr cw cx db ds dr dw dx T M r0 r1 r2 r3 r4 r5 r6 r7 ip fc fp fz fs fo fd x0 x1 x2 x3 x4 x5 x6 x7 cond ak ar ab ai aq ad bk br bb bi bq bd c len) 14)), .v (.int .u64 (ansI (strsP47bT cb cs cr cw cx db ds dr dw dx T M r0 r1 r2 r3 r4 r5 r6 r7 ip fc fp fz fs fo fd x0 x1 x2 x3 x4 x5 x6 x7 cond ak ar ab ai aq ad bk br bb bi bq bd c len) 15)), .v (.int .u64 (ansI (strsP47bT cb cs cr cw cx db ds dr dw dx T M r0 r1 r2 r3 r4 r5 r6 r7 ip fc fp fz fs fo fd x0 x1 x2 x3 x4 x5 x6 x7 cond ak ar ab ai aq ad bk br bb bi bq bd c len) 16)), .v (.int .u64 (ansI (strsP47bT cb cs cr cw cx db ds dr dw dx T M r0 r1 r2 r3 r4 r5 r6 r7 ip fc fp fz fs fo fd x0 x1 x2 x3 x4 x5 x6 x7 cond ak ar ab ai aq ad bk br bb bi bq bd c len) 17)), .v (.int .u64 (ansI (strsP47bT cb cs cr cw cx db ds dr dw dx T M r0 r1 r2 r3 r4 r5 r6 r7 ip fc fp fz fs fo fd x0 x1 x2 x3 x4 x5 x6 x7 cond ak ar ab ai aq ad bk br bb bi bq bd c len) 18)), .v (.int .u64 (ansI (strsP47bT cb cs cr cw cx db ds dr dw dx T M r0 r1 r2 r3 r4 r5 r6 r7 ip fc fp fz fs fo fd x0 x1 x2 x3 x4 x5 x6 x7 cond ak ar ab ai aq ad bk br bb bi bq bd c len) 19)), .v (.int .u64 (ansI (strsP47bT cb cs cr cw cx db ds dr dw dx T M r0 r1 r2 r3 r4 r5 r6 r7 ip fc fp fz fs fo fd x0 x1 x2 x3 x4 x5 x6 x7 cond ak ar ab ai aq ad bk br bb bi bq bd c len) 20)), .v (.int .u64 (ansI (strsP47bT cb cs cr cw cx db ds dr dw dx T M r0 r1 r2 r3 r4 r5 r6 r7 ip fc fp fz fs fo fd x0 x1 x2 x3 x4 x5 x6 x7 cond ak ar ab ai aq ad bk br bb bi bq bd c len) 21)), .v (.int .u64 (ansI (strsP47bT cb cs cr cw cx db ds dr dw dx T M r0 r1 r2 r3 r4 r5 r6 r7 ip fc fp fz fs fo fd x0 x1 x2 x3 x4 x5 x6 x7 cond ak ar ab ai aq ad bk br bb bi bq bd c len) 22))], .v (.int .i64 (ansI (strsP47bT cb cs cr cw cx db ds dr dw dx T M r0 r1 r2 r3 r4 r5 r6 r7 ip fc fp fz fs fo fd x0 x1 x2 x3 x4 x5 x6 x7 cond ak ar ab ai aq ad bk br bb bi bq bd c len) 23)), .v (.bool (ansB (strsP47bT cb cs cr cw cx db ds dr dw dx T M r0 r1 r2 r3 r4 r5 r6 r7 ip fc fp fz fs fo fd x0 x1 x2 x3 x4 x5 x6 x7 cond ak ar ab ai aq ad bk br bb bi bq bd c len) 24))]) ((((m.set b (.cells [.ptr g 0, .v (.int .u32 cb), .v (.int .u32 cs), .v (.bool cr), .v (.bool cw), .v (.bool cx), .v (.int .u32 db), .v (.int .u32 ds), .v (.bool dr), .v (.bool dw), .v (.bool dx)] T)).set g (.cells [.mp j] T2)).set j (.bm .u32 .u8 (ansM (strsP47bT cb cs cr cw cx db ds dr dw dx T M r0 r1 r2 r3 r4 r5 r6 r7 ip fc fp fz fs fo fd x0 x1 x2 x3 x4 x5 x6 x7 cond ak ar ab ai aq ad bk br bb bi bq bd c len) 1))) ++ []) else bif (op == 47) && ((size == 4) && (!rep)) then k (.tup [.agg [.v (.int .u32 (ansI (strsP47wT cb cs cr cw cx db ds dr dw dx T M r0 r1 r2 r3 r4 r5 r6 r7 ip fc fp fz fs fo fd x0 x1 x2 x3 x4 x5 x6 x7 cond ak ar ab ai aq ad bk br bb bi bq bd c len) 0)), .v (.int .u32 (ansI (strsP47wT cb cs cr cw cx db ds dr dw dx T M r0 r1 r2 r3 r4 r5 r6 r7 ip fc fp fz fs fo fd x0 x1 x2 x3 x4 x5 x6 x7 cond ak ar ab ai aq ad bk br bb bi bq bd c len) 1)), .v (.int .u32 (ansI (strsP47wT cb cs cr cw cx db ds dr dw dx T M r0 r1 r2 r3 r4 r5 r6 r7 ip fc fp fz fs fo fd x0 x1 x2 x3 x4 x5 x6 x7 cond ak ar ab ai aq ad bk br bb bi bq bd c len) 2)), .v (.int .u32 (ansI (strsP47wT cb cs cr cw cx db ds dr dw dx T M r0 r1 r2 r3 r4 r5 r6 r7 ip fc fp fz fs fo fd x0 x1 x2 x3 x4 x5 x6 x7 cond ak ar ab ai aq ad bk br bb bi bq bd c len) 3)), .v (.int .u32 (ansI (strsP47wT cb cs cr cw cx db ds dr dw dx T M r0 r1 r2 r3 r4 r5 r6 r7 ip fc fp fz fs fo fd x0 x1 x2 x3 x4 x5 x6 x7 cond ak ar ab ai aq ad bk br bb bi bq bd c len) 4)), .v (.int .u32 (ansI (strsP47wT cb cs cr cw cx db ds dr dw dx T M r0 r1 r2 r3 r4 r5 r6 r7 ip fc fp fz fs fo fd x0 x1 x2 x3 x4 x5 x6 x7 cond ak ar ab ai aq ad bk br bb bi bq bd c len) 5)), .v (.int .u32 (ansI (strsP47wT cb cs cr cw cx db ds dr dw dx T M r0 r1 r2 r3 r4 r5 r6 r7 ip fc fp fz fs fo fd x0 x1 x2 x3 x4 x5 x6 x7 cond ak ar ab ai aq ad bk br bb bi bq bd c len) 6)), .v (.int .u32 (ansI (strsP47wT cb cs cr cw cx db ds dr dw dx T M r0 r1 r2 r3 r4 r5 r6 r7 ip fc fp fz fs fo fd x0 x1 x2 x3 x4 x5 x6 x7 cond ak ar ab ai aq ad bk br bb bi bq bd c len) 7)), .v (.int .u32 (ansI (strsP47wT cb cs cr cw cx db ds dr dw dx T M r0 r1 r2 r3 r4 r5 r6 r7 ip fc fp fz fs fo fd x0 x1 x2 x3 x4 x5 x6 x7 cond ak ar ab ai aq ad bk br bb bi bq bd c len) 8)), .v (.bool (ansB (strsP47wT cb cs cr cw cx db ds dr dw dx T M r0 r1 r2 r3 r4 r5 r6 r7 ip fc fp fz fs fo fd x0 x1 x2 x3 x4 x5 x6 x7 cond ak ar ab ai aq ad bk br bb bi bq bd c len) 9)), .v (.bool (ansB (strsP47wT cb cs cr cw cx db ds dr dw dx T M r0 r1 r2 r3 r4 r5 r6 r7 ip fc fp fz fs fo fd x0 x1 x2 x3 x4 x5 x6 x7 cond ak ar ab ai aq ad bk br bb bi bq bd c len) 10)), .v (.bool (ansB (strsP47wT cb cs cr cw cx db ds dr dw dx T M r0 r1 r2 r3 r4 r5 r6 r7 ip fc fp fz fs fo fd x0 x1 x2 x3 x4 x5 x6 x7 cond ak ar ab ai aq ad bk br bb bi bq bd c len) 11)), .v (.bool (ansB (strsP47wT cb cs cr cw cx db ds dr dw dx T M r0 r1 r2 r3 r4 r5 r6 r7 ip fc fp fz fs fo fd x0 x1 x2 x3 x4 x5 x6 x7 cond ak ar ab ai aq ad bk br bb bi bq bd c len) 12)), .v (.bool (ansB (strsP47wT cb cs cr cw cx db ds dr dw dx T M r0 r1 r2 r3 r4 r5 r6 r7 ip fc fp fz fs fo fd x0 x1 x2 x3 x4 x5 x6 x7 cond ak ar ab ai aq ad bk br bb bi bq bd c len) 13)), .v (.bool (ansB (strsP47wT cb cs cr cw cx db ds dr dw dx T M r0 r1 r2 r3 r4 r5 r6 r7 ip fc fp fz fs fo fd x0 x1 x2 x3 x4 x5 x6 x7 cond ak ar ab ai aq ad bk br bb bi bq bd c len) 14)), .v (.int .u64 (ansI (strsP47wT cb cs cr cw cx db ds dr dw dx T M r0 r1 r2 r3 r4 r5 r6 r7 ip fc fp fz fs fo fd x0 x1 x2 x3 x4 x5 x6 x7 cond ak ar ab ai aq ad bk br bb bi bq bd c len) 15)), .v (.int .u64 (ansI (strsP47wT cb cs cr cw cx db ds dr dw dx T M r0 r1 r2 r3 r4 r5 r6 r7 ip fc fp fz fs fo fd x0 x1 x2 x3 x4 x5 x6 x7 cond ak ar ab ai aq ad bk br bb bi bq bd c len) 16)), .v (.int .u64 (ansI (strsP47wT cb cs cr cw cx db ds dr dw dx T M r0 r1 r2 r3 r4 r5 r6 r7 ip fc fp fz fs fo fd x0 x1 x2 x3 x4 x5 x6 x7 cond ak ar ab ai aq ad bk br bb bi bq bd c len) 17)), .v (.int .u64 (ansI (strsP47wT cb cs cr cw cx db ds dr dw dx T M r0 r1 r2 r3 r4 r5 r6 r7 ip fc fp fz fs fo fd x0 x1 x2 x3 x4 x5 x6 x7 cond ak ar ab ai aq ad bk br bb bi bq bd c len) 18)), .v (.int .u64 (ansI (strsP47wT cb cs cr cw cx db ds dr dw dx T M r0 r1 r2 r3 r4 r5 r6 r7 ip fc fp fz fs fo fd x0 x1 x2 x3 x4 x5 x6 x7 cond ak ar ab ai aq ad bk br bb bi bq bd c len) 19)), .v (.int .u64 (ansI (strsP47wT cb cs cr cw cx db ds dr dw dx T M r0 r1 r2 r3 r4 r5 r6 r7 ip fc fp fz fs fo fd x0 x1 x2 x3 x4 x5 x6 x7 cond ak ar ab ai aq ad bk br bb bi bq bd c len) 20)), .v (.int .u64 (ansI (strsP47wT cb cs cr cw cx db ds dr dw dx T M r0 r1 r2 r3 r4 r5 r6 r7 ip fc fp fz fs fo fd x0 x1 x2 x3 x4 x5 x6 x7 cond ak ar ab ai aq ad bk br bb bi bq bd c len) 21)), .v (.int .u64 (ansI (strsP47wT cb cs cr cw cx db ds dr dw dx T M r0 r1 r2 r3 r4 r5 r6 r7 ip fc fp fz fs fo fd x0 x1 x2 x3 x4 x5 x6 x7 cond ak ar ab ai aq ad bk br bb bi bq bd c len) 22))], .v (.int .i64 (ansI (strsP47wT cb cs cr cw cx db ds dr dw dx T M r0 r1 r2 r3 r4 r5 r6 r7 ip fc fp fz fs fo fd x0 x1 x2 x3 x4 x5 x6 x7 cond ak ar ab ai aq ad bk br bb bi bq bd c len) 23)), .v (.bool (ansB (strsP47wT cb cs cr cw cx db ds dr dw dx T M r0 r1 r2 r3 r4 r5 r6 r7 ip fc fp fz fs fo fd x0 x1 x2 x3 x4 x5 x6 x7 cond ak ar ab ai aq ad bk br bb bi bq bd c len) 24))]) ((((m.set b (.cells [.ptr g 0, .v (.int .u32 cb), .v (.int .u32 cs), .v (.bool cr), .v (.bool cw), .v (.bool cx), .v (.int .u32 db), .v (.int .u32 ds), .v (.bool dr), .v (.bool dw), .v (.bool dx)] T)).set g (.cells [.mp j] T2)).set j (.bm .u32 .u8 (ansM (strsP47wT cb cs cr cw cx db ds dr dw dx T M r0 r1 r2 r3 r4 r5 r6 r7 ip fc fp fz fs fo fd x0 x1 x2 x3 x4 x5 x6 x7 cond ak ar ab ai aq ad bk br bb bi bq bd c len) 1))) ++ []) else bif (op == 48) && ((size == 1) && (!rep)) then k (.tup [.agg [.v (.int .u32 (ansI (strsP48bT cb cs cr cw cx db ds dr dw dx T M r0 r1 r2 r3 r4 r5 r6 r7 ip fc fp fz fs fo fd x0 x1 x2 x3 x4 x5 x6 x7 cond ak ar ab ai aq ad bk br bb bi bq bd c len) 0)), .v (.int .u32 (ansI (strsP48bT cb cs cr cw cx db ds dr dw dx T M r0 r1 r2 r3 r4 r5 r6 r7 ip fc fp fz fs fo fd x0 x1 x2 x3 x4 x5 x6 x7 cond ak ar ab ai aq ad bk br bb bi bq bd c len) 1)), .v (.int .u32 (ansI (strsP48bT cb cs cr cw cx db ds dr dw dx T M r0 r1 r2 r3 r4 r5 r6 r7 ip fc fp fz fs fo fd x0 x1 x2 x3 x4 x5 x6 x7 cond ak ar ab ai aq ad bk br bb bi bq bd c len) 2)), .v (.int .u32 (ansI (strsP48bT cb cs cr cw cx db ds dr dw dx T M r0 r1 r2 r3 r4 r5 r6 r7 ip fc fp fz fs fo fd x0 x1 x2 x3 x4 x5 x6 x7 cond ak ar ab ai aq ad bk br bb bi bq bd c len) 3)), .v (.int .u32 (ansI (strsP48bT cb cs cr cw cx db ds dr dw dx T M r0 r1 r2 r3 r4 r5 r6 r7 ip fc fp fz fs fo fd x0 x1 x2 x3 x4 x5 x6 x7 cond ak ar ab ai aq ad bk br bb bi bq bd c len) 4)), .v (.int .u32 (ansI (strsP48bT cb cs cr cw cx db ds dr dw dx T M r0 r1 r2 r3 r4 r5 r6 r7 ip fc fp fz fs fo fd x0 x1 x2 x3 x4 x5 x6 x7 cond ak ar ab ai aq ad bk br bb bi bq bd c len) 5)), .v (.int .u32 (ansI (strsP48bT cb cs cr cw cx db ds dr dw dx T M r0 r1 r2 r3 r4 r5 r6 r7 ip fc fp fz fs fo fd x0 x1 x2 x3 x4 x5 x6 x7 cond ak ar ab ai aq ad bk br bb bi bq bd c len) 6)), .v (.int .u32 (ansI (strsP48bT cb cs cr cw cx db ds dr dw dx T M r0 r1 r2 r3 r4 r5 r6 r7 ip fc fp fz fs fo fd x0 x1 x2 x3 x4 x5 x6 x7 cond ak ar ab ai aq ad bk br bb bi bq bd c len) 7)), .v (.int .u32 (ansI (strsP48bT cb cs cr cw cx db ds dr dw dx T M r0 r1 r2 r3 r4 r5 r6 r7 ip fc fp fz fs fo fd x0 x1 x2 x3 x4 x5 x6 x7 cond ak ar ab ai aq ad bk br bb bi bq bd c len) 8)), .v (.bool (ansB (strsP48bT cb cs cr cw cx db ds dr dw dx T M r0 r1 r2 r3 r4 r5 r6 r7 ip fc fp fz fs fo fd x0 x1 x2 x3 x4 x5 x6 x7 cond ak ar ab ai aq ad bk br bb bi bq bd c len) 9)), .v (.bool (ansB (strsP48bT cb cs cr cw cx db ds dr dw dx T M r0 r1 r2 r3 r4 r5 r6 r7 ip fc fp fz fs fo fd x0 x1 x2 x3 x4 x5 x6 x7 cond ak ar ab ai aq ad bk br bb bi bq bd c len) 10)), .v (.bool (ansB (strsP48bT cb cs cr cw cx db ds dr dw dx T M r0 r1 r2 r3 r4 r5 r6 r7 ip fc fp fz fs fo fd x0 x1 x2 x3 x4 x5 x6 x7 cond ak ar ab ai aq ad bk br bb bi bq bd c len) 11)), .v (.bool (ansB (strsP48bT cb cs cr cw cx db ds dr dw dx T M r0 r1 r2 r3 r4 r5 r6 r7 ip fc fp fz fs fo fd x0 x1 x2 x3 x4 x5 x6 x7 cond ak ar ab ai aq ad bk br bb bi bq bd c len) 12)), .v (.bool (ansB (strsP48bT cb cs cr cw cx db ds dr dw dx T M r0 r1 r2 r3 r4 r5 r6 r7 ip fc fp fz fs fo fd x0 x1 x2 x3 x4 x5 x6 x7 cond ak ar ab ai aq ad bk br bb bi bq bd c len) 13)), .v (.bool (ansB (strsP48bT cb cs cr cw cx db ds dr dw dx T M r0 r1 r2 r3 r4 r5 r6 r7 ip fc fp fz fs fo fd x0 x1 x2 x3 x4 x5 x6 x7 cond ak ar ab ai aq ad bk br bb bi bq bd c len) 14)), .v (.int .u64 (ansI (strsP48bT cb cs cr cw cx db ds dr dw dx T M r0 r1 r2 r3 r4 r5 r6 r7 ip fc fp fz fs fo fd x0 x1 x2 x3 x4 x5 x6 x7 cond ak ar ab ai aq ad bk br bb bi bq bd c len) 15)), .v (.int .u64 (ansI (strsP48bT cb cs cr cw cx db ds dr dw dx T M r0 r1 r2 r3 r4 r5 r6 r7 ip fc fp fz fs fo fd x0 x1 x2 x3 x4 x5 x6 x7 cond ak ar ab ai aq ad bk br bb bi bq bd c len) 16)), .v (.int .u64 (ansI (strsP48bT cb cs cr cw cx db ds dr dw dx T M r0 r1 r2 r3 r4 r5 r6 r7 ip fc fp fz fs fo fd x0 x1 x2 x3 x4 x5 x6 x7 cond ak ar ab ai aq ad bk br bb bi bq bd c len) 17)), .v (.int .u64 (ansI (strsP48bT cb cs cr cw cx db ds dr dw dx T M r0 r1 r2 r3 r4 r5 r6 r7 ip fc fp fz fs fo fd x0 x1 x2 x3 x4 x5 x6 x7 cond ak ar ab ai aq ad bk br bb bi bq bd c len) 18)), .v (.int .u64 (ansI (strsP48bT cb cs cr cw cx db ds dr dw dx T M r0 r1 r2 r3 r4 r5 r6 r7 ip fc fp fz fs fo fd x0 x1 x2 x3 x4 x5 x6 x7 cond ak ar ab ai aq ad bk br bb bi bq bd c len) 19)), .v (.int .u64 (ansI (strsP48bT cb cs cr cw cx db ds dr dw dx T M r0 r1 r2 r3 r4 r5 r6 r7 ip fc fp fz fs fo fd x0 x1 x2 x3 x4 x5 x6 x7 cond ak ar ab ai aq ad bk br bb bi bq bd c len) 20)), .v (.int .u64 (ansI (strsP48bT cb cs cr cw cx db ds dr dw dx T M r0 r1 r2 r3 r4 r5 r6 r7 ip fc fp fz fs fo fd x0 x1 x2 x3 x4 x5 x6 x7 cond ak ar ab ai aq ad bk br bb bi bq bd c len) 21)), .v (.int .u64 (ansI (strsP48bT cb cs cr cw cx db ds dr dw dx T M r0 r1 r2 r3 r4 r5 r6 r7 ip fc fp fz fs fo fd x0 x1 x2 x3 x4 x5 x6 x7 cond ak ar ab ai aq ad bk br bb bi bq bd c len) 22))], .v (.int .i64 (ansI (strsP48bT cb cs cr cw cx db ds dr dw dx T M r0 r1 r2 r3 r4 r5 r6 r7 ip fc fp fz fs fo fd x0 x1 x2 x3 x4 x5 x6 x7 cond ak ar ab ai aq ad bk br bb bi bq bd c len) 23)), .v (.bool (ansB (strsP48bT cb cs cr cw cx db ds dr dw dx T M r0 r1 r2 r3 r4 r5 r6 r7 ip fc fp fz fs fo fd x0 x1 x2 x3 x4 x5 x6 x7 cond ak ar ab ai aq ad bk br bb bi bq bd c len) 24))]) ((((m.set b (.cells [.ptr g 0, .v (.int .u32 cb), .v (.int .u32 cs), .v (.bool cr), .v (.bool cw), .v (.bool cx), .v (.int .u32 db), .v (.int .u32 ds), .v (.bool dr), .v (.bool dw), .v (.bool dx)] T)).set g (.cells [.mp j] T2)).set j (.bm .u32 .u8 (ansM (strsP48bT cb cs cr cw cx db ds dr dw dx T M r0 r1 r2 r3 r4 r5 r6 r7 ip fc fp fz fs fo fd x0 x1 x2 x3 x4 x5 x6 x7 cond ak ar ab ai aq ad bk br bb bi bq bd c len) 1))) ++ []) else bif (op == 48) && ((size == 4) && (!rep)) then k (.tup [.agg [.v (.int .u32 (ansI (strsP48wT cb cs cr cw cx db ds dr dw dx T M r0 r1 r2 r3 r4 r5 r6 r7 ip fc fp fz fs fo fd x0 x1 x2 x3 x4 x5 x6 x7 cond ak ar ab ai aq ad bk br bb bi bq bd c len) 0)), .v (.int .u32 (ansI (strsP48wT cb cs cr cw cx db ds dr dw dx T M r0 r1 r2 r3 r4 r5 r6 r7 ip fc fp fz fs fo fd x0 x1 x2 x3 x4 x5 x6 x7 cond ak ar ab ai aq ad bk br bb bi bq bd c len) 1)), .v (.int .u32 (ansI (strsP48wT cb cs cr cw cx db ds dr dw dx T M r0 r1 r2 r3 r4 r5 r6 r7 ip fc fp fz fs fo fd x0 x1 x2 x3 x4 x5 x6 x7 cond ak ar ab ai aq ad bk br bb bi bq bd c len) 2)), .v (.int .u32 (ansI (strsP48wT cb cs cr cw cx db ds dr dw dx T M r0 r1 r2 r3 r4 r5 r6 r7 ip fc fp fz fs fo fd x0 x1 x2 x3 x4 x5 x6 x7 cond ak ar ab ai aq ad bk br bb bi bq bd c len) 3)), .v (.int .u32 (ansI (strsP48wT cb cs cr cw cx db ds dr dw dx T M r0 r1 r2 r3 r4 r5 r6 r7 ip fc fp fz fs fo fd x0 x1 x2 x3 x4 x5 x6 x7 cond ak ar ab ai aq ad bk br bb bi bq bd c len) 4)), .v (.int .u32 (ansI (strsP48wT cb cs cr cw cx db ds dr dw dx T M r0 r1 r2 r3 r4 r5 r6 r7 ip fc fp fz fs fo fd x0 x1 x2 x3 x4 x5 x6 x7 cond ak ar ab ai aq ad bk br bb bi bq bd c len) 5)), .v (.int .u32 (ansI (strsP48wT cb cs cr cw cx db ds dr dw dx T M r0 r1 r2 r3 r4 r5 r6 r7 ip fc fp fz fs fo fd x0 x1 x2 x3 x4 x5 x6 x7 cond ak ar ab ai aq ad bk br bb bi bq bd c len) 6)), .v (.int .u32 (ansI (strsP48wT cb cs cr cw cx db ds dr dw dx T M r0 r1 r2 r3 r4 r5 r6 r7 ip fc fp fz fs fo fd x0 x1 x2 x3 x4 x5 x6 x7 cond ak ar ab ai aq ad bk br bb bi bq bd c len) 7)), .v (.int .u32 (ansI (strsP48wT cb cs cr cw cx db ds dr dw dx T M r0 r1 r2 r3 r4 r5 r6 r7 ip fc fp fz fs fo fd x0 x1 x2 x3 x4 x5 x6 x7 cond ak ar ab ai aq ad bk br bb bi bq bd c len) 8)), .v (.bool (ansB (strsP48wT cb cs cr cw cx db ds dr dw dx T M r0 r1 r2 r3 r4 r5 r6 r7 ip fc fp fz fs fo fd x0 x1 x2 x3 x4 x5 x6 x7 cond ak ar ab ai aq ad bk br bb bi bq bd c len) 9)), .v (.bool (ansB (strsP48wT cb cs cr cw cx db ds dr dw dx T M r0 r1 r2 r3 r4 r5 r6 r7 ip fc fp fz fs fo fd x0 x1 x2 x3 x4 x5 x6 x7 cond ak ar ab ai aq ad bk br bb bi bq bd c len) 10)), .v (.bool (ansB (strsP48wT cb cs cr cw cx db ds dr dw dx T M r0 r1 r2 r3 r4 r5 r6 r7 ip fc fp fz fs fo fd x0 x1 x2 x3 x4 x5 x6 x7 cond ak ar ab ai aq ad bk br bb bi bq bd c len) 11)), .v (.bool (ansB (strsP48wT cb cs cr cw cx db ds dr dw dx T M r0 r1 r2 r3 r4 r5 r6 r7 ip fc fp fz fs fo fd x0 x1 x2 x3 x4 x5 x6 x7 cond ak ar ab ai aq ad bk br bb bi bq bd c len) 12)), .v (.bool (ansB (strsP48wT cb cs cr cw cx db ds dr dw dx T M r0 r1 r2 r3 r4 r5 r6 r7 ip fc fp fz fs fo fd x0 x1 x2 x3 x4 x5 x6 x7 cond ak ar ab ai aq ad bk br bb bi bq bd c len) 13)), .v (.bool (ansB (strsP48wT cb cs cr cw cx db ds dr dw dx T M r0 r1 r2 r3 r4 r5 r6 r7 ip fc fp fz fs fo fd x0 x1 x2 x3 x4 x5 x6 x7 cond ak ar ab ai aq ad bk br bb bi bq bd c len) 14)), .v (.int .u64 (ansI (strsP48wT cb cs cr cw cx db ds dr dw dx T M r0 r1 r2 r3 r4 r5 r6 r7 ip fc fp fz fs fo fd x0 x1 x2 x3 x4 x5 x6 x7 cond ak ar ab ai aq ad bk br bb bi bq bd c len) 15)), .v (.int .u64 (ansI (strsP48wT cb cs cr cw cx db ds dr dw dx T M r0 r1 r2 r3 r4 r5 r6 r7 ip fc fp fz fs fo fd x0 x1 x2 x3 x4 x5 x6 x7 cond ak ar ab ai aq ad bk br bb bi bq bd c len) 16)), .v (.int .u64 (ansI (strsP48wT cb cs cr cw cx db ds dr dw dx T M r0 r1 r2 r3 r4 r5 r6 r7 ip fc fp fz fs fo fd x0 x1 x2 x3 x4 x5 x6 x7 cond ak ar ab ai aq ad bk br bb bi bq bd c len) 17)), .v (.int .u64 (ansI (strsP48wT cb cs cr cw cx db ds dr dw dx T M r0 r1 r2 r3 r4 r5 r6 r7 ip fc fp fz fs fo fd x0 x1 x2 x3 x4 x5 x6 x7 cond ak ar ab ai aq ad bk br bb bi bq bd c len) 18)), .v (.int .u64 (ansI (strsP48wT cb cs cr cw cx db ds dr dw dx T M r0 r1 r2 r3 r4 r5 r6 r7 ip fc fp fz fs fo fd x0 x1 x2 x3 x4 x5 x6 x7 cond ak ar ab ai aq ad bk br bb bi bq bd c len) 19)), .v (.int .u64 (ansI (strsP48wT cb cs cr cw cx db ds dr dw dx T M r0 r1 r2 r3 r4 r5 r6 r7 ip fc fp fz fs fo fd x0 x1 x2 x3 x4 x5 x6 x7 cond ak ar ab ai aq ad bk br bb bi bq bd c len) 20)), .v (.int .u64 (ansI (strsP48wT cb cs cr cw cx db ds dr dw dx T M r0 r1 r2 r3 r4 r5 r6 r7 ip fc fp fz fs fo fd x0 x1 x2 x3 x4 x5 x6 x7 cond ak ar ab ai aq ad bk br bb bi bq bd c len) 21)), .v (.int .u64 (ansI (strsP48wT cb cs cr cw cx db ds dr dw dx T M r0 r1 r2 r3 r4 r5 r6 r7 ip fc fp fz fs fo fd x0 x1 x2 x3 x4 x5 x6 x7 cond ak ar ab ai aq ad bk br bb bi bq bd c len) 22))], .v (.int .i64 (ansI (strsP48wT cb cs cr cw cx db ds dr dw dx T M r0 r1 r2 r3 r4 r5 r6 r7 ip fc fp fz fs fo fd x0 x1 x2 x3 x4 x5 x6 x7 cond ak ar ab ai aq ad bk br bb bi bq bd c len) 23)), .v (.bool (ansB (strsP48wT cb cs cr cw cx db ds dr dw dx T M r0 r1 r2 r3 r4 r5 r6 r7 ip fc fp fz fs fo fd x0 x1 x2 x3 x4 x5 x6 x7 cond ak ar ab ai aq ad bk br bb bi bq bd c len) 24))]) ((((m.set b (.cells [.ptr g 0, .v (.int .u32 cb), .v (.int .u32 cs), .v (.bool cr), .v (.bool cw), .v (.bool cx), .v (.int .u32 db), .v (.int .u32 ds), .v (.bool dr), .v (.bool dw), .v (.bool dx)] T)).set g (.cells [.mp j] T2)).set j (.bm .u32 .u8 (ansM (strsP48wT cb cs cr cw cx db ds dr dw dx T M r0 r1 r2 r3 r4 r5 r6 r7 ip fc fp fz fs fo fd x0 x1 x2 x3 x4 x5 x6 x7 cond ak ar ab ai aq ad bk br bb bi bq bd c len) 1))) ++ []) else bif (op == 46) && ((size == 1) && (rep)) then k (.tup [.agg [.v (.int .u32 (ansI (strsP46rbT cb cs cr cw cx db ds dr dw dx T M r0 r1 r2 r3 r4 r5 r6 r7 ip fc fp fz fs fo fd x0 x1 x2 x3 x4 x5 x6 x7 cond ak ar ab ai aq ad bk br bb bi bq bd c len) 0)), .v (.int .u32 (ansI (strsP46rbT cb cs cr cw cx db ds dr dw dx T M r0 r1 r2 r3 r4 r5 r6 r7 ip fc fp fz fs fo fd x0 x1 x2 x3 x4 x5 x6 x7 cond ak ar ab ai aq ad bk br bb bi bq bd c len) 1)), .v (.int .u32 (ansI (strsP46rbT cb cs cr cw cx db ds dr dw dx T M r0 r1 r2 r3 r4 r5 r6 r7 ip fc fp fz fs fo fd x0 x1 x2 x3 x4 x5 x6 x7 cond ak ar ab ai aq ad bk br bb bi bq bd c len) 2)), .v (.int .u32 (ansI (strsP46rbT cb cs cr cw cx db ds dr dw dx T M r0 r1 r2 r3 r4 r5 r6 r7 ip fc fp fz fs fo fd x0 x1 x2 x3 x4 x5 x6 x7 cond ak ar ab ai aq ad bk br bb bi bq bd c len) 3)), .v (.int .u32 (ansI (strsP46rbT cb cs cr cw cx db ds dr dw dx T M r0 r1 r2 r3 r4 r5 r6 r7 ip fc fp fz fs fo fd x0 x1 x2 x3 x4 x5 x6 x7 cond ak ar ab ai aq ad bk br bb bi bq bd c len) 4)), .v (.int .u32 (ansI (strsP46rbT cb cs cr cw cx db ds dr dw dx T M r0 r1 r2 r3 r4 r5 r6 r7 ip fc fp fz fs fo fd x0 x1 x2 x3 x4 x5 x6 x7 cond ak ar ab ai aq ad bk br bb bi bq bd c len) 5)), .v (.int .u32 (ansI (strsP46rbT cb cs cr cw cx db ds dr dw dx T M r0 r1 r2 r3 r4 r5 r6 r7 ip fc fp fz fs fo fd x0 x1 x2 x3 x4 x5 x6 x7 cond ak ar ab ai aq ad bk br bb bi bq bd c len) 6)), .v (.int .u32 (ansI (strsP46rbT cb cs cr cw cx db ds dr dw dx T M r0 r1 r2 r3 r4 r5 r6 r7 ip fc fp fz fs fo fd x0 x1 x2 x3 x4 x5 x6 x7 cond ak ar ab ai aq ad bk br bb bi bq bd c len) 7)), .v (.int .u32 (ansI (strsP46rbT cb cs cr cw cx db ds dr dw dx T M r0 r1 r2 r3 r4 r5 r6 r7 ip fc fp fz fs fo fd x0 x1 x2 x3 x4 x5 x6 x7 cond ak ar ab ai aq ad bk br bb bi bq bd c len) 8)), .v (.bool (ansB (strsP46rbT cb cs cr cw cx db ds dr dw dx T M r0 r1 r2 r3 r4 r5 r6 r7 ip fc fp fz fs fo fd x0 x1 x2 x3 x4 x5 x6 x7 cond ak ar ab ai aq ad bk br bb bi bq bd c len) 9)), .v (.bool (ansB (strsP46rbT cb cs cr cw cx db ds dr dw dx T M r0 r1 r2 r3 r4 r5 r6 r7 ip fc fp fz fs fo fd x0 x1 x2 x3 x4 x5 x6 x7 cond ak ar ab ai aq ad bk br bb bi bq bd c len) 10)), .v (.bool (ansB (strsP46rbT cb cs cr cw cx db ds dr dw dx T M r0 r1 r2 r3 r4 r5 r6 r7 ip fc fp fz fs fo fd x0 x1 x2 x3 x4 x5 x6 x7 cond ak ar ab ai aq ad bk br bb bi bq bd c len) 11)), .v (.bool (ansB (strsP46rbT cb cs cr cw cx db ds dr dw dx T M r0 r1 r2 r3 r4 r5 r6 r7 ip fc fp fz fs fo fd x0 x1 x2 x3 x4 x5 x6 x7 cond ak ar ab ai aq ad bk br bb bi bq bd c len) 12)), .v (.bool (ansB (strsP46rbT cb cs cr cw cx db ds dr dw dx T M r0 r1 r2 r3 r4 r5 r6 r7 ip fc fp fz fs fo fd x0 x1 x2 x3 x4 x5 x6 x7 cond ak ar ab ai aq ad bk br bb bi bq bd c len) 13)), .v (.bool (ansB (strsP46rbT cb cs cr cw cx db ds dr dw dx T M r0 r1 r2 r3 r4 r5 r6 r7 ip fc fp fz fs fo fd x0 x1 x2 x3 x4 x5 x6 x7 cond ak ar ab ai aq ad bk br bb bi bq bd c len) 14)), .v (.int .u64 (ansI (strsP46rbT cb cs cr cw cx db ds dr dw dx T M r0 r1 r2 r3 r4 r5 r6 r7 ip fc fp fz fs fo fd x0 x1 x2 x3 x4 x5 x6 x7 cond ak ar ab ai aq ad bk br bb bi bq bd c len) 15)), .v (.int .u64 (ansI (strsP46rbT cb cs cr cw cx db ds dr dw dx T M r0 r1 r2 r3 r4 r5 r6 r7 ip fc fp fz fs fo fd x0 x1 x2 x3 x4 x5 x6 x7 cond ak ar ab ai aq ad bk br bb bi bq bd c len) 16)), .v (.int .u64 (ansI (strsP46rbT cb cs cr cw cx db ds dr dw dx T M r0 r1 r2 r3 r4 r5 r6 r7 ip fc fp fz fs fo fd x0 x1 x2 x3 x4 x5 x6 x7 cond ak ar ab ai aq ad bk br bb bi bq bd c len) 17)), .v (.int .u64 (ansI (strsP46rbT cb cs cr cw cx db ds dr dw dx T M r0 r1 r2 r3 r4 r5 r6 r7 ip fc fp fz fs fo fd x0 x1 x2 x3 x4 x5 x6 x7 cond ak ar ab ai aq ad bk br bb bi bq bd c len) 18)), .v (.int .u64 (ansI (strsP46rbT cb cs cr cw cx db ds dr dw dx T M r0 r1 r2 r3 r4 r5 r6 r7 ip fc fp fz fs fo fd x0 x1 x2 x3 x4 x5 x6 x7 cond ak ar ab ai aq ad bk br bb bi bq bd c len) 19)), .v (.int .u64 (ansI (strsP46rbT cb cs cr cw cx db ds dr dw dx T M r0 r1 r2 r3 r4 r5 r6 r7 ip fc fp fz fs fo fd x0 x1 x2 x3 x4 x5 x6 x7 cond ak ar ab ai aq ad bk br bb bi bq bd c len) 20)), .v (.int .u64 (ansI (strsP46rbT cb cs cr cw cx db ds dr dw dx T M r0 r1 r2 r3 r4 r5 r6 r7 ip fc fp fz fs fo fd x0 x1 x2 x3 x4 x5 x6 x7 cond ak ar ab ai aq ad bk br bb bi bq bd c len) 21)), .v (.int .u64 (ansI (strsP46rbT cb cs cr cw cx db ds dr dw dx T M r0 r1 r2 r3 r4 r5 r6 r7 ip fc fp fz fs fo fd x0 x1 x2 x3 x4 x5 x6 x7 cond ak ar ab ai aq ad bk br bb bi bq bd c len) 22))], .v (.int .i64 (ansI (strsP46rbT cb cs cr cw cx db ds dr dw dx T M r0 r1 r2 r3 r4 r5 r6 r7 ip fc fp fz fs fo fd x0 x1 x2 x3 x4 x5 x6 x7 cond ak ar ab ai aq ad bk br bb bi bq bd c len) 23)), .v (.bool (ansB (strsP46rbT cb cs cr cw cx db ds dr dw dx T M r0 r1 r2 r3 r4 r5 r6 r7 ip fc fp fz fs fo fd x0 x1 x2 x3 x4 x5 x6 x7 cond ak ar ab ai aq ad bk br bb bi bq bd c len) 24))]) ((((m.set b (.cells [.ptr g 0, .v (.int .u32 cb), .v (.int .u32 cs), .v (.bool cr), .v (.bool cw), .v (.bool cx), .v (.int .u32 db), .v (.int .u32 ds), .v (.bool dr), .v (.bool dw), .v (.bool dx)] T)).set g (.cells [.mp j] T2)).set j (.bm .u32 .u8 (ansM (strsP46rbT cb cs cr cw cx db ds dr dw dx T M r0 r1 r2 r3 r4 r5 r6 r7 ip fc fp fz fs fo fd x0 x1 x2 x3 x4 x5 x6 x7 cond ak ar ab ai aq ad bk br bb bi bq bd c len) 1))) ++ []) else bif (op == 46) && ((size == 4) && (rep)) then k (.tup [.agg [.v (.int .u32 (ansI (strsP46rwT cb cs cr cw cx db ds dr dw dx T M r0 r1 r2 r3 r4 r5 r6 r7 ip fc fp fz fs fo fd x0 x1 x2 x3 x4 x5 x6 x7 cond ak ar ab ai aq ad bk br bb bi bq bd c len) 0)), .v (.int .u32 (ansI (strsP46rwT cb cs cr cw cx db ds dr dw dx T M r0 r1 r2 r3 r4 r5 r6 r7 ip fc fp fz fs fo fd x0 x1 x2 x3 x4 x5 x6 x7 cond ak ar ab ai aq ad bk br bb bi bq bd c len) 1)), .v (.int .u32 (ansI (strsP46rwT cb cs cr cw cx db ds dr dw dx T M r0 r1 r2 r3 r4 r5 r6 r7 ip fc fp fz fs fo fd x0 x1 x2 x3 x4 x5 x6 x7 cond ak ar ab ai aq ad bk br bb bi bq bd c len) 2)), .v (.int .u32 (ansI (strsP46rwT cb cs cr cw cx db ds dr dw dx T M r0 r1 r2 r3 r4 r5 r6 r7 ip fc fp fz fs fo fd x0 x1 x2 x3 x4 x5 x6 x7 cond ak ar ab ai aq ad bk br bb bi bq bd c len) 3)), .v (.int .u32 (ansI (strsP46rwT cb cs cr cw cx db ds dr dw dx T M r0 r1 r2 r3 r4 r5 r6 r7 ip fc fp fz fs fo fd x0 x1 x2 x3 x4 x5 x6 x7 cond ak ar ab ai aq ad bk br bb bi bq bd c len) 4)), .v (.int .u32 (ansI (strsP46rwT cb cs cr cw cx db ds dr dw dx T M r0 r1 r2 r3 r4 r5 r6 r7 ip fc fp fz fs fo fd x0 x1 x2 x3 x4 x5 x6 x7 cond ak ar ab ai aq ad bk br bb bi bq bd c len) 5)), .v (.int .u32 (ansI (strsP46rwT cb cs cr cw cx db ds dr dw dx T M r0 r1 r2 r3 r4 r5 r6 r7 ip fc fp fz fs fo fd x0 x1 x2 x3 x4 x5 x6 x7 cond ak ar ab ai aq ad bk br bb bi bq bd c len) 6)), .v (.int .u32 (ansI (strsP46rwT cb cs cr cw cx db ds dr dw dx T M r0 r1 r2 r3 r4 r5 r6 r7 ip fc fp fz fs fo fd x0 x1 x2 x3 x4 x5 x6 x7 cond ak ar ab ai aq ad bk br bb bi bq bd c len) 7)), .v (.int .u32 (ansI (strsP46rwT cb cs cr cw cx db ds dr dw dx T M r0 r1 r2 r3 r4 r5 r6 r7 ip fc fp fz fs fo fd x0 x1 x2 x3 x4 x5 x6 x7 cond ak ar ab ai aq ad bk br bb bi bq bd c len) 8)), .v (.bool (ansB (strsP46rwT cb cs cr cw cx db ds dr dw dx T M r0 r1 r2 r3 r4 r5 r6 r7 ip fc fp fz fs fo fd x0 x1 x2 x3 x4 x5 x6 x7 cond ak ar ab ai aq ad bk br bb bi bq bd c len) 9)), .v (.bool (ansB (strsP46rwT cb cs cr cw cx db ds dr dw dx T M r0 r1 r2 r3 r4 r5 r6 r7 ip fc fp fz fs fo fd x0 x1 x2 x3 x4 x5 x6 x7 cond ak ar ab ai aq ad bk br bb bi bq bd c len) 10)), .v (.bool (ansB (strsP46rwT cb cs cr cw cx db ds dr dw dx T M r0 r1 r2 r3 r4 r5 r6 r7 ip fc fp fz fs fo fd x0 x1 x2 x3 x4 x5 x6 x7 cond ak ar ab ai aq ad bk br bb bi bq bd c len) 11)), .v (.bool (ansB (strsP46rwT cb cs cr cw cx db ds dr dw dx T M r0 r1 r2 r3 r4 r5 r6 r7 ip fc fp fz fs fo fd x0 x1 x2 x3 x4 x5 x6 x7 cond ak ar ab ai aq ad bk br bb bi bq bd c len) 12)), .v (.bool (ansB (strsP46rwT cb cs cr cw cx db ds dr dw dx T M r0 r1 r2 r3 r4 r5 r6 r7 ip fc fp fz fs fo fd x0 x1 x2 x3 x4 x5 x6 x7 cond ak ar ab ai aq ad bk br bb bi bq bd c len) 13)), .v (.bool (ansB (strsP46rwT cb cs cr cw cx db ds dr dw dx T M r0 r1 r2 r3 r4 r5 r6 r7 ip fc fp fz fs fo fd x0 x1 x2 x3 x4 x5 x6 x7 cond ak ar ab ai aq ad bk br bb bi bq bd c len) 14)), .v (.int .u64 (ansI (strsP46rwT cb cs cr cw cx db ds dr dw dx T M r0 r1 r2 r3 r4 r5 r6 r7 ip fc fp fz fs fo fd x0 x1 x2 x3 x4 x5 x6 x7 cond ak ar ab ai aq ad bk br bb bi bq bd c len) 15)), .v (.int .u64 (ansI (strsP46rwT cb cs cr cw cx db ds dr dw dx T M r0 r1 r2 r3 r4 r5 r6 r7 ip fc fp fz fs fo fd x0 x1 x2 x3 x4 x5 x6 x7 cond ak ar ab ai aq ad bk br bb bi bq bd c len) 16)), .v (.int .u64 (ansI (strsP46rwT cb cs cr cw cx db ds dr dw dx T M r0 r1 r2 r3 r4 r5 r6 r7 ip fc fp fz fs fo fd x0 x1 x2 x3 x4 x5 x6 x7 cond ak ar ab ai aq ad bk br bb bi bq bd c len) 17)), .v (.int .u64 (ansI (strsP46rwT cb cs cr cw cx db ds dr dw dx T M r0 r1 r2 r3 r4 r5 r6 r7 ip fc fp fz fs fo fd x0 x1 x2 x3 x4 x5 x6 x7 cond ak ar ab ai aq ad bk br bb bi bq bd c len) 18)), .v (.int .u64 (ansI (strsP46rwT cb cs cr cw cx db ds dr dw dx T M r0 r1 r2 r3 r4 r5 r6 r7 ip fc fp fz fs fo fd x0 x1 x2 x3 x4 x5 x6 x7 cond ak ar ab ai aq ad bk br bb bi bq bd c len) 19)), .v (.int .u64 (ansI (strsP46rwT cb cs cr cw cx db ds dr dw dx T M r0 r1 r2 r3 r4 r5 r6 r7 ip fc fp fz fs fo fd x0 x1 x2 x3 x4 x5 x6 x7 cond ak ar ab ai aq ad bk br bb bi bq bd c len) 20)), .v (.int .u64 (ansI (strsP46rwT cb cs cr cw cx db ds dr dw dx T M r0 r1 r2 r3 r4 r5 r6 r7 ip fc fp fz fs fo fd x0 x1 x2 x3 x4 x5 x6 x7 cond ak ar ab ai aq ad bk br bb bi bq bd c len) 21)), .v (.int .u64 (ansI (strsP46rwT cb cs cr cw cx db ds dr dw dx T M r0 r1 r2 r3 r4 r5 r6 r7 ip fc fp fz fs fo fd x0 x1 x2 x3 x4 x5 x6 x7 cond ak ar ab ai aq ad bk br bb bi bq bd c len) 22))], .v (.int .i64 (ansI (strsP46rwT cb cs cr cw cx db ds dr dw dx T M r0 r1 r2 r3 r4 r5 r6 r7 ip fc fp fz fs fo fd x0 x1 x2 x3 x4 x5 x6 x7 cond ak ar ab ai aq ad bk br bb bi bq bd c len) 23)), .v (.bool (ansB (strsP46rwT cb cs cr cw cx db ds dr dw dx T M r0 r1 r2 r3 r4 r5 r6 r7 ip fc fp fz fs fo fd x0 x1 x2 x3 x4 x5 x6 x7 cond ak ar ab ai aq ad bk br bb bi bq bd c len) 24))]) ((((m.set b (.cells [.ptr g 0, .v (.int .u32 cb), .v (.int .u32 cs), .v (.bool cr), .v (.bool cw), .v (.bool cx), .v (.int .u32 db), .v (.int .u32 ds), .v (.bool dr), .v (.bool dw), .v (.bool dx)] T)).set g (.cells [.mp j] T2)).set j (.bm .u32 .u8 (ansM (strsP46rwT cb cs cr cw cx db ds dr dw dx T M r0 r1 r2 r3 r4 r5 r6 r7 ip fc fp fz fs fo fd x0 x1 x2 x3 x4 x5 x6 x7 cond ak ar ab ai aq ad bk br bb bi bq bd c len) 1))) ++ []) else bif (op == 47) && ((size == 1) && (rep)) then k (.tup [.agg [.v (.int .u32 (ansI (strsP47rbT cb cs cr cw cx db ds dr dw dx T M r0 r1 r2 r3 r4 r5 r6 r7 ip fc fp fz fs fo fd x0 x1 x2 x3 x4 x5 x6 x7 cond ak ar ab ai aq ad bk br bb bi bq bd c len) 0)), .v (.int .u32 (ansI (strsP47rbT cb cs cr cw cx db ds dr dw dx T M r0 r1 r2 r3 r4 r5 r6 r7 ip fc fp fz fs fo fd x0 x1 x2 x3 x4 x5 x6 x7 cond ak ar ab ai aq ad bk br bb bi bq bd c len) 1)), .v (.int .u32 (ansI (strsP47rbT cb cs cr cw cx db ds dr dw dx T M r0 r1 r2 r3 r4 r5 r6 r7 ip fc fp fz fs fo fd x0 x1 x2 x3 x4 x5 x6 x7 cond ak ar ab ai aq ad bk br bb bi bq bd c len) 2)), .v (.int .u32 (ansI (strsP47rbT cb cs cr cw cx db ds dr dw dx T M r0 r1 r2 r3 r4 r5 r6 r7 ip fc fp fz fs fo fd x0 x1 x2 x3 x4 x5 x6 x7 cond ak ar ab ai aq ad bk br bb bi bq bd c len) 3)), .v (.int .u32 (ansI (strsP47rbT cb cs cr cw cx db ds dr dw dx T M r0 r1 r2 r3 r4 r5 r6 r7 ip fc fp fz fs fo fd x0 x1 x2 x3 x4 x5 x6 x7 cond ak ar ab ai aq ad bk br bb bi bq bd c len) 4)), .v (.int .u32 (ansI (strsP47rbT cb cs cr cw cx db ds dr dw dx T M r0 r1 r2 r3 r4 r5 r6 r7 ip fc fp fz fs fo fd x0 x1 x2 x3 x4 x5 x6 x7 cond ak ar ab ai aq ad bk br bb bi bq bd c len) 5)), .v (.int .u32 (ansI (strsP47rbT cb cs cr cw cx db ds dr dw dx T M r0 r1 r2 r3 r4 r5 r6 r7 ip fc fp fz fs fo fd x0 x1 x2 x3 x4 x5 x6 x7 cond ak ar ab ai aq ad bk br bb bi bq bd c len) 6)), .v (.int .u32 (ansI (strsP47rbT cb cs cr cw cx db ds dr dw dx T M r0 r1 r2 r3 r4 r5 r6 r7 ip fc fp fz fs fo fd x0 x1 x2 x3 x4 x5 x6 x7 cond ak ar ab ai aq ad bk br bb bi bq bd c len) 7)), .v (.int .u32 (ansI (strsP47rbT cb cs cr cw cx db ds dr dw dx T M r0 r1 r2 r3 r4 r5 r6 r7 ip fc fp fz fs fo fd x0 x1 x2 x3 x4 x5 x6 x7 cond ak ar ab ai aq ad bk br bb bi bq bd c len) 8)), .v (.bool (ansB (strsP47rbT cb cs cr cw cx db ds dr dw dx T M r0 r1 r2 r3 r4 r5 r6 r7 ip fc fp fz fs fo fd x0 x1 x2 x3 x4 x5 x6 x7 cond ak ar ab ai aq ad bk br bb bi bq bd c len) 9)), .v (.bool (ansB (strsP47rbT cb cs cr cw cx db ds dr dw dx T M r0 r1 r2 r3 r4 r5 r6 r7 ip fc fp fz fs fo fd x0 x1 x2 x3 x4 x5 x6 x7 cond ak ar ab ai aq ad bk br bb bi bq bd c len) 10)), .v (.bool (ansB (strsP47rbT cb cs cr cw cx db ds dr dw dx T M r0 r1 r2 r3 r4 r5 r6 r7 ip fc fp fz fs fo fd x0 x1 x2 x3 x4 x5 x6 x7 cond ak ar ab ai aq ad bk br bb bi bq bd c len) 11)), .v (.bool (ansB (strsP47rbT cb cs cr cw cx db ds dr dw dx T M r0 r1 r2 r3 r4 r5 r6 r7 ip fc fp fz fs fo fd x0 x1 x2 x3 x4 x5 x6 x7 cond ak ar ab ai aq ad bk br bb bi bq bd c len) 12)), .v (.bool (ansB (strsP47rbT cb cs cr cw cx db ds dr dw dx T M r0 r1 r2 r3 r4 r5 r6 r7 ip fc fp fz fs fo fd x0 x1 x2 x3 x4 x5 x6 x7 cond ak ar ab ai aq ad bk br bb bi bq bd c len) 13)), .v (.bool (ansB (strsP47rbT cb cs cr cw cx db ds dr dw dx T M r0 r1 r2 r3 r4 r5 r6 r7 ip fc fp fz fs fo fd x0 x1 x2 x3 x4 x5 x6 x7 cond ak ar ab ai aq ad bk br bb bi bq bd c len) 14)), .v (.int .u64 (ansI (strsP47rbT cb cs cr cw cx db ds dr dw dx T M r0 r1 r2 r3 r4 r5 r6 r7 ip fc fp fz fs fo fd x0 x1 x2 x3 x4 x5 x6 x7 cond ak ar ab ai aq ad bk br bb bi bq bd c len) 15)), .v (.int .u64 (ansI (strsP47rbT cb cs cr cw cx db ds dr dw dx T M r0 r1 r2 r3 r4 r5 r6 r7 ip fc fp fz fs fo fd x0 x1 x2 x3 x4 x5 x6 x7 cond ak ar ab ai aq ad bk br bb bi bq bd c len) 16)), .v (.int .u64 (ansI (strsP47rbT cb cs cr cw cx db ds dr dw dx T M r0 r1 r2 r3 r4 r5 r6 r7 ip fc fp fz fs fo fd x0 x1 x2 x3 x4 x5 x6 x7 cond ak ar ab ai aq ad bk br bb bi bq bd c len) 17)), .v (.int .u64 (ansI (strsP47rbT cb cs cr cw cx db ds dr dw dx T M r0 r1 r2 r3 r4 r5 r6 r7 ip fc fp fz fs fo fd x0 x1 x2 x3 x4 x5 x6 x7 cond ak ar ab ai aq ad bk br bb bi bq bd c len) 18)), .v (.int .u64 (ansI (strsP47rbT cb cs cr cw cx db ds dr dw dx T M r0 r1 r2 r3 r4 r5 r6 r7 ip fc fp fz fs fo fd x0 x1 x2 x3 x4 x5 x6 x7 cond ak ar ab ai aq ad bk br bb bi bq bd c len) 19)), .v (.int .u64 (ansI (strsP47rbT cb cs cr cw cx db ds dr dw dx T M r0 r1 r2 r3 r4 r5 r6 r7 ip fc fp fz fs fo fd x0 x1 x2 x3 x4 x5 x6 x7 cond ak ar ab ai aq ad bk br bb bi bq bd c len) 20)), .v (.int .u64 (ansI (strsP47rbT cb cs cr cw cx db ds dr dw dx T M r0 r1 r2 r3 r4 r5 r6 r7 ip fc fp fz fs fo fd x0 x1 x2 x3 x4 x5 x6 x7 cond ak ar ab ai aq ad bk br bb bi bq bd c len) 21)), .v (.int .u64 (ansI (strsP47rbT cb cs cr cw cx db ds dr dw dx T M r0 r1 r2 r3 r4 r5 r6 r7 ip fc fp fz fs fo fd x0 x1 x2 x3 x4 x5 x6 x7 cond ak ar ab ai aq ad bk br bb bi bq bd c len) 22))], .v (.int .i64 (ansI (strsP47rbT cb cs cr cw cx db ds dr dw dx T M r0 r1 r2 r3 r4 r5 r6 r7 ip fc fp fz fs fo fd x0 x1 x2 x3 x4 x5 x6 x7 cond ak ar ab ai aq ad bk br bb bi bq bd c len) 23)), .v (.bool (ansB (strsP47rbT cb cs cr cw cx db ds dr dw dx T M r0 r1 r2 r3 r4 r5 r6 r7 ip fc fp fz fs fo fd x0 x1 x2 x3 x4 x5 x6 x7 cond ak ar ab ai aq ad bk br bb bi bq bd c len) 24))]) ((((m.set b (.cells [.ptr g 0, .v (.int .u32 cb), .v (.int .u32 cs), .v (.bool cr), .v (.bool cw), .v (.bool cx), .v (.int .u32 db), .v (.int .u32 ds), .v (.bool dr), .v (.bool dw), .v (.bool dx)] T)).set g (.cells [.mp j] T2)).set j (.bm .u32 .u8 (ansM (strsP47rbT cb cs cr cw cx db ds dr dw dx T M r0 r1 r2 r3 r4 r5 r6 r7 ip fc fp fz fs fo fd x0 x1 x2 x3 x4 x5 x6 x7 cond ak ar ab ai aq ad bk br bb bi bq bd c len) 1))) ++ []) else bif (op == 47) && ((size == 4) && (rep)) then k (.tup [.agg [.v (.int .u32 (ansI (strsP47rwT cb cs cr cw cx db ds dr dw dx T M r0 r1 r2 r3 r4 r5 r6 r7 ip fc fp fz fs fo fd x0 x1 x2 x3 x4 x5 x6 x7 cond ak ar ab ai aq ad bk br bb bi bq bd c len) 0)), .v (.int .u32 (ansI (strsP47rwT cb cs cr cw cx db ds dr dw dx T M r0 r1 r2 r3 r4 r5 r6 r7 ip fc fp fz fs fo fd x0 x1 x2 x3 x4 x5 x6 x7 cond ak ar ab ai aq ad bk br bb bi bq bd c len) 1)), .v (.int .u32 (ansI (strsP47rwT cb cs cr cw cx db ds dr dw dx T M r0 r1 r2 r3 r4 r5 r6 r7 ip fc fp fz fs fo fd x0 x1 x2 x3 x4 x5 x6 x7 cond ak ar ab ai aq ad bk br bb bi bq bd c len) 2)), .v (.int .u32 (ansI (strsP47rwT cb cs cr cw cx db ds dr dw dx T M r0 r1 r2 r3 r4 r5 r6 r7 ip fc fp fz fs fo fd x0 x1 x2 x3 x4 x5 x6 x7 cond ak ar ab ai aq ad bk br bb bi bq bd c len) 3)), .v (.int .u32 (ansI (strsP47rwT cb cs cr cw cx db ds dr dw dx T M r0 r1 r2 r3 r4 r5 r6 r7 ip fc fp fz fs fo fd x0 x1 x2 x3 x4 x5 x6 x7 cond ak ar ab ai aq ad bk br bb bi bq bd c len) 4)), .v (.int .u32 (ansI (strsP47rwT cb cs cr cw cx db ds dr dw dx T M r0 r1 r2 r3 r4 r5 r6 r7 ip fc fp fz fs fo fd x0 x1 x2 x3 x4 x5 x6 x7 cond ak ar ab ai aq ad bk br bb bi bq bd c len) 5)), .v (.int .u32 (ansI (strsP47rwT cb cs cr cw cx db ds dr dw dx T M r0 r1 r2 r3 r4 r5 r6 r7 ip fc fp fz fs fo fd x0 x1 x2 x3 x4 x5 x6 x7 cond ak ar ab ai aq ad bk br bb bi bq bd c len) 6)), .v (.int .u32 (ansI (strsP47rwT cb cs cr cw cx db ds dr dw dx T M r0 r1 r2 r3 r4 r5 r6 r7 ip fc fp fz fs fo fd x0 x1 x2 x3 x4 x5 x6 x7 cond ak ar ab ai aq ad bk br bb bi bq bd c len) 7)), .v (.int .u32 (ansI (strsP47rwT cb cs cr cw cx db ds dr dw dx T M r0 r1 r2 r3 r4 r5 r6 r7 ip fc fp fz fs fo fd x0 x1 x2 x3 x4 x5 x6 x7 cond ak ar ab ai aq ad bk br bb bi bq bd c len) 8)), .v (.bool (ansB (strsP47rwT cb cs cr cw cx db ds dr dw dx T M r0 r1 r2 r3 r4 r5 r6 r7 ip fc fp fz fs fo fd x0 x1 x2 x3 x4 x5 x6 x7 cond ak ar ab ai aq ad bk br bb bi bq bd c len) 9)), .v (.bool (ansB (strsP47rwT cb cs cr cw cx db ds dr dw dx T M r0 r1 r2 r3 r4 r5 r6 r7 ip fc fp fz fs fo fd x0 x1 x2 x3 x4 x5 x6 x7 cond ak ar ab ai aq ad bk br bb bi bq bd c len) 10)), .v (.bool (ansB (strsP47rwT cb cs cr cw cx db ds dr dw dx T M r0 r1 r2 r3 r4 r5 r6 r7 ip fc fp fz fs fo fd x0 x1 x2 x3 x4 x5 x6 x7 cond ak ar ab ai aq ad bk br bb bi bq bd c len) 11)), .v (.bool (ansB (strsP47rwT cb cs cr cw cx db ds dr dw dx T M r0 r1 r2 r3 r4 r5 r6 r7 ip fc fp fz fs fo fd x0 x1 x2 x3 x4 x5 x6 x7 cond ak ar ab ai aq ad bk br bb bi bq bd c len) 12)), .v (.bool (ansB (strsP47rwT cb cs cr cw cx db ds dr dw dx T M r0 r1 r2 r3 r4 r5 r6 r7 ip fc fp fz fs fo fd x0 x1 x2 x3 x4 x5 x6 x7 cond ak ar ab ai aq ad bk br bb bi bq bd c len) 13)), .v (.bool (ansB (strsP47rwT cb cs cr cw cx db ds dr dw dx T M r0 r1 r2 r3 r4 r5 r6 r7 ip fc fp fz fs fo fd x0 x1 x2 x3 x4 x5 x6 x7 cond ak ar ab ai aq ad bk br bb bi bq bd c len) 14)), .v (.int .u64 (ansI (strsP47rwT cb cs cr cw cx db ds dr dw dx T M r0 r1 r2 r3 r4 r5 r6 r7 ip fc fp fz fs fo fd x0 x1 x2 x3 x4 x5 x6 x7 cond ak ar ab ai aq ad bk br bb bi bq bd c len) 15)), .v (.int .u64 (ansI (strsP47rwT cb cs cr cw cx db ds dr dw dx T M r0 r1 r2 r3 r4 r5 r6 r7 ip fc fp fz fs fo fd x0 x1 x2 x3 x4 x5 x6 x7 cond ak ar ab ai aq ad bk br bb bi bq bd c len) 16)), .v (.int .u64 (ansI (strsP47rwT cb cs cr cw cx db ds dr dw dx T M r0 r1 r2 r3 r4 r5 r6 r7 ip fc fp fz fs fo fd x0 x1 x2 x3 x4 x5 x6 x7 cond ak ar ab ai aq ad bk br bb bi bq bd c len) 17)), .v (.int .u64 (ansI (strsP47rwT cb cs cr cw cx db ds dr dw dx T M r0 r1 r2 r3 r4 r5 r6 r7 ip fc fp fz fs fo fd x0 x1 x2 x3 x4 x5 x6 x7 cond ak ar ab ai aq ad bk br bb bi bq bd c len) 18)), .v (.int .u64 (ansI (strsP47rwT cb cs cr cw cx db ds dr dw dx T M r0 r1 r2 r3 r4 r5 r6 r7 ip fc fp fz fs fo fd x0 x1 x2 x3 x4 x5 x6 x7 cond ak ar ab ai aq ad bk br bb bi bq bd c len) 19)), .v (.int .u64 (ansI (strsP47rwT cb cs cr cw cx db ds dr dw dx T M r0 r1 r2 r3 r4 r5 r6 r7 ip fc fp fz fs fo fd x0 x1 x2 x3 x4 x5 x6 x7 cond ak ar ab ai aq ad bk br bb bi bq bd c len) 20)), .v (.int .u64 (ansI (strsP47rwT cb cs cr cw cx db ds dr dw dx T M r0 r1 r2 r3 r4 r5 r6 r7 ip fc fp fz fs fo fd x0 x1 x2 x3 x4 x5 x6 x7 cond ak ar ab ai aq ad bk br bb bi bq bd c len) 21)), .v (.int .u64 (ansI (strsP47rwT cb cs cr cw cx db ds dr dw dx T M r0 r1 r2 r3 r4 r5 r6 r7 ip fc fp fz fs fo fd x0 x1 x2 x3 x4 x5 x6 x7 cond ak ar ab ai aq ad bk br bb bi bq bd c len) 22))], .v (.int .i64 (ansI (strsP47rwT cb cs cr cw cx db ds dr dw dx T M r0 r1 r2 r3 r4 r5 r6 r7 ip fc fp fz fs fo fd x0 x1 x2 x3 x4 x5 x6 x7 cond ak ar ab ai aq ad bk br bb bi bq bd c len) 23)), .v (.bool (ansB (strsP47rwT cb cs cr cw cx db ds dr dw dx T M r0 r1 r2 r3 r4 r5 r6 r7 ip fc fp fz fs fo fd x0 x1 x2 x3 x4 x5 x6 x7 cond ak ar ab ai aq ad bk br bb bi bq bd c len) 24))]) ((((m.set b (.cells [.ptr g 0, .v (.int .u32 cb), .v (.int .u32 cs), .v (.bool cr), .v (.bool cw), .v (.bool cx), .v (.int .u32 db), .v (.int .u32 ds), .v (.bool dr), .v (.bool dw), .v (.bool dx)] T)).set g (.cells [.mp j] T2)).set j (.bm .u32 .u8 (ansM (strsP47rwT cb cs cr cw cx db ds dr dw dx T M r0 r1 r2 r3 r4 r5 r6 r7 ip fc fp fz fs fo fd x0 x1 x2 x3 x4 x5 x6 x7 cond ak ar ab ai aq ad bk br bb bi bq bd c len) 1))) ++ []) else none) else none
noncomputable def strsRS : Ev.Spec := fun R args m k kp => match args with
  | [.ptr b 0, .agg A0, .agg A1] => (match A0 with
    | [.v (.int .u32 r0), .v (.int .u32 r1), .v (.int .u32 r2), .v (.int .u32 r3), .v (.int .u32 r4), .v (.int .u32 r5), .v (.int .u32 r6), .v (.int .u32 r7), .v (.int .u32 ip), .v (.bool fc), .v (.bool fp), .v (.bool fz), .v (.bool fs), .v (.bool fo), .v (.bool fd), .v (.int .u64 x0), .v (.int .u64 x1), .v (.int .u64 x2), .v (.int .u64 x3), .v (.int .u64 x4), .v (.int .u64 x5), .v (.int .u64 x6), .v (.int .u64 x7)] => (match A1 with
    | [.v (.int .i64 op), .v (.int .i64 cond), .v (.int .i64 size), .v (.int .i64 ak), .v (.int .i64 ar), .v (.int .i64 ab), .v (.int .i64 ai), .v (.int .i64 aq), .v (.int .u32 ad), .v (.int .i64 bk), .v (.int .i64 br), .v (.int .i64 bb), .v (.int .i64 bi), .v (.int .i64 bq), .v (.int .u32 bd), .v (.int .u32 c), .v (.bool rep), .v (.int .i64 len)] => (match m[b]? with
    | some (.cells [.ptr g 0, .v (.int .u32 cb), .v (.int .u32 cs), .v (.bool cr), .v (.bool cw), .v (.bool cx), .v (.int .u32 db), .v (.int .u32 ds), .v (.bool dr), .v (.bool dw), .v (.bool dx)] T) => (match m[g]? with
      | some (.cells [.mp j] T2) => (match m[j]? with
        | some (.bm .u32 .u8 M) => strsRB R m k b g cb cs cr cw cx db ds dr dw dx T M j T2 r0 r1 r2 r3 r4 r5 r6 r7 ip fc fp fz fs fo fd x0 x1 x2 x3 x4 x5 x6 x7 op cond size ak ar ab ai aq ad bk br bb bi bq bd c rep len
        | _ => none)
      | _ => none)
    | _ => none)
    | _ => none)
    | _ => none)
  | _ => none
set_option maxHeartbeats 4000000 in
theorem strsRS_ok : SpecOk Try.prog XM 45 strsRS := by
  intro R args m k kp r h
  unfold strsRS at h
  split at h
  · split at h
    · split at h
      · split at h
        · split at h
          · split at h
            · rename_i _ b _ r0 r1 r2 r3 r4 r5 r6 r7 ip fc fp fz fs fo fd x0 x1 x2 x3 x4 x5 x6 x7 _ op cond size ak ar ab ai aq ad bk br bb bi bq bd c rep len _ g cb cs cr cw cx db ds dr dw dx T hb _ j T2 hg _ M hj
              unfold strsRB at h
              obtain ⟨hc, h⟩ := cond_some h
              rw [Bool.and_eq_true] at hc
              have hd : ¬ b = g ∧ ¬ b = j ∧ ¬ g = j := by simpa using hc.2
              rcases cond_two h with ⟨hq, h⟩ | ⟨hq, h⟩
              · simp only [Bool.and_eq_true, beq_iff_eq, Bool.not_eq_true'] at hq
                obtain ⟨rfl, rfl, rfl⟩ := hq
                exact .inl ⟨_, _, h, (callR_evT ΓSo_ok (by kernel_rfl) (strsR46b_ev cb cs cr cw cx db ds dr dw dx T T2 M r0 r1 r2 r3 r4 r5 r6 r7 ip fc fp fz fs fo fd x0 x1 x2 x3 x4 x5 x6 x7 cond ak ar ab ai aq ad bk br bb bi bq bd c len hc.1) rfl rfl rfl rfl).frameL [b, g, j] (by simp; exact ⟨⟨hd.1, hd.2.1⟩, hd.2.2⟩) ⟨hb, hg, hj, trivial⟩ rfl rfl rfl rfl rfl rfl rfl⟩
              rcases cond_two h with ⟨hq, h⟩ | ⟨hq, h⟩
              · simp only [Bool.and_eq_true, beq_iff_eq, Bool.not_eq_true'] at hq
                obtain ⟨rfl, rfl, rfl⟩ := hq
                exact .inl ⟨_, _, h, (callR_evT ΓSo_ok (by kernel_rfl) (strsR46w_ev cb cs cr cw cx db ds dr dw dx T T2 M r0 r1 r2 r3 r4 r5 r6 r7 ip fc fp fz fs fo fd x0 x1 x2 x3 x4 x5 x6 x7 cond ak ar ab ai aq ad bk br bb bi bq bd c len hc.1) rfl rfl rfl rfl).frameL [b, g, j] (by simp; exact ⟨⟨hd.1, hd.2.1⟩, hd.2.2⟩) ⟨hb, hg, hj, trivial⟩ rfl rfl rfl rfl rfl rfl rfl⟩
              rcases cond_two h with ⟨hq, h⟩ | ⟨hq, h⟩
              · simp only [Bool.and_eq_true, beq_iff_eq, Bool.not_eq_true'] at hq
                obtain ⟨rfl, rfl, rfl⟩ := hq
                exact .inl ⟨_, _, h, (callR_evT ΓSo_ok (by kernel_rfl) (strsR47b_ev cb cs cr cw cx db ds dr dw dx T T2 M r0 r1 r2 r3 r4 r5 r6 r7 ip fc fp fz fs fo fd x0 x1 x2 x3 x4 x5 x6 x7 cond ak ar ab ai aq ad bk br bb bi bq bd c len hc.1) rfl rfl rfl rfl).frameL [b, g, j] (by simp; exact ⟨⟨hd.1, hd.2.1⟩, hd.2.2⟩) ⟨hb, hg, hj, trivial⟩ rfl rfl rfl rfl rfl rfl rfl⟩
              rcases cond_two h with ⟨hq, h⟩ | ⟨hq, h⟩
              · simp only [Bool.and_eq_true, beq_iff_eq, Bool.not_eq_true'] at hq
                obtain ⟨rfl, rfl, rfl⟩ := hq
                exact .inl ⟨_, _, h, (callR_evT ΓSo_ok (by kernel_rfl) (strsR47w_ev cb cs cr cw cx db ds dr dw dx T T2 M r0 r1 r2 r3 r4 r5 r6 r7 ip fc fp fz fs fo fd x0 x1 x2 x3 x4 x5 x6 x7 cond ak ar ab ai aq ad bk br bb bi bq bd c len hc.1) rfl rfl rfl rfl).frameL [b, g, j] (by simp; exact ⟨⟨hd.1, hd.2.1⟩, hd.2.2⟩) ⟨hb, hg, hj, trivial⟩ rfl rfl rfl rfl rfl rfl rfl⟩
              rcases cond_two h with ⟨hq, h⟩ | ⟨hq, h⟩
              · simp only [Bool.and_eq_true, beq_iff_eq, Bool.not_eq_true'] at hq
                obtain ⟨rfl, rfl, rfl⟩ := hq
                exact .inl ⟨_, _, h, (callR_evT ΓSo_ok (by kernel_rfl) (strsR48b_ev cb cs cr cw cx db ds dr dw dx T T2 M r0 r1 r2 r3 r4 r5 r6 r7 ip fc fp fz fs fo fd x0 x1 x2 x3 x4 x5 x6 x7 cond ak ar ab ai aq ad bk br bb bi bq bd c len hc.1) rfl rfl rfl rfl).frameL [b, g, j] (by simp; exact ⟨⟨hd.1, hd.2.1⟩, hd.2.2⟩) ⟨hb, hg, hj, trivial⟩ rfl rfl rfl rfl rfl rfl rfl⟩
              rcases cond_two h with ⟨hq, h⟩ | ⟨hq, h⟩
              · simp only [Bool.and_eq_true, beq_iff_eq, Bool.not_eq_true'] at hq
                obtain ⟨rfl, rfl, rfl⟩ := hq
                exact .inl ⟨_, _, h, (callR_evT ΓSo_ok (by kernel_rfl) (strsR48w_ev cb cs cr cw cx db ds dr dw dx T T2 M r0 r1 r2 r3 r4 r5 r6 r7 ip fc fp fz fs fo fd x0 x1 x2 x3 x4 x5 x6 x7 cond ak ar ab ai aq ad bk br bb bi bq bd c len hc.1) rfl rfl rfl rfl).frameL [b, g, j] (by simp; exact ⟨⟨hd.1, hd.2.1⟩, hd.2.2⟩) ⟨hb, hg, hj, trivial⟩ rfl rfl rfl rfl rfl rfl rfl⟩
              rcases cond_two h with ⟨hq, h⟩ | ⟨hq, h⟩
              · simp only [Bool.and_eq_true, beq_iff_eq, Bool.not_eq_true'] at hq
                obtain ⟨rfl, rfl, rfl⟩ := hq
                exact .inl ⟨_, _, h, (callR_evT ΓSo_ok (by kernel_rfl) (strsR46rb_ev cb cs cr cw cx db ds dr dw dx T T2 M r0 r1 r2 r3 r4 r5 r6 r7 ip fc fp fz fs fo fd x0 x1 x2 x3 x4 x5 x6 x7 cond ak ar ab ai aq ad bk br bb bi bq bd c len hc.1) rfl rfl rfl rfl).frameL [b, g, j] (by simp; exact ⟨⟨hd.1, hd.2.1⟩, hd.2.2⟩) ⟨hb, hg, hj, trivial⟩ rfl rfl rfl rfl rfl rfl rfl⟩
              rcases cond_two h with ⟨hq, h⟩ | ⟨hq, h⟩
              · simp only [Bool.and_eq_true, beq_iff_eq, Bool.not_eq_true'] at hq
                obtain ⟨rfl, rfl, rfl⟩ := hq
                exact .inl ⟨_, _, h, (callR_evT ΓSo_ok (by kernel_rfl) (strsR46rw_ev cb cs cr cw cx db ds dr dw dx T T2 M r0 r1 r2 r3 r4 r5 r6 r7 ip fc fp fz fs fo fd x0 x1 x2 x3 x4 x5 x6 x7 cond ak ar ab ai aq ad bk br bb bi bq bd c len hc.1) rfl rfl rfl rfl).frameL [b, g, j] (by simp; exact ⟨⟨hd.1, hd.2.1⟩, hd.2.2⟩) ⟨hb, hg, hj, trivial⟩ rfl rfl rfl rfl rfl rfl rfl⟩
              rcases cond_two h with ⟨hq, h⟩ | ⟨hq, h⟩
              · simp only [Bool.and_eq_true, beq_iff_eq, Bool.not_eq_true'] at hq
                obtain ⟨rfl, rfl, rfl⟩ := hq
                exact .inl ⟨_, _, h, (callR_evT ΓSo_ok (by kernel_rfl) (strsR47rb_ev cb cs cr cw cx db ds dr dw dx T T2 M r0 r1 r2 r3 r4 r5 r6 r7 ip fc fp fz fs fo fd x0 x1 x2 x3 x4 x5 x6 x7 cond ak ar ab ai aq ad bk br bb bi bq bd c len hc.1) rfl rfl rfl rfl).frameL [b, g, j] (by simp; exact ⟨⟨hd.1, hd.2.1⟩, hd.2.2⟩) ⟨hb, hg, hj, trivial⟩ rfl rfl rfl rfl rfl rfl rfl⟩
              rcases cond_two h with ⟨hq, h⟩ | ⟨hq, h⟩
              · simp only [Bool.and_eq_true, beq_iff_eq, Bool.not_eq_true'] at hq
                obtain ⟨rfl, rfl, rfl⟩ := hq
                exact .inl ⟨_, _, h, (callR_evT ΓSo_ok (by kernel_rfl) (strsR47rw_ev cb cs cr cw cx db ds dr dw dx T T2 M r0 r1 r2 r3 r4 r5 r6 r7 ip fc fp fz fs fo fd x0 x1 x2 x3 x4 x5 x6 x7 cond ak ar ab ai aq ad bk br bb bi bq bd c len hc.1) rfl rfl rfl rfl).frameL [b, g, j] (by simp; exact ⟨⟨hd.1, hd.2.1⟩, hd.2.2⟩) ⟨hb, hg, hj, trivial⟩ rfl rfl rfl rfl rfl rfl rfl⟩
              cases h
            · cases h
          · cases h
        · cases h
      · cases h
    · cases h
  · cases h
noncomputable def ΓSr : Env := (ΓSp.add 45 strsRS)
theorem ΓSr_ok : EnvOk Try.prog X0 ΓSr := (ΓSp_ok.add (by kernel_rfl) strsRS_ok)
end Go.Proofs.Ytjcbgjakomalaaa
