/- States, one by one (FpuTells). -/
import Derived.Test.YtpgdpoloipifeaaEvV
import Derived.Test.YtpgdpoloipifeaaCKn19
import Derived.Test.YtpgdpoloipifeaaCSt3
import Derived.Test.YtpgdpoloipifeaaNSans
import Derived.Test.YtpgdpoloipifeaaNLoop
namespace Go.Proofs.Ytpgdpoloipifeaa
open Go Go.Ev
set_option linter.unusedVariables false
set_option linter.unusedSimpArgs false
set_option maxRecDepth 100000
theorem fpP_T (cb cs : Int) (cr cw cx : Bool) (db ds : Int) (dr dw dx : Bool) (T T2 : TypeId) (M : Int → Int) (r0 r1 r2 r3 r4 r5 r6 r7 ip : Int) (fc fp fz fs fo fd : Bool) (x0 x1 x2 x3 x4 x5 x6 x7 op cond size ak ar ab ai aq ad bk br bb bi bq bd c : Int) (rep : Bool) (len : Int) : sansT (fpPT cb cs cr cw cx db ds dr dw dx T M r0 r1 r2 r3 r4 r5 r6 r7 ip fc fp fz fs fo fd x0 x1 x2 x3 x4 x5 x6 x7 op cond size ak ar ab ai aq ad bk br bb bi bq bd c rep len) = sansT (fpPT cb cs cr cw cx db ds dr dw dx T2 M r0 r1 r2 r3 r4 r5 r6 r7 ip fc fp fz fs fo fd x0 x1 x2 x3 x4 x5 x6 x7 op cond size ak ar ab ai aq ad bk br bb bi bq bd c rep len) := by
  rw [fpP_tree, fpP_tree]
  simp only [sansT_cond]
  rfl
noncomputable abbrev cCFqz0 (pr0 pr1 pr2 pr3 pr4 pr5 pr6 pr7 pip : Int) (pfc pfp pfz pfs pfo pfd : Bool) (px0 px1 px2 px3 px4 px5 px6 px7 qr0 qr1 qr2 qr3 qr4 qr5 qr6 qr7 qip : Int) (qfc qfp qfz qfs qfo qfd : Bool) (qx0 qx1 qx2 qx3 qx4 qx5 qx6 qx7 sr0 sr1 sr2 sr3 sr4 sr5 sr6 sr7 sip : Int) (sfc sfp sfz sfs sfo sfd : Bool) (sx0 sx1 sx2 sx3 sx4 sx5 sx6 sx7 : Int) : List Sv := [.v (.int .u32 pr0), .v (.int .u32 pr1), .v (.int .u32 pr2), .v (.int .u32 pr3), .v (.int .u32 pr4), .v (.int .u32 pr5), .v (.int .u32 pr6), .v (.int .u32 pr7), .v (.int .u32 pip), .v (.bool pfc), .v (.bool pfp), .v (.bool pfz), .v (.bool pfs), .v (.bool pfo), .v (.bool pfd), .v (.int .u64 px0), .v (.int .u64 px1), .v (.int .u64 px2), .v (.int .u64 px3), .v (.int .u64 px4), .v (.int .u64 px5), .v (.int .u64 px6), .v (.int .u64 px7), .v (.int .u32 qr0), .v (.int .u32 qr1), .v (.int .u32 qr2), .v (.int .u32 qr3), .v (.int .u32 qr4), .v (.int .u32 qr5), .v (.int .u32 qr6), .v (.int .u32 qr7), .v (.int .u32 qip), .v (.bool qfc), .v (.bool qfp), .v (.bool qfz), .v (.bool qfs), .v (.bool qfo), .v (.bool qfd), .v (.int .u64 qx0), .v (.int .u64 qx1), .v (.int .u64 qx2), .v (.int .u64 qx3), .v (.int .u64 qx4), .v (.int .u64 qx5), .v (.int .u64 qx6), .v (.int .u64 qx7), .v (.int .u32 sr0), .v (.int .u32 sr1), .v (.int .u32 sr2), .v (.int .u32 sr3), .v (.int .u32 sr4), .v (.int .u32 sr5), .v (.int .u32 sr6), .v (.int .u32 sr7), .v (.int .u32 sip), .v (.bool sfc), .v (.bool sfp), .v (.bool sfz), .v (.bool sfs), .v (.bool sfo), .v (.bool sfd), .v (.int .u64 sx0), .v (.int .u64 sx1), .v (.int .u64 sx2), .v (.int .u64 sx3), .v (.int .u64 sx4), .v (.int .u64 sx5), .v (.int .u64 sx6), .v (.int .u64 sx7)]
noncomputable abbrev cCFqz1 (pr0 pr1 pr2 pr3 pr4 pr5 pr6 pr7 pip : Int) (pfc pfp pfz pfs pfo pfd : Bool) (px0 px1 px2 px3 px4 px5 px6 px7 qr0 qr1 qr2 qr3 qr4 qr5 qr6 qr7 qip : Int) (qfc qfp qfz qfs qfo qfd : Bool) (qx0 qx1 qx2 qx3 qx4 qx5 qx6 qx7 sr0 sr1 sr2 sr3 sr4 sr5 sr6 sr7 sip : Int) (sfc sfp sfz sfs sfo sfd : Bool) (sx0 sx1 sx2 sx3 sx4 sx5 sx6 sx7 : Int) : List Sv := [vw pr0, vw pr1, vw pr2, vw pr3, vw pr4, vw pr5, vw pr6, vw pr7, vw pip, vb pfc, vb pfp, vb pfz, vb pfs, vb pfo, vb pfd, vd px0, vd px1, vd px2, vd px3, vd px4, vd px5, vd px6, vd px7, vw qr0, vw qr1, vw qr2, vw qr3, vw qr4, vw qr5, vw qr6, vw qr7, vw qip, vb qfc, vb qfp, vb qfz, vb qfs, vb qfo, vb qfd, vd qx0, vd qx1, vd qx2, vd qx3, vd qx4, vd qx5, vd qx6, vd qx7, vw sr0, vw sr1, vw sr2, vw sr3, vw sr4, vw sr5, vw sr6, vw sr7, vw sip, vb sfc, vb sfp, vb sfz, vb sfs, vb sfo, vb sfd, vd sx0, vd sx1, vd sx2, vd sx3, vd sx4, vd sx5, vd sx6, vd sx7]
noncomputable abbrev cCFqz2 (op cond size ak ar ab ai aq ad bk br bb bi bq bd c : Int) (rep : Bool) (len : Int) : List Sv := [.v (.int .i64 op), .v (.int .i64 cond), .v (.int .i64 size), .v (.int .i64 ak), .v (.int .i64 ar), .v (.int .i64 ab), .v (.int .i64 ai), .v (.int .i64 aq), .v (.int .u32 ad), .v (.int .i64 bk), .v (.int .i64 br), .v (.int .i64 bb), .v (.int .i64 bi), .v (.int .i64 bq), .v (.int .u32 bd), .v (.int .u32 c), .v (.bool rep), .v (.int .i64 len)]
noncomputable abbrev cCFqz3 (op cond size ak ar ab ai aq ad bk br bb bi bq bd c : Int) (rep : Bool) (len : Int) : List Sv := [vi op, vi cond, vi size, vi ak, vi ar, vi ab, vi ai, vi aq, vw ad, vi bk, vi br, vi bb, vi bi, vi bq, vw bd, vw c, vb rep, vi len]
theorem fa_form0 (n : Int) (y3 y4 y7 y9 y10 y11 y19 y20 y45 y46 y47 : Sv) (pr0 pr1 pr2 pr3 pr4 pr5 pr6 pr7 pip : Int) (pfc pfp pfz pfs pfo pfd : Bool) (px0 px1 px2 px3 px4 px5 px6 px7 qr0 qr1 qr2 qr3 qr4 qr5 qr6 qr7 qip : Int) (qfc qfp qfz qfs qfo qfd : Bool) (qx0 qx1 qx2 qx3 qx4 qx5 qx6 qx7 sr0 sr1 sr2 sr3 sr4 sr5 sr6 sr7 sip : Int) (sfc sfp sfz sfs sfo sfd : Bool) (sx0 sx1 sx2 sx3 sx4 sx5 sx6 sx7 op cond size ak ar ab ai aq ad bk br bb bi bq bd c : Int) (rep : Bool) (len : Int) (Ti Tz : TypeId) (o0 o1 o2 o3 o4 o5 : SObj) (g : List Sv) (x1 : Bool) (ex1 : x1 = (in32 pr0 && (in32 pr1 && (in32 pr2 && (in32 pr3 && (in32 pr4 && (in32 pr5 && (in32 pr6 && (in32 pr7 && (true && (true && (in32 ad && (in32 bd && (in64 px0 && (in64 px1 && (in64 px2 && (in64 px3 && (in64 px4 && (in64 px5 && (in64 px6 && (in64 px7 && fpG op size ak))))))))))))))))))))) (x2 : Int → Int) (ex2 : x2 = (wrM (fun x => 0) 36864 (rowF (fun x => 0) (fillB n) 256) 256)) (x3 : Option (Sv × List SObj)) (ex3 : x3 = (fpPT 16384 4096 false false true 36864 256 true true false 115 x2 pr0 pr1 pr2 pr3 pr4 pr5 pr6 pr7 pip pfc pfp pfz pfs pfo pfd px0 px1 px2 px3 px4 px5 px6 px7 op cond size ak ar ab ai aq ad bk br bb bi bq bd c rep len)) (x4 : Option (Sv × List SObj)) (ex4 : x4 = (fpPT 16384 4096 false false true 36864 256 true true false 68 x2 pr0 pr1 pr2 pr3 pr4 pr5 pr6 pr7 pip pfc pfp pfz pfs pfo pfd px0 px1 px2 px3 px4 px5 px6 px7 op cond size ak ar ab ai aq ad bk br bb bi bq bd c rep len)) (x5 : Option (Nat × Nat × List Sv × List SObj)) (ex5 : x5 = (some (1, 114, [y3, y4, y7, y9, y10, y11, y19, y20, y45, y46, y47, vw n, Sv.ptr 6 0, Sv.sl 7 0 3 3, vi 3, vi 0], [o0, o1, o2, o3, o4, o5, SObj.cells (cCFqz3 op cond size ak ar ab ai aq ad bk br bb bi bq bd c rep len) Ti, SObj.cells (cCFqz1 pr0 pr1 pr2 pr3 pr4 pr5 pr6 pr7 pip pfc pfp pfz pfs pfo pfd px0 px1 px2 px3 px4 px5 px6 px7 qr0 qr1 qr2 qr3 qr4 qr5 qr6 qr7 qip qfc qfp qfz qfs qfo qfd qx0 qx1 qx2 qx3 qx4 qx5 qx6 qx7 sr0 sr1 sr2 sr3 sr4 sr5 sr6 sr7 sip sfc sfp sfz sfs sfo sfd sx0 sx1 sx2 sx3 sx4 sx5 sx6 sx7) Tz]))) :
    ev Try.prog ΓFp 60 (fun _ => none) (roundOf Try.prog 8 2) (fr 114 [3, 4, 7, 9, 10, 11, 19, 20, 45, 46, 47, 8, 23, 73, 74, 75] [y3, y4, y7, y9, y10, y11, y19, y20, y45, y46, y47, .v (.int .u32 n), .ptr 6 0, .sl 7 0 3 3, .v (.int .i64 3), .v (.int .i64 0)] g) [o0, o1, o2, o3, o4, o5, .cells (cCFqz2 op cond size ak ar ab ai aq ad bk br bb bi bq bd c rep len) Ti, .cells (cCFqz0 pr0 pr1 pr2 pr3 pr4 pr5 pr6 pr7 pip pfc pfp pfz pfs pfo pfd px0 px1 px2 px3 px4 px5 px6 px7 qr0 qr1 qr2 qr3 qr4 qr5 qr6 qr7 qip qfc qfp qfz qfs qfo qfd qx0 qx1 qx2 qx3 qx4 qx5 qx6 qx7 sr0 sr1 sr2 sr3 sr4 sr5 sr6 sr7 sip sfc sfp sfz sfs sfo sfd sx0 sx1 sx2 sx3 sx4 sx5 sx6 sx7) Tz] (liveD [3, 4, 7, 9, 10, 11, 19, 20, 45, 46, 47, 8, 23, 73, 74, 75] 8) =
    (bif x1 && !9 + 12 == 9 + 6 then bif x1 && (!9 + 5 == 9 + 1 && (!9 + 5 == 9 && !9 + 1 == 9)) then bif !(ansI x3 0 == ansI x4 0 && (ansI x3 1 == ansI x4 1 && (ansI x3 2 == ansI x4 2 && (ansI x3 3 == ansI x4 3 && (ansI x3 4 == ansI x4 4 && (ansI x3 5 == ansI x4 5 && (ansI x3 6 == ansI x4 6 && (ansI x3 7 == ansI x4 7 && true))))))) && (ansI x3 8 == ansI x4 8 && (ansB x3 9 == ansB x4 9 && (ansB x3 10 == ansB x4 10 && (ansB x3 11 == ansB x4 11 && (ansB x3 12 == ansB x4 12 && (ansB x3 13 == ansB x4 13 && (ansB x3 14 == ansB x4 14 && true))))) && (ansI x3 15 == ansI x4 15 && (ansI x3 16 == ansI x4 16 && (ansI x3 17 == ansI x4 17 && (ansI x3 18 == ansI x4 18 && (ansI x3 19 == ansI x4 19 && (ansI x3 20 == ansI x4 20 && (ansI x3 21 == ansI x4 21 && (ansI x3 22 == ansI x4 22 && true))))))) && true)))) then x5 else bif ansI x3 23 != ansI x4 23 then x5 else bif !alikeV (ansM x3 1) (ansM x4 1) then x5 else some (0, 114, [y3, y4, y7, y9, y10, y11, y19, y20, y45, y46, y47, vw n, Sv.ptr 6 0, Sv.sl 7 0 3 3, vi 3, vi 1], [o0, o1, o2, o3, o4, o5, SObj.cells (cCFqz3 op cond size ak ar ab ai aq ad bk br bb bi bq bd c rep len) Ti, SObj.cells (cCFqz1 pr0 pr1 pr2 pr3 pr4 pr5 pr6 pr7 pip pfc pfp pfz pfs pfo pfd px0 px1 px2 px3 px4 px5 px6 px7 qr0 qr1 qr2 qr3 qr4 qr5 qr6 qr7 qip qfc qfp qfz qfs qfo qfd qx0 qx1 qx2 qx3 qx4 qx5 qx6 qx7 sr0 sr1 sr2 sr3 sr4 sr5 sr6 sr7 sip sfc sfp sfz sfs sfo sfd sx0 sx1 sx2 sx3 sx4 sx5 sx6 sx7) Tz]) else none else none) := by
  subst ex1
  subst ex2
  subst ex3
  subst ex4
  subst ex5
  kernel_rfl
theorem fa_form1 (n : Int) (y3 y4 y7 y9 y10 y11 y19 y20 y45 y46 y47 : Sv) (pr0 pr1 pr2 pr3 pr4 pr5 pr6 pr7 pip : Int) (pfc pfp pfz pfs pfo pfd : Bool) (px0 px1 px2 px3 px4 px5 px6 px7 qr0 qr1 qr2 qr3 qr4 qr5 qr6 qr7 qip : Int) (qfc qfp qfz qfs qfo qfd : Bool) (qx0 qx1 qx2 qx3 qx4 qx5 qx6 qx7 sr0 sr1 sr2 sr3 sr4 sr5 sr6 sr7 sip : Int) (sfc sfp sfz sfs sfo sfd : Bool) (sx0 sx1 sx2 sx3 sx4 sx5 sx6 sx7 op cond size ak ar ab ai aq ad bk br bb bi bq bd c : Int) (rep : Bool) (len : Int) (Ti Tz : TypeId) (o0 o1 o2 o3 o4 o5 : SObj) (g : List Sv) (x1 : Bool) (ex1 : x1 = (in32 qr0 && (in32 qr1 && (in32 qr2 && (in32 qr3 && (in32 qr4 && (in32 qr5 && (in32 qr6 && (in32 qr7 && (true && (true && (in32 ad && (in32 bd && (in64 qx0 && (in64 qx1 && (in64 qx2 && (in64 qx3 && (in64 qx4 && (in64 qx5 && (in64 qx6 && (in64 qx7 && fpG op size ak))))))))))))))))))))) (x2 : Int → Int) (ex2 : x2 = (wrM (fun x => 0) 36864 (rowF (fun x => 0) (fillB n) 256) 256)) (x3 : Option (Sv × List SObj)) (ex3 : x3 = (fpPT 16384 4096 false false true 36864 256 true true false 115 x2 qr0 qr1 qr2 qr3 qr4 qr5 qr6 qr7 qip qfc qfp qfz qfs qfo qfd qx0 qx1 qx2 qx3 qx4 qx5 qx6 qx7 op cond size ak ar ab ai aq ad bk br bb bi bq bd c rep len)) (x4 : Option (Sv × List SObj)) (ex4 : x4 = (fpPT 16384 4096 false false true 36864 256 true true false 68 x2 qr0 qr1 qr2 qr3 qr4 qr5 qr6 qr7 qip qfc qfp qfz qfs qfo qfd qx0 qx1 qx2 qx3 qx4 qx5 qx6 qx7 op cond size ak ar ab ai aq ad bk br bb bi bq bd c rep len)) (x5 : Option (Nat × Nat × List Sv × List SObj)) (ex5 : x5 = (some (1, 114, [y3, y4, y7, y9, y10, y11, y19, y20, y45, y46, y47, vw n, Sv.ptr 6 0, Sv.sl 7 0 3 3, vi 3, vi 1], [o0, o1, o2, o3, o4, o5, SObj.cells (cCFqz3 op cond size ak ar ab ai aq ad bk br bb bi bq bd c rep len) Ti, SObj.cells (cCFqz1 pr0 pr1 pr2 pr3 pr4 pr5 pr6 pr7 pip pfc pfp pfz pfs pfo pfd px0 px1 px2 px3 px4 px5 px6 px7 qr0 qr1 qr2 qr3 qr4 qr5 qr6 qr7 qip qfc qfp qfz qfs qfo qfd qx0 qx1 qx2 qx3 qx4 qx5 qx6 qx7 sr0 sr1 sr2 sr3 sr4 sr5 sr6 sr7 sip sfc sfp sfz sfs sfo sfd sx0 sx1 sx2 sx3 sx4 sx5 sx6 sx7) Tz]))) :
    ev Try.prog ΓFp 60 (fun _ => none) (roundOf Try.prog 8 2) (fr 114 [3, 4, 7, 9, 10, 11, 19, 20, 45, 46, 47, 8, 23, 73, 74, 75] [y3, y4, y7, y9, y10, y11, y19, y20, y45, y46, y47, .v (.int .u32 n), .ptr 6 0, .sl 7 0 3 3, .v (.int .i64 3), .v (.int .i64 1)] g) [o0, o1, o2, o3, o4, o5, .cells (cCFqz2 op cond size ak ar ab ai aq ad bk br bb bi bq bd c rep len) Ti, .cells (cCFqz0 pr0 pr1 pr2 pr3 pr4 pr5 pr6 pr7 pip pfc pfp pfz pfs pfo pfd px0 px1 px2 px3 px4 px5 px6 px7 qr0 qr1 qr2 qr3 qr4 qr5 qr6 qr7 qip qfc qfp qfz qfs qfo qfd qx0 qx1 qx2 qx3 qx4 qx5 qx6 qx7 sr0 sr1 sr2 sr3 sr4 sr5 sr6 sr7 sip sfc sfp sfz sfs sfo sfd sx0 sx1 sx2 sx3 sx4 sx5 sx6 sx7) Tz] (liveD [3, 4, 7, 9, 10, 11, 19, 20, 45, 46, 47, 8, 23, 73, 74, 75] 8) =
    (bif x1 && !9 + 12 == 9 + 6 then bif x1 && (!9 + 5 == 9 + 1 && (!9 + 5 == 9 && !9 + 1 == 9)) then bif !(ansI x3 0 == ansI x4 0 && (ansI x3 1 == ansI x4 1 && (ansI x3 2 == ansI x4 2 && (ansI x3 3 == ansI x4 3 && (ansI x3 4 == ansI x4 4 && (ansI x3 5 == ansI x4 5 && (ansI x3 6 == ansI x4 6 && (ansI x3 7 == ansI x4 7 && true))))))) && (ansI x3 8 == ansI x4 8 && (ansB x3 9 == ansB x4 9 && (ansB x3 10 == ansB x4 10 && (ansB x3 11 == ansB x4 11 && (ansB x3 12 == ansB x4 12 && (ansB x3 13 == ansB x4 13 && (ansB x3 14 == ansB x4 14 && true))))) && (ansI x3 15 == ansI x4 15 && (ansI x3 16 == ansI x4 16 && (ansI x3 17 == ansI x4 17 && (ansI x3 18 == ansI x4 18 && (ansI x3 19 == ansI x4 19 && (ansI x3 20 == ansI x4 20 && (ansI x3 21 == ansI x4 21 && (ansI x3 22 == ansI x4 22 && true))))))) && true)))) then x5 else bif ansI x3 23 != ansI x4 23 then x5 else bif !alikeV (ansM x3 1) (ansM x4 1) then x5 else some (0, 114, [y3, y4, y7, y9, y10, y11, y19, y20, y45, y46, y47, vw n, Sv.ptr 6 0, Sv.sl 7 0 3 3, vi 3, vi 2], [o0, o1, o2, o3, o4, o5, SObj.cells (cCFqz3 op cond size ak ar ab ai aq ad bk br bb bi bq bd c rep len) Ti, SObj.cells (cCFqz1 pr0 pr1 pr2 pr3 pr4 pr5 pr6 pr7 pip pfc pfp pfz pfs pfo pfd px0 px1 px2 px3 px4 px5 px6 px7 qr0 qr1 qr2 qr3 qr4 qr5 qr6 qr7 qip qfc qfp qfz qfs qfo qfd qx0 qx1 qx2 qx3 qx4 qx5 qx6 qx7 sr0 sr1 sr2 sr3 sr4 sr5 sr6 sr7 sip sfc sfp sfz sfs sfo sfd sx0 sx1 sx2 sx3 sx4 sx5 sx6 sx7) Tz]) else none else none) := by
  subst ex1
  subst ex2
  subst ex3
  subst ex4
  subst ex5
  kernel_rfl
theorem fa_form2 (n : Int) (y3 y4 y7 y9 y10 y11 y19 y20 y45 y46 y47 : Sv) (pr0 pr1 pr2 pr3 pr4 pr5 pr6 pr7 pip : Int) (pfc pfp pfz pfs pfo pfd : Bool) (px0 px1 px2 px3 px4 px5 px6 px7 qr0 qr1 qr2 qr3 qr4 qr5 qr6 qr7 qip : Int) (qfc qfp qfz qfs qfo qfd : Bool) (qx0 qx1 qx2 qx3 qx4 qx5 qx6 qx7 sr0 sr1 sr2 sr3 sr4 sr5 sr6 sr7 sip : Int) (sfc sfp sfz sfs sfo sfd : Bool) (sx0 sx1 sx2 sx3 sx4 sx5 sx6 sx7 op cond size ak ar ab ai aq ad bk br bb bi bq bd c : Int) (rep : Bool) (len : Int) (Ti Tz : TypeId) (o0 o1 o2 o3 o4 o5 : SObj) (g : List Sv) (x1 : Bool) (ex1 : x1 = (in32 sr0 && (in32 sr1 && (in32 sr2 && (in32 sr3 && (in32 sr4 && (in32 sr5 && (in32 sr6 && (in32 sr7 && (true && (true && (in32 ad && (in32 bd && (in64 sx0 && (in64 sx1 && (in64 sx2 && (in64 sx3 && (in64 sx4 && (in64 sx5 && (in64 sx6 && (in64 sx7 && fpG op size ak))))))))))))))))))))) (x2 : Int → Int) (ex2 : x2 = (wrM (fun x => 0) 36864 (rowF (fun x => 0) (fillB n) 256) 256)) (x3 : Option (Sv × List SObj)) (ex3 : x3 = (fpPT 16384 4096 false false true 36864 256 true true false 115 x2 sr0 sr1 sr2 sr3 sr4 sr5 sr6 sr7 sip sfc sfp sfz sfs sfo sfd sx0 sx1 sx2 sx3 sx4 sx5 sx6 sx7 op cond size ak ar ab ai aq ad bk br bb bi bq bd c rep len)) (x4 : Option (Sv × List SObj)) (ex4 : x4 = (fpPT 16384 4096 false false true 36864 256 true true false 68 x2 sr0 sr1 sr2 sr3 sr4 sr5 sr6 sr7 sip sfc sfp sfz sfs sfo sfd sx0 sx1 sx2 sx3 sx4 sx5 sx6 sx7 op cond size ak ar ab ai aq ad bk br bb bi bq bd c rep len)) (x5 : Option (Nat × Nat × List Sv × List SObj)) (ex5 : x5 = (some (1, 114, [y3, y4, y7, y9, y10, y11, y19, y20, y45, y46, y47, vw n, Sv.ptr 6 0, Sv.sl 7 0 3 3, vi 3, vi 2], [o0, o1, o2, o3, o4, o5, SObj.cells (cCFqz3 op cond size ak ar ab ai aq ad bk br bb bi bq bd c rep len) Ti, SObj.cells (cCFqz1 pr0 pr1 pr2 pr3 pr4 pr5 pr6 pr7 pip pfc pfp pfz pfs pfo pfd px0 px1 px2 px3 px4 px5 px6 px7 qr0 qr1 qr2 qr3 qr4 qr5 qr6 qr7 qip qfc qfp qfz qfs qfo qfd qx0 qx1 qx2 qx3 qx4 qx5 qx6 qx7 sr0 sr1 sr2 sr3 sr4 sr5 sr6 sr7 sip sfc sfp sfz sfs sfo sfd sx0 sx1 sx2 sx3 sx4 sx5 sx6 sx7) Tz]))) :
    ev Try.prog ΓFp 60 (fun _ => none) (roundOf Try.prog 8 2) (fr 114 [3, 4, 7, 9, 10, 11, 19, 20, 45, 46, 47, 8, 23, 73, 74, 75] [y3, y4, y7, y9, y10, y11, y19, y20, y45, y46, y47, .v (.int .u32 n), .ptr 6 0, .sl 7 0 3 3, .v (.int .i64 3), .v (.int .i64 2)] g) [o0, o1, o2, o3, o4, o5, .cells (cCFqz2 op cond size ak ar ab ai aq ad bk br bb bi bq bd c rep len) Ti, .cells (cCFqz0 pr0 pr1 pr2 pr3 pr4 pr5 pr6 pr7 pip pfc pfp pfz pfs pfo pfd px0 px1 px2 px3 px4 px5 px6 px7 qr0 qr1 qr2 qr3 qr4 qr5 qr6 qr7 qip qfc qfp qfz qfs qfo qfd qx0 qx1 qx2 qx3 qx4 qx5 qx6 qx7 sr0 sr1 sr2 sr3 sr4 sr5 sr6 sr7 sip sfc sfp sfz sfs sfo sfd sx0 sx1 sx2 sx3 sx4 sx5 sx6 sx7) Tz] (liveD [3, 4, 7, 9, 10, 11, 19, 20, 45, 46, 47, 8, 23, 73, 74, 75] 8) =
    (bif x1 && !9 + 12 == 9 + 6 then bif x1 && (!9 + 5 == 9 + 1 && (!9 + 5 == 9 && !9 + 1 == 9)) then bif !(ansI x3 0 == ansI x4 0 && (ansI x3 1 == ansI x4 1 && (ansI x3 2 == ansI x4 2 && (ansI x3 3 == ansI x4 3 && (ansI x3 4 == ansI x4 4 && (ansI x3 5 == ansI x4 5 && (ansI x3 6 == ansI x4 6 && (ansI x3 7 == ansI x4 7 && true))))))) && (ansI x3 8 == ansI x4 8 && (ansB x3 9 == ansB x4 9 && (ansB x3 10 == ansB x4 10 && (ansB x3 11 == ansB x4 11 && (ansB x3 12 == ansB x4 12 && (ansB x3 13 == ansB x4 13 && (ansB x3 14 == ansB x4 14 && true))))) && (ansI x3 15 == ansI x4 15 && (ansI x3 16 == ansI x4 16 && (ansI x3 17 == ansI x4 17 && (ansI x3 18 == ansI x4 18 && (ansI x3 19 == ansI x4 19 && (ansI x3 20 == ansI x4 20 && (ansI x3 21 == ansI x4 21 && (ansI x3 22 == ansI x4 22 && true))))))) && true)))) then x5 else bif ansI x3 23 != ansI x4 23 then x5 else bif !alikeV (ansM x3 1) (ansM x4 1) then x5 else some (0, 114, [y3, y4, y7, y9, y10, y11, y19, y20, y45, y46, y47, vw n, Sv.ptr 6 0, Sv.sl 7 0 3 3, vi 3, vi 3], [o0, o1, o2, o3, o4, o5, SObj.cells (cCFqz3 op cond size ak ar ab ai aq ad bk br bb bi bq bd c rep len) Ti, SObj.cells (cCFqz1 pr0 pr1 pr2 pr3 pr4 pr5 pr6 pr7 pip pfc pfp pfz pfs pfo pfd px0 px1 px2 px3 px4 px5 px6 px7 qr0 qr1 qr2 qr3 qr4 qr5 qr6 qr7 qip qfc qfp qfz qfs qfo qfd qx0 qx1 qx2 qx3 qx4 qx5 qx6 qx7 sr0 sr1 sr2 sr3 sr4 sr5 sr6 sr7 sip sfc sfp sfz sfs sfo sfd sx0 sx1 sx2 sx3 sx4 sx5 sx6 sx7) Tz]) else none else none) := by
  subst ex1
  subst ex2
  subst ex3
  subst ex4
  subst ex5
  kernel_rfl
theorem fa_form3 (n : Int) (y3 y4 y7 y9 y10 y11 y19 y20 y45 y46 y47 : Sv) (pr0 pr1 pr2 pr3 pr4 pr5 pr6 pr7 pip : Int) (pfc pfp pfz pfs pfo pfd : Bool) (px0 px1 px2 px3 px4 px5 px6 px7 qr0 qr1 qr2 qr3 qr4 qr5 qr6 qr7 qip : Int) (qfc qfp qfz qfs qfo qfd : Bool) (qx0 qx1 qx2 qx3 qx4 qx5 qx6 qx7 sr0 sr1 sr2 sr3 sr4 sr5 sr6 sr7 sip : Int) (sfc sfp sfz sfs sfo sfd : Bool) (sx0 sx1 sx2 sx3 sx4 sx5 sx6 sx7 op cond size ak ar ab ai aq ad bk br bb bi bq bd c : Int) (rep : Bool) (len : Int) (Ti Tz : TypeId) (o0 o1 o2 o3 o4 o5 : SObj) (g : List Sv) :
    ev Try.prog ΓFp 60 (fun _ => none) (roundOf Try.prog 8 2) (fr 114 [3, 4, 7, 9, 10, 11, 19, 20, 45, 46, 47, 8, 23, 73, 74, 75] [y3, y4, y7, y9, y10, y11, y19, y20, y45, y46, y47, .v (.int .u32 n), .ptr 6 0, .sl 7 0 3 3, .v (.int .i64 3), .v (.int .i64 3)] g) [o0, o1, o2, o3, o4, o5, .cells (cCFqz2 op cond size ak ar ab ai aq ad bk br bb bi bq bd c rep len) Ti, .cells (cCFqz0 pr0 pr1 pr2 pr3 pr4 pr5 pr6 pr7 pip pfc pfp pfz pfs pfo pfd px0 px1 px2 px3 px4 px5 px6 px7 qr0 qr1 qr2 qr3 qr4 qr5 qr6 qr7 qip qfc qfp qfz qfs qfo qfd qx0 qx1 qx2 qx3 qx4 qx5 qx6 qx7 sr0 sr1 sr2 sr3 sr4 sr5 sr6 sr7 sip sfc sfp sfz sfs sfo sfd sx0 sx1 sx2 sx3 sx4 sx5 sx6 sx7) Tz] (liveD [3, 4, 7, 9, 10, 11, 19, 20, 45, 46, 47, 8, 23, 73, 74, 75] 8) =
    (some (4, 114, [y3, y4, y7, y9, y10, y11, y19, y20, y45, y46, y47, vw n, Sv.ptr 6 0, Sv.sl 7 0 3 3, vi 3, vi 3], [o0, o1, o2, o3, o4, o5, SObj.cells (cCFqz3 op cond size ak ar ab ai aq ad bk br bb bi bq bd c rep len) Ti, SObj.cells (cCFqz1 pr0 pr1 pr2 pr3 pr4 pr5 pr6 pr7 pip pfc pfp pfz pfs pfo pfd px0 px1 px2 px3 px4 px5 px6 px7 qr0 qr1 qr2 qr3 qr4 qr5 qr6 qr7 qip qfc qfp qfz qfs qfo qfd qx0 qx1 qx2 qx3 qx4 qx5 qx6 qx7 sr0 sr1 sr2 sr3 sr4 sr5 sr6 sr7 sip sfc sfp sfz sfs sfo sfd sx0 sx1 sx2 sx3 sx4 sx5 sx6 sx7) Tz])) := by
  kernel_rfl
structure faS where
  n : Int
  y3 : Sv
  y4 : Sv
  y7 : Sv
  y9 : Sv
  y10 : Sv
  y11 : Sv
  y19 : Sv
  y20 : Sv
  y45 : Sv
  y46 : Sv
  y47 : Sv
  pr0 : Int
  pr1 : Int
  pr2 : Int
  pr3 : Int
  pr4 : Int
  pr5 : Int
  pr6 : Int
  pr7 : Int
  pip : Int
  pfc : Bool
  pfp : Bool
  pfz : Bool
  pfs : Bool
  pfo : Bool
  pfd : Bool
  px0 : Int
  px1 : Int
  px2 : Int
  px3 : Int
  px4 : Int
  px5 : Int
  px6 : Int
  px7 : Int
  qr0 : Int
  qr1 : Int
  qr2 : Int
  qr3 : Int
  qr4 : Int
  qr5 : Int
  qr6 : Int
  qr7 : Int
  qip : Int
  qfc : Bool
  qfp : Bool
  qfz : Bool
  qfs : Bool
  qfo : Bool
  qfd : Bool
  qx0 : Int
  qx1 : Int
  qx2 : Int
  qx3 : Int
  qx4 : Int
  qx5 : Int
  qx6 : Int
  qx7 : Int
  sr0 : Int
  sr1 : Int
  sr2 : Int
  sr3 : Int
  sr4 : Int
  sr5 : Int
  sr6 : Int
  sr7 : Int
  sip : Int
  sfc : Bool
  sfp : Bool
  sfz : Bool
  sfs : Bool
  sfo : Bool
  sfd : Bool
  sx0 : Int
  sx1 : Int
  sx2 : Int
  sx3 : Int
  sx4 : Int
  sx5 : Int
  sx6 : Int
  sx7 : Int
  op : Int
  cond : Int
  size : Int
  ak : Int
  ar : Int
  ab : Int
  ai : Int
  aq : Int
  ad : Int
  bk : Int
  br : Int
  bb : Int
  bi : Int
  bq : Int
  bd : Int
  c : Int
  rep : Bool
  len : Int
  Ti : TypeId
  Tz : TypeId
  o0 : SObj
  o1 : SObj
  o2 : SObj
  o3 : SObj
  o4 : SObj
  o5 : SObj
abbrev fan (s : faS) : Nat := 3
def faV (s : faS) (i : Nat) : List Sv := [s.y3, s.y4, s.y7, s.y9, s.y10, s.y11, s.y19, s.y20, s.y45, s.y46, s.y47, .v (.int .u32 s.n), .ptr 6 0, .sl 7 0 3 3, .v (.int .i64 3), .v (.int .i64 (i : Int))]
def faM (s : faS) (i : Nat) : List SObj := [s.o0, s.o1, s.o2, s.o3, s.o4, s.o5, .cells [.v (.int .i64 s.op), .v (.int .i64 s.cond), .v (.int .i64 s.size), .v (.int .i64 s.ak), .v (.int .i64 s.ar), .v (.int .i64 s.ab), .v (.int .i64 s.ai), .v (.int .i64 s.aq), .v (.int .u32 s.ad), .v (.int .i64 s.bk), .v (.int .i64 s.br), .v (.int .i64 s.bb), .v (.int .i64 s.bi), .v (.int .i64 s.bq), .v (.int .u32 s.bd), .v (.int .u32 s.c), .v (.bool s.rep), .v (.int .i64 s.len)] s.Ti, .cells [.v (.int .u32 s.pr0), .v (.int .u32 s.pr1), .v (.int .u32 s.pr2), .v (.int .u32 s.pr3), .v (.int .u32 s.pr4), .v (.int .u32 s.pr5), .v (.int .u32 s.pr6), .v (.int .u32 s.pr7), .v (.int .u32 s.pip), .v (.bool s.pfc), .v (.bool s.pfp), .v (.bool s.pfz), .v (.bool s.pfs), .v (.bool s.pfo), .v (.bool s.pfd), .v (.int .u64 s.px0), .v (.int .u64 s.px1), .v (.int .u64 s.px2), .v (.int .u64 s.px3), .v (.int .u64 s.px4), .v (.int .u64 s.px5), .v (.int .u64 s.px6), .v (.int .u64 s.px7), .v (.int .u32 s.qr0), .v (.int .u32 s.qr1), .v (.int .u32 s.qr2), .v (.int .u32 s.qr3), .v (.int .u32 s.qr4), .v (.int .u32 s.qr5), .v (.int .u32 s.qr6), .v (.int .u32 s.qr7), .v (.int .u32 s.qip), .v (.bool s.qfc), .v (.bool s.qfp), .v (.bool s.qfz), .v (.bool s.qfs), .v (.bool s.qfo), .v (.bool s.qfd), .v (.int .u64 s.qx0), .v (.int .u64 s.qx1), .v (.int .u64 s.qx2), .v (.int .u64 s.qx3), .v (.int .u64 s.qx4), .v (.int .u64 s.qx5), .v (.int .u64 s.qx6), .v (.int .u64 s.qx7), .v (.int .u32 s.sr0), .v (.int .u32 s.sr1), .v (.int .u32 s.sr2), .v (.int .u32 s.sr3), .v (.int .u32 s.sr4), .v (.int .u32 s.sr5), .v (.int .u32 s.sr6), .v (.int .u32 s.sr7), .v (.int .u32 s.sip), .v (.bool s.sfc), .v (.bool s.sfp), .v (.bool s.sfz), .v (.bool s.sfs), .v (.bool s.sfo), .v (.bool s.sfd), .v (.int .u64 s.sx0), .v (.int .u64 s.sx1), .v (.int .u64 s.sx2), .v (.int .u64 s.sx3), .v (.int .u64 s.sx4), .v (.int .u64 s.sx5), .v (.int .u64 s.sx6), .v (.int .u64 s.sx7)] s.Tz]
def faInv (s : faS) : Prop := (in32 s.pr0) = true ∧ (in32 s.pr1) = true ∧ (in32 s.pr2) = true ∧ (in32 s.pr3) = true ∧ (in32 s.pr4) = true ∧ (in32 s.pr5) = true ∧ (in32 s.pr6) = true ∧ (in32 s.pr7) = true ∧ (in32 s.qr0) = true ∧ (in32 s.qr1) = true ∧ (in32 s.qr2) = true ∧ (in32 s.qr3) = true ∧ (in32 s.qr4) = true ∧ (in32 s.qr5) = true ∧ (in32 s.qr6) = true ∧ (in32 s.qr7) = true ∧ (in32 s.sr0) = true ∧ (in32 s.sr1) = true ∧ (in32 s.sr2) = true ∧ (in32 s.sr3) = true ∧ (in32 s.sr4) = true ∧ (in32 s.sr5) = true ∧ (in32 s.sr6) = true ∧ (in32 s.sr7) = true ∧ (in32 s.ad) = true ∧ (in32 s.bd) = true ∧ (fpG s.op s.size s.ak) = true ∧ (in64 s.px0) = true ∧ (in64 s.px1) = true ∧ (in64 s.px2) = true ∧ (in64 s.px3) = true ∧ (in64 s.px4) = true ∧ (in64 s.px5) = true ∧ (in64 s.px6) = true ∧ (in64 s.px7) = true ∧ (in64 s.qx0) = true ∧ (in64 s.qx1) = true ∧ (in64 s.qx2) = true ∧ (in64 s.qx3) = true ∧ (in64 s.qx4) = true ∧ (in64 s.qx5) = true ∧ (in64 s.qx6) = true ∧ (in64 s.qx7) = true ∧ (in64 s.sx0) = true ∧ (in64 s.sx1) = true ∧ (in64 s.sx2) = true ∧ (in64 s.sx3) = true ∧ (in64 s.sx4) = true ∧ (in64 s.sx5) = true ∧ (in64 s.sx6) = true ∧ (in64 s.sx7) = true ∧ (clL 8 [s.y3, s.y4, s.y7, s.y9, s.y10, s.y11, s.y19, s.y20, s.y45, s.y46, s.y47]) = true ∧ (clM 8 [s.o0, s.o1, s.o2, s.o3, s.o4, s.o5]) = true
def faL : Rounds (CntS faS) (CntS faS) := cntE 114 [3, 4, 7, 9, 10, 11, 19, 20, 45, 46, 47, 8, 23, 73, 74, 75] fan faV faM faInv 3
set_option maxHeartbeats 4000000 in
theorem faL_ok : faL.OkD Try.prog ΓFp 60 (roundOf Try.prog 8 2) 8 := cntE_okD
  (fun s g i hs hi => by
    obtain ⟨h0, h1, h2, h3, h4, h5, h6, h7, h8, h9, h10, h11, h12, h13, h14, h15, h16, h17, h18, h19, h20, h21, h22, h23, h24, h25, h26, h27, h28, h29, h30, h31, h32, h33, h34, h35, h36, h37, h38, h39, h40, h41, h42, h43, h44, h45, h46, h47, h48, h49, h50, h51, hm⟩ := hs
    match i, (show i < 3 from hi) with
    | 0, _ =>
      have tl := fpP_T 16384 4096 false false true 36864 256 true true false 68 115 (wrM (fun x => 0) 36864 (rowF (fun x => 0) (fillB s.n) 256) 256) s.pr0 s.pr1 s.pr2 s.pr3 s.pr4 s.pr5 s.pr6 s.pr7 s.pip s.pfc s.pfp s.pfz s.pfs s.pfo s.pfd s.px0 s.px1 s.px2 s.px3 s.px4 s.px5 s.px6 s.px7 s.op s.cond s.size s.ak s.ar s.ab s.ai s.aq s.ad s.bk s.br s.bb s.bi s.bq s.bd s.c s.rep s.len
      refine (fa_form0 s.n s.y3 s.y4 s.y7 s.y9 s.y10 s.y11 s.y19 s.y20 s.y45 s.y46 s.y47 s.pr0 s.pr1 s.pr2 s.pr3 s.pr4 s.pr5 s.pr6 s.pr7 s.pip s.pfc s.pfp s.pfz s.pfs s.pfo s.pfd s.px0 s.px1 s.px2 s.px3 s.px4 s.px5 s.px6 s.px7 s.qr0 s.qr1 s.qr2 s.qr3 s.qr4 s.qr5 s.qr6 s.qr7 s.qip s.qfc s.qfp s.qfz s.qfs s.qfo s.qfd s.qx0 s.qx1 s.qx2 s.qx3 s.qx4 s.qx5 s.qx6 s.qx7 s.sr0 s.sr1 s.sr2 s.sr3 s.sr4 s.sr5 s.sr6 s.sr7 s.sip s.sfc s.sfp s.sfz s.sfs s.sfo s.sfd s.sx0 s.sx1 s.sx2 s.sx3 s.sx4 s.sx5 s.sx6 s.sx7 s.op s.cond s.size s.ak s.ar s.ab s.ai s.aq s.ad s.bk s.br s.bb s.bi s.bq s.bd s.c s.rep s.len s.Ti s.Tz s.o0 s.o1 s.o2 s.o3 s.o4 s.o5 g _ rfl _ rfl _ rfl _ rfl _ rfl).trans ?_
      simp only [h0, h1, h2, h3, h4, h5, h6, h7, h8, h9, h10, h11, h12, h13, h14, h15, h16, h17, h18, h19, h20, h21, h22, h23, h24, h25, h26, h27, h28, h29, h30, h31, h32, h33, h34, h35, h36, h37, h38, h39, h40, h41, h42, h43, h44, h45, h46, h47, h48, h49, h50, h51, in32_wr, Nat.reduceAdd, Nat.reduceBEq, Bool.and_self, Bool.and_true, Bool.true_and, Bool.not_false, cond_true]
      simp only [ansI_sans tl, ansB_sans tl, ansM_sans tl, beq_self_eq_true, bne_self_eq_false, alikeV_self, Bool.and_self, Bool.or_self, Bool.not_true, cond_false, Bool.cond_self]
      first | done | rfl
    | 1, _ =>
      have tl := fpP_T 16384 4096 false false true 36864 256 true true false 68 115 (wrM (fun x => 0) 36864 (rowF (fun x => 0) (fillB s.n) 256) 256) s.qr0 s.qr1 s.qr2 s.qr3 s.qr4 s.qr5 s.qr6 s.qr7 s.qip s.qfc s.qfp s.qfz s.qfs s.qfo s.qfd s.qx0 s.qx1 s.qx2 s.qx3 s.qx4 s.qx5 s.qx6 s.qx7 s.op s.cond s.size s.ak s.ar s.ab s.ai s.aq s.ad s.bk s.br s.bb s.bi s.bq s.bd s.c s.rep s.len
      refine (fa_form1 s.n s.y3 s.y4 s.y7 s.y9 s.y10 s.y11 s.y19 s.y20 s.y45 s.y46 s.y47 s.pr0 s.pr1 s.pr2 s.pr3 s.pr4 s.pr5 s.pr6 s.pr7 s.pip s.pfc s.pfp s.pfz s.pfs s.pfo s.pfd s.px0 s.px1 s.px2 s.px3 s.px4 s.px5 s.px6 s.px7 s.qr0 s.qr1 s.qr2 s.qr3 s.qr4 s.qr5 s.qr6 s.qr7 s.qip s.qfc s.qfp s.qfz s.qfs s.qfo s.qfd s.qx0 s.qx1 s.qx2 s.qx3 s.qx4 s.qx5 s.qx6 s.qx7 s.sr0 s.sr1 s.sr2 s.sr3 s.sr4 s.sr5 s.sr6 s.sr7 s.sip s.sfc s.sfp s.sfz s.sfs s.sfo s.sfd s.sx0 s.sx1 s.sx2 s.sx3 s.sx4 s.sx5 s.sx6 s.sx7 s.op s.cond s.size s.ak s.ar s.ab s.ai s.aq s.ad s.bk s.br s.bb s.bi s.bq s.bd s.c s.rep s.len s.Ti s.Tz s.o0 s.o1 s.o2 s.o3 s.o4 s.o5 g _ rfl _ rfl _ rfl _ rfl _ rfl).trans ?_
      simp only [h0, h1, h2, h3, h4, h5, h6, h7, h8, h9, h10, h11, h12, h13, h14, h15, h16, h17, h18, h19, h20, h21, h22, h23, h24, h25, h26, h27, h28, h29, h30, h31, h32, h33, h34, h35, h36, h37, h38, h39, h40, h41, h42, h43, h44, h45, h46, h47, h48, h49, h50, h51, in32_wr, Nat.reduceAdd, Nat.reduceBEq, Bool.and_self, Bool.and_true, Bool.true_and, Bool.not_false, cond_true]
      simp only [ansI_sans tl, ansB_sans tl, ansM_sans tl, beq_self_eq_true, bne_self_eq_false, alikeV_self, Bool.and_self, Bool.or_self, Bool.not_true, cond_false, Bool.cond_self]
      first | done | rfl
    | 2, _ =>
      have tl := fpP_T 16384 4096 false false true 36864 256 true true false 68 115 (wrM (fun x => 0) 36864 (rowF (fun x => 0) (fillB s.n) 256) 256) s.sr0 s.sr1 s.sr2 s.sr3 s.sr4 s.sr5 s.sr6 s.sr7 s.sip s.sfc s.sfp s.sfz s.sfs s.sfo s.sfd s.sx0 s.sx1 s.sx2 s.sx3 s.sx4 s.sx5 s.sx6 s.sx7 s.op s.cond s.size s.ak s.ar s.ab s.ai s.aq s.ad s.bk s.br s.bb s.bi s.bq s.bd s.c s.rep s.len
      refine (fa_form2 s.n s.y3 s.y4 s.y7 s.y9 s.y10 s.y11 s.y19 s.y20 s.y45 s.y46 s.y47 s.pr0 s.pr1 s.pr2 s.pr3 s.pr4 s.pr5 s.pr6 s.pr7 s.pip s.pfc s.pfp s.pfz s.pfs s.pfo s.pfd s.px0 s.px1 s.px2 s.px3 s.px4 s.px5 s.px6 s.px7 s.qr0 s.qr1 s.qr2 s.qr3 s.qr4 s.qr5 s.qr6 s.qr7 s.qip s.qfc s.qfp s.qfz s.qfs s.qfo s.qfd s.qx0 s.qx1 s.qx2 s.qx3 s.qx4 s.qx5 s.qx6 s.qx7 s.sr0 s.sr1 s.sr2 s.sr3 s.sr4 s.sr5 s.sr6 s.sr7 s.sip s.sfc s.sfp s.sfz s.sfs s.sfo s.sfd s.sx0 s.sx1 s.sx2 s.sx3 s.sx4 s.sx5 s.sx6 s.sx7 s.op s.cond s.size s.ak s.ar s.ab s.ai s.aq s.ad s.bk s.br s.bb s.bi s.bq s.bd s.c s.rep s.len s.Ti s.Tz s.o0 s.o1 s.o2 s.o3 s.o4 s.o5 g _ rfl _ rfl _ rfl _ rfl _ rfl).trans ?_
      simp only [h0, h1, h2, h3, h4, h5, h6, h7, h8, h9, h10, h11, h12, h13, h14, h15, h16, h17, h18, h19, h20, h21, h22, h23, h24, h25, h26, h27, h28, h29, h30, h31, h32, h33, h34, h35, h36, h37, h38, h39, h40, h41, h42, h43, h44, h45, h46, h47, h48, h49, h50, h51, in32_wr, Nat.reduceAdd, Nat.reduceBEq, Bool.and_self, Bool.and_true, Bool.true_and, Bool.not_false, cond_true]
      simp only [ansI_sans tl, ansB_sans tl, ansM_sans tl, beq_self_eq_true, bne_self_eq_false, alikeV_self, Bool.and_self, Bool.or_self, Bool.not_true, cond_false, Bool.cond_self]
      first | done | rfl)
  (fun s g hs => fa_form3 s.n s.y3 s.y4 s.y7 s.y9 s.y10 s.y11 s.y19 s.y20 s.y45 s.y46 s.y47 s.pr0 s.pr1 s.pr2 s.pr3 s.pr4 s.pr5 s.pr6 s.pr7 s.pip s.pfc s.pfp s.pfz s.pfs s.pfo s.pfd s.px0 s.px1 s.px2 s.px3 s.px4 s.px5 s.px6 s.px7 s.qr0 s.qr1 s.qr2 s.qr3 s.qr4 s.qr5 s.qr6 s.qr7 s.qip s.qfc s.qfp s.qfz s.qfs s.qfo s.qfd s.qx0 s.qx1 s.qx2 s.qx3 s.qx4 s.qx5 s.qx6 s.qx7 s.sr0 s.sr1 s.sr2 s.sr3 s.sr4 s.sr5 s.sr6 s.sr7 s.sip s.sfc s.sfp s.sfz s.sfs s.sfo s.sfd s.sx0 s.sx1 s.sx2 s.sx3 s.sx4 s.sx5 s.sx6 s.sx7 s.op s.cond s.size s.ak s.ar s.ab s.ai s.aq s.ad s.bk s.br s.bb s.bi s.bq s.bd s.c s.rep s.len s.Ti s.Tz s.o0 s.o1 s.o2 s.o3 s.o4 s.o5 g)
  (fun s i hs _ => by
    obtain ⟨h0, h1, h2, h3, h4, h5, h6, h7, h8, h9, h10, h11, h12, h13, h14, h15, h16, h17, h18, h19, h20, h21, h22, h23, h24, h25, h26, h27, h28, h29, h30, h31, h32, h33, h34, h35, h36, h37, h38, h39, h40, h41, h42, h43, h44, h45, h46, h47, h48, h49, h50, h51, hm⟩ := hs
    refine ⟨rfl, ?_, ?_⟩
    · simp only [clM_cons, clM_nil, Bool.and_eq_true] at hm
      simp only [faM, clM_cons, clM_nil, hm, clO_cells, clL_cons, clL_nil, clS_v, Bool.and_self]
    · simp only [clL_cons, clL_nil, Bool.and_eq_true] at h51
      simp only [faV, clL_cons, clL_nil, clS_v, clS_ptr, clS_sl, h51, show Nat.blt 6 8 = true from rfl, show Nat.blt 7 8 = true from rfl, Bool.and_self])
def faDec : (R : Type) → List Sv → List SObj → (faS → Option R) → Option R := fun R l m k_ => match l with
  | [y3, y4, y7, y9, y10, y11, y19, y20, y45, y46, y47, .v (.int .u32 n), .ptr k0 k1, .sl k2 k3 k4 k5, .v (.int .i64 nn), .v (.int .i64 j)] => (match m with
    | [o0, o1, o2, o3, o4, o5, W6, W7] => (match W6 with
      | .cells [.v (.int .i64 op), .v (.int .i64 cond), .v (.int .i64 size), .v (.int .i64 ak), .v (.int .i64 ar), .v (.int .i64 ab), .v (.int .i64 ai), .v (.int .i64 aq), .v (.int .u32 ad), .v (.int .i64 bk), .v (.int .i64 br), .v (.int .i64 bb), .v (.int .i64 bi), .v (.int .i64 bq), .v (.int .u32 bd), .v (.int .u32 c), .v (.bool rep), .v (.int .i64 len)] Ti => (match W7 with
        | .cells Z Tz => (match (Z.take 23) with
          | [.v (.int .u32 pr0), .v (.int .u32 pr1), .v (.int .u32 pr2), .v (.int .u32 pr3), .v (.int .u32 pr4), .v (.int .u32 pr5), .v (.int .u32 pr6), .v (.int .u32 pr7), .v (.int .u32 pip), .v (.bool pfc), .v (.bool pfp), .v (.bool pfz), .v (.bool pfs), .v (.bool pfo), .v (.bool pfd), .v (.int .u64 px0), .v (.int .u64 px1), .v (.int .u64 px2), .v (.int .u64 px3), .v (.int .u64 px4), .v (.int .u64 px5), .v (.int .u64 px6), .v (.int .u64 px7)] => (match ((Z.drop 23).take 23) with
          | [.v (.int .u32 qr0), .v (.int .u32 qr1), .v (.int .u32 qr2), .v (.int .u32 qr3), .v (.int .u32 qr4), .v (.int .u32 qr5), .v (.int .u32 qr6), .v (.int .u32 qr7), .v (.int .u32 qip), .v (.bool qfc), .v (.bool qfp), .v (.bool qfz), .v (.bool qfs), .v (.bool qfo), .v (.bool qfd), .v (.int .u64 qx0), .v (.int .u64 qx1), .v (.int .u64 qx2), .v (.int .u64 qx3), .v (.int .u64 qx4), .v (.int .u64 qx5), .v (.int .u64 qx6), .v (.int .u64 qx7)] => (match (Z.drop 46) with
          | [.v (.int .u32 sr0), .v (.int .u32 sr1), .v (.int .u32 sr2), .v (.int .u32 sr3), .v (.int .u32 sr4), .v (.int .u32 sr5), .v (.int .u32 sr6), .v (.int .u32 sr7), .v (.int .u32 sip), .v (.bool sfc), .v (.bool sfp), .v (.bool sfz), .v (.bool sfs), .v (.bool sfo), .v (.bool sfd), .v (.int .u64 sx0), .v (.int .u64 sx1), .v (.int .u64 sx2), .v (.int .u64 sx3), .v (.int .u64 sx4), .v (.int .u64 sx5), .v (.int .u64 sx6), .v (.int .u64 sx7)] => bif in32 pr0 && (in32 pr1 && (in32 pr2 && (in32 pr3 && (in32 pr4 && (in32 pr5 && (in32 pr6 && (in32 pr7 && (in32 qr0 && (in32 qr1 && (in32 qr2 && (in32 qr3 && (in32 qr4 && (in32 qr5 && (in32 qr6 && (in32 qr7 && (in32 sr0 && (in32 sr1 && (in32 sr2 && (in32 sr3 && (in32 sr4 && (in32 sr5 && (in32 sr6 && (in32 sr7 && (in32 ad && (in32 bd && (fpG op size ak && (in64 px0 && (in64 px1 && (in64 px2 && (in64 px3 && (in64 px4 && (in64 px5 && (in64 px6 && (in64 px7 && (in64 qx0 && (in64 qx1 && (in64 qx2 && (in64 qx3 && (in64 qx4 && (in64 qx5 && (in64 qx6 && (in64 qx7 && (in64 sx0 && (in64 sx1 && (in64 sx2 && (in64 sx3 && (in64 sx4 && (in64 sx5 && (in64 sx6 && (in64 sx7 && (clL 8 [y3, y4, y7, y9, y10, y11, y19, y20, y45, y46, y47] && (clM 8 [o0, o1, o2, o3, o4, o5] && ((j == 0) && ((nn == 3) && (Nat.beq k0 6 && (Nat.beq k1 0 && (Nat.beq k2 7 && (Nat.beq k3 0 && (Nat.beq k4 3 && (Nat.beq k5 3)))))))))))))))))))))))))))))))))))))))))))))))))))))))))))) then k_ ⟨n, y3, y4, y7, y9, y10, y11, y19, y20, y45, y46, y47, pr0, pr1, pr2, pr3, pr4, pr5, pr6, pr7, pip, pfc, pfp, pfz, pfs, pfo, pfd, px0, px1, px2, px3, px4, px5, px6, px7, qr0, qr1, qr2, qr3, qr4, qr5, qr6, qr7, qip, qfc, qfp, qfz, qfs, qfo, qfd, qx0, qx1, qx2, qx3, qx4, qx5, qx6, qx7, sr0, sr1, sr2, sr3, sr4, sr5, sr6, sr7, sip, sfc, sfp, sfz, sfs, sfo, sfd, sx0, sx1, sx2, sx3, sx4, sx5, sx6, sx7, op, cond, size, ak, ar, ab, ai, aq, ad, bk, br, bb, bi, bq, bd, c, rep, len, Ti, Tz, o0, o1, o2, o3, o4, o5⟩ else none
          | _ => none)
          | _ => none)
          | _ => none)
        | _ => none)
      | _ => none)
    | _ => none)
  | _ => none
theorem fa_zip {Z a b c : List Sv} (h1 : Z.take 23 = a) (h2 : (Z.drop 23).take 23 = b) (h3 : Z.drop 46 = c) : Z = a ++ (b ++ c) := by
  have e : Z.drop 46 = (Z.drop 23).drop 23 := by rw [List.drop_drop]
  rw [← h1, ← h2, ← h3, e, List.take_append_drop, List.take_append_drop]
set_option maxHeartbeats 4000000 in
theorem faDec_ok : ∀ (R : Type) l m (k : faS → Option R) r, faDec R l m k = some r → ∃ s, k s = some r ∧ l = faV s 0 ∧ m = faM s 0 ∧ faInv s := by
  intro R l m k r h
  unfold faDec at h
  split at h
  · split at h
    · split at h
      · split at h
        · split at h
          · rename List.take 23 _ = _ => e1
            split at h
            · rename List.take 23 _ = _ => e2
              split at h
              · rename List.drop 46 _ = _ => e3
                obtain ⟨hg, hk2⟩ := cond_some h
                clear h
                simp only [Bool.and_eq_true, beq_iff_eq, natB] at hg
                obtain ⟨h0, h1, h2, h3, h4, h5, h6, h7, h8, h9, h10, h11, h12, h13, h14, h15, h16, h17, h18, h19, h20, h21, h22, h23, h24, h25, h26, h27, h28, h29, h30, h31, h32, h33, h34, h35, h36, h37, h38, h39, h40, h41, h42, h43, h44, h45, h46, h47, h48, h49, h50, h51, hm, rfl, rfl, rfl, rfl, rfl, rfl, rfl, rfl⟩ := hg
                refine ⟨_, hk2, rfl, ?_, h0, h1, h2, h3, h4, h5, h6, h7, h8, h9, h10, h11, h12, h13, h14, h15, h16, h17, h18, h19, h20, h21, h22, h23, h24, h25, h26, h27, h28, h29, h30, h31, h32, h33, h34, h35, h36, h37, h38, h39, h40, h41, h42, h43, h44, h45, h46, h47, h48, h49, h50, h51, hm⟩
                rw [fa_zip e1 e2 e3]
                rfl
              · cases h
            · cases h
          · cases h
        · cases h
      · cases h
    · cases h
  · cases h
noncomputable def faH : Hook := cntHook Try.prog X0 faL fan 2 (roundOf Try.prog 8 2) faDec
theorem faH_ok : HookOk Try.prog X0 (.block 2 (.loop (roundOf Try.prog 8 2))) faH := cntEHook_ok ΓFp_ok faL_ok faDec_ok
theorem fb_form0 (n : Int) (y3 y4 y7 y9 y10 y11 y19 y20 y45 y46 y47 : Sv) (pr0 pr1 pr2 pr3 pr4 pr5 pr6 pr7 pip : Int) (pfc pfp pfz pfs pfo pfd : Bool) (px0 px1 px2 px3 px4 px5 px6 px7 qr0 qr1 qr2 qr3 qr4 qr5 qr6 qr7 qip : Int) (qfc qfp qfz qfs qfo qfd : Bool) (qx0 qx1 qx2 qx3 qx4 qx5 qx6 qx7 sr0 sr1 sr2 sr3 sr4 sr5 sr6 sr7 sip : Int) (sfc sfp sfz sfs sfo sfd : Bool) (sx0 sx1 sx2 sx3 sx4 sx5 sx6 sx7 op cond size ak ar ab ai aq ad bk br bb bi bq bd c : Int) (rep : Bool) (len : Int) (Ti Tz : TypeId) (o0 o1 o2 o3 o4 o5 o6 o7 o8 o9 : SObj) (g : List Sv) (x1 : Bool) (ex1 : x1 = (in32 pr0 && (in32 pr1 && (in32 pr2 && (in32 pr3 && (in32 pr4 && (in32 pr5 && (in32 pr6 && (in32 pr7 && (true && (true && (in32 ad && (in32 bd && (in64 px0 && (in64 px1 && (in64 px2 && (in64 px3 && (in64 px4 && (in64 px5 && (in64 px6 && (in64 px7 && fpG op size ak))))))))))))))))))))) (x2 : Int → Int) (ex2 : x2 = (wrM (fun x => 0) 36864 (rowF (fun x => 0) (fillB n) 256) 256)) (x3 : Option (Sv × List SObj)) (ex3 : x3 = (fpPT 16384 4096 false false true 36864 256 true true false 115 x2 pr0 pr1 pr2 pr3 pr4 pr5 pr6 pr7 pip pfc pfp pfz pfs pfo pfd px0 px1 px2 px3 px4 px5 px6 px7 op cond size ak ar ab ai aq ad bk br bb bi bq bd c rep len)) (x4 : Option (Sv × List SObj)) (ex4 : x4 = (fpPT 16384 4096 false false true 36864 256 true true false 68 x2 pr0 pr1 pr2 pr3 pr4 pr5 pr6 pr7 pip pfc pfp pfz pfs pfo pfd px0 px1 px2 px3 px4 px5 px6 px7 op cond size ak ar ab ai aq ad bk br bb bi bq bd c rep len)) (x5 : Option (Nat × Nat × List Sv × List SObj)) (ex5 : x5 = (some (1, 114, [y3, y4, y7, y9, y10, y11, y19, y20, y45, y46, y47, vw n, Sv.ptr 10 0, Sv.sl 11 0 3 3, vi 3, vi 0], [o0, o1, o2, o3, o4, o5, o6, o7, o8, o9, SObj.cells (cCFqz3 op cond size ak ar ab ai aq ad bk br bb bi bq bd c rep len) Ti, SObj.cells (cCFqz1 pr0 pr1 pr2 pr3 pr4 pr5 pr6 pr7 pip pfc pfp pfz pfs pfo pfd px0 px1 px2 px3 px4 px5 px6 px7 qr0 qr1 qr2 qr3 qr4 qr5 qr6 qr7 qip qfc qfp qfz qfs qfo qfd qx0 qx1 qx2 qx3 qx4 qx5 qx6 qx7 sr0 sr1 sr2 sr3 sr4 sr5 sr6 sr7 sip sfc sfp sfz sfs sfo sfd sx0 sx1 sx2 sx3 sx4 sx5 sx6 sx7) Tz]))) :
    ev Try.prog ΓFp 60 (fun _ => none) (roundOf Try.prog 8 2) (fr 114 [3, 4, 7, 9, 10, 11, 19, 20, 45, 46, 47, 8, 23, 73, 74, 75] [y3, y4, y7, y9, y10, y11, y19, y20, y45, y46, y47, .v (.int .u32 n), .ptr 10 0, .sl 11 0 3 3, .v (.int .i64 3), .v (.int .i64 0)] g) [o0, o1, o2, o3, o4, o5, o6, o7, o8, o9, .cells (cCFqz2 op cond size ak ar ab ai aq ad bk br bb bi bq bd c rep len) Ti, .cells (cCFqz0 pr0 pr1 pr2 pr3 pr4 pr5 pr6 pr7 pip pfc pfp pfz pfs pfo pfd px0 px1 px2 px3 px4 px5 px6 px7 qr0 qr1 qr2 qr3 qr4 qr5 qr6 qr7 qip qfc qfp qfz qfs qfo qfd qx0 qx1 qx2 qx3 qx4 qx5 qx6 qx7 sr0 sr1 sr2 sr3 sr4 sr5 sr6 sr7 sip sfc sfp sfz sfs sfo sfd sx0 sx1 sx2 sx3 sx4 sx5 sx6 sx7) Tz] (liveD [3, 4, 7, 9, 10, 11, 19, 20, 45, 46, 47, 8, 23, 73, 74, 75] 12) =
    (bif x1 && !13 + 12 == 13 + 6 then bif x1 && (!13 + 5 == 13 + 1 && (!13 + 5 == 13 && !13 + 1 == 13)) then bif !(ansI x3 0 == ansI x4 0 && (ansI x3 1 == ansI x4 1 && (ansI x3 2 == ansI x4 2 && (ansI x3 3 == ansI x4 3 && (ansI x3 4 == ansI x4 4 && (ansI x3 5 == ansI x4 5 && (ansI x3 6 == ansI x4 6 && (ansI x3 7 == ansI x4 7 && true))))))) && (ansI x3 8 == ansI x4 8 && (ansB x3 9 == ansB x4 9 && (ansB x3 10 == ansB x4 10 && (ansB x3 11 == ansB x4 11 && (ansB x3 12 == ansB x4 12 && (ansB x3 13 == ansB x4 13 && (ansB x3 14 == ansB x4 14 && true))))) && (ansI x3 15 == ansI x4 15 && (ansI x3 16 == ansI x4 16 && (ansI x3 17 == ansI x4 17 && (ansI x3 18 == ansI x4 18 && (ansI x3 19 == ansI x4 19 && (ansI x3 20 == ansI x4 20 && (ansI x3 21 == ansI x4 21 && (ansI x3 22 == ansI x4 22 && true))))))) && true)))) then x5 else bif ansI x3 23 != ansI x4 23 then x5 else bif !alikeV (ansM x3 1) (ansM x4 1) then x5 else some (0, 114, [y3, y4, y7, y9, y10, y11, y19, y20, y45, y46, y47, vw n, Sv.ptr 10 0, Sv.sl 11 0 3 3, vi 3, vi 1], [o0, o1, o2, o3, o4, o5, o6, o7, o8, o9, SObj.cells (cCFqz3 op cond size ak ar ab ai aq ad bk br bb bi bq bd c rep len) Ti, SObj.cells (cCFqz1 pr0 pr1 pr2 pr3 pr4 pr5 pr6 pr7 pip pfc pfp pfz pfs pfo pfd px0 px1 px2 px3 px4 px5 px6 px7 qr0 qr1 qr2 qr3 qr4 qr5 qr6 qr7 qip qfc qfp qfz qfs qfo qfd qx0 qx1 qx2 qx3 qx4 qx5 qx6 qx7 sr0 sr1 sr2 sr3 sr4 sr5 sr6 sr7 sip sfc sfp sfz sfs sfo sfd sx0 sx1 sx2 sx3 sx4 sx5 sx6 sx7) Tz]) else none else none) := by
  subst ex1
  subst ex2
  subst ex3
  subst ex4
  subst ex5
  kernel_rfl
theorem fb_form1 (n : Int) (y3 y4 y7 y9 y10 y11 y19 y20 y45 y46 y47 : Sv) (pr0 pr1 pr2 pr3 pr4 pr5 pr6 pr7 pip : Int) (pfc pfp pfz pfs pfo pfd : Bool) (px0 px1 px2 px3 px4 px5 px6 px7 qr0 qr1 qr2 qr3 qr4 qr5 qr6 qr7 qip : Int) (qfc qfp qfz qfs qfo qfd : Bool) (qx0 qx1 qx2 qx3 qx4 qx5 qx6 qx7 sr0 sr1 sr2 sr3 sr4 sr5 sr6 sr7 sip : Int) (sfc sfp sfz sfs sfo sfd : Bool) (sx0 sx1 sx2 sx3 sx4 sx5 sx6 sx7 op cond size ak ar ab ai aq ad bk br bb bi bq bd c : Int) (rep : Bool) (len : Int) (Ti Tz : TypeId) (o0 o1 o2 o3 o4 o5 o6 o7 o8 o9 : SObj) (g : List Sv) (x1 : Bool) (ex1 : x1 = (in32 qr0 && (in32 qr1 && (in32 qr2 && (in32 qr3 && (in32 qr4 && (in32 qr5 && (in32 qr6 && (in32 qr7 && (true && (true && (in32 ad && (in32 bd && (in64 qx0 && (in64 qx1 && (in64 qx2 && (in64 qx3 && (in64 qx4 && (in64 qx5 && (in64 qx6 && (in64 qx7 && fpG op size ak))))))))))))))))))))) (x2 : Int → Int) (ex2 : x2 = (wrM (fun x => 0) 36864 (rowF (fun x => 0) (fillB n) 256) 256)) (x3 : Option (Sv × List SObj)) (ex3 : x3 = (fpPT 16384 4096 false false true 36864 256 true true false 115 x2 qr0 qr1 qr2 qr3 qr4 qr5 qr6 qr7 qip qfc qfp qfz qfs qfo qfd qx0 qx1 qx2 qx3 qx4 qx5 qx6 qx7 op cond size ak ar ab ai aq ad bk br bb bi bq bd c rep len)) (x4 : Option (Sv × List SObj)) (ex4 : x4 = (fpPT 16384 4096 false false true 36864 256 true true false 68 x2 qr0 qr1 qr2 qr3 qr4 qr5 qr6 qr7 qip qfc qfp qfz qfs qfo qfd qx0 qx1 qx2 qx3 qx4 qx5 qx6 qx7 op cond size ak ar ab ai aq ad bk br bb bi bq bd c rep len)) (x5 : Option (Nat × Nat × List Sv × List SObj)) (ex5 : x5 = (some (1, 114, [y3, y4, y7, y9, y10, y11, y19, y20, y45, y46, y47, vw n, Sv.ptr 10 0, Sv.sl 11 0 3 3, vi 3, vi 1], [o0, o1, o2, o3, o4, o5, o6, o7, o8, o9, SObj.cells (cCFqz3 op cond size ak ar ab ai aq ad bk br bb bi bq bd c rep len) Ti, SObj.cells (cCFqz1 pr0 pr1 pr2 pr3 pr4 pr5 pr6 pr7 pip pfc pfp pfz pfs pfo pfd px0 px1 px2 px3 px4 px5 px6 px7 qr0 qr1 qr2 qr3 qr4 qr5 qr6 qr7 qip qfc qfp qfz qfs qfo qfd qx0 qx1 qx2 qx3 qx4 qx5 qx6 qx7 sr0 sr1 sr2 sr3 sr4 sr5 sr6 sr7 sip sfc sfp sfz sfs sfo sfd sx0 sx1 sx2 sx3 sx4 sx5 sx6 sx7) Tz]))) :
    ev Try.prog ΓFp 60 (fun _ => none) (roundOf Try.prog 8 2) (fr 114 [3, 4, 7, 9, 10, 11, 19, 20, 45, 46, 47, 8, 23, 73, 74, 75] [y3, y4, y7, y9, y10, y11, y19, y20, y45, y46, y47, .v (.int .u32 n), .ptr 10 0, .sl 11 0 3 3, .v (.int .i64 3), .v (.int .i64 1)] g) [o0, o1, o2, o3, o4, o5, o6, o7, o8, o9, .cells (cCFqz2 op cond size ak ar ab ai aq ad bk br bb bi bq bd c rep len) Ti, .cells (cCFqz0 pr0 pr1 pr2 pr3 pr4 pr5 pr6 pr7 pip pfc pfp pfz pfs pfo pfd px0 px1 px2 px3 px4 px5 px6 px7 qr0 qr1 qr2 qr3 qr4 qr5 qr6 qr7 qip qfc qfp qfz qfs qfo qfd qx0 qx1 qx2 qx3 qx4 qx5 qx6 qx7 sr0 sr1 sr2 sr3 sr4 sr5 sr6 sr7 sip sfc sfp sfz sfs sfo sfd sx0 sx1 sx2 sx3 sx4 sx5 sx6 sx7) Tz] (liveD [3, 4, 7, 9, 10, 11, 19, 20, 45, 46, 47, 8, 23, 73, 74, 75] 12) =
    (bif x1 && !13 + 12 == 13 + 6 then bif x1 && (!13 + 5 == 13 + 1 && (!13 + 5 == 13 && !13 + 1 == 13)) then bif !(ansI x3 0 == ansI x4 0 && (ansI x3 1 == ansI x4 1 && (ansI x3 2 == ansI x4 2 && (ansI x3 3 == ansI x4 3 && (ansI x3 4 == ansI x4 4 && (ansI x3 5 == ansI x4 5 && (ansI x3 6 == ansI x4 6 && (ansI x3 7 == ansI x4 7 && true))))))) && (ansI x3 8 == ansI x4 8 && (ansB x3 9 == ansB x4 9 && (ansB x3 10 == ansB x4 10 && (ansB x3 11 == ansB x4 11 && (ansB x3 12 == ansB x4 12 && (ansB x3 13 == ansB x4 13 && (ansB x3 14 == ansB x4 14 && true))))) && (ansI x3 15 == ansI x4 15 && (ansI x3 16 == ansI x4 16 && (ansI x3 17 == ansI x4 17 && (ansI x3 18 == ansI x4 18 && (ansI x3 19 == ansI x4 19 && (ansI x3 20 == ansI x4 20 && (ansI x3 21 == ansI x4 21 && (ansI x3 22 == ansI x4 22 && true))))))) && true)))) then x5 else bif ansI x3 23 != ansI x4 23 then x5 else bif !alikeV (ansM x3 1) (ansM x4 1) then x5 else some (0, 114, [y3, y4, y7, y9, y10, y11, y19, y20, y45, y46, y47, vw n, Sv.ptr 10 0, Sv.sl 11 0 3 3, vi 3, vi 2], [o0, o1, o2, o3, o4, o5, o6, o7, o8, o9, SObj.cells (cCFqz3 op cond size ak ar ab ai aq ad bk br bb bi bq bd c rep len) Ti, SObj.cells (cCFqz1 pr0 pr1 pr2 pr3 pr4 pr5 pr6 pr7 pip pfc pfp pfz pfs pfo pfd px0 px1 px2 px3 px4 px5 px6 px7 qr0 qr1 qr2 qr3 qr4 qr5 qr6 qr7 qip qfc qfp qfz qfs qfo qfd qx0 qx1 qx2 qx3 qx4 qx5 qx6 qx7 sr0 sr1 sr2 sr3 sr4 sr5 sr6 sr7 sip sfc sfp sfz sfs sfo sfd sx0 sx1 sx2 sx3 sx4 sx5 sx6 sx7) Tz]) else none else none) := by
  subst ex1
  subst ex2
  subst ex3
  subst ex4
  subst ex5
  kernel_rfl
theorem fb_form2 (n : Int) (y3 y4 y7 y9 y10 y11 y19 y20 y45 y46 y47 : Sv) (pr0 pr1 pr2 pr3 pr4 pr5 pr6 pr7 pip : Int) (pfc pfp pfz pfs pfo pfd : Bool) (px0 px1 px2 px3 px4 px5 px6 px7 qr0 qr1 qr2 qr3 qr4 qr5 qr6 qr7 qip : Int) (qfc qfp qfz qfs qfo qfd : Bool) (qx0 qx1 qx2 qx3 qx4 qx5 qx6 qx7 sr0 sr1 sr2 sr3 sr4 sr5 sr6 sr7 sip : Int) (sfc sfp sfz sfs sfo sfd : Bool) (sx0 sx1 sx2 sx3 sx4 sx5 sx6 sx7 op cond size ak ar ab ai aq ad bk br bb bi bq bd c : Int) (rep : Bool) (len : Int) (Ti Tz : TypeId) (o0 o1 o2 o3 o4 o5 o6 o7 o8 o9 : SObj) (g : List Sv) (x1 : Bool) (ex1 : x1 = (in32 sr0 && (in32 sr1 && (in32 sr2 && (in32 sr3 && (in32 sr4 && (in32 sr5 && (in32 sr6 && (in32 sr7 && (true && (true && (in32 ad && (in32 bd && (in64 sx0 && (in64 sx1 && (in64 sx2 && (in64 sx3 && (in64 sx4 && (in64 sx5 && (in64 sx6 && (in64 sx7 && fpG op size ak))))))))))))))))))))) (x2 : Int → Int) (ex2 : x2 = (wrM (fun x => 0) 36864 (rowF (fun x => 0) (fillB n) 256) 256)) (x3 : Option (Sv × List SObj)) (ex3 : x3 = (fpPT 16384 4096 false false true 36864 256 true true false 115 x2 sr0 sr1 sr2 sr3 sr4 sr5 sr6 sr7 sip sfc sfp sfz sfs sfo sfd sx0 sx1 sx2 sx3 sx4 sx5 sx6 sx7 op cond size ak ar ab ai aq ad bk br bb bi bq bd c rep len)) (x4 : Option (Sv × List SObj)) (ex4 : x4 = (fpPT 16384 4096 false false true 36864 256 true true false 68 x2 sr0 sr1 sr2 sr3 sr4 sr5 sr6 sr7 sip sfc sfp sfz sfs sfo sfd sx0 sx1 sx2 sx3 sx4 sx5 sx6 sx7 op cond size ak ar ab ai aq ad bk br bb bi bq bd c rep len)) (x5 : Option (Nat × Nat × List Sv × List SObj)) (ex5 : x5 = (some (1, 114, [y3, y4, y7, y9, y10, y11, y19, y20, y45, y46, y47, vw n, Sv.ptr 10 0, Sv.sl 11 0 3 3, vi 3, vi 2], [o0, o1, o2, o3, o4, o5, o6, o7, o8, o9, SObj.cells (cCFqz3 op cond size ak ar ab ai aq ad bk br bb bi bq bd c rep len) Ti, SObj.cells (cCFqz1 pr0 pr1 pr2 pr3 pr4 pr5 pr6 pr7 pip pfc pfp pfz pfs pfo pfd px0 px1 px2 px3 px4 px5 px6 px7 qr0 qr1 qr2 qr3 qr4 qr5 qr6 qr7 qip qfc qfp qfz qfs qfo qfd qx0 qx1 qx2 qx3 qx4 qx5 qx6 qx7 sr0 sr1 sr2 sr3 sr4 sr5 sr6 sr7 sip sfc sfp sfz sfs sfo sfd sx0 sx1 sx2 sx3 sx4 sx5 sx6 sx7) Tz]))) :
    ev Try.prog ΓFp 60 (fun _ => none) (roundOf Try.prog 8 2) (fr 114 [3, 4, 7, 9, 10, 11, 19, 20, 45, 46, 47, 8, 23, 73, 74, 75] [y3, y4, y7, y9, y10, y11, y19, y20, y45, y46, y47, .v (.int .u32 n), .ptr 10 0, .sl 11 0 3 3, .v (.int .i64 3), .v (.int .i64 2)] g) [o0, o1, o2, o3, o4, o5, o6, o7, o8, o9, .cells (cCFqz2 op cond size ak ar ab ai aq ad bk br bb bi bq bd c rep len) Ti, .cells (cCFqz0 pr0 pr1 pr2 pr3 pr4 pr5 pr6 pr7 pip pfc pfp pfz pfs pfo pfd px0 px1 px2 px3 px4 px5 px6 px7 qr0 qr1 qr2 qr3 qr4 qr5 qr6 qr7 qip qfc qfp qfz qfs qfo qfd qx0 qx1 qx2 qx3 qx4 qx5 qx6 qx7 sr0 sr1 sr2 sr3 sr4 sr5 sr6 sr7 sip sfc sfp sfz sfs sfo sfd sx0 sx1 sx2 sx3 sx4 sx5 sx6 sx7) Tz] (liveD [3, 4, 7, 9, 10, 11, 19, 20, 45, 46, 47, 8, 23, 73, 74, 75] 12) =
    (bif x1 && !13 + 12 == 13 + 6 then bif x1 && (!13 + 5 == 13 + 1 && (!13 + 5 == 13 && !13 + 1 == 13)) then bif !(ansI x3 0 == ansI x4 0 && (ansI x3 1 == ansI x4 1 && (ansI x3 2 == ansI x4 2 && (ansI x3 3 == ansI x4 3 && (ansI x3 4 == ansI x4 4 && (ansI x3 5 == ansI x4 5 && (ansI x3 6 == ansI x4 6 && (ansI x3 7 == ansI x4 7 && true))))))) && (ansI x3 8 == ansI x4 8 && (ansB x3 9 == ansB x4 9 && (ansB x3 10 == ansB x4 10 && (ansB x3 11 == ansB x4 11 && (ansB x3 12 == ansB x4 12 && (ansB x3 13 == ansB x4 13 && (ansB x3 14 == ansB x4 14 && true))))) && (ansI x3 15 == ansI x4 15 && (ansI x3 16 == ansI x4 16 && (ansI x3 17 == ansI x4 17 && (ansI x3 18 == ansI x4 18 && (ansI x3 19 == ansI x4 19 && (ansI x3 20 == ansI x4 20 && (ansI x3 21 == ansI x4 21 && (ansI x3 22 == ansI x4 22 && true))))))) && true)))) then x5 else bif ansI x3 23 != ansI x4 23 then x5 else bif !alikeV (ansM x3 1) (ansM x4 1) then x5 else some (0, 114, [y3, y4, y7, y9, y10, y11, y19, y20, y45, y46, y47, vw n, Sv.ptr 10 0, Sv.sl 11 0 3 3, vi 3, vi 3], [o0, o1, o2, o3, o4, o5, o6, o7, o8, o9, SObj.cells (cCFqz3 op cond size ak ar ab ai aq ad bk br bb bi bq bd c rep len) Ti, SObj.cells (cCFqz1 pr0 pr1 pr2 pr3 pr4 pr5 pr6 pr7 pip pfc pfp pfz pfs pfo pfd px0 px1 px2 px3 px4 px5 px6 px7 qr0 qr1 qr2 qr3 qr4 qr5 qr6 qr7 qip qfc qfp qfz qfs qfo qfd qx0 qx1 qx2 qx3 qx4 qx5 qx6 qx7 sr0 sr1 sr2 sr3 sr4 sr5 sr6 sr7 sip sfc sfp sfz sfs sfo sfd sx0 sx1 sx2 sx3 sx4 sx5 sx6 sx7) Tz]) else none else none) := by
  subst ex1
  subst ex2
  subst ex3
  subst ex4
  subst ex5
  kernel_rfl
theorem fb_form3 (n : Int) (y3 y4 y7 y9 y10 y11 y19 y20 y45 y46 y47 : Sv) (pr0 pr1 pr2 pr3 pr4 pr5 pr6 pr7 pip : Int) (pfc pfp pfz pfs pfo pfd : Bool) (px0 px1 px2 px3 px4 px5 px6 px7 qr0 qr1 qr2 qr3 qr4 qr5 qr6 qr7 qip : Int) (qfc qfp qfz qfs qfo qfd : Bool) (qx0 qx1 qx2 qx3 qx4 qx5 qx6 qx7 sr0 sr1 sr2 sr3 sr4 sr5 sr6 sr7 sip : Int) (sfc sfp sfz sfs sfo sfd : Bool) (sx0 sx1 sx2 sx3 sx4 sx5 sx6 sx7 op cond size ak ar ab ai aq ad bk br bb bi bq bd c : Int) (rep : Bool) (len : Int) (Ti Tz : TypeId) (o0 o1 o2 o3 o4 o5 o6 o7 o8 o9 : SObj) (g : List Sv) :
    ev Try.prog ΓFp 60 (fun _ => none) (roundOf Try.prog 8 2) (fr 114 [3, 4, 7, 9, 10, 11, 19, 20, 45, 46, 47, 8, 23, 73, 74, 75] [y3, y4, y7, y9, y10, y11, y19, y20, y45, y46, y47, .v (.int .u32 n), .ptr 10 0, .sl 11 0 3 3, .v (.int .i64 3), .v (.int .i64 3)] g) [o0, o1, o2, o3, o4, o5, o6, o7, o8, o9, .cells (cCFqz2 op cond size ak ar ab ai aq ad bk br bb bi bq bd c rep len) Ti, .cells (cCFqz0 pr0 pr1 pr2 pr3 pr4 pr5 pr6 pr7 pip pfc pfp pfz pfs pfo pfd px0 px1 px2 px3 px4 px5 px6 px7 qr0 qr1 qr2 qr3 qr4 qr5 qr6 qr7 qip qfc qfp qfz qfs qfo qfd qx0 qx1 qx2 qx3 qx4 qx5 qx6 qx7 sr0 sr1 sr2 sr3 sr4 sr5 sr6 sr7 sip sfc sfp sfz sfs sfo sfd sx0 sx1 sx2 sx3 sx4 sx5 sx6 sx7) Tz] (liveD [3, 4, 7, 9, 10, 11, 19, 20, 45, 46, 47, 8, 23, 73, 74, 75] 12) =
    (some (4, 114, [y3, y4, y7, y9, y10, y11, y19, y20, y45, y46, y47, vw n, Sv.ptr 10 0, Sv.sl 11 0 3 3, vi 3, vi 3], [o0, o1, o2, o3, o4, o5, o6, o7, o8, o9, SObj.cells (cCFqz3 op cond size ak ar ab ai aq ad bk br bb bi bq bd c rep len) Ti, SObj.cells (cCFqz1 pr0 pr1 pr2 pr3 pr4 pr5 pr6 pr7 pip pfc pfp pfz pfs pfo pfd px0 px1 px2 px3 px4 px5 px6 px7 qr0 qr1 qr2 qr3 qr4 qr5 qr6 qr7 qip qfc qfp qfz qfs qfo qfd qx0 qx1 qx2 qx3 qx4 qx5 qx6 qx7 sr0 sr1 sr2 sr3 sr4 sr5 sr6 sr7 sip sfc sfp sfz sfs sfo sfd sx0 sx1 sx2 sx3 sx4 sx5 sx6 sx7) Tz])) := by
  kernel_rfl
structure fbS where
  n : Int
  y3 : Sv
  y4 : Sv
  y7 : Sv
  y9 : Sv
  y10 : Sv
  y11 : Sv
  y19 : Sv
  y20 : Sv
  y45 : Sv
  y46 : Sv
  y47 : Sv
  pr0 : Int
  pr1 : Int
  pr2 : Int
  pr3 : Int
  pr4 : Int
  pr5 : Int
  pr6 : Int
  pr7 : Int
  pip : Int
  pfc : Bool
  pfp : Bool
  pfz : Bool
  pfs : Bool
  pfo : Bool
  pfd : Bool
  px0 : Int
  px1 : Int
  px2 : Int
  px3 : Int
  px4 : Int
  px5 : Int
  px6 : Int
  px7 : Int
  qr0 : Int
  qr1 : Int
  qr2 : Int
  qr3 : Int
  qr4 : Int
  qr5 : Int
  qr6 : Int
  qr7 : Int
  qip : Int
  qfc : Bool
  qfp : Bool
  qfz : Bool
  qfs : Bool
  qfo : Bool
  qfd : Bool
  qx0 : Int
  qx1 : Int
  qx2 : Int
  qx3 : Int
  qx4 : Int
  qx5 : Int
  qx6 : Int
  qx7 : Int
  sr0 : Int
  sr1 : Int
  sr2 : Int
  sr3 : Int
  sr4 : Int
  sr5 : Int
  sr6 : Int
  sr7 : Int
  sip : Int
  sfc : Bool
  sfp : Bool
  sfz : Bool
  sfs : Bool
  sfo : Bool
  sfd : Bool
  sx0 : Int
  sx1 : Int
  sx2 : Int
  sx3 : Int
  sx4 : Int
  sx5 : Int
  sx6 : Int
  sx7 : Int
  op : Int
  cond : Int
  size : Int
  ak : Int
  ar : Int
  ab : Int
  ai : Int
  aq : Int
  ad : Int
  bk : Int
  br : Int
  bb : Int
  bi : Int
  bq : Int
  bd : Int
  c : Int
  rep : Bool
  len : Int
  Ti : TypeId
  Tz : TypeId
  o0 : SObj
  o1 : SObj
  o2 : SObj
  o3 : SObj
  o4 : SObj
  o5 : SObj
  o6 : SObj
  o7 : SObj
  o8 : SObj
  o9 : SObj
abbrev fbn (s : fbS) : Nat := 3
def fbV (s : fbS) (i : Nat) : List Sv := [s.y3, s.y4, s.y7, s.y9, s.y10, s.y11, s.y19, s.y20, s.y45, s.y46, s.y47, .v (.int .u32 s.n), .ptr 10 0, .sl 11 0 3 3, .v (.int .i64 3), .v (.int .i64 (i : Int))]
def fbM (s : fbS) (i : Nat) : List SObj := [s.o0, s.o1, s.o2, s.o3, s.o4, s.o5, s.o6, s.o7, s.o8, s.o9, .cells [.v (.int .i64 s.op), .v (.int .i64 s.cond), .v (.int .i64 s.size), .v (.int .i64 s.ak), .v (.int .i64 s.ar), .v (.int .i64 s.ab), .v (.int .i64 s.ai), .v (.int .i64 s.aq), .v (.int .u32 s.ad), .v (.int .i64 s.bk), .v (.int .i64 s.br), .v (.int .i64 s.bb), .v (.int .i64 s.bi), .v (.int .i64 s.bq), .v (.int .u32 s.bd), .v (.int .u32 s.c), .v (.bool s.rep), .v (.int .i64 s.len)] s.Ti, .cells [.v (.int .u32 s.pr0), .v (.int .u32 s.pr1), .v (.int .u32 s.pr2), .v (.int .u32 s.pr3), .v (.int .u32 s.pr4), .v (.int .u32 s.pr5), .v (.int .u32 s.pr6), .v (.int .u32 s.pr7), .v (.int .u32 s.pip), .v (.bool s.pfc), .v (.bool s.pfp), .v (.bool s.pfz), .v (.bool s.pfs), .v (.bool s.pfo), .v (.bool s.pfd), .v (.int .u64 s.px0), .v (.int .u64 s.px1), .v (.int .u64 s.px2), .v (.int .u64 s.px3), .v (.int .u64 s.px4), .v (.int .u64 s.px5), .v (.int .u64 s.px6), .v (.int .u64 s.px7), .v (.int .u32 s.qr0), .v (.int .u32 s.qr1), .v (.int .u32 s.qr2), .v (.int .u32 s.qr3), .v (.int .u32 s.qr4), .v (.int .u32 s.qr5), .v (.int .u32 s.qr6), .v (.int .u32 s.qr7), .v (.int .u32 s.qip), .v (.bool s.qfc), .v (.bool s.qfp), .v (.bool s.qfz), .v (.bool s.qfs), .v (.bool s.qfo), .v (.bool s.qfd), .v (.int .u64 s.qx0), .v (.int .u64 s.qx1), .v (.int .u64 s.qx2), .v (.int .u64 s.qx3), .v (.int .u64 s.qx4), .v (.int .u64 s.qx5), .v (.int .u64 s.qx6), .v (.int .u64 s.qx7), .v (.int .u32 s.sr0), .v (.int .u32 s.sr1), .v (.int .u32 s.sr2), .v (.int .u32 s.sr3), .v (.int .u32 s.sr4), .v (.int .u32 s.sr5), .v (.int .u32 s.sr6), .v (.int .u32 s.sr7), .v (.int .u32 s.sip), .v (.bool s.sfc), .v (.bool s.sfp), .v (.bool s.sfz), .v (.bool s.sfs), .v (.bool s.sfo), .v (.bool s.sfd), .v (.int .u64 s.sx0), .v (.int .u64 s.sx1), .v (.int .u64 s.sx2), .v (.int .u64 s.sx3), .v (.int .u64 s.sx4), .v (.int .u64 s.sx5), .v (.int .u64 s.sx6), .v (.int .u64 s.sx7)] s.Tz]
def fbInv (s : fbS) : Prop := (in32 s.pr0) = true ∧ (in32 s.pr1) = true ∧ (in32 s.pr2) = true ∧ (in32 s.pr3) = true ∧ (in32 s.pr4) = true ∧ (in32 s.pr5) = true ∧ (in32 s.pr6) = true ∧ (in32 s.pr7) = true ∧ (in32 s.qr0) = true ∧ (in32 s.qr1) = true ∧ (in32 s.qr2) = true ∧ (in32 s.qr3) = true ∧ (in32 s.qr4) = true ∧ (in32 s.qr5) = true ∧ (in32 s.qr6) = true ∧ (in32 s.qr7) = true ∧ (in32 s.sr0) = true ∧ (in32 s.sr1) = true ∧ (in32 s.sr2) = true ∧ (in32 s.sr3) = true ∧ (in32 s.sr4) = true ∧ (in32 s.sr5) = true ∧ (in32 s.sr6) = true ∧ (in32 s.sr7) = true ∧ (in32 s.ad) = true ∧ (in32 s.bd) = true ∧ (fpG s.op s.size s.ak) = true ∧ (in64 s.px0) = true ∧ (in64 s.px1) = true ∧ (in64 s.px2) = true ∧ (in64 s.px3) = true ∧ (in64 s.px4) = true ∧ (in64 s.px5) = true ∧ (in64 s.px6) = true ∧ (in64 s.px7) = true ∧ (in64 s.qx0) = true ∧ (in64 s.qx1) = true ∧ (in64 s.qx2) = true ∧ (in64 s.qx3) = true ∧ (in64 s.qx4) = true ∧ (in64 s.qx5) = true ∧ (in64 s.qx6) = true ∧ (in64 s.qx7) = true ∧ (in64 s.sx0) = true ∧ (in64 s.sx1) = true ∧ (in64 s.sx2) = true ∧ (in64 s.sx3) = true ∧ (in64 s.sx4) = true ∧ (in64 s.sx5) = true ∧ (in64 s.sx6) = true ∧ (in64 s.sx7) = true ∧ (clL 12 [s.y3, s.y4, s.y7, s.y9, s.y10, s.y11, s.y19, s.y20, s.y45, s.y46, s.y47]) = true ∧ (clM 12 [s.o0, s.o1, s.o2, s.o3, s.o4, s.o5, s.o6, s.o7, s.o8, s.o9]) = true
def fbL : Rounds (CntS fbS) (CntS fbS) := cntE 114 [3, 4, 7, 9, 10, 11, 19, 20, 45, 46, 47, 8, 23, 73, 74, 75] fbn fbV fbM fbInv 3
set_option maxHeartbeats 4000000 in
theorem fbL_ok : fbL.OkD Try.prog ΓFp 60 (roundOf Try.prog 8 2) 12 := cntE_okD
  (fun s g i hs hi => by
    obtain ⟨h0, h1, h2, h3, h4, h5, h6, h7, h8, h9, h10, h11, h12, h13, h14, h15, h16, h17, h18, h19, h20, h21, h22, h23, h24, h25, h26, h27, h28, h29, h30, h31, h32, h33, h34, h35, h36, h37, h38, h39, h40, h41, h42, h43, h44, h45, h46, h47, h48, h49, h50, h51, hm⟩ := hs
    match i, (show i < 3 from hi) with
    | 0, _ =>
      have tl := fpP_T 16384 4096 false false true 36864 256 true true false 68 115 (wrM (fun x => 0) 36864 (rowF (fun x => 0) (fillB s.n) 256) 256) s.pr0 s.pr1 s.pr2 s.pr3 s.pr4 s.pr5 s.pr6 s.pr7 s.pip s.pfc s.pfp s.pfz s.pfs s.pfo s.pfd s.px0 s.px1 s.px2 s.px3 s.px4 s.px5 s.px6 s.px7 s.op s.cond s.size s.ak s.ar s.ab s.ai s.aq s.ad s.bk s.br s.bb s.bi s.bq s.bd s.c s.rep s.len
      refine (fb_form0 s.n s.y3 s.y4 s.y7 s.y9 s.y10 s.y11 s.y19 s.y20 s.y45 s.y46 s.y47 s.pr0 s.pr1 s.pr2 s.pr3 s.pr4 s.pr5 s.pr6 s.pr7 s.pip s.pfc s.pfp s.pfz s.pfs s.pfo s.pfd s.px0 s.px1 s.px2 s.px3 s.px4 s.px5 s.px6 s.px7 s.qr0 s.qr1 s.qr2 s.qr3 s.qr4 s.qr5 s.qr6 s.qr7 s.qip s.qfc s.qfp s.qfz s.qfs s.qfo s.qfd s.qx0 s.qx1 s.qx2 s.qx3 s.qx4 s.qx5 s.qx6 s.qx7 s.sr0 s.sr1 s.sr2 s.sr3 s.sr4 s.sr5 s.sr6 s.sr7 s.sip s.sfc s.sfp s.sfz s.sfs s.sfo s.sfd s.sx0 s.sx1 s.sx2 s.sx3 s.sx4 s.sx5 s.sx6 s.sx7 s.op s.cond s.size s.ak s.ar s.ab s.ai s.aq s.ad s.bk s.br s.bb s.bi s.bq s.bd s.c s.rep s.len s.Ti s.Tz s.o0 s.o1 s.o2 s.o3 s.o4 s.o5 s.o6 s.o7 s.o8 s.o9 g _ rfl _ rfl _ rfl _ rfl _ rfl).trans ?_
      simp only [h0, h1, h2, h3, h4, h5, h6, h7, h8, h9, h10, h11, h12, h13, h14, h15, h16, h17, h18, h19, h20, h21, h22, h23, h24, h25, h26, h27, h28, h29, h30, h31, h32, h33, h34, h35, h36, h37, h38, h39, h40, h41, h42, h43, h44, h45, h46, h47, h48, h49, h50, h51, in32_wr, Nat.reduceAdd, Nat.reduceBEq, Bool.and_self, Bool.and_true, Bool.true_and, Bool.not_false, cond_true]
      simp only [ansI_sans tl, ansB_sans tl, ansM_sans tl, beq_self_eq_true, bne_self_eq_false, alikeV_self, Bool.and_self, Bool.or_self, Bool.not_true, cond_false, Bool.cond_self]
      first | done | rfl
    | 1, _ =>
      have tl := fpP_T 16384 4096 false false true 36864 256 true true false 68 115 (wrM (fun x => 0) 36864 (rowF (fun x => 0) (fillB s.n) 256) 256) s.qr0 s.qr1 s.qr2 s.qr3 s.qr4 s.qr5 s.qr6 s.qr7 s.qip s.qfc s.qfp s.qfz s.qfs s.qfo s.qfd s.qx0 s.qx1 s.qx2 s.qx3 s.qx4 s.qx5 s.qx6 s.qx7 s.op s.cond s.size s.ak s.ar s.ab s.ai s.aq s.ad s.bk s.br s.bb s.bi s.bq s.bd s.c s.rep s.len
      refine (fb_form1 s.n s.y3 s.y4 s.y7 s.y9 s.y10 s.y11 s.y19 s.y20 s.y45 s.y46 s.y47 s.pr0 s.pr1 s.pr2 s.pr3 s.pr4 s.pr5 s.pr6 s.pr7 s.pip s.pfc s.pfp s.pfz s.pfs s.pfo s.pfd s.px0 s.px1 s.px2 s.px3 s.px4 s.px5 s.px6 s.px7 s.qr0 s.qr1 s.qr2 s.qr3 s.qr4 s.qr5 s.qr6 s.qr7 s.qip s.qfc s.qfp s.qfz s.qfs s.qfo s.qfd s.qx0 s.qx1 s.qx2 s.qx3 s.qx4 s.qx5 s.qx6 s.qx7 s.sr0 s.sr1 s.sr2 s.sr3 s.sr4 s.sr5 s.sr6 s.sr7 s.sip s.sfc s.sfp s.sfz s.sfs s.sfo s.sfd s.sx0 s.sx1 s.sx2 s.sx3 s.sx4 s.sx5 s.sx6 s.sx7 s.op s.cond s.size s.ak s.ar s.ab s.ai s.aq s.ad s.bk s.br s.bb s.bi s.bq s.bd s.c s.rep s.len s.Ti s.Tz s.o0 s.o1 s.o2 s.o3 s.o4 s.o5 s.o6 s.o7 s.o8 s.o9 g _ rfl _ rfl _ rfl _ rfl _ rfl).trans ?_
      simp only [h0, h1, h2, h3, h4, h5, h6, h7, h8, h9, h10, h11, h12, h13, h14, h15, h16, h17, h18, h19, h20, h21, h22, h23, h24, h25, h26, h27, h28, h29, h30, h31, h32, h33, h34, h35, h36, h37, h38, h39, h40, h41, h42, h43, h44, h45, h46, h47, h48, h49, h50, h51, in32_wr, Nat.reduceAdd, Nat.reduceBEq, Bool.and_self, Bool.and_true, Bool.true_and, Bool.not_false, cond_true]
      simp only [ansI_sans tl, ansB_sans tl, ansM_sans tl, beq_self_eq_true, bne_self_eq_false, alikeV_self, Bool.and_self, Bool.or_self, Bool.not_true, cond_false, Bool.cond_self]
      first | done | rfl
    | 2, _ =>
      have tl := fpP_T 16384 4096 false false true 36864 256 true true false 68 115 (wrM (fun x => 0) 36864 (rowF (fun x => 0) (fillB s.n) 256) 256) s.sr0 s.sr1 s.sr2 s.sr3 s.sr4 s.sr5 s.sr6 s.sr7 s.sip s.sfc s.sfp s.sfz s.sfs s.sfo s.sfd s.sx0 s.sx1 s.sx2 s.sx3 s.sx4 s.sx5 s.sx6 s.sx7 s.op s.cond s.size s.ak s.ar s.ab s.ai s.aq s.ad s.bk s.br s.bb s.bi s.bq s.bd s.c s.rep s.len
      refine (fb_form2 s.n s.y3 s.y4 s.y7 s.y9 s.y10 s.y11 s.y19 s.y20 s.y45 s.y46 s.y47 s.pr0 s.pr1 s.pr2 s.pr3 s.pr4 s.pr5 s.pr6 s.pr7 s.pip s.pfc s.pfp s.pfz s.pfs s.pfo s.pfd s.px0 s.px1 s.px2 s.px3 s.px4 s.px5 s.px6 s.px7 s.qr0 s.qr1 s.qr2 s.qr3 s.qr4 s.qr5 s.qr6 s.qr7 s.qip s.qfc s.qfp s.qfz s.qfs s.qfo s.qfd s.qx0 s.qx1 s.qx2 s.qx3 s.qx4 s.qx5 s.qx6 s.qx7 s.sr0 s.sr1 s.sr2 s.sr3 s.sr4 s.sr5 s.sr6 s.sr7 s.sip s.sfc s.sfp s.sfz s.sfs s.sfo s.sfd s.sx0 s.sx1 s.sx2 s.sx3 s.sx4 s.sx5 s.sx6 s.sx7 s.op s.cond s.size s.ak s.ar s.ab s.ai s.aq s.ad s.bk s.br s.bb s.bi s.bq s.bd s.c s.rep s.len s.Ti s.Tz s.o0 s.o1 s.o2 s.o3 s.o4 s.o5 s.o6 s.o7 s.o8 s.o9 g _ rfl _ rfl _ rfl _ rfl _ rfl).trans ?_
      simp only [h0, h1, h2, h3, h4, h5, h6, h7, h8, h9, h10, h11, h12, h13, h14, h15, h16, h17, h18, h19, h20, h21, h22, h23, h24, h25, h26, h27, h28, h29, h30, h31, h32, h33, h34, h35, h36, h37, h38, h39, h40, h41, h42, h43, h44, h45, h46, h47, h48, h49, h50, h51, in32_wr, Nat.reduceAdd, Nat.reduceBEq, Bool.and_self, Bool.and_true, Bool.true_and, Bool.not_false, cond_true]
      simp only [ansI_sans tl, ansB_sans tl, ansM_sans tl, beq_self_eq_true, bne_self_eq_false, alikeV_self, Bool.and_self, Bool.or_self, Bool.not_true, cond_false, Bool.cond_self]
      first | done | rfl)
  (fun s g hs => fb_form3 s.n s.y3 s.y4 s.y7 s.y9 s.y10 s.y11 s.y19 s.y20 s.y45 s.y46 s.y47 s.pr0 s.pr1 s.pr2 s.pr3 s.pr4 s.pr5 s.pr6 s.pr7 s.pip s.pfc s.pfp s.pfz s.pfs s.pfo s.pfd s.px0 s.px1 s.px2 s.px3 s.px4 s.px5 s.px6 s.px7 s.qr0 s.qr1 s.qr2 s.qr3 s.qr4 s.qr5 s.qr6 s.qr7 s.qip s.qfc s.qfp s.qfz s.qfs s.qfo s.qfd s.qx0 s.qx1 s.qx2 s.qx3 s.qx4 s.qx5 s.qx6 s.qx7 s.sr0 s.sr1 s.sr2 s.sr3 s.sr4 s.sr5 s.sr6 s.sr7 s.sip s.sfc s.sfp s.sfz s.sfs s.sfo s.sfd s.sx0 s.sx1 s.sx2 s.sx3 s.sx4 s.sx5 s.sx6 s.sx7 s.op s.cond s.size s.ak s.ar s.ab s.ai s.aq s.ad s.bk s.br s.bb s.bi s.bq s.bd s.c s.rep s.len s.Ti s.Tz s.o0 s.o1 s.o2 s.o3 s.o4 s.o5 s.o6 s.o7 s.o8 s.o9 g)
  (fun s i hs _ => by
    obtain ⟨h0, h1, h2, h3, h4, h5, h6, h7, h8, h9, h10, h11, h12, h13, h14, h15, h16, h17, h18, h19, h20, h21, h22, h23, h24, h25, h26, h27, h28, h29, h30, h31, h32, h33, h34, h35, h36, h37, h38, h39, h40, h41, h42, h43, h44, h45, h46, h47, h48, h49, h50, h51, hm⟩ := hs
    refine ⟨rfl, ?_, ?_⟩
    · simp only [clM_cons, clM_nil, Bool.and_eq_true] at hm
      simp only [fbM, clM_cons, clM_nil, hm, clO_cells, clL_cons, clL_nil, clS_v, Bool.and_self]
    · simp only [clL_cons, clL_nil, Bool.and_eq_true] at h51
      simp only [fbV, clL_cons, clL_nil, clS_v, clS_ptr, clS_sl, h51, show Nat.blt 10 12 = true from rfl, show Nat.blt 11 12 = true from rfl, Bool.and_self])
def fbDec : (R : Type) → List Sv → List SObj → (fbS → Option R) → Option R := fun R l m k_ => match l with
  | [y3, y4, y7, y9, y10, y11, y19, y20, y45, y46, y47, .v (.int .u32 n), .ptr k0 k1, .sl k2 k3 k4 k5, .v (.int .i64 nn), .v (.int .i64 j)] => (match m with
    | [o0, o1, o2, o3, o4, o5, o6, o7, o8, o9, W10, W11] => (match W10 with
      | .cells [.v (.int .i64 op), .v (.int .i64 cond), .v (.int .i64 size), .v (.int .i64 ak), .v (.int .i64 ar), .v (.int .i64 ab), .v (.int .i64 ai), .v (.int .i64 aq), .v (.int .u32 ad), .v (.int .i64 bk), .v (.int .i64 br), .v (.int .i64 bb), .v (.int .i64 bi), .v (.int .i64 bq), .v (.int .u32 bd), .v (.int .u32 c), .v (.bool rep), .v (.int .i64 len)] Ti => (match W11 with
        | .cells Z Tz => (match (Z.take 23) with
          | [.v (.int .u32 pr0), .v (.int .u32 pr1), .v (.int .u32 pr2), .v (.int .u32 pr3), .v (.int .u32 pr4), .v (.int .u32 pr5), .v (.int .u32 pr6), .v (.int .u32 pr7), .v (.int .u32 pip), .v (.bool pfc), .v (.bool pfp), .v (.bool pfz), .v (.bool pfs), .v (.bool pfo), .v (.bool pfd), .v (.int .u64 px0), .v (.int .u64 px1), .v (.int .u64 px2), .v (.int .u64 px3), .v (.int .u64 px4), .v (.int .u64 px5), .v (.int .u64 px6), .v (.int .u64 px7)] => (match ((Z.drop 23).take 23) with
          | [.v (.int .u32 qr0), .v (.int .u32 qr1), .v (.int .u32 qr2), .v (.int .u32 qr3), .v (.int .u32 qr4), .v (.int .u32 qr5), .v (.int .u32 qr6), .v (.int .u32 qr7), .v (.int .u32 qip), .v (.bool qfc), .v (.bool qfp), .v (.bool qfz), .v (.bool qfs), .v (.bool qfo), .v (.bool qfd), .v (.int .u64 qx0), .v (.int .u64 qx1), .v (.int .u64 qx2), .v (.int .u64 qx3), .v (.int .u64 qx4), .v (.int .u64 qx5), .v (.int .u64 qx6), .v (.int .u64 qx7)] => (match (Z.drop 46) with
          | [.v (.int .u32 sr0), .v (.int .u32 sr1), .v (.int .u32 sr2), .v (.int .u32 sr3), .v (.int .u32 sr4), .v (.int .u32 sr5), .v (.int .u32 sr6), .v (.int .u32 sr7), .v (.int .u32 sip), .v (.bool sfc), .v (.bool sfp), .v (.bool sfz), .v (.bool sfs), .v (.bool sfo), .v (.bool sfd), .v (.int .u64 sx0), .v (.int .u64 sx1), .v (.int .u64 sx2), .v (.int .u64 sx3), .v (.int .u64 sx4), .v (.int .u64 sx5), .v (.int .u64 sx6), .v (.int .u64 sx7)] => bif in32 pr0 && (in32 pr1 && (in32 pr2 && (in32 pr3 && (in32 pr4 && (in32 pr5 && (in32 pr6 && (in32 pr7 && (in32 qr0 && (in32 qr1 && (in32 qr2 && (in32 qr3 && (in32 qr4 && (in32 qr5 && (in32 qr6 && (in32 qr7 && (in32 sr0 && (in32 sr1 && (in32 sr2 && (in32 sr3 && (in32 sr4 && (in32 sr5 && (in32 sr6 && (in32 sr7 && (in32 ad && (in32 bd && (fpG op size ak && (in64 px0 && (in64 px1 && (in64 px2 && (in64 px3 && (in64 px4 && (in64 px5 && (in64 px6 && (in64 px7 && (in64 qx0 && (in64 qx1 && (in64 qx2 && (in64 qx3 && (in64 qx4 && (in64 qx5 && (in64 qx6 && (in64 qx7 && (in64 sx0 && (in64 sx1 && (in64 sx2 && (in64 sx3 && (in64 sx4 && (in64 sx5 && (in64 sx6 && (in64 sx7 && (clL 12 [y3, y4, y7, y9, y10, y11, y19, y20, y45, y46, y47] && (clM 12 [o0, o1, o2, o3, o4, o5, o6, o7, o8, o9] && ((j == 0) && ((nn == 3) && (Nat.beq k0 10 && (Nat.beq k1 0 && (Nat.beq k2 11 && (Nat.beq k3 0 && (Nat.beq k4 3 && (Nat.beq k5 3)))))))))))))))))))))))))))))))))))))))))))))))))))))))))))) then k_ ⟨n, y3, y4, y7, y9, y10, y11, y19, y20, y45, y46, y47, pr0, pr1, pr2, pr3, pr4, pr5, pr6, pr7, pip, pfc, pfp, pfz, pfs, pfo, pfd, px0, px1, px2, px3, px4, px5, px6, px7, qr0, qr1, qr2, qr3, qr4, qr5, qr6, qr7, qip, qfc, qfp, qfz, qfs, qfo, qfd, qx0, qx1, qx2, qx3, qx4, qx5, qx6, qx7, sr0, sr1, sr2, sr3, sr4, sr5, sr6, sr7, sip, sfc, sfp, sfz, sfs, sfo, sfd, sx0, sx1, sx2, sx3, sx4, sx5, sx6, sx7, op, cond, size, ak, ar, ab, ai, aq, ad, bk, br, bb, bi, bq, bd, c, rep, len, Ti, Tz, o0, o1, o2, o3, o4, o5, o6, o7, o8, o9⟩ else none
          | _ => none)
          | _ => none)
          | _ => none)
        | _ => none)
      | _ => none)
    | _ => none)
  | _ => none
theorem fb_zip {Z a b c : List Sv} (h1 : Z.take 23 = a) (h2 : (Z.drop 23).take 23 = b) (h3 : Z.drop 46 = c) : Z = a ++ (b ++ c) := by
  have e : Z.drop 46 = (Z.drop 23).drop 23 := by rw [List.drop_drop]
  rw [← h1, ← h2, ← h3, e, List.take_append_drop, List.take_append_drop]
set_option maxHeartbeats 4000000 in
theorem fbDec_ok : ∀ (R : Type) l m (k : fbS → Option R) r, fbDec R l m k = some r → ∃ s, k s = some r ∧ l = fbV s 0 ∧ m = fbM s 0 ∧ fbInv s := by
  intro R l m k r h
  unfold fbDec at h
  split at h
  · split at h
    · split at h
      · split at h
        · split at h
          · rename List.take 23 _ = _ => e1
            split at h
            · rename List.take 23 _ = _ => e2
              split at h
              · rename List.drop 46 _ = _ => e3
                obtain ⟨hg, hk2⟩ := cond_some h
                clear h
                simp only [Bool.and_eq_true, beq_iff_eq, natB] at hg
                obtain ⟨h0, h1, h2, h3, h4, h5, h6, h7, h8, h9, h10, h11, h12, h13, h14, h15, h16, h17, h18, h19, h20, h21, h22, h23, h24, h25, h26, h27, h28, h29, h30, h31, h32, h33, h34, h35, h36, h37, h38, h39, h40, h41, h42, h43, h44, h45, h46, h47, h48, h49, h50, h51, hm, rfl, rfl, rfl, rfl, rfl, rfl, rfl, rfl⟩ := hg
                refine ⟨_, hk2, rfl, ?_, h0, h1, h2, h3, h4, h5, h6, h7, h8, h9, h10, h11, h12, h13, h14, h15, h16, h17, h18, h19, h20, h21, h22, h23, h24, h25, h26, h27, h28, h29, h30, h31, h32, h33, h34, h35, h36, h37, h38, h39, h40, h41, h42, h43, h44, h45, h46, h47, h48, h49, h50, h51, hm⟩
                rw [fb_zip e1 e2 e3]
                rfl
              · cases h
            · cases h
          · cases h
        · cases h
      · cases h
    · cases h
  · cases h
noncomputable def fbH : Hook := cntHook Try.prog X0 fbL fbn 2 (roundOf Try.prog 8 2) fbDec
theorem fbH_ok : HookOk Try.prog X0 (.block 2 (.loop (roundOf Try.prog 8 2))) fbH := cntEHook_ok ΓFp_ok fbL_ok fbDec_ok
def selF (n : Nat) (t : List Sv) (m : List SObj) : Bool := Nat.beq m.length n
noncomputable def ΓFq : Env := (((ΓK19.add 17 (pureSpec stateS))).hook 8 2 (orHook (selF 8) faH fbH)).cut [(114, 19, 96)]
theorem ΓFq_ok : EnvOk Try.prog X0 ΓFq := (((ΓK19_ok.add (by kernel_rfl) (specOk_of_nice ΓSth_ok stateS_ok)).hook (a := .loop (roundOf Try.prog 8 2)) (by kernel_rfl) (orHook_ok faH_ok fbH_ok)).cut _)
end Go.Proofs.Ytpgdpoloipifeaa
