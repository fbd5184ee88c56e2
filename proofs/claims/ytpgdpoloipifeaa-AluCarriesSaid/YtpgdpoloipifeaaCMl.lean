/- Methods of the machine: what an operand holds, what two numbers make. -/
import Derived.Test.YtpgdpoloipifeaaEvV
import Derived.Test.YtpgdpoloipifeaaCAe
import Derived.Test.YtpgdpoloipifeaaNAlu
namespace Go.Proofs.Ytpgdpoloipifeaa
open Go Go.Ev
set_option linter.unusedVariables false
set_option linter.unusedSimpArgs false
set_option maxRecDepth 100000
/-- May an operand be told, or stored; what it holds. -/
def lokV (ak db ds of size : Int) (may : Bool) : Bool := erW ak (segE db ds of ((bytesN size : Nat) : Int) may) == 0
def lvlV (ak : Int) (ld g : Int) : Int := IntKind.wrap .u32 (ldW ak ld g)
theorem lvlV_in {ak ld g : Int} : in32 (lvlV ak ld g) = true := in32_wr _
theorem ml_form (cb cs : Int) (cr cw cx : Bool) (db ds : Int) (dr dw dx : Bool) (T Tm : TypeId) (M : Int → Int) (pr0 pr1 pr2 pr3 pr4 pr5 pr6 pr7 pip : Int) (pfc pfp pfz pfs pfo pfd : Bool) (px0 px1 px2 px3 px4 px5 px6 px7 : Int) (r0 r1 r2 r3 r4 r5 r6 r7 ip : Int) (fc fp fz fs fo fd : Bool) (x0 x1 x2 x3 x4 x5 x6 x7 : Int) (ak ar ab ai aq ad : Int) (size : Int) :
    evF Try.prog ΓAe 400 140 [.ptr 0 0, .agg [.v (.int .i64 ak), .v (.int .i64 ar), .v (.int .i64 ab), .v (.int .i64 ai), .v (.int .i64 aq), .v (.int .u32 ad)], .v (.int .i64 size)] [.cells [.ptr 1 0, .v (.int .u32 pr0), .v (.int .u32 pr1), .v (.int .u32 pr2), .v (.int .u32 pr3), .v (.int .u32 pr4), .v (.int .u32 pr5), .v (.int .u32 pr6), .v (.int .u32 pr7), .v (.int .u32 pip), .v (.bool pfc), .v (.bool pfp), .v (.bool pfz), .v (.bool pfs), .v (.bool pfo), .v (.bool pfd), .v (.int .u64 px0), .v (.int .u64 px1), .v (.int .u64 px2), .v (.int .u64 px3), .v (.int .u64 px4), .v (.int .u64 px5), .v (.int .u64 px6), .v (.int .u64 px7), .v (.int .u32 r0), .v (.int .u32 r1), .v (.int .u32 r2), .v (.int .u32 r3), .v (.int .u32 r4), .v (.int .u32 r5), .v (.int .u32 r6), .v (.int .u32 r7), .v (.int .u32 ip), .v (.bool fc), .v (.bool fp), .v (.bool fz), .v (.bool fs), .v (.bool fo), .v (.bool fd), .v (.int .u64 x0), .v (.int .u64 x1), .v (.int .u64 x2), .v (.int .u64 x3), .v (.int .u64 x4), .v (.int .u64 x5), .v (.int .u64 x6), .v (.int .u64 x7)] Tm, .cells [.ptr 2 0, .v (.int .u32 cb), .v (.int .u32 cs), .v (.bool cr), .v (.bool cw), .v (.bool cx), .v (.int .u32 db), .v (.int .u32 ds), .v (.bool dr), .v (.bool dw), .v (.bool dx)] T, .ext 0 M] (kTr 3) (kTp 3) =
    (bif
in32 r0 &&
(in32 r1 &&
(in32 r2 && (in32 r3 && (in32 r4 && (in32 r5 && (in32 r6 && (in32 r7 && (in32 ad && (in32 db && in32 ds))))))))) &&
true then
bif erW ak (segE db ds (ofV ab ai aq ad [r0, r1, r2, r3, r4, r5, r6, r7]) (↑(bytesN size)) (mayV dr dw dx 0)) != 0 then
some
(OutE.pan [{ v := Value.iface 121 (Value.int IntKind.i64 2), recovered := false }]
[SObj.cells
[Sv.ptr 1 0, vw pr0, vw pr1, vw pr2,
vw pr3, vw pr4, vw pr5,
vw pr6, vw pr7, vw pip,
vb pfc, vb pfp, vb pfz, vb pfs, vb pfo,
vb pfd, vd px0, vd px1,
vd px2, vd px3, vd px4,
vd px5, vd px6, vd px7,
vw r0, vw r1, vw r2,
vw r3, vw r4, vw r5,
vw r6, vw r7, vw ip, vb fc,
vb fp, vb fz, vb fs, vb fo, vb fd,
vd x0, vd x1, vd x2,
vd x3, vd x4, vd x5,
vd x6, vd x7]
Tm,
SObj.cells
[Sv.ptr 2 0, vw cb, vw cs, vb cr,
vb cw, vb cx, vw db, vw ds,
vb dr, vb dw, vb dx]
T,
SObj.ext 0 M])
else
some
(OutE.ret
(Sv.v
(Value.int IntKind.u32
(IntKind.wrap IntKind.u32
(ldW ak (ldV M db ds (ofV ab ai aq ad [r0, r1, r2, r3, r4, r5, r6, r7]) size (mayV dr dw dx 0))
(getV ak ar ad r0 r1 r2 r3 r4 r5 r6 r7 x0 x1 x2 x3 x4 x5 x6 x7)))))
[SObj.cells
[Sv.ptr 1 0, vw pr0, vw pr1, vw pr2,
vw pr3, vw pr4, vw pr5,
vw pr6, vw pr7, vw pip,
vb pfc, vb pfp, vb pfz, vb pfs, vb pfo,
vb pfd, vd px0, vd px1,
vd px2, vd px3, vd px4,
vd px5, vd px6, vd px7,
vw r0, vw r1, vw r2,
vw r3, vw r4, vw r5,
vw r6, vw r7, vw ip, vb fc,
vb fp, vb fz, vb fs, vb fo, vb fd,
vd x0, vd x1, vd x2,
vd x3, vd x4, vd x5,
vd x6, vd x7]
Tm,
SObj.cells
[Sv.ptr 2 0, vw cb, vw cs, vb cr,
vb cw, vb cx, vw db, vw ds,
vb dr, vb dw, vb dx]
T,
SObj.ext 0 M])
else none) := by kernel_rfl
set_option maxHeartbeats 4000000 in
theorem ml_ret (cb cs : Int) (cr cw cx : Bool) (db ds : Int) (dr dw dx : Bool) (T Tm : TypeId) (M : Int → Int) (pr0 pr1 pr2 pr3 pr4 pr5 pr6 pr7 pip : Int) (pfc pfp pfz pfs pfo pfd : Bool) (px0 px1 px2 px3 px4 px5 px6 px7 : Int) (r0 r1 r2 r3 r4 r5 r6 r7 ip : Int) (fc fp fz fs fo fd : Bool) (x0 x1 x2 x3 x4 x5 x6 x7 : Int) (ak ar ab ai aq ad : Int) (size : Int) (hg : (in32 r0 && (in32 r1 && (in32 r2 && (in32 r3 && (in32 r4 && (in32 r5 && (in32 r6 && (in32 r7 && (in32 ad && (in32 db && (in32 ds))))))))))) = true) (ho : (lokV ak db ds (ofV ab ai aq ad [r0, r1, r2, r3, r4, r5, r6, r7]) size (mayV dr dw dx 0)) = true) : evF Try.prog ΓAe 400 140 [.ptr 0 0, .agg [.v (.int .i64 ak), .v (.int .i64 ar), .v (.int .i64 ab), .v (.int .i64 ai), .v (.int .i64 aq), .v (.int .u32 ad)], .v (.int .i64 size)] [.cells [.ptr 1 0, .v (.int .u32 pr0), .v (.int .u32 pr1), .v (.int .u32 pr2), .v (.int .u32 pr3), .v (.int .u32 pr4), .v (.int .u32 pr5), .v (.int .u32 pr6), .v (.int .u32 pr7), .v (.int .u32 pip), .v (.bool pfc), .v (.bool pfp), .v (.bool pfz), .v (.bool pfs), .v (.bool pfo), .v (.bool pfd), .v (.int .u64 px0), .v (.int .u64 px1), .v (.int .u64 px2), .v (.int .u64 px3), .v (.int .u64 px4), .v (.int .u64 px5), .v (.int .u64 px6), .v (.int .u64 px7), .v (.int .u32 r0), .v (.int .u32 r1), .v (.int .u32 r2), .v (.int .u32 r3), .v (.int .u32 r4), .v (.int .u32 r5), .v (.int .u32 r6), .v (.int .u32 r7), .v (.int .u32 ip), .v (.bool fc), .v (.bool fp), .v (.bool fz), .v (.bool fs), .v (.bool fo), .v (.bool fd), .v (.int .u64 x0), .v (.int .u64 x1), .v (.int .u64 x2), .v (.int .u64 x3), .v (.int .u64 x4), .v (.int .u64 x5), .v (.int .u64 x6), .v (.int .u64 x7)] Tm, .cells [.ptr 2 0, .v (.int .u32 cb), .v (.int .u32 cs), .v (.bool cr), .v (.bool cw), .v (.bool cx), .v (.int .u32 db), .v (.int .u32 ds), .v (.bool dr), .v (.bool dw), .v (.bool dx)] T, .ext 0 M] (kTr 3) (kTp 3) = some (.ret (.v (.int .u32 (lvlV ak (ldV M db ds (ofV ab ai aq ad [r0, r1, r2, r3, r4, r5, r6, r7]) size (mayV dr dw dx 0)) (getV ak ar ad r0 r1 r2 r3 r4 r5 r6 r7 x0 x1 x2 x3 x4 x5 x6 x7)))) [.cells [.ptr 1 0, .v (.int .u32 pr0), .v (.int .u32 pr1), .v (.int .u32 pr2), .v (.int .u32 pr3), .v (.int .u32 pr4), .v (.int .u32 pr5), .v (.int .u32 pr6), .v (.int .u32 pr7), .v (.int .u32 pip), .v (.bool pfc), .v (.bool pfp), .v (.bool pfz), .v (.bool pfs), .v (.bool pfo), .v (.bool pfd), .v (.int .u64 px0), .v (.int .u64 px1), .v (.int .u64 px2), .v (.int .u64 px3), .v (.int .u64 px4), .v (.int .u64 px5), .v (.int .u64 px6), .v (.int .u64 px7), .v (.int .u32 r0), .v (.int .u32 r1), .v (.int .u32 r2), .v (.int .u32 r3), .v (.int .u32 r4), .v (.int .u32 r5), .v (.int .u32 r6), .v (.int .u32 r7), .v (.int .u32 ip), .v (.bool fc), .v (.bool fp), .v (.bool fz), .v (.bool fs), .v (.bool fo), .v (.bool fd), .v (.int .u64 x0), .v (.int .u64 x1), .v (.int .u64 x2), .v (.int .u64 x3), .v (.int .u64 x4), .v (.int .u64 x5), .v (.int .u64 x6), .v (.int .u64 x7)] Tm, .cells [.ptr 2 0, .v (.int .u32 cb), .v (.int .u32 cs), .v (.bool cr), .v (.bool cw), .v (.bool cx), .v (.int .u32 db), .v (.int .u32 ds), .v (.bool dr), .v (.bool dw), .v (.bool dx)] T, .ext 0 M]) := by
  rw [ml_form]
  simp only [Bool.and_eq_true] at hg
  simp only [hg, ofV_in, Bool.and_self, Bool.and_true, Bool.true_and, cond_true, bne]
  unfold lokV at ho
  rw [ho]
  rfl
set_option maxHeartbeats 4000000 in
theorem ml_pan (cb cs : Int) (cr cw cx : Bool) (db ds : Int) (dr dw dx : Bool) (T Tm : TypeId) (M : Int → Int) (pr0 pr1 pr2 pr3 pr4 pr5 pr6 pr7 pip : Int) (pfc pfp pfz pfs pfo pfd : Bool) (px0 px1 px2 px3 px4 px5 px6 px7 : Int) (r0 r1 r2 r3 r4 r5 r6 r7 ip : Int) (fc fp fz fs fo fd : Bool) (x0 x1 x2 x3 x4 x5 x6 x7 : Int) (ak ar ab ai aq ad : Int) (size : Int) (hg : (in32 r0 && (in32 r1 && (in32 r2 && (in32 r3 && (in32 r4 && (in32 r5 && (in32 r6 && (in32 r7 && (in32 ad && (in32 db && (in32 ds))))))))))) = true) (ho : (lokV ak db ds (ofV ab ai aq ad [r0, r1, r2, r3, r4, r5, r6, r7]) size (mayV dr dw dx 0)) = false) : evF Try.prog ΓAe 400 140 [.ptr 0 0, .agg [.v (.int .i64 ak), .v (.int .i64 ar), .v (.int .i64 ab), .v (.int .i64 ai), .v (.int .i64 aq), .v (.int .u32 ad)], .v (.int .i64 size)] [.cells [.ptr 1 0, .v (.int .u32 pr0), .v (.int .u32 pr1), .v (.int .u32 pr2), .v (.int .u32 pr3), .v (.int .u32 pr4), .v (.int .u32 pr5), .v (.int .u32 pr6), .v (.int .u32 pr7), .v (.int .u32 pip), .v (.bool pfc), .v (.bool pfp), .v (.bool pfz), .v (.bool pfs), .v (.bool pfo), .v (.bool pfd), .v (.int .u64 px0), .v (.int .u64 px1), .v (.int .u64 px2), .v (.int .u64 px3), .v (.int .u64 px4), .v (.int .u64 px5), .v (.int .u64 px6), .v (.int .u64 px7), .v (.int .u32 r0), .v (.int .u32 r1), .v (.int .u32 r2), .v (.int .u32 r3), .v (.int .u32 r4), .v (.int .u32 r5), .v (.int .u32 r6), .v (.int .u32 r7), .v (.int .u32 ip), .v (.bool fc), .v (.bool fp), .v (.bool fz), .v (.bool fs), .v (.bool fo), .v (.bool fd), .v (.int .u64 x0), .v (.int .u64 x1), .v (.int .u64 x2), .v (.int .u64 x3), .v (.int .u64 x4), .v (.int .u64 x5), .v (.int .u64 x6), .v (.int .u64 x7)] Tm, .cells [.ptr 2 0, .v (.int .u32 cb), .v (.int .u32 cs), .v (.bool cr), .v (.bool cw), .v (.bool cx), .v (.int .u32 db), .v (.int .u32 ds), .v (.bool dr), .v (.bool dw), .v (.bool dx)] T, .ext 0 M] (kTr 3) (kTp 3) = some (.pan [{ v := .iface 121 (.int .i64 2), recovered := false }] [.cells [.ptr 1 0, .v (.int .u32 pr0), .v (.int .u32 pr1), .v (.int .u32 pr2), .v (.int .u32 pr3), .v (.int .u32 pr4), .v (.int .u32 pr5), .v (.int .u32 pr6), .v (.int .u32 pr7), .v (.int .u32 pip), .v (.bool pfc), .v (.bool pfp), .v (.bool pfz), .v (.bool pfs), .v (.bool pfo), .v (.bool pfd), .v (.int .u64 px0), .v (.int .u64 px1), .v (.int .u64 px2), .v (.int .u64 px3), .v (.int .u64 px4), .v (.int .u64 px5), .v (.int .u64 px6), .v (.int .u64 px7), .v (.int .u32 r0), .v (.int .u32 r1), .v (.int .u32 r2), .v (.int .u32 r3), .v (.int .u32 r4), .v (.int .u32 r5), .v (.int .u32 r6), .v (.int .u32 r7), .v (.int .u32 ip), .v (.bool fc), .v (.bool fp), .v (.bool fz), .v (.bool fs), .v (.bool fo), .v (.bool fd), .v (.int .u64 x0), .v (.int .u64 x1), .v (.int .u64 x2), .v (.int .u64 x3), .v (.int .u64 x4), .v (.int .u64 x5), .v (.int .u64 x6), .v (.int .u64 x7)] Tm, .cells [.ptr 2 0, .v (.int .u32 cb), .v (.int .u32 cs), .v (.bool cr), .v (.bool cw), .v (.bool cx), .v (.int .u32 db), .v (.int .u32 ds), .v (.bool dr), .v (.bool dw), .v (.bool dx)] T, .ext 0 M]) := by
  rw [ml_form]
  simp only [Bool.and_eq_true] at hg
  simp only [hg, ofV_in, Bool.and_self, Bool.and_true, Bool.true_and, cond_true, bne]
  unfold lokV at ho
  rw [ho]
  rfl
noncomputable def mlB (R : Type) (k : Sv → Option R) (kp : List PanicEntry → Option R) (b : Nat) (g : Nat) (h : Nat) (cb : Int) (cs : Int) (cr : Bool) (cw : Bool) (cx : Bool) (db : Int) (ds : Int) (dr : Bool) (dw : Bool) (dx : Bool) (T : TypeId) (Tm : TypeId) (M : Int → Int) (pr0 : Int) (pr1 : Int) (pr2 : Int) (pr3 : Int) (pr4 : Int) (pr5 : Int) (pr6 : Int) (pr7 : Int) (pip : Int) (pfc : Bool) (pfp : Bool) (pfz : Bool) (pfs : Bool) (pfo : Bool) (pfd : Bool) (px0 : Int) (px1 : Int) (px2 : Int) (px3 : Int) (px4 : Int) (px5 : Int) (px6 : Int) (px7 : Int) (r0 : Int) (r1 : Int) (r2 : Int) (r3 : Int) (r4 : Int) (r5 : Int) (r6 : Int) (r7 : Int) (ip : Int) (fc : Bool) (fp : Bool) (fz : Bool) (fs : Bool) (fo : Bool) (fd : Bool) (x0 : Int) (x1 : Int) (x2 : Int) (x3 : Int) (x4 : Int) (x5 : Int) (x6 : Int) (x7 : Int) (ak : Int) (ar : Int) (ab : Int) (ai : Int) (aq : Int) (ad : Int) (size : Int) : Option R :=
  bif (in32 r0 && (in32 r1 && (in32 r2 && (in32 r3 && (in32 r4 && (in32 r5 && (in32 r6 && (in32 r7 && (in32 ad && (in32 db && (in32 ds))))))))))) && (!(b == g) && (!(b == h) && !(g == h))) then (bif (lokV ak db ds (ofV ab ai aq ad [r0, r1, r2, r3, r4, r5, r6, r7]) size (mayV dr dw dx 0)) then k (.v (.int .u32 (lvlV ak (ldV M db ds (ofV ab ai aq ad [r0, r1, r2, r3, r4, r5, r6, r7]) size (mayV dr dw dx 0)) (getV ak ar ad r0 r1 r2 r3 r4 r5 r6 r7 x0 x1 x2 x3 x4 x5 x6 x7)))) else kp [{ v := .iface 121 (.int .i64 2), recovered := false }]) else none
noncomputable def mlF : QPSpec := fun R args m k kp => match args with
  | [.ptr b 0, .agg [.v (.int .i64 ak), .v (.int .i64 ar), .v (.int .i64 ab), .v (.int .i64 ai), .v (.int .i64 aq), .v (.int .u32 ad)], .v (.int .i64 size)] => (match m[b]? with
    | some (.cells Z Tm) => (match Z.take 24 with
      | [.ptr g 0, .v (.int .u32 pr0), .v (.int .u32 pr1), .v (.int .u32 pr2), .v (.int .u32 pr3), .v (.int .u32 pr4), .v (.int .u32 pr5), .v (.int .u32 pr6), .v (.int .u32 pr7), .v (.int .u32 pip), .v (.bool pfc), .v (.bool pfp), .v (.bool pfz), .v (.bool pfs), .v (.bool pfo), .v (.bool pfd), .v (.int .u64 px0), .v (.int .u64 px1), .v (.int .u64 px2), .v (.int .u64 px3), .v (.int .u64 px4), .v (.int .u64 px5), .v (.int .u64 px6), .v (.int .u64 px7)] => (match Z.drop 24 with
        | [.v (.int .u32 r0), .v (.int .u32 r1), .v (.int .u32 r2), .v (.int .u32 r3), .v (.int .u32 r4), .v (.int .u32 r5), .v (.int .u32 r6), .v (.int .u32 r7), .v (.int .u32 ip), .v (.bool fc), .v (.bool fp), .v (.bool fz), .v (.bool fs), .v (.bool fo), .v (.bool fd), .v (.int .u64 x0), .v (.int .u64 x1), .v (.int .u64 x2), .v (.int .u64 x3), .v (.int .u64 x4), .v (.int .u64 x5), .v (.int .u64 x6), .v (.int .u64 x7)] => (match m[g]? with
          | some (.cells [.ptr h 0, .v (.int .u32 cb), .v (.int .u32 cs), .v (.bool cr), .v (.bool cw), .v (.bool cx), .v (.int .u32 db), .v (.int .u32 ds), .v (.bool dr), .v (.bool dw), .v (.bool dx)] T) => (match m[h]? with
            | some (.ext 0 M) => mlB R k kp b g h cb cs cr cw cx db ds dr dw dx T Tm M pr0 pr1 pr2 pr3 pr4 pr5 pr6 pr7 pip pfc pfp pfz pfs pfo pfd px0 px1 px2 px3 px4 px5 px6 px7 r0 r1 r2 r3 r4 r5 r6 r7 ip fc fp fz fs fo fd x0 x1 x2 x3 x4 x5 x6 x7 ak ar ab ai aq ad size
            | _ => none)
          | _ => none)
        | _ => none)
      | _ => none)
    | _ => none)
  | _ => none
set_option maxHeartbeats 4000000 in
theorem mlF_ok : QPOk Try.prog XM 140 mlF := by
  intro R args m k kp r h0
  unfold mlF at h0
  split at h0
  · rename_i _ b ak ar ab ai aq ad size
    split at h0
    · rename_i _ Z Tm hb
      split at h0
      · rename_i _ g pr0 pr1 pr2 pr3 pr4 pr5 pr6 pr7 pip pfc pfp pfz pfs pfo pfd px0 px1 px2 px3 px4 px5 px6 px7 e1
        split at h0
        · rename_i _ r0 r1 r2 r3 r4 r5 r6 r7 ip fc fp fz fs fo fd x0 x1 x2 x3 x4 x5 x6 x7 e2
          split at h0
          · rename_i _ h cb cs cr cw cx db ds dr dw dx T hg
            split at h0
            · rename_i _ M hh
              unfold mlB at h0
              obtain ⟨hc, h0⟩ := cond_some h0
              have eZ : Z = .ptr g 0 :: ([.v (.int .u32 pr0), .v (.int .u32 pr1), .v (.int .u32 pr2), .v (.int .u32 pr3), .v (.int .u32 pr4), .v (.int .u32 pr5), .v (.int .u32 pr6), .v (.int .u32 pr7), .v (.int .u32 pip), .v (.bool pfc), .v (.bool pfp), .v (.bool pfz), .v (.bool pfs), .v (.bool pfo), .v (.bool pfd), .v (.int .u64 px0), .v (.int .u64 px1), .v (.int .u64 px2), .v (.int .u64 px3), .v (.int .u64 px4), .v (.int .u64 px5), .v (.int .u64 px6), .v (.int .u64 px7)] ++ [.v (.int .u32 r0), .v (.int .u32 r1), .v (.int .u32 r2), .v (.int .u32 r3), .v (.int .u32 r4), .v (.int .u32 r5), .v (.int .u32 r6), .v (.int .u32 r7), .v (.int .u32 ip), .v (.bool fc), .v (.bool fp), .v (.bool fz), .v (.bool fs), .v (.bool fo), .v (.bool fd), .v (.int .u64 x0), .v (.int .u64 x1), .v (.int .u64 x2), .v (.int .u64 x3), .v (.int .u64 x4), .v (.int .u64 x5), .v (.int .u64 x6), .v (.int .u64 x7)]) := by rw [← List.take_append_drop 24 Z, e1, e2]; rfl
              subst eZ
              rw [Bool.and_eq_true] at hc
              have hd : ¬ b = g ∧ ¬ b = h ∧ ¬ g = h := by simpa using hc.2
              have fr : ∀ {mm : List SObj}, Compat m mm → atAll (Go.Ev.look [b, g, h] mm.length) mm [b, g, h] [.cells [.ptr 1 0, .v (.int .u32 pr0), .v (.int .u32 pr1), .v (.int .u32 pr2), .v (.int .u32 pr3), .v (.int .u32 pr4), .v (.int .u32 pr5), .v (.int .u32 pr6), .v (.int .u32 pr7), .v (.int .u32 pip), .v (.bool pfc), .v (.bool pfp), .v (.bool pfz), .v (.bool pfs), .v (.bool pfo), .v (.bool pfd), .v (.int .u64 px0), .v (.int .u64 px1), .v (.int .u64 px2), .v (.int .u64 px3), .v (.int .u64 px4), .v (.int .u64 px5), .v (.int .u64 px6), .v (.int .u64 px7), .v (.int .u32 r0), .v (.int .u32 r1), .v (.int .u32 r2), .v (.int .u32 r3), .v (.int .u32 r4), .v (.int .u32 r5), .v (.int .u32 r6), .v (.int .u32 r7), .v (.int .u32 ip), .v (.bool fc), .v (.bool fp), .v (.bool fz), .v (.bool fs), .v (.bool fo), .v (.bool fd), .v (.int .u64 x0), .v (.int .u64 x1), .v (.int .u64 x2), .v (.int .u64 x3), .v (.int .u64 x4), .v (.int .u64 x5), .v (.int .u64 x6), .v (.int .u64 x7)] Tm, .cells [.ptr 2 0, .v (.int .u32 cb), .v (.int .u32 cs), .v (.bool cr), .v (.bool cw), .v (.bool cx), .v (.int .u32 db), .v (.int .u32 ds), .v (.bool dr), .v (.bool dw), .v (.bool dx)] T, .ext 0 M] := fun hm => ⟨hm b _ hb rfl, hm g _ hg rfl, hm h _ hh rfl, trivial⟩
              have hn : [b, g, h].Nodup := by simp; exact ⟨⟨hd.1, hd.2.1⟩, hd.2.2⟩
              rcases cond_two h0 with ⟨hq, h1⟩ | ⟨hq, h1⟩
              · exact .inl ⟨_, h1, fun mm hm => (callR_evX ΓAe_ok (by kernel_rfl) (ml_ret cb cs cr cw cx db ds dr dw dx T Tm M pr0 pr1 pr2 pr3 pr4 pr5 pr6 pr7 pip pfc pfp pfz pfs pfo pfd px0 px1 px2 px3 px4 px5 px6 px7 r0 r1 r2 r3 r4 r5 r6 r7 ip fc fp fz fs fo fd x0 x1 x2 x3 x4 x5 x6 x7 ak ar ab ai aq ad size hc.1 hq) rfl rfl rfl rfl).frameL [b, g, h] hn (fr hm) rfl rfl rfl rfl rfl rfl (embed_same (fr hm))⟩
              · exact .inr ⟨_, h1, fun mm hm => (callP_evX ΓAe_ok (by kernel_rfl) (ml_pan cb cs cr cw cx db ds dr dw dx T Tm M pr0 pr1 pr2 pr3 pr4 pr5 pr6 pr7 pip pfc pfp pfz pfs pfo pfd px0 px1 px2 px3 px4 px5 px6 px7 r0 r1 r2 r3 r4 r5 r6 r7 ip fc fp fz fs fo fd x0 x1 x2 x3 x4 x5 x6 x7 ak ar ab ai aq ad size hc.1 hq) rfl rfl rfl).frameL [b, g, h] hn (fr hm) rfl rfl rfl rfl rfl (embed_same (fr hm))⟩
            · cases h0
          · cases h0
        · cases h0
      · cases h0
    · cases h0
  · cases h0
theorem ms_form (cb cs : Int) (cr cw cx : Bool) (db ds : Int) (dr dw dx : Bool) (T Tm : TypeId) (M : Int → Int) (pr0 pr1 pr2 pr3 pr4 pr5 pr6 pr7 pip : Int) (pfc pfp pfz pfs pfo pfd : Bool) (px0 px1 px2 px3 px4 px5 px6 px7 : Int) (r0 r1 r2 r3 r4 r5 r6 r7 ip : Int) (fc fp fz fs fo fd : Bool) (x0 x1 x2 x3 x4 x5 x6 x7 : Int) (op v w size : Int) :
    evF Try.prog ((ΓAe).add 158 (pureSpec logicS)) 400 141 [.ptr 0 0, .v (.int .i64 op), .v (.int .u32 v), .v (.int .u32 w), .v (.int .i64 size)] [.cells [.ptr 1 0, .v (.int .u32 pr0), .v (.int .u32 pr1), .v (.int .u32 pr2), .v (.int .u32 pr3), .v (.int .u32 pr4), .v (.int .u32 pr5), .v (.int .u32 pr6), .v (.int .u32 pr7), .v (.int .u32 pip), .v (.bool pfc), .v (.bool pfp), .v (.bool pfz), .v (.bool pfs), .v (.bool pfo), .v (.bool pfd), .v (.int .u64 px0), .v (.int .u64 px1), .v (.int .u64 px2), .v (.int .u64 px3), .v (.int .u64 px4), .v (.int .u64 px5), .v (.int .u64 px6), .v (.int .u64 px7), .v (.int .u32 r0), .v (.int .u32 r1), .v (.int .u32 r2), .v (.int .u32 r3), .v (.int .u32 r4), .v (.int .u32 r5), .v (.int .u32 r6), .v (.int .u32 r7), .v (.int .u32 ip), .v (.bool fc), .v (.bool fp), .v (.bool fz), .v (.bool fs), .v (.bool fo), .v (.bool fd), .v (.int .u64 x0), .v (.int .u64 x1), .v (.int .u64 x2), .v (.int .u64 x3), .v (.int .u64 x4), .v (.int .u64 x5), .v (.int .u64 x6), .v (.int .u64 x7)] Tm, .cells [.ptr 2 0, .v (.int .u32 cb), .v (.int .u32 cs), .v (.bool cr), .v (.bool cw), .v (.bool cx), .v (.int .u32 db), .v (.int .u32 ds), .v (.bool dr), .v (.bool dw), .v (.bool dx)] T, .ext 0 M] (kTr 3) (kTp 3) =
    (bif op == 1 then
bif in32 v && in32 w then
some
(OutE.ret
(Sv.tup
[vw ((addV v w size false)),
Sv.agg
[vb ((decide (szM size ≤ addS v w size false))), vb ((parV (addV v w size false))),
vb ((addV v w size false == 0)), vb ((topV (addV v w size false) size)),
vb ((addO v w size false)), vb false]])
[SObj.cells
[Sv.ptr 1 0, vw pr0, vw pr1, vw pr2,
vw pr3, vw pr4, vw pr5,
vw pr6, vw pr7, vw pip,
vb pfc, vb pfp, vb pfz, vb pfs, vb pfo,
vb pfd, vd px0, vd px1,
vd px2, vd px3, vd px4,
vd px5, vd px6, vd px7,
vw r0, vw r1, vw r2,
vw r3, vw r4, vw r5,
vw r6, vw r7, vw ip, vb fc,
vb fp, vb fz, vb fs, vb fo, vb fd,
vd x0, vd x1, vd x2,
vd x3, vd x4, vd x5,
vd x6, vd x7]
Tm,
SObj.cells
[Sv.ptr 2 0, vw cb, vw cs, vb cr,
vb cw, vb cx, vw db, vw ds,
vb dr, vb dw, vb dx]
T,
SObj.ext 0 M])
else none
else
bif op == 3 then
bif in32 v && in32 w then
some
(OutE.ret
(Sv.tup
[vw ((addV v w size fc)),
Sv.agg
[vb ((decide (szM size ≤ addS v w size fc))), vb ((parV (addV v w size fc))),
vb ((addV v w size fc == 0)), vb ((topV (addV v w size fc) size)),
vb ((addO v w size fc)), vb false]])
[SObj.cells
[Sv.ptr 1 0, vw pr0, vw pr1, vw pr2,
vw pr3, vw pr4, vw pr5,
vw pr6, vw pr7, vw pip,
vb pfc, vb pfp, vb pfz, vb pfs, vb pfo,
vb pfd, vd px0, vd px1,
vd px2, vd px3, vd px4,
vd px5, vd px6, vd px7,
vw r0, vw r1, vw r2,
vw r3, vw r4, vw r5,
vw r6, vw r7, vw ip, vb fc,
vb fp, vb fz, vb fs, vb fo, vb fd,
vd x0, vd x1, vd x2,
vd x3, vd x4, vd x5,
vd x6, vd x7]
Tm,
SObj.cells
[Sv.ptr 2 0, vw cb, vw cs, vb cr,
vb cw, vb cx, vw db, vw ds,
vb dr, vb dw, vb dx]
T,
SObj.ext 0 M])
else none
else
bif op == 4 then
bif in32 v && in32 w then
some
(OutE.ret
(Sv.tup
[vw ((subV v w size fc)),
Sv.agg
[vb ((decide (subS v w size fc < 0))), vb ((parV (subV v w size fc))),
vb ((subV v w size fc == 0)), vb ((topV (subV v w size fc) size)),
vb ((subO v w size fc)), vb false]])
[SObj.cells
[Sv.ptr 1 0, vw pr0, vw pr1, vw pr2,
vw pr3, vw pr4, vw pr5,
vw pr6, vw pr7, vw pip,
vb pfc, vb pfp, vb pfz, vb pfs, vb pfo,
vb pfd, vd px0, vd px1,
vd px2, vd px3, vd px4,
vd px5, vd px6, vd px7,
vw r0, vw r1, vw r2,
vw r3, vw r4, vw r5,
vw r6, vw r7, vw ip, vb fc,
vb fp, vb fz, vb fs, vb fo, vb fd,
vd x0, vd x1, vd x2,
vd x3, vd x4, vd x5,
vd x6, vd x7]
Tm,
SObj.cells
[Sv.ptr 2 0, vw cb, vw cs, vb cr,
vb cw, vb cx, vw db, vw ds,
vb dr, vb dw, vb dx]
T,
SObj.ext 0 M])
else none
else
bif op == 6 then
bif op == 6 then
bif in32 v && in32 w then
some
(OutE.ret
(Sv.tup
[vw ((subV v w size false)),
Sv.agg
[vb ((decide (subS v w size false < 0))), vb ((parV (subV v w size false))),
vb ((subV v w size false == 0)), vb ((topV (subV v w size false) size)),
vb ((subO v w size false)), vb false]])
[SObj.cells
[Sv.ptr 1 0, vw pr0, vw pr1, vw pr2,
vw pr3, vw pr4, vw pr5,
vw pr6, vw pr7, vw pip,
vb pfc, vb pfp, vb pfz, vb pfs, vb pfo,
vb pfd, vd px0, vd px1,
vd px2, vd px3, vd px4,
vd px5, vd px6, vd px7,
vw r0, vw r1, vw r2,
vw r3, vw r4, vw r5,
vw r6, vw r7, vw ip, vb fc,
vb fp, vb fz, vb fs, vb fo, vb fd,
vd x0, vd x1, vd x2,
vd x3, vd x4, vd x5,
vd x6, vd x7]
Tm,
SObj.cells
[Sv.ptr 2 0, vw cb, vw cs, vb cr,
vb cw, vb cx, vw db, vw ds,
vb dr, vb dw, vb dx]
T,
SObj.ext 0 M])
else none
else
bif op == 2 then
bif in32 (bitsL BinOp.or IntKind.u32 v w) then
some
(OutE.ret
(Sv.tup
[vw ((cutV (bitsL BinOp.or IntKind.u32 v w) size)),
Sv.agg
[vb false, vb ((parV (cutV (bitsL BinOp.or IntKind.u32 v w) size))),
vb ((cutV (bitsL BinOp.or IntKind.u32 v w) size == 0)),
vb ((topV (cutV (bitsL BinOp.or IntKind.u32 v w) size) size)), vb false,
vb false]])
[SObj.cells
[Sv.ptr 1 0, vw pr0, vw pr1, vw pr2,
vw pr3, vw pr4, vw pr5,
vw pr6, vw pr7, vw pip,
vb pfc, vb pfp, vb pfz, vb pfs, vb pfo,
vb pfd, vd px0, vd px1,
vd px2, vd px3, vd px4,
vd px5, vd px6, vd px7,
vw r0, vw r1, vw r2,
vw r3, vw r4, vw r5,
vw r6, vw r7, vw ip, vb fc,
vb fp, vb fz, vb fs, vb fo, vb fd,
vd x0, vd x1, vd x2,
vd x3, vd x4, vd x5,
vd x6, vd x7]
Tm,
SObj.cells
[Sv.ptr 2 0, vw cb, vw cs, vb cr,
vb cw, vb cx, vw db, vw ds,
vb dr, vb dw, vb dx]
T,
SObj.ext 0 M])
else none
else
bif op == 7 then
bif in32 (bitsL BinOp.xor IntKind.u32 v w) then
some
(OutE.ret
(Sv.tup
[vw ((cutV (bitsL BinOp.xor IntKind.u32 v w) size)),
Sv.agg
[vb false, vb ((parV (cutV (bitsL BinOp.xor IntKind.u32 v w) size))),
vb ((cutV (bitsL BinOp.xor IntKind.u32 v w) size == 0)),
vb ((topV (cutV (bitsL BinOp.xor IntKind.u32 v w) size) size)), vb false,
vb false]])
[SObj.cells
[Sv.ptr 1 0, vw pr0, vw pr1, vw pr2,
vw pr3, vw pr4, vw pr5,
vw pr6, vw pr7, vw pip,
vb pfc, vb pfp, vb pfz, vb pfs, vb pfo,
vb pfd, vd px0, vd px1,
vd px2, vd px3, vd px4,
vd px5, vd px6, vd px7,
vw r0, vw r1, vw r2,
vw r3, vw r4, vw r5,
vw r6, vw r7, vw ip, vb fc,
vb fp, vb fz, vb fs, vb fo, vb fd,
vd x0, vd x1, vd x2,
vd x3, vd x4, vd x5,
vd x6, vd x7]
Tm,
SObj.cells
[Sv.ptr 2 0, vw cb, vw cs, vb cr,
vb cw, vb cx, vw db, vw ds,
vb dr, vb dw, vb dx]
T,
SObj.ext 0 M])
else none
else
bif in32 (bitsL BinOp.and IntKind.u32 v w) then
some
(OutE.ret
(Sv.tup
[vw ((cutV (bitsL BinOp.and IntKind.u32 v w) size)),
Sv.agg
[vb false, vb ((parV (cutV (bitsL BinOp.and IntKind.u32 v w) size))),
vb ((cutV (bitsL BinOp.and IntKind.u32 v w) size == 0)),
vb ((topV (cutV (bitsL BinOp.and IntKind.u32 v w) size) size)), vb false,
vb false]])
[SObj.cells
[Sv.ptr 1 0, vw pr0, vw pr1, vw pr2,
vw pr3, vw pr4, vw pr5,
vw pr6, vw pr7, vw pip,
vb pfc, vb pfp, vb pfz, vb pfs, vb pfo,
vb pfd, vd px0, vd px1,
vd px2, vd px3, vd px4,
vd px5, vd px6, vd px7,
vw r0, vw r1, vw r2,
vw r3, vw r4, vw r5,
vw r6, vw r7, vw ip, vb fc,
vb fp, vb fz, vb fs, vb fo, vb fd,
vd x0, vd x1, vd x2,
vd x3, vd x4, vd x5,
vd x6, vd x7]
Tm,
SObj.cells
[Sv.ptr 2 0, vw cb, vw cs, vb cr,
vb cw, vb cx, vw db, vw ds,
vb dr, vb dw, vb dx]
T,
SObj.ext 0 M])
else none
else
bif op == 8 then
bif in32 v && in32 w then
some
(OutE.ret
(Sv.tup
[vw ((subV v w size false)),
Sv.agg
[vb ((decide (subS v w size false < 0))), vb ((parV (subV v w size false))),
vb ((subV v w size false == 0)), vb ((topV (subV v w size false) size)),
vb ((subO v w size false)), vb false]])
[SObj.cells
[Sv.ptr 1 0, vw pr0, vw pr1, vw pr2,
vw pr3, vw pr4, vw pr5,
vw pr6, vw pr7, vw pip,
vb pfc, vb pfp, vb pfz, vb pfs, vb pfo,
vb pfd, vd px0, vd px1,
vd px2, vd px3, vd px4,
vd px5, vd px6, vd px7,
vw r0, vw r1, vw r2,
vw r3, vw r4, vw r5,
vw r6, vw r7, vw ip, vb fc,
vb fp, vb fz, vb fs, vb fo, vb fd,
vd x0, vd x1, vd x2,
vd x3, vd x4, vd x5,
vd x6, vd x7]
Tm,
SObj.cells
[Sv.ptr 2 0, vw cb, vw cs, vb cr,
vb cw, vb cx, vw db, vw ds,
vb dr, vb dw, vb dx]
T,
SObj.ext 0 M])
else none
else
bif op == 2 then
bif in32 (bitsL BinOp.or IntKind.u32 v w) then
some
(OutE.ret
(Sv.tup
[vw ((cutV (bitsL BinOp.or IntKind.u32 v w) size)),
Sv.agg
[vb false, vb ((parV (cutV (bitsL BinOp.or IntKind.u32 v w) size))),
vb ((cutV (bitsL BinOp.or IntKind.u32 v w) size == 0)),
vb ((topV (cutV (bitsL BinOp.or IntKind.u32 v w) size) size)), vb false,
vb false]])
[SObj.cells
[Sv.ptr 1 0, vw pr0, vw pr1, vw pr2,
vw pr3, vw pr4, vw pr5,
vw pr6, vw pr7, vw pip,
vb pfc, vb pfp, vb pfz, vb pfs, vb pfo,
vb pfd, vd px0, vd px1,
vd px2, vd px3, vd px4,
vd px5, vd px6, vd px7,
vw r0, vw r1, vw r2,
vw r3, vw r4, vw r5,
vw r6, vw r7, vw ip, vb fc,
vb fp, vb fz, vb fs, vb fo, vb fd,
vd x0, vd x1, vd x2,
vd x3, vd x4, vd x5,
vd x6, vd x7]
Tm,
SObj.cells
[Sv.ptr 2 0, vw cb, vw cs, vb cr,
vb cw, vb cx, vw db, vw ds,
vb dr, vb dw, vb dx]
T,
SObj.ext 0 M])
else none
else
bif op == 7 then
bif in32 (bitsL BinOp.xor IntKind.u32 v w) then
some
(OutE.ret
(Sv.tup
[vw ((cutV (bitsL BinOp.xor IntKind.u32 v w) size)),
Sv.agg
[vb false, vb ((parV (cutV (bitsL BinOp.xor IntKind.u32 v w) size))),
vb ((cutV (bitsL BinOp.xor IntKind.u32 v w) size == 0)),
vb ((topV (cutV (bitsL BinOp.xor IntKind.u32 v w) size) size)), vb false,
vb false]])
[SObj.cells
[Sv.ptr 1 0, vw pr0, vw pr1, vw pr2,
vw pr3, vw pr4, vw pr5,
vw pr6, vw pr7, vw pip,
vb pfc, vb pfp, vb pfz, vb pfs, vb pfo,
vb pfd, vd px0, vd px1,
vd px2, vd px3, vd px4,
vd px5, vd px6, vd px7,
vw r0, vw r1, vw r2,
vw r3, vw r4, vw r5,
vw r6, vw r7, vw ip, vb fc,
vb fp, vb fz, vb fs, vb fo, vb fd,
vd x0, vd x1, vd x2,
vd x3, vd x4, vd x5,
vd x6, vd x7]
Tm,
SObj.cells
[Sv.ptr 2 0, vw cb, vw cs, vb cr,
vb cw, vb cx, vw db, vw ds,
vb dr, vb dw, vb dx]
T,
SObj.ext 0 M])
else none
else
bif in32 (bitsL BinOp.and IntKind.u32 v w) then
some
(OutE.ret
(Sv.tup
[vw ((cutV (bitsL BinOp.and IntKind.u32 v w) size)),
Sv.agg
[vb false, vb ((parV (cutV (bitsL BinOp.and IntKind.u32 v w) size))),
vb ((cutV (bitsL BinOp.and IntKind.u32 v w) size == 0)),
vb ((topV (cutV (bitsL BinOp.and IntKind.u32 v w) size) size)), vb false,
vb false]])
[SObj.cells
[Sv.ptr 1 0, vw pr0, vw pr1, vw pr2,
vw pr3, vw pr4, vw pr5,
vw pr6, vw pr7, vw pip,
vb pfc, vb pfp, vb pfz, vb pfs, vb pfo,
vb pfd, vd px0, vd px1,
vd px2, vd px3, vd px4,
vd px5, vd px6, vd px7,
vw r0, vw r1, vw r2,
vw r3, vw r4, vw r5,
vw r6, vw r7, vw ip, vb fc,
vb fp, vb fz, vb fs, vb fo, vb fd,
vd x0, vd x1, vd x2,
vd x3, vd x4, vd x5,
vd x6, vd x7]
Tm,
SObj.cells
[Sv.ptr 2 0, vw cb, vw cs, vb cr,
vb cw, vb cx, vw db, vw ds,
vb dr, vb dw, vb dx]
T,
SObj.ext 0 M])
else none) := by kernel_rfl
set_option maxHeartbeats 4000000 in
theorem ms_ret (cb cs : Int) (cr cw cx : Bool) (db ds : Int) (dr dw dx : Bool) (T Tm : TypeId) (M : Int → Int) (pr0 pr1 pr2 pr3 pr4 pr5 pr6 pr7 pip : Int) (pfc pfp pfz pfs pfo pfd : Bool) (px0 px1 px2 px3 px4 px5 px6 px7 : Int) (r0 r1 r2 r3 r4 r5 r6 r7 ip : Int) (fc fp fz fs fo fd : Bool) (x0 x1 x2 x3 x4 x5 x6 x7 : Int) (op v w size : Int) (hg : (in32 v && in32 w) = true) : evF Try.prog ((ΓAe).add 158 (pureSpec logicS)) 400 141 [.ptr 0 0, .v (.int .i64 op), .v (.int .u32 v), .v (.int .u32 w), .v (.int .i64 size)] [.cells [.ptr 1 0, .v (.int .u32 pr0), .v (.int .u32 pr1), .v (.int .u32 pr2), .v (.int .u32 pr3), .v (.int .u32 pr4), .v (.int .u32 pr5), .v (.int .u32 pr6), .v (.int .u32 pr7), .v (.int .u32 pip), .v (.bool pfc), .v (.bool pfp), .v (.bool pfz), .v (.bool pfs), .v (.bool pfo), .v (.bool pfd), .v (.int .u64 px0), .v (.int .u64 px1), .v (.int .u64 px2), .v (.int .u64 px3), .v (.int .u64 px4), .v (.int .u64 px5), .v (.int .u64 px6), .v (.int .u64 px7), .v (.int .u32 r0), .v (.int .u32 r1), .v (.int .u32 r2), .v (.int .u32 r3), .v (.int .u32 r4), .v (.int .u32 r5), .v (.int .u32 r6), .v (.int .u32 r7), .v (.int .u32 ip), .v (.bool fc), .v (.bool fp), .v (.bool fz), .v (.bool fs), .v (.bool fo), .v (.bool fd), .v (.int .u64 x0), .v (.int .u64 x1), .v (.int .u64 x2), .v (.int .u64 x3), .v (.int .u64 x4), .v (.int .u64 x5), .v (.int .u64 x6), .v (.int .u64 x7)] Tm, .cells [.ptr 2 0, .v (.int .u32 cb), .v (.int .u32 cs), .v (.bool cr), .v (.bool cw), .v (.bool cx), .v (.int .u32 db), .v (.int .u32 ds), .v (.bool dr), .v (.bool dw), .v (.bool dx)] T, .ext 0 M] (kTr 3) (kTp 3) = some (.ret (.tup [.v (.int .u32 (twoV op fc v w size)), .agg [.v (.bool (twoC op fc v w size)), .v (.bool (parV (twoV op fc v w size))), .v (.bool ((twoV op fc v w size) == 0)), .v (.bool (topV (twoV op fc v w size) size)), .v (.bool (twoO op fc v w size)), .v (.bool false)]]) [.cells [.ptr 1 0, .v (.int .u32 pr0), .v (.int .u32 pr1), .v (.int .u32 pr2), .v (.int .u32 pr3), .v (.int .u32 pr4), .v (.int .u32 pr5), .v (.int .u32 pr6), .v (.int .u32 pr7), .v (.int .u32 pip), .v (.bool pfc), .v (.bool pfp), .v (.bool pfz), .v (.bool pfs), .v (.bool pfo), .v (.bool pfd), .v (.int .u64 px0), .v (.int .u64 px1), .v (.int .u64 px2), .v (.int .u64 px3), .v (.int .u64 px4), .v (.int .u64 px5), .v (.int .u64 px6), .v (.int .u64 px7), .v (.int .u32 r0), .v (.int .u32 r1), .v (.int .u32 r2), .v (.int .u32 r3), .v (.int .u32 r4), .v (.int .u32 r5), .v (.int .u32 r6), .v (.int .u32 r7), .v (.int .u32 ip), .v (.bool fc), .v (.bool fp), .v (.bool fz), .v (.bool fs), .v (.bool fo), .v (.bool fd), .v (.int .u64 x0), .v (.int .u64 x1), .v (.int .u64 x2), .v (.int .u64 x3), .v (.int .u64 x4), .v (.int .u64 x5), .v (.int .u64 x6), .v (.int .u64 x7)] Tm, .cells [.ptr 2 0, .v (.int .u32 cb), .v (.int .u32 cs), .v (.bool cr), .v (.bool cw), .v (.bool cx), .v (.int .u32 db), .v (.int .u32 ds), .v (.bool dr), .v (.bool dw), .v (.bool dx)] T, .ext 0 M]) := by
  rw [ms_form]
  rw [Bool.and_eq_true] at hg
  simp only [hg.1, hg.2, in32bL, Bool.and_self, cond_true]
  unfold twoV twoC twoO
  generalize (op == 1) = q1
  generalize (op == 3) = q3
  generalize (op == 4) = q4
  generalize (op == 6) = q6
  generalize (op == 8) = q8
  generalize (op == 2) = q2
  generalize (op == 7) = q7
  cases q1
  · cases q3
    · cases q4
      · cases q6
        · cases q8
          · cases q2
            · cases q7 <;> rfl
            · rfl
          · rfl
        · rfl
      · rfl
    · rfl
  · rfl
noncomputable def msB (R : Type) (k : Sv → Option R) (kp : List PanicEntry → Option R) (b : Nat) (g : Nat) (h : Nat) (cb : Int) (cs : Int) (cr : Bool) (cw : Bool) (cx : Bool) (db : Int) (ds : Int) (dr : Bool) (dw : Bool) (dx : Bool) (T : TypeId) (Tm : TypeId) (M : Int → Int) (pr0 : Int) (pr1 : Int) (pr2 : Int) (pr3 : Int) (pr4 : Int) (pr5 : Int) (pr6 : Int) (pr7 : Int) (pip : Int) (pfc : Bool) (pfp : Bool) (pfz : Bool) (pfs : Bool) (pfo : Bool) (pfd : Bool) (px0 : Int) (px1 : Int) (px2 : Int) (px3 : Int) (px4 : Int) (px5 : Int) (px6 : Int) (px7 : Int) (r0 : Int) (r1 : Int) (r2 : Int) (r3 : Int) (r4 : Int) (r5 : Int) (r6 : Int) (r7 : Int) (ip : Int) (fc : Bool) (fp : Bool) (fz : Bool) (fs : Bool) (fo : Bool) (fd : Bool) (x0 : Int) (x1 : Int) (x2 : Int) (x3 : Int) (x4 : Int) (x5 : Int) (x6 : Int) (x7 : Int) (op : Int) (v : Int) (w : Int) (size : Int) : Option R :=
  bif (in32 v && in32 w) && (!(b == g) && (!(b == h) && !(g == h))) then k (.tup [.v (.int .u32 (twoV op fc v w size)), .agg [.v (.bool (twoC op fc v w size)), .v (.bool (parV (twoV op fc v w size))), .v (.bool ((twoV op fc v w size) == 0)), .v (.bool (topV (twoV op fc v w size) size)), .v (.bool (twoO op fc v w size)), .v (.bool false)]]) else none
noncomputable def msF : QPSpec := fun R args m k kp => match args with
  | [.ptr b 0, .v (.int .i64 op), .v (.int .u32 v), .v (.int .u32 w), .v (.int .i64 size)] => (match m[b]? with
    | some (.cells Z Tm) => (match Z.take 24 with
      | [.ptr g 0, .v (.int .u32 pr0), .v (.int .u32 pr1), .v (.int .u32 pr2), .v (.int .u32 pr3), .v (.int .u32 pr4), .v (.int .u32 pr5), .v (.int .u32 pr6), .v (.int .u32 pr7), .v (.int .u32 pip), .v (.bool pfc), .v (.bool pfp), .v (.bool pfz), .v (.bool pfs), .v (.bool pfo), .v (.bool pfd), .v (.int .u64 px0), .v (.int .u64 px1), .v (.int .u64 px2), .v (.int .u64 px3), .v (.int .u64 px4), .v (.int .u64 px5), .v (.int .u64 px6), .v (.int .u64 px7)] => (match Z.drop 24 with
        | [.v (.int .u32 r0), .v (.int .u32 r1), .v (.int .u32 r2), .v (.int .u32 r3), .v (.int .u32 r4), .v (.int .u32 r5), .v (.int .u32 r6), .v (.int .u32 r7), .v (.int .u32 ip), .v (.bool fc), .v (.bool fp), .v (.bool fz), .v (.bool fs), .v (.bool fo), .v (.bool fd), .v (.int .u64 x0), .v (.int .u64 x1), .v (.int .u64 x2), .v (.int .u64 x3), .v (.int .u64 x4), .v (.int .u64 x5), .v (.int .u64 x6), .v (.int .u64 x7)] => (match m[g]? with
          | some (.cells [.ptr h 0, .v (.int .u32 cb), .v (.int .u32 cs), .v (.bool cr), .v (.bool cw), .v (.bool cx), .v (.int .u32 db), .v (.int .u32 ds), .v (.bool dr), .v (.bool dw), .v (.bool dx)] T) => (match m[h]? with
            | some (.ext 0 M) => msB R k kp b g h cb cs cr cw cx db ds dr dw dx T Tm M pr0 pr1 pr2 pr3 pr4 pr5 pr6 pr7 pip pfc pfp pfz pfs pfo pfd px0 px1 px2 px3 px4 px5 px6 px7 r0 r1 r2 r3 r4 r5 r6 r7 ip fc fp fz fs fo fd x0 x1 x2 x3 x4 x5 x6 x7 op v w size
            | _ => none)
          | _ => none)
        | _ => none)
      | _ => none)
    | _ => none)
  | _ => none
set_option maxHeartbeats 4000000 in
theorem msF_ok : QPOk Try.prog XM 141 msF := by
  intro R args m k kp r h0
  unfold msF at h0
  split at h0
  · rename_i _ b op v w size
    split at h0
    · rename_i _ Z Tm hb
      split at h0
      · rename_i _ g pr0 pr1 pr2 pr3 pr4 pr5 pr6 pr7 pip pfc pfp pfz pfs pfo pfd px0 px1 px2 px3 px4 px5 px6 px7 e1
        split at h0
        · rename_i _ r0 r1 r2 r3 r4 r5 r6 r7 ip fc fp fz fs fo fd x0 x1 x2 x3 x4 x5 x6 x7 e2
          split at h0
          · rename_i _ h cb cs cr cw cx db ds dr dw dx T hg
            split at h0
            · rename_i _ M hh
              unfold msB at h0
              obtain ⟨hc, h0⟩ := cond_some h0
              have eZ : Z = .ptr g 0 :: ([.v (.int .u32 pr0), .v (.int .u32 pr1), .v (.int .u32 pr2), .v (.int .u32 pr3), .v (.int .u32 pr4), .v (.int .u32 pr5), .v (.int .u32 pr6), .v (.int .u32 pr7), .v (.int .u32 pip), .v (.bool pfc), .v (.bool pfp), .v (.bool pfz), .v (.bool pfs), .v (.bool pfo), .v (.bool pfd), .v (.int .u64 px0), .v (.int .u64 px1), .v (.int .u64 px2), .v (.int .u64 px3), .v (.int .u64 px4), .v (.int .u64 px5), .v (.int .u64 px6), .v (.int .u64 px7)] ++ [.v (.int .u32 r0), .v (.int .u32 r1), .v (.int .u32 r2), .v (.int .u32 r3), .v (.int .u32 r4), .v (.int .u32 r5), .v (.int .u32 r6), .v (.int .u32 r7), .v (.int .u32 ip), .v (.bool fc), .v (.bool fp), .v (.bool fz), .v (.bool fs), .v (.bool fo), .v (.bool fd), .v (.int .u64 x0), .v (.int .u64 x1), .v (.int .u64 x2), .v (.int .u64 x3), .v (.int .u64 x4), .v (.int .u64 x5), .v (.int .u64 x6), .v (.int .u64 x7)]) := by rw [← List.take_append_drop 24 Z, e1, e2]; rfl
              subst eZ
              rw [Bool.and_eq_true] at hc
              have hd : ¬ b = g ∧ ¬ b = h ∧ ¬ g = h := by simpa using hc.2
              have fr : ∀ {mm : List SObj}, Compat m mm → atAll (Go.Ev.look [b, g, h] mm.length) mm [b, g, h] [.cells [.ptr 1 0, .v (.int .u32 pr0), .v (.int .u32 pr1), .v (.int .u32 pr2), .v (.int .u32 pr3), .v (.int .u32 pr4), .v (.int .u32 pr5), .v (.int .u32 pr6), .v (.int .u32 pr7), .v (.int .u32 pip), .v (.bool pfc), .v (.bool pfp), .v (.bool pfz), .v (.bool pfs), .v (.bool pfo), .v (.bool pfd), .v (.int .u64 px0), .v (.int .u64 px1), .v (.int .u64 px2), .v (.int .u64 px3), .v (.int .u64 px4), .v (.int .u64 px5), .v (.int .u64 px6), .v (.int .u64 px7), .v (.int .u32 r0), .v (.int .u32 r1), .v (.int .u32 r2), .v (.int .u32 r3), .v (.int .u32 r4), .v (.int .u32 r5), .v (.int .u32 r6), .v (.int .u32 r7), .v (.int .u32 ip), .v (.bool fc), .v (.bool fp), .v (.bool fz), .v (.bool fs), .v (.bool fo), .v (.bool fd), .v (.int .u64 x0), .v (.int .u64 x1), .v (.int .u64 x2), .v (.int .u64 x3), .v (.int .u64 x4), .v (.int .u64 x5), .v (.int .u64 x6), .v (.int .u64 x7)] Tm, .cells [.ptr 2 0, .v (.int .u32 cb), .v (.int .u32 cs), .v (.bool cr), .v (.bool cw), .v (.bool cx), .v (.int .u32 db), .v (.int .u32 ds), .v (.bool dr), .v (.bool dw), .v (.bool dx)] T, .ext 0 M] := fun hm => ⟨hm b _ hb rfl, hm g _ hg rfl, hm h _ hh rfl, trivial⟩
              have hn : [b, g, h].Nodup := by simp; exact ⟨⟨hd.1, hd.2.1⟩, hd.2.2⟩
              exact .inl ⟨_, h0, fun mm hm => (callR_evX (ΓAe_ok.add (by kernel_rfl) (specOk_of_nice ΓAr2_ok logicS_ok)) (by kernel_rfl) (ms_ret cb cs cr cw cx db ds dr dw dx T Tm M pr0 pr1 pr2 pr3 pr4 pr5 pr6 pr7 pip pfc pfp pfz pfs pfo pfd px0 px1 px2 px3 px4 px5 px6 px7 r0 r1 r2 r3 r4 r5 r6 r7 ip fc fp fz fs fo fd x0 x1 x2 x3 x4 x5 x6 x7 op v w size hc.1) rfl rfl rfl rfl).frameL [b, g, h] hn (fr hm) rfl rfl rfl rfl rfl rfl (embed_same (fr hm))⟩
            · cases h0
          · cases h0
        · cases h0
      · cases h0
    · cases h0
  · cases h0
noncomputable def ΓMl : Env := ((((((ΓAe).add 158 (pureSpec logicS)).addF 140 mlF).add 140 mlF.spec).addF 141 msF).add 141 msF.spec)
theorem ΓMl_ok : EnvOk Try.prog X0 ΓMl := (((((ΓAe_ok.add (by kernel_rfl) (specOk_of_nice ΓAr2_ok logicS_ok)).addF (by kernel_rfl) mlF_ok).add (by kernel_rfl) mlF_ok.spec).addF (by kernel_rfl) msF_ok).add (by kernel_rfl) msF_ok.spec)
end Go.Proofs.Ytpgdpoloipifeaa
