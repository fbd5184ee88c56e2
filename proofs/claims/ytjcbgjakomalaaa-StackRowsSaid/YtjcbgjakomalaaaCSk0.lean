/- What pushing and popping come to. -/
import Derived.Test.YtjcbgjakomalaaaEvV
import Derived.Test.YtjcbgjakomalaaaCAd4
namespace Go.Proofs.Ytjcbgjakomalaaa
open Go Go.Ev
set_option linter.unusedVariables false
set_option linter.unusedSimpArgs false
set_option maxRecDepth 100000
/-- Is there room; what a push, a pop make of the top; how they end. -/
def skOk (db ds at_ : Int) (may : Bool) : Bool := segE db ds at_ 4 may == 0
def puV (r : Int) (ok : Bool) : Int := bif ok then IntKind.wrap .u32 (r - 4) else r
def poV (r : Int) (ok : Bool) : Int := bif ok then IntKind.wrap .u32 (r + 4) else r
def endV (ok : Bool) : Int := bif ok then 0 else 2
def orV (v : Int) (ok : Bool) : Int := bif ok then v else 0
theorem puV_in {r : Int} (h : in32 r = true) (ok : Bool) : in32 (puV r ok) = true := by cases ok; exact h; exact in32_wr _
theorem poV_in {r : Int} (h : in32 r = true) (ok : Bool) : in32 (poV r ok) = true := by cases ok; exact h; exact in32_wr _
theorem orV_in {v : Int} (h : in32 v = true) (ok : Bool) : in32 (orV v ok) = true := by cases ok; rfl; exact h
theorem puP_form (cb cs : Int) (cr cw cx : Bool) (db ds : Int) (dr dw dx : Bool) (T : TypeId) (M : Int → Int) (r0 r1 r2 r3 r4 r5 r6 r7 ip : Int) (fc fp fz fs fo fd : Bool) (x0 x1 x2 x3 x4 x5 x6 x7 : Int) (v : Int) :
    evF Try.prog ΓAd4 400 25 [.ptr 0 0, .agg [.v (.int .u32 r0), .v (.int .u32 r1), .v (.int .u32 r2), .v (.int .u32 r3), .v (.int .u32 r4), .v (.int .u32 r5), .v (.int .u32 r6), .v (.int .u32 r7), .v (.int .u32 ip), .v (.bool fc), .v (.bool fp), .v (.bool fz), .v (.bool fs), .v (.bool fo), .v (.bool fd), .v (.int .u64 x0), .v (.int .u64 x1), .v (.int .u64 x2), .v (.int .u64 x3), .v (.int .u64 x4), .v (.int .u64 x5), .v (.int .u64 x6), .v (.int .u64 x7)], .v (.int .u32 v)] [.cells [.ptr 1 0, .v (.int .u32 cb), .v (.int .u32 cs), .v (.bool cr), .v (.bool cw), .v (.bool cx), .v (.int .u32 db), .v (.int .u32 ds), .v (.bool dr), .v (.bool dw), .v (.bool dx)] T, .ext 0 M] (kTk 2) kNo =
    (bif in32 db && (in32 ds && in32 (IntKind.wrap IntKind.u32 (r4 - 4))) && true then
bif segE db ds (IntKind.wrap IntKind.u32 (r4 - 4)) 4 (mayV dr dw dx 1) != 0 then
some
(Sv.tup
[Sv.agg
[vw r0, vw r1, vw r2,
vw r3, vw r4, vw r5,
vw r6, vw r7, vw ip, vb fc,
vb fp, vb fz, vb fs, vb fo, vb fd,
vd x0, vd x1, vd x2,
vd x3, vd x4, vd x5,
vd x6, vd x7],
vi 2],
[SObj.cells
[Sv.ptr 1 0, vw cb, vw cs, vb cr,
vb cw, vb cx, vw db, vw ds,
vb dr, vb dw, vb dx]
T,
SObj.ext 0 (stV M db ds (IntKind.wrap IntKind.u32 (r4 - 4)) 4 (IntKind.wrap IntKind.u64 v) (mayV dr dw dx 1))])
else
some
(Sv.tup
[Sv.agg
[vw r0, vw r1, vw r2,
vw r3, vw ((IntKind.wrap IntKind.u32 (r4 - 4))),
vw r5, vw r6, vw r7,
vw ip, vb fc, vb fp, vb fz, vb fs,
vb fo, vb fd, vd x0, vd x1,
vd x2, vd x3, vd x4,
vd x5, vd x6, vd x7],
vi 0],
[SObj.cells
[Sv.ptr 1 0, vw cb, vw cs, vb cr,
vb cw, vb cx, vw db, vw ds,
vb dr, vb dw, vb dx]
T,
SObj.ext 0 (stV M db ds (IntKind.wrap IntKind.u32 (r4 - 4)) 4 (IntKind.wrap IntKind.u64 v) (mayV dr dw dx 1))])
else none) := by kernel_rfl
theorem puP_ev (cb cs : Int) (cr cw cx : Bool) (db ds : Int) (dr dw dx : Bool) (T : TypeId) (M : Int → Int) (r0 r1 r2 r3 r4 r5 r6 r7 ip : Int) (fc fp fz fs fo fd : Bool) (x0 x1 x2 x3 x4 x5 x6 x7 : Int) (v : Int) (hg : (in32 r0 && (in32 r1 && (in32 r2 && (in32 r3 && (in32 r4 && (in32 r5 && (in32 r6 && (in32 r7 && (in32 db && (in32 ds && (in32 v))))))))))) = true) : evF Try.prog ΓAd4 400 25 [.ptr 0 0, .agg [.v (.int .u32 r0), .v (.int .u32 r1), .v (.int .u32 r2), .v (.int .u32 r3), .v (.int .u32 r4), .v (.int .u32 r5), .v (.int .u32 r6), .v (.int .u32 r7), .v (.int .u32 ip), .v (.bool fc), .v (.bool fp), .v (.bool fz), .v (.bool fs), .v (.bool fo), .v (.bool fd), .v (.int .u64 x0), .v (.int .u64 x1), .v (.int .u64 x2), .v (.int .u64 x3), .v (.int .u64 x4), .v (.int .u64 x5), .v (.int .u64 x6), .v (.int .u64 x7)], .v (.int .u32 v)] [.cells [.ptr 1 0, .v (.int .u32 cb), .v (.int .u32 cs), .v (.bool cr), .v (.bool cw), .v (.bool cx), .v (.int .u32 db), .v (.int .u32 ds), .v (.bool dr), .v (.bool dw), .v (.bool dx)] T, .ext 0 M] (kTk 2) kNo = some (.tup [.agg [.v (.int .u32 r0), .v (.int .u32 r1), .v (.int .u32 r2), .v (.int .u32 r3), .v (.int .u32 (puV r4 (skOk db ds (IntKind.wrap .u32 (r4 - 4)) (mayV dr dw dx 1)))), .v (.int .u32 r5), .v (.int .u32 r6), .v (.int .u32 r7), .v (.int .u32 ip), .v (.bool fc), .v (.bool fp), .v (.bool fz), .v (.bool fs), .v (.bool fo), .v (.bool fd), .v (.int .u64 x0), .v (.int .u64 x1), .v (.int .u64 x2), .v (.int .u64 x3), .v (.int .u64 x4), .v (.int .u64 x5), .v (.int .u64 x6), .v (.int .u64 x7)], .v (.int .i64 (endV (skOk db ds (IntKind.wrap .u32 (r4 - 4)) (mayV dr dw dx 1))))], [.cells [.ptr 1 0, .v (.int .u32 cb), .v (.int .u32 cs), .v (.bool cr), .v (.bool cw), .v (.bool cx), .v (.int .u32 db), .v (.int .u32 ds), .v (.bool dr), .v (.bool dw), .v (.bool dx)] T, .ext 0 (stV M db ds (IntKind.wrap .u32 (r4 - 4)) 4 (IntKind.wrap .u64 v) (mayV dr dw dx 1))]) := by
  rw [puP_form]
  simp only [Bool.and_eq_true] at hg
  simp only [hg, in32_wr, Bool.and_self, Bool.and_true, Bool.true_and, cond_true, bne]
  unfold skOk
  cases hs : (segE db ds (IntKind.wrap .u32 (r4 - 4)) 4 (mayV dr dw dx 1) == 0) <;> rfl
noncomputable def puPB (R : Type) (m : List SObj) (k : Sv → List SObj → Option R) (b : Nat) (g : Nat) (cb : Int) (cs : Int) (cr : Bool) (cw : Bool) (cx : Bool) (db : Int) (ds : Int) (dr : Bool) (dw : Bool) (dx : Bool) (T : TypeId) (M : Int → Int) (r0 : Int) (r1 : Int) (r2 : Int) (r3 : Int) (r4 : Int) (r5 : Int) (r6 : Int) (r7 : Int) (ip : Int) (fc : Bool) (fp : Bool) (fz : Bool) (fs : Bool) (fo : Bool) (fd : Bool) (x0 : Int) (x1 : Int) (x2 : Int) (x3 : Int) (x4 : Int) (x5 : Int) (x6 : Int) (x7 : Int) (v : Int) : Option R :=
  bif (in32 r0 && (in32 r1 && (in32 r2 && (in32 r3 && (in32 r4 && (in32 r5 && (in32 r6 && (in32 r7 && (in32 db && (in32 ds && (in32 v))))))))))) && !(b == g) then k (.tup [.agg [.v (.int .u32 r0), .v (.int .u32 r1), .v (.int .u32 r2), .v (.int .u32 r3), .v (.int .u32 (puV r4 (skOk db ds (IntKind.wrap .u32 (r4 - 4)) (mayV dr dw dx 1)))), .v (.int .u32 r5), .v (.int .u32 r6), .v (.int .u32 r7), .v (.int .u32 ip), .v (.bool fc), .v (.bool fp), .v (.bool fz), .v (.bool fs), .v (.bool fo), .v (.bool fd), .v (.int .u64 x0), .v (.int .u64 x1), .v (.int .u64 x2), .v (.int .u64 x3), .v (.int .u64 x4), .v (.int .u64 x5), .v (.int .u64 x6), .v (.int .u64 x7)], .v (.int .i64 (endV (skOk db ds (IntKind.wrap .u32 (r4 - 4)) (mayV dr dw dx 1))))]) (((m.set b (.cells [.ptr g 0, .v (.int .u32 cb), .v (.int .u32 cs), .v (.bool cr), .v (.bool cw), .v (.bool cx), .v (.int .u32 db), .v (.int .u32 ds), .v (.bool dr), .v (.bool dw), .v (.bool dx)] T)).set g (.ext 0 (stV M db ds (IntKind.wrap .u32 (r4 - 4)) 4 (IntKind.wrap .u64 v) (mayV dr dw dx 1)))) ++ []) else none
noncomputable def puPS : Ev.Spec := fun R args m k kp => match args with
  | [.ptr b 0, .agg A0, .v (.int .u32 v)] => (match A0 with
    | [.v (.int .u32 r0), .v (.int .u32 r1), .v (.int .u32 r2), .v (.int .u32 r3), .v (.int .u32 r4), .v (.int .u32 r5), .v (.int .u32 r6), .v (.int .u32 r7), .v (.int .u32 ip), .v (.bool fc), .v (.bool fp), .v (.bool fz), .v (.bool fs), .v (.bool fo), .v (.bool fd), .v (.int .u64 x0), .v (.int .u64 x1), .v (.int .u64 x2), .v (.int .u64 x3), .v (.int .u64 x4), .v (.int .u64 x5), .v (.int .u64 x6), .v (.int .u64 x7)] => (match m[b]? with
    | some (.cells [.ptr g 0, .v (.int .u32 cb), .v (.int .u32 cs), .v (.bool cr), .v (.bool cw), .v (.bool cx), .v (.int .u32 db), .v (.int .u32 ds), .v (.bool dr), .v (.bool dw), .v (.bool dx)] T) => (match m[g]? with
      | some (.ext 0 M) => puPB R m k b g cb cs cr cw cx db ds dr dw dx T M r0 r1 r2 r3 r4 r5 r6 r7 ip fc fp fz fs fo fd x0 x1 x2 x3 x4 x5 x6 x7 v
      | _ => none)
    | _ => none)
    | _ => none)
  | _ => none
set_option maxHeartbeats 4000000 in
theorem puPS_ok : SpecOk Try.prog XM 25 puPS := by
  intro R args m k kp r h
  unfold puPS at h
  split at h
  · split at h
    · split at h
      · split at h
        · rename_i _ b v _ r0 r1 r2 r3 r4 r5 r6 r7 ip fc fp fz fs fo fd x0 x1 x2 x3 x4 x5 x6 x7 _ g cb cs cr cw cx db ds dr dw dx T hb _ M hg
          unfold puPB at h
          obtain ⟨hc, h⟩ := cond_some h
          rw [Bool.and_eq_true] at hc
          have hbg : ¬ b = g := by simpa using hc.2
          exact .inl ⟨_, _, h, (callR_evT ΓAd4_ok (by kernel_rfl) (puP_ev cb cs cr cw cx db ds dr dw dx T M r0 r1 r2 r3 r4 r5 r6 r7 ip fc fp fz fs fo fd x0 x1 x2 x3 x4 x5 x6 x7 v hc.1) rfl rfl rfl rfl).frameL [b, g] (by simpa using hbg) ⟨hb, hg, trivial⟩ rfl rfl rfl rfl rfl rfl rfl⟩
        · cases h
      · cases h
    · cases h
  · cases h
theorem puR_form (cb cs : Int) (cr cw cx : Bool) (db ds : Int) (dr dw dx : Bool) (T T2 : TypeId) (M : Int → Int) (r0 r1 r2 r3 r4 r5 r6 r7 ip : Int) (fc fp fz fs fo fd : Bool) (x0 x1 x2 x3 x4 x5 x6 x7 : Int) (v : Int) :
    evF Try.prog ΓAd4 400 52 [.ptr 0 0, .agg [.v (.int .u32 r0), .v (.int .u32 r1), .v (.int .u32 r2), .v (.int .u32 r3), .v (.int .u32 r4), .v (.int .u32 r5), .v (.int .u32 r6), .v (.int .u32 r7), .v (.int .u32 ip), .v (.bool fc), .v (.bool fp), .v (.bool fz), .v (.bool fs), .v (.bool fo), .v (.bool fd), .v (.int .u64 x0), .v (.int .u64 x1), .v (.int .u64 x2), .v (.int .u64 x3), .v (.int .u64 x4), .v (.int .u64 x5), .v (.int .u64 x6), .v (.int .u64 x7)], .v (.int .u32 v)] [.cells [.ptr 1 0, .v (.int .u32 cb), .v (.int .u32 cs), .v (.bool cr), .v (.bool cw), .v (.bool cx), .v (.int .u32 db), .v (.int .u32 ds), .v (.bool dr), .v (.bool dw), .v (.bool dx)] T, .cells [.mp 2] T2, .bm .u32 .u8 M] (kTk 3) kNo =
    (bif in32 db && (in32 ds && in32 (IntKind.wrap IntKind.u32 (r4 - 4))) && true then
bif segE db ds (IntKind.wrap IntKind.u32 (r4 - 4)) 4 (mayV dr dw dx 1) != 0 then
some
(Sv.tup
[Sv.agg
[vw r0, vw r1, vw r2,
vw r3, vw r4, vw r5,
vw r6, vw r7, vw ip, vb fc,
vb fp, vb fz, vb fs, vb fo, vb fd,
vd x0, vd x1, vd x2,
vd x3, vd x4, vd x5,
vd x6, vd x7],
vi 2],
[SObj.cells
[Sv.ptr 1 0, vw cb, vw cs, vb cr,
vb cw, vb cx, vw db, vw ds,
vb dr, vb dw, vb dx]
T,
SObj.cells [Sv.mp 2] T2,
SObj.bm IntKind.u32 IntKind.u8
(stV M db ds (IntKind.wrap IntKind.u32 (r4 - 4)) 4 (IntKind.wrap IntKind.u64 v) (mayV dr dw dx 1))])
else
some
(Sv.tup
[Sv.agg
[vw r0, vw r1, vw r2,
vw r3, vw ((IntKind.wrap IntKind.u32 (r4 - 4))),
vw r5, vw r6, vw r7,
vw ip, vb fc, vb fp, vb fz, vb fs,
vb fo, vb fd, vd x0, vd x1,
vd x2, vd x3, vd x4,
vd x5, vd x6, vd x7],
vi 0],
[SObj.cells
[Sv.ptr 1 0, vw cb, vw cs, vb cr,
vb cw, vb cx, vw db, vw ds,
vb dr, vb dw, vb dx]
T,
SObj.cells [Sv.mp 2] T2,
SObj.bm IntKind.u32 IntKind.u8
(stV M db ds (IntKind.wrap IntKind.u32 (r4 - 4)) 4 (IntKind.wrap IntKind.u64 v) (mayV dr dw dx 1))])
else none) := by kernel_rfl
theorem puR_ev (cb cs : Int) (cr cw cx : Bool) (db ds : Int) (dr dw dx : Bool) (T T2 : TypeId) (M : Int → Int) (r0 r1 r2 r3 r4 r5 r6 r7 ip : Int) (fc fp fz fs fo fd : Bool) (x0 x1 x2 x3 x4 x5 x6 x7 : Int) (v : Int) (hg : (in32 r0 && (in32 r1 && (in32 r2 && (in32 r3 && (in32 r4 && (in32 r5 && (in32 r6 && (in32 r7 && (in32 db && (in32 ds && (in32 v))))))))))) = true) : evF Try.prog ΓAd4 400 52 [.ptr 0 0, .agg [.v (.int .u32 r0), .v (.int .u32 r1), .v (.int .u32 r2), .v (.int .u32 r3), .v (.int .u32 r4), .v (.int .u32 r5), .v (.int .u32 r6), .v (.int .u32 r7), .v (.int .u32 ip), .v (.bool fc), .v (.bool fp), .v (.bool fz), .v (.bool fs), .v (.bool fo), .v (.bool fd), .v (.int .u64 x0), .v (.int .u64 x1), .v (.int .u64 x2), .v (.int .u64 x3), .v (.int .u64 x4), .v (.int .u64 x5), .v (.int .u64 x6), .v (.int .u64 x7)], .v (.int .u32 v)] [.cells [.ptr 1 0, .v (.int .u32 cb), .v (.int .u32 cs), .v (.bool cr), .v (.bool cw), .v (.bool cx), .v (.int .u32 db), .v (.int .u32 ds), .v (.bool dr), .v (.bool dw), .v (.bool dx)] T, .cells [.mp 2] T2, .bm .u32 .u8 M] (kTk 3) kNo = some (.tup [.agg [.v (.int .u32 r0), .v (.int .u32 r1), .v (.int .u32 r2), .v (.int .u32 r3), .v (.int .u32 (puV r4 (skOk db ds (IntKind.wrap .u32 (r4 - 4)) (mayV dr dw dx 1)))), .v (.int .u32 r5), .v (.int .u32 r6), .v (.int .u32 r7), .v (.int .u32 ip), .v (.bool fc), .v (.bool fp), .v (.bool fz), .v (.bool fs), .v (.bool fo), .v (.bool fd), .v (.int .u64 x0), .v (.int .u64 x1), .v (.int .u64 x2), .v (.int .u64 x3), .v (.int .u64 x4), .v (.int .u64 x5), .v (.int .u64 x6), .v (.int .u64 x7)], .v (.int .i64 (endV (skOk db ds (IntKind.wrap .u32 (r4 - 4)) (mayV dr dw dx 1))))], [.cells [.ptr 1 0, .v (.int .u32 cb), .v (.int .u32 cs), .v (.bool cr), .v (.bool cw), .v (.bool cx), .v (.int .u32 db), .v (.int .u32 ds), .v (.bool dr), .v (.bool dw), .v (.bool dx)] T, .cells [.mp 2] T2, .bm .u32 .u8 (stV M db ds (IntKind.wrap .u32 (r4 - 4)) 4 (IntKind.wrap .u64 v) (mayV dr dw dx 1))]) := by
  rw [puR_form]
  simp only [Bool.and_eq_true] at hg
  simp only [hg, in32_wr, Bool.and_self, Bool.and_true, Bool.true_and, cond_true, bne]
  unfold skOk
  cases hs : (segE db ds (IntKind.wrap .u32 (r4 - 4)) 4 (mayV dr dw dx 1) == 0) <;> rfl
noncomputable def puRB (R : Type) (m : List SObj) (k : Sv → List SObj → Option R) (b : Nat) (g : Nat) (cb : Int) (cs : Int) (cr : Bool) (cw : Bool) (cx : Bool) (db : Int) (ds : Int) (dr : Bool) (dw : Bool) (dx : Bool) (T : TypeId) (M : Int → Int) (j : Nat) (T2 : TypeId) (r0 : Int) (r1 : Int) (r2 : Int) (r3 : Int) (r4 : Int) (r5 : Int) (r6 : Int) (r7 : Int) (ip : Int) (fc : Bool) (fp : Bool) (fz : Bool) (fs : Bool) (fo : Bool) (fd : Bool) (x0 : Int) (x1 : Int) (x2 : Int) (x3 : Int) (x4 : Int) (x5 : Int) (x6 : Int) (x7 : Int) (v : Int) : Option R :=
  bif (in32 r0 && (in32 r1 && (in32 r2 && (in32 r3 && (in32 r4 && (in32 r5 && (in32 r6 && (in32 r7 && (in32 db && (in32 ds && (in32 v))))))))))) && (!(b == g) && (!(b == j) && !(g == j))) then k (.tup [.agg [.v (.int .u32 r0), .v (.int .u32 r1), .v (.int .u32 r2), .v (.int .u32 r3), .v (.int .u32 (puV r4 (skOk db ds (IntKind.wrap .u32 (r4 - 4)) (mayV dr dw dx 1)))), .v (.int .u32 r5), .v (.int .u32 r6), .v (.int .u32 r7), .v (.int .u32 ip), .v (.bool fc), .v (.bool fp), .v (.bool fz), .v (.bool fs), .v (.bool fo), .v (.bool fd), .v (.int .u64 x0), .v (.int .u64 x1), .v (.int .u64 x2), .v (.int .u64 x3), .v (.int .u64 x4), .v (.int .u64 x5), .v (.int .u64 x6), .v (.int .u64 x7)], .v (.int .i64 (endV (skOk db ds (IntKind.wrap .u32 (r4 - 4)) (mayV dr dw dx 1))))]) ((((m.set b (.cells [.ptr g 0, .v (.int .u32 cb), .v (.int .u32 cs), .v (.bool cr), .v (.bool cw), .v (.bool cx), .v (.int .u32 db), .v (.int .u32 ds), .v (.bool dr), .v (.bool dw), .v (.bool dx)] T)).set g (.cells [.mp j] T2)).set j (.bm .u32 .u8 (stV M db ds (IntKind.wrap .u32 (r4 - 4)) 4 (IntKind.wrap .u64 v) (mayV dr dw dx 1)))) ++ []) else none
noncomputable def puRS : Ev.Spec := fun R args m k kp => match args with
  | [.ptr b 0, .agg A0, .v (.int .u32 v)] => (match A0 with
    | [.v (.int .u32 r0), .v (.int .u32 r1), .v (.int .u32 r2), .v (.int .u32 r3), .v (.int .u32 r4), .v (.int .u32 r5), .v (.int .u32 r6), .v (.int .u32 r7), .v (.int .u32 ip), .v (.bool fc), .v (.bool fp), .v (.bool fz), .v (.bool fs), .v (.bool fo), .v (.bool fd), .v (.int .u64 x0), .v (.int .u64 x1), .v (.int .u64 x2), .v (.int .u64 x3), .v (.int .u64 x4), .v (.int .u64 x5), .v (.int .u64 x6), .v (.int .u64 x7)] => (match m[b]? with
    | some (.cells [.ptr g 0, .v (.int .u32 cb), .v (.int .u32 cs), .v (.bool cr), .v (.bool cw), .v (.bool cx), .v (.int .u32 db), .v (.int .u32 ds), .v (.bool dr), .v (.bool dw), .v (.bool dx)] T) => (match m[g]? with
      | some (.cells [.mp j] T2) => (match m[j]? with
        | some (.bm .u32 .u8 M) => puRB R m k b g cb cs cr cw cx db ds dr dw dx T M j T2 r0 r1 r2 r3 r4 r5 r6 r7 ip fc fp fz fs fo fd x0 x1 x2 x3 x4 x5 x6 x7 v
        | _ => none)
      | _ => none)
    | _ => none)
    | _ => none)
  | _ => none
set_option maxHeartbeats 4000000 in
theorem puRS_ok : SpecOk Try.prog XM 52 puRS := by
  intro R args m k kp r h
  unfold puRS at h
  split at h
  · split at h
    · split at h
      · split at h
        · split at h
          · rename_i _ b v _ r0 r1 r2 r3 r4 r5 r6 r7 ip fc fp fz fs fo fd x0 x1 x2 x3 x4 x5 x6 x7 _ g cb cs cr cw cx db ds dr dw dx T hb _ j T2 hg _ M hj
            unfold puRB at h
            obtain ⟨hc, h⟩ := cond_some h
            rw [Bool.and_eq_true] at hc
            have hd : ¬ b = g ∧ ¬ b = j ∧ ¬ g = j := by simpa using hc.2
            exact .inl ⟨_, _, h, (callR_evT ΓAd4_ok (by kernel_rfl) (puR_ev cb cs cr cw cx db ds dr dw dx T T2 M r0 r1 r2 r3 r4 r5 r6 r7 ip fc fp fz fs fo fd x0 x1 x2 x3 x4 x5 x6 x7 v hc.1) rfl rfl rfl rfl).frameL [b, g, j] (by simp; exact ⟨⟨hd.1, hd.2.1⟩, hd.2.2⟩) ⟨hb, hg, hj, trivial⟩ rfl rfl rfl rfl rfl rfl rfl⟩
          · cases h
        · cases h
      · cases h
    · cases h
  · cases h
theorem poP_form (cb cs : Int) (cr cw cx : Bool) (db ds : Int) (dr dw dx : Bool) (T : TypeId) (M : Int → Int) (r0 r1 r2 r3 r4 r5 r6 r7 ip : Int) (fc fp fz fs fo fd : Bool) (x0 x1 x2 x3 x4 x5 x6 x7 : Int) :
    evF Try.prog ΓAd4 400 26 [.ptr 0 0, .agg [.v (.int .u32 r0), .v (.int .u32 r1), .v (.int .u32 r2), .v (.int .u32 r3), .v (.int .u32 r4), .v (.int .u32 r5), .v (.int .u32 r6), .v (.int .u32 r7), .v (.int .u32 ip), .v (.bool fc), .v (.bool fp), .v (.bool fz), .v (.bool fs), .v (.bool fo), .v (.bool fd), .v (.int .u64 x0), .v (.int .u64 x1), .v (.int .u64 x2), .v (.int .u64 x3), .v (.int .u64 x4), .v (.int .u64 x5), .v (.int .u64 x6), .v (.int .u64 x7)]] [.cells [.ptr 1 0, .v (.int .u32 cb), .v (.int .u32 cs), .v (.bool cr), .v (.bool cw), .v (.bool cx), .v (.int .u32 db), .v (.int .u32 ds), .v (.bool dr), .v (.bool dw), .v (.bool dx)] T, .ext 0 M] (kTk 2) kNo =
    (bif in32 db && (in32 ds && in32 r4) && true then
bif segE db ds r4 4 (mayV dr dw dx 0) != 0 then
some
(Sv.tup
[vw 0,
Sv.agg
[vw r0, vw r1, vw r2,
vw r3, vw r4, vw r5,
vw r6, vw r7, vw ip, vb fc,
vb fp, vb fz, vb fs, vb fo, vb fd,
vd x0, vd x1, vd x2,
vd x3, vd x4, vd x5,
vd x6, vd x7],
vi 2],
[SObj.cells
[Sv.ptr 1 0, vw cb, vw cs, vb cr,
vb cw, vb cx, vw db, vw ds,
vb dr, vb dw, vb dx]
T,
SObj.ext 0 M])
else
some
(Sv.tup
[vw ((IntKind.wrap IntKind.u32 (ldV M db ds r4 4 (mayV dr dw dx 0)))),
Sv.agg
[vw r0, vw r1, vw r2,
vw r3, vw ((IntKind.wrap IntKind.u32 (r4 + 4))),
vw r5, vw r6, vw r7,
vw ip, vb fc, vb fp, vb fz, vb fs,
vb fo, vb fd, vd x0, vd x1,
vd x2, vd x3, vd x4,
vd x5, vd x6, vd x7],
vi 0],
[SObj.cells
[Sv.ptr 1 0, vw cb, vw cs, vb cr,
vb cw, vb cx, vw db, vw ds,
vb dr, vb dw, vb dx]
T,
SObj.ext 0 M])
else none) := by kernel_rfl
theorem poP_ev (cb cs : Int) (cr cw cx : Bool) (db ds : Int) (dr dw dx : Bool) (T : TypeId) (M : Int → Int) (r0 r1 r2 r3 r4 r5 r6 r7 ip : Int) (fc fp fz fs fo fd : Bool) (x0 x1 x2 x3 x4 x5 x6 x7 : Int) (hg : (in32 r0 && (in32 r1 && (in32 r2 && (in32 r3 && (in32 r4 && (in32 r5 && (in32 r6 && (in32 r7 && (in32 db && (in32 ds)))))))))) = true) : evF Try.prog ΓAd4 400 26 [.ptr 0 0, .agg [.v (.int .u32 r0), .v (.int .u32 r1), .v (.int .u32 r2), .v (.int .u32 r3), .v (.int .u32 r4), .v (.int .u32 r5), .v (.int .u32 r6), .v (.int .u32 r7), .v (.int .u32 ip), .v (.bool fc), .v (.bool fp), .v (.bool fz), .v (.bool fs), .v (.bool fo), .v (.bool fd), .v (.int .u64 x0), .v (.int .u64 x1), .v (.int .u64 x2), .v (.int .u64 x3), .v (.int .u64 x4), .v (.int .u64 x5), .v (.int .u64 x6), .v (.int .u64 x7)]] [.cells [.ptr 1 0, .v (.int .u32 cb), .v (.int .u32 cs), .v (.bool cr), .v (.bool cw), .v (.bool cx), .v (.int .u32 db), .v (.int .u32 ds), .v (.bool dr), .v (.bool dw), .v (.bool dx)] T, .ext 0 M] (kTk 2) kNo = some (.tup [.v (.int .u32 (orV (IntKind.wrap .u32 (ldV M db ds r4 4 (mayV dr dw dx 0))) (skOk db ds r4 (mayV dr dw dx 0)))), .agg [.v (.int .u32 r0), .v (.int .u32 r1), .v (.int .u32 r2), .v (.int .u32 r3), .v (.int .u32 (poV r4 (skOk db ds r4 (mayV dr dw dx 0)))), .v (.int .u32 r5), .v (.int .u32 r6), .v (.int .u32 r7), .v (.int .u32 ip), .v (.bool fc), .v (.bool fp), .v (.bool fz), .v (.bool fs), .v (.bool fo), .v (.bool fd), .v (.int .u64 x0), .v (.int .u64 x1), .v (.int .u64 x2), .v (.int .u64 x3), .v (.int .u64 x4), .v (.int .u64 x5), .v (.int .u64 x6), .v (.int .u64 x7)], .v (.int .i64 (endV (skOk db ds r4 (mayV dr dw dx 0))))], [.cells [.ptr 1 0, .v (.int .u32 cb), .v (.int .u32 cs), .v (.bool cr), .v (.bool cw), .v (.bool cx), .v (.int .u32 db), .v (.int .u32 ds), .v (.bool dr), .v (.bool dw), .v (.bool dx)] T, .ext 0 M]) := by
  rw [poP_form]
  simp only [Bool.and_eq_true] at hg
  simp only [hg, in32_wr, Bool.and_self, Bool.and_true, Bool.true_and, cond_true, bne]
  unfold skOk
  cases hs : (segE db ds r4 4 (mayV dr dw dx 0) == 0) <;> rfl
noncomputable def poPB (R : Type) (m : List SObj) (k : Sv → List SObj → Option R) (b : Nat) (g : Nat) (cb : Int) (cs : Int) (cr : Bool) (cw : Bool) (cx : Bool) (db : Int) (ds : Int) (dr : Bool) (dw : Bool) (dx : Bool) (T : TypeId) (M : Int → Int) (r0 : Int) (r1 : Int) (r2 : Int) (r3 : Int) (r4 : Int) (r5 : Int) (r6 : Int) (r7 : Int) (ip : Int) (fc : Bool) (fp : Bool) (fz : Bool) (fs : Bool) (fo : Bool) (fd : Bool) (x0 : Int) (x1 : Int) (x2 : Int) (x3 : Int) (x4 : Int) (x5 : Int) (x6 : Int) (x7 : Int) : Option R :=
  bif (in32 r0 && (in32 r1 && (in32 r2 && (in32 r3 && (in32 r4 && (in32 r5 && (in32 r6 && (in32 r7 && (in32 db && (in32 ds)))))))))) && !(b == g) then k (.tup [.v (.int .u32 (orV (IntKind.wrap .u32 (ldV M db ds r4 4 (mayV dr dw dx 0))) (skOk db ds r4 (mayV dr dw dx 0)))), .agg [.v (.int .u32 r0), .v (.int .u32 r1), .v (.int .u32 r2), .v (.int .u32 r3), .v (.int .u32 (poV r4 (skOk db ds r4 (mayV dr dw dx 0)))), .v (.int .u32 r5), .v (.int .u32 r6), .v (.int .u32 r7), .v (.int .u32 ip), .v (.bool fc), .v (.bool fp), .v (.bool fz), .v (.bool fs), .v (.bool fo), .v (.bool fd), .v (.int .u64 x0), .v (.int .u64 x1), .v (.int .u64 x2), .v (.int .u64 x3), .v (.int .u64 x4), .v (.int .u64 x5), .v (.int .u64 x6), .v (.int .u64 x7)], .v (.int .i64 (endV (skOk db ds r4 (mayV dr dw dx 0))))]) (((m.set b (.cells [.ptr g 0, .v (.int .u32 cb), .v (.int .u32 cs), .v (.bool cr), .v (.bool cw), .v (.bool cx), .v (.int .u32 db), .v (.int .u32 ds), .v (.bool dr), .v (.bool dw), .v (.bool dx)] T)).set g (.ext 0 M)) ++ []) else none
noncomputable def poPS : Ev.Spec := fun R args m k kp => match args with
  | [.ptr b 0, .agg A0] => (match A0 with
    | [.v (.int .u32 r0), .v (.int .u32 r1), .v (.int .u32 r2), .v (.int .u32 r3), .v (.int .u32 r4), .v (.int .u32 r5), .v (.int .u32 r6), .v (.int .u32 r7), .v (.int .u32 ip), .v (.bool fc), .v (.bool fp), .v (.bool fz), .v (.bool fs), .v (.bool fo), .v (.bool fd), .v (.int .u64 x0), .v (.int .u64 x1), .v (.int .u64 x2), .v (.int .u64 x3), .v (.int .u64 x4), .v (.int .u64 x5), .v (.int .u64 x6), .v (.int .u64 x7)] => (match m[b]? with
    | some (.cells [.ptr g 0, .v (.int .u32 cb), .v (.int .u32 cs), .v (.bool cr), .v (.bool cw), .v (.bool cx), .v (.int .u32 db), .v (.int .u32 ds), .v (.bool dr), .v (.bool dw), .v (.bool dx)] T) => (match m[g]? with
      | some (.ext 0 M) => poPB R m k b g cb cs cr cw cx db ds dr dw dx T M r0 r1 r2 r3 r4 r5 r6 r7 ip fc fp fz fs fo fd x0 x1 x2 x3 x4 x5 x6 x7
      | _ => none)
    | _ => none)
    | _ => none)
  | _ => none
set_option maxHeartbeats 4000000 in
theorem poPS_ok : SpecOk Try.prog XM 26 poPS := by
  intro R args m k kp r h
  unfold poPS at h
  split at h
  · split at h
    · split at h
      · split at h
        · rename_i _ b _ r0 r1 r2 r3 r4 r5 r6 r7 ip fc fp fz fs fo fd x0 x1 x2 x3 x4 x5 x6 x7 _ g cb cs cr cw cx db ds dr dw dx T hb _ M hg
          unfold poPB at h
          obtain ⟨hc, h⟩ := cond_some h
          rw [Bool.and_eq_true] at hc
          have hbg : ¬ b = g := by simpa using hc.2
          exact .inl ⟨_, _, h, (callR_evT ΓAd4_ok (by kernel_rfl) (poP_ev cb cs cr cw cx db ds dr dw dx T M r0 r1 r2 r3 r4 r5 r6 r7 ip fc fp fz fs fo fd x0 x1 x2 x3 x4 x5 x6 x7 hc.1) rfl rfl rfl rfl).frameL [b, g] (by simpa using hbg) ⟨hb, hg, trivial⟩ rfl rfl rfl rfl rfl rfl rfl⟩
        · cases h
      · cases h
    · cases h
  · cases h
theorem poR_form (cb cs : Int) (cr cw cx : Bool) (db ds : Int) (dr dw dx : Bool) (T T2 : TypeId) (M : Int → Int) (r0 r1 r2 r3 r4 r5 r6 r7 ip : Int) (fc fp fz fs fo fd : Bool) (x0 x1 x2 x3 x4 x5 x6 x7 : Int) :
    evF Try.prog ΓAd4 400 53 [.ptr 0 0, .agg [.v (.int .u32 r0), .v (.int .u32 r1), .v (.int .u32 r2), .v (.int .u32 r3), .v (.int .u32 r4), .v (.int .u32 r5), .v (.int .u32 r6), .v (.int .u32 r7), .v (.int .u32 ip), .v (.bool fc), .v (.bool fp), .v (.bool fz), .v (.bool fs), .v (.bool fo), .v (.bool fd), .v (.int .u64 x0), .v (.int .u64 x1), .v (.int .u64 x2), .v (.int .u64 x3), .v (.int .u64 x4), .v (.int .u64 x5), .v (.int .u64 x6), .v (.int .u64 x7)]] [.cells [.ptr 1 0, .v (.int .u32 cb), .v (.int .u32 cs), .v (.bool cr), .v (.bool cw), .v (.bool cx), .v (.int .u32 db), .v (.int .u32 ds), .v (.bool dr), .v (.bool dw), .v (.bool dx)] T, .cells [.mp 2] T2, .bm .u32 .u8 M] (kTk 3) kNo =
    (bif in32 db && (in32 ds && in32 r4) && true then
bif segE db ds r4 4 (mayV dr dw dx 0) != 0 then
some
(Sv.tup
[vw 0,
Sv.agg
[vw r0, vw r1, vw r2,
vw r3, vw r4, vw r5,
vw r6, vw r7, vw ip, vb fc,
vb fp, vb fz, vb fs, vb fo, vb fd,
vd x0, vd x1, vd x2,
vd x3, vd x4, vd x5,
vd x6, vd x7],
vi 2],
[SObj.cells
[Sv.ptr 1 0, vw cb, vw cs, vb cr,
vb cw, vb cx, vw db, vw ds,
vb dr, vb dw, vb dx]
T,
SObj.cells [Sv.mp 2] T2, SObj.bm IntKind.u32 IntKind.u8 M])
else
some
(Sv.tup
[vw ((IntKind.wrap IntKind.u32 (ldV M db ds r4 4 (mayV dr dw dx 0)))),
Sv.agg
[vw r0, vw r1, vw r2,
vw r3, vw ((IntKind.wrap IntKind.u32 (r4 + 4))),
vw r5, vw r6, vw r7,
vw ip, vb fc, vb fp, vb fz, vb fs,
vb fo, vb fd, vd x0, vd x1,
vd x2, vd x3, vd x4,
vd x5, vd x6, vd x7],
vi 0],
[SObj.cells
[Sv.ptr 1 0, vw cb, vw cs, vb cr,
vb cw, vb cx, vw db, vw ds,
vb dr, vb dw, vb dx]
T,
SObj.cells [Sv.mp 2] T2, SObj.bm IntKind.u32 IntKind.u8 M])
else none) := by kernel_rfl
theorem poR_ev (cb cs : Int) (cr cw cx : Bool) (db ds : Int) (dr dw dx : Bool) (T T2 : TypeId) (M : Int → Int) (r0 r1 r2 r3 r4 r5 r6 r7 ip : Int) (fc fp fz fs fo fd : Bool) (x0 x1 x2 x3 x4 x5 x6 x7 : Int) (hg : (in32 r0 && (in32 r1 && (in32 r2 && (in32 r3 && (in32 r4 && (in32 r5 && (in32 r6 && (in32 r7 && (in32 db && (in32 ds)))))))))) = true) : evF Try.prog ΓAd4 400 53 [.ptr 0 0, .agg [.v (.int .u32 r0), .v (.int .u32 r1), .v (.int .u32 r2), .v (.int .u32 r3), .v (.int .u32 r4), .v (.int .u32 r5), .v (.int .u32 r6), .v (.int .u32 r7), .v (.int .u32 ip), .v (.bool fc), .v (.bool fp), .v (.bool fz), .v (.bool fs), .v (.bool fo), .v (.bool fd), .v (.int .u64 x0), .v (.int .u64 x1), .v (.int .u64 x2), .v (.int .u64 x3), .v (.int .u64 x4), .v (.int .u64 x5), .v (.int .u64 x6), .v (.int .u64 x7)]] [.cells [.ptr 1 0, .v (.int .u32 cb), .v (.int .u32 cs), .v (.bool cr), .v (.bool cw), .v (.bool cx), .v (.int .u32 db), .v (.int .u32 ds), .v (.bool dr), .v (.bool dw), .v (.bool dx)] T, .cells [.mp 2] T2, .bm .u32 .u8 M] (kTk 3) kNo = some (.tup [.v (.int .u32 (orV (IntKind.wrap .u32 (ldV M db ds r4 4 (mayV dr dw dx 0))) (skOk db ds r4 (mayV dr dw dx 0)))), .agg [.v (.int .u32 r0), .v (.int .u32 r1), .v (.int .u32 r2), .v (.int .u32 r3), .v (.int .u32 (poV r4 (skOk db ds r4 (mayV dr dw dx 0)))), .v (.int .u32 r5), .v (.int .u32 r6), .v (.int .u32 r7), .v (.int .u32 ip), .v (.bool fc), .v (.bool fp), .v (.bool fz), .v (.bool fs), .v (.bool fo), .v (.bool fd), .v (.int .u64 x0), .v (.int .u64 x1), .v (.int .u64 x2), .v (.int .u64 x3), .v (.int .u64 x4), .v (.int .u64 x5), .v (.int .u64 x6), .v (.int .u64 x7)], .v (.int .i64 (endV (skOk db ds r4 (mayV dr dw dx 0))))], [.cells [.ptr 1 0, .v (.int .u32 cb), .v (.int .u32 cs), .v (.bool cr), .v (.bool cw), .v (.bool cx), .v (.int .u32 db), .v (.int .u32 ds), .v (.bool dr), .v (.bool dw), .v (.bool dx)] T, .cells [.mp 2] T2, .bm .u32 .u8 M]) := by
  rw [poR_form]
  simp only [Bool.and_eq_true] at hg
  simp only [hg, in32_wr, Bool.and_self, Bool.and_true, Bool.true_and, cond_true, bne]
  unfold skOk
  cases hs : (segE db ds r4 4 (mayV dr dw dx 0) == 0) <;> rfl
noncomputable def poRB (R : Type) (m : List SObj) (k : Sv → List SObj → Option R) (b : Nat) (g : Nat) (cb : Int) (cs : Int) (cr : Bool) (cw : Bool) (cx : Bool) (db : Int) (ds : Int) (dr : Bool) (dw : Bool) (dx : Bool) (T : TypeId) (M : Int → Int) (j : Nat) (T2 : TypeId) (r0 : Int) (r1 : Int) (r2 : Int) (r3 : Int) (r4 : Int) (r5 : Int) (r6 : Int) (r7 : Int) (ip : Int) (fc : Bool) (fp : Bool) (fz : Bool) (fs : Bool) (fo : Bool) (fd : Bool) (x0 : Int) (x1 : Int) (x2 : Int) (x3 : Int) (x4 : Int) (x5 : Int) (x6 : Int) (x7 : Int) : Option R :=
  bif (in32 r0 && (in32 r1 && (in32 r2 && (in32 r3 && (in32 r4 && (in32 r5 && (in32 r6 && (in32 r7 && (in32 db && (in32 ds)))))))))) && (!(b == g) && (!(b == j) && !(g == j))) then k (.tup [.v (.int .u32 (orV (IntKind.wrap .u32 (ldV M db ds r4 4 (mayV dr dw dx 0))) (skOk db ds r4 (mayV dr dw dx 0)))), .agg [.v (.int .u32 r0), .v (.int .u32 r1), .v (.int .u32 r2), .v (.int .u32 r3), .v (.int .u32 (poV r4 (skOk db ds r4 (mayV dr dw dx 0)))), .v (.int .u32 r5), .v (.int .u32 r6), .v (.int .u32 r7), .v (.int .u32 ip), .v (.bool fc), .v (.bool fp), .v (.bool fz), .v (.bool fs), .v (.bool fo), .v (.bool fd), .v (.int .u64 x0), .v (.int .u64 x1), .v (.int .u64 x2), .v (.int .u64 x3), .v (.int .u64 x4), .v (.int .u64 x5), .v (.int .u64 x6), .v (.int .u64 x7)], .v (.int .i64 (endV (skOk db ds r4 (mayV dr dw dx 0))))]) ((((m.set b (.cells [.ptr g 0, .v (.int .u32 cb), .v (.int .u32 cs), .v (.bool cr), .v (.bool cw), .v (.bool cx), .v (.int .u32 db), .v (.int .u32 ds), .v (.bool dr), .v (.bool dw), .v (.bool dx)] T)).set g (.cells [.mp j] T2)).set j (.bm .u32 .u8 M)) ++ []) else none
noncomputable def poRS : Ev.Spec := fun R args m k kp => match args with
  | [.ptr b 0, .agg A0] => (match A0 with
    | [.v (.int .u32 r0), .v (.int .u32 r1), .v (.int .u32 r2), .v (.int .u32 r3), .v (.int .u32 r4), .v (.int .u32 r5), .v (.int .u32 r6), .v (.int .u32 r7), .v (.int .u32 ip), .v (.bool fc), .v (.bool fp), .v (.bool fz), .v (.bool fs), .v (.bool fo), .v (.bool fd), .v (.int .u64 x0), .v (.int .u64 x1), .v (.int .u64 x2), .v (.int .u64 x3), .v (.int .u64 x4), .v (.int .u64 x5), .v (.int .u64 x6), .v (.int .u64 x7)] => (match m[b]? with
    | some (.cells [.ptr g 0, .v (.int .u32 cb), .v (.int .u32 cs), .v (.bool cr), .v (.bool cw), .v (.bool cx), .v (.int .u32 db), .v (.int .u32 ds), .v (.bool dr), .v (.bool dw), .v (.bool dx)] T) => (match m[g]? with
      | some (.cells [.mp j] T2) => (match m[j]? with
        | some (.bm .u32 .u8 M) => poRB R m k b g cb cs cr cw cx db ds dr dw dx T M j T2 r0 r1 r2 r3 r4 r5 r6 r7 ip fc fp fz fs fo fd x0 x1 x2 x3 x4 x5 x6 x7
        | _ => none)
      | _ => none)
    | _ => none)
    | _ => none)
  | _ => none
set_option maxHeartbeats 4000000 in
theorem poRS_ok : SpecOk Try.prog XM 53 poRS := by
  intro R args m k kp r h
  unfold poRS at h
  split at h
  · split at h
    · split at h
      · split at h
        · split at h
          · rename_i _ b _ r0 r1 r2 r3 r4 r5 r6 r7 ip fc fp fz fs fo fd x0 x1 x2 x3 x4 x5 x6 x7 _ g cb cs cr cw cx db ds dr dw dx T hb _ j T2 hg _ M hj
            unfold poRB at h
            obtain ⟨hc, h⟩ := cond_some h
            rw [Bool.and_eq_true] at hc
            have hd : ¬ b = g ∧ ¬ b = j ∧ ¬ g = j := by simpa using hc.2
            exact .inl ⟨_, _, h, (callR_evT ΓAd4_ok (by kernel_rfl) (poR_ev cb cs cr cw cx db ds dr dw dx T T2 M r0 r1 r2 r3 r4 r5 r6 r7 ip fc fp fz fs fo fd x0 x1 x2 x3 x4 x5 x6 x7 hc.1) rfl rfl rfl rfl).frameL [b, g, j] (by simp; exact ⟨⟨hd.1, hd.2.1⟩, hd.2.2⟩) ⟨hb, hg, hj, trivial⟩ rfl rfl rfl rfl rfl rfl rfl⟩
          · cases h
        · cases h
      · cases h
    · cases h
  · cases h
noncomputable def ΓSk0 : Env := ((((ΓAd4.add 25 puPS).add 52 puRS).add 26 poPS).add 53 poRS)
theorem ΓSk0_ok : EnvOk Try.prog X0 ΓSk0 := ((((ΓAd4_ok.add (by kernel_rfl) puPS_ok).add (by kernel_rfl) puRS_ok).add (by kernel_rfl) poPS_ok).add (by kernel_rfl) poRS_ok)
end Go.Proofs.Ytjcbgjakomalaaa
