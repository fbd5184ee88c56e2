/- What operands hold, what a store makes of them. -/
import Derived.Test.YtjcbgjakomalaaaEvV
import Derived.Test.YtjcbgjakomalaaaCRg3
import Derived.Test.YtjcbgjakomalaaaCMm6
import Derived.Test.YtjcbgjakomalaaaNSeat
namespace Go.Proofs.Ytjcbgjakomalaaa
open Go Go.Ev
set_option linter.unusedVariables false
set_option linter.unusedSimpArgs false
set_option maxRecDepth 100000
theorem ldP_form (cb cs : Int) (cr cw cx : Bool) (db ds : Int) (dr dw dx : Bool) (T : TypeId) (M : Int → Int) (r0 r1 r2 r3 r4 r5 r6 r7 ip : Int) (fc fp fz fs fo fd : Bool) (x0 x1 x2 x3 x4 x5 x6 x7 : Int) (ak ar ab ai aq ad : Int) (size : Int) :
    evF Try.prog ΓRg3 400 32 [.ptr 0 0, .agg [.v (.int .u32 r0), .v (.int .u32 r1), .v (.int .u32 r2), .v (.int .u32 r3), .v (.int .u32 r4), .v (.int .u32 r5), .v (.int .u32 r6), .v (.int .u32 r7), .v (.int .u32 ip), .v (.bool fc), .v (.bool fp), .v (.bool fz), .v (.bool fs), .v (.bool fo), .v (.bool fd), .v (.int .u64 x0), .v (.int .u64 x1), .v (.int .u64 x2), .v (.int .u64 x3), .v (.int .u64 x4), .v (.int .u64 x5), .v (.int .u64 x6), .v (.int .u64 x7)], .agg [.v (.int .i64 ak), .v (.int .i64 ar), .v (.int .i64 ab), .v (.int .i64 ai), .v (.int .i64 aq), .v (.int .u32 ad)], .v (.int .i64 size)] [.cells [.ptr 1 0, .v (.int .u32 cb), .v (.int .u32 cs), .v (.bool cr), .v (.bool cw), .v (.bool cx), .v (.int .u32 db), .v (.int .u32 ds), .v (.bool dr), .v (.bool dw), .v (.bool dx)] T, .ext 0 M] (kTk 2) kNo =
    (bif ak == 3 then
bif in32 db && (in32 ds && in32 (ofV ab ai aq ad [r0, r1, r2, r3, r4, r5, r6, r7])) && true then
some
(Sv.tup
[vd ((ldV M db ds (ofV ab ai aq ad [r0, r1, r2, r3, r4, r5, r6, r7]) size (mayV dr dw dx 0))),
Sv.v
(Value.int IntKind.i64
(segE db ds (ofV ab ai aq ad [r0, r1, r2, r3, r4, r5, r6, r7]) (↑(bytesN size)) (mayV dr dw dx 0)))],
[SObj.cells
[Sv.ptr 1 0, vw cb, vw cs, vb cr,
vb cw, vb cx, vw db, vw ds,
vb dr, vb dw, vb dx]
T,
SObj.ext 0 M])
else none
else
bif in32 r0 && (in32 r1 && (in32 r2 && (in32 r3 && (in32 r4 && (in32 r5 && (in32 r6 && (in32 r7 && in32 ad))))))) then
some
(Sv.tup
[vd ((getV ak ar ad r0 r1 r2 r3 r4 r5 r6 r7 x0 x1 x2 x3 x4 x5 x6 x7)),
vi 0],
[SObj.cells
[Sv.ptr 1 0, vw cb, vw cs, vb cr,
vb cw, vb cx, vw db, vw ds,
vb dr, vb dw, vb dx]
T,
SObj.ext 0 M])
else none) := by kernel_rfl
noncomputable def ldPT (cb cs : Int) (cr cw cx : Bool) (db ds : Int) (dr dw dx : Bool) (T : TypeId) (M : Int → Int) (r0 r1 r2 r3 r4 r5 r6 r7 ip : Int) (fc fp fz fs fo fd : Bool) (x0 x1 x2 x3 x4 x5 x6 x7 : Int) (ak ar ab ai aq ad : Int) (size : Int) : Option (Sv × List SObj) := lockI r0 (evF Try.prog ΓRg3 400 32 [.ptr 0 0, .agg [.v (.int .u32 r0), .v (.int .u32 r1), .v (.int .u32 r2), .v (.int .u32 r3), .v (.int .u32 r4), .v (.int .u32 r5), .v (.int .u32 r6), .v (.int .u32 r7), .v (.int .u32 ip), .v (.bool fc), .v (.bool fp), .v (.bool fz), .v (.bool fs), .v (.bool fo), .v (.bool fd), .v (.int .u64 x0), .v (.int .u64 x1), .v (.int .u64 x2), .v (.int .u64 x3), .v (.int .u64 x4), .v (.int .u64 x5), .v (.int .u64 x6), .v (.int .u64 x7)], .agg [.v (.int .i64 ak), .v (.int .i64 ar), .v (.int .i64 ab), .v (.int .i64 ai), .v (.int .i64 aq), .v (.int .u32 ad)], .v (.int .i64 size)] [.cells [.ptr 1 0, .v (.int .u32 cb), .v (.int .u32 cs), .v (.bool cr), .v (.bool cw), .v (.bool cx), .v (.int .u32 db), .v (.int .u32 ds), .v (.bool dr), .v (.bool dw), .v (.bool dx)] T, .ext 0 M] (kTk 2) kNo)
theorem ldP_tree (cb cs : Int) (cr cw cx : Bool) (db ds : Int) (dr dw dx : Bool) (T : TypeId) (M : Int → Int) (r0 r1 r2 r3 r4 r5 r6 r7 ip : Int) (fc fp fz fs fo fd : Bool) (x0 x1 x2 x3 x4 x5 x6 x7 : Int) (ak ar ab ai aq ad : Int) (size : Int) : ldPT cb cs cr cw cx db ds dr dw dx T M r0 r1 r2 r3 r4 r5 r6 r7 ip fc fp fz fs fo fd x0 x1 x2 x3 x4 x5 x6 x7 ak ar ab ai aq ad size = (bif ak == 3 then
bif in32 db && (in32 ds && in32 (ofV ab ai aq ad [r0, r1, r2, r3, r4, r5, r6, r7])) && true then
some
(Sv.tup
[vd ((ldV M db ds (ofV ab ai aq ad [r0, r1, r2, r3, r4, r5, r6, r7]) size (mayV dr dw dx 0))),
Sv.v
(Value.int IntKind.i64
(segE db ds (ofV ab ai aq ad [r0, r1, r2, r3, r4, r5, r6, r7]) (↑(bytesN size)) (mayV dr dw dx 0)))],
[SObj.cells
[Sv.ptr 1 0, vw cb, vw cs, vb cr,
vb cw, vb cx, vw db, vw ds,
vb dr, vb dw, vb dx]
T,
SObj.ext 0 M])
else none
else
bif in32 r0 && (in32 r1 && (in32 r2 && (in32 r3 && (in32 r4 && (in32 r5 && (in32 r6 && (in32 r7 && in32 ad))))))) then
some
(Sv.tup
[vd ((getV ak ar ad r0 r1 r2 r3 r4 r5 r6 r7 x0 x1 x2 x3 x4 x5 x6 x7)),
vi 0],
[SObj.cells
[Sv.ptr 1 0, vw cb, vw cs, vb cr,
vb cw, vb cx, vw db, vw ds,
vb dr, vb dw, vb dx]
T,
SObj.ext 0 M])
else none) := (lockI_eq _ _).trans (ldP_form cb cs cr cw cx db ds dr dw dx T M r0 r1 r2 r3 r4 r5 r6 r7 ip fc fp fz fs fo fd x0 x1 x2 x3 x4 x5 x6 x7 ak ar ab ai aq ad size)
noncomputable def ldPF (cb cs : Int) (cr cw cx : Bool) (db ds : Int) (dr dw dx : Bool) (T : TypeId) (M : Int → Int) (r0 r1 r2 r3 r4 r5 r6 r7 ip : Int) (fc fp fz fs fo fd : Bool) (x0 x1 x2 x3 x4 x5 x6 x7 : Int) (ak ar ab ai aq ad : Int) (size : Int) (X : Option (Sv × List SObj)) : Option (Sv × List SObj) := some (.tup [.v (.int .u64 (ansI (X) 0)), .v (.int .i64 (ansI (X) 1))], [.cells [.ptr 1 0, .v (.int .u32 cb), .v (.int .u32 cs), .v (.bool cr), .v (.bool cw), .v (.bool cx), .v (.int .u32 db), .v (.int .u32 ds), .v (.bool dr), .v (.bool dw), .v (.bool dx)] T, .ext 0 M])
theorem ldP_is (cb cs : Int) (cr cw cx : Bool) (db ds : Int) (dr dw dx : Bool) (T : TypeId) (M : Int → Int) (r0 r1 r2 r3 r4 r5 r6 r7 ip : Int) (fc fp fz fs fo fd : Bool) (x0 x1 x2 x3 x4 x5 x6 x7 : Int) (ak ar ab ai aq ad : Int) (size : Int) (hg : (in32 r0 && (in32 r1 && (in32 r2 && (in32 r3 && (in32 r4 && (in32 r5 && (in32 r6 && (in32 r7 && (in32 ad && (in32 db && (in32 ds))))))))))) = true) : ldPT cb cs cr cw cx db ds dr dw dx T M r0 r1 r2 r3 r4 r5 r6 r7 ip fc fp fz fs fo fd x0 x1 x2 x3 x4 x5 x6 x7 ak ar ab ai aq ad size = ldPF cb cs cr cw cx db ds dr dw dx T M r0 r1 r2 r3 r4 r5 r6 r7 ip fc fp fz fs fo fd x0 x1 x2 x3 x4 x5 x6 x7 ak ar ab ai aq ad size (ldPT cb cs cr cw cx db ds dr dw dx T M r0 r1 r2 r3 r4 r5 r6 r7 ip fc fp fz fs fo fd x0 x1 x2 x3 x4 x5 x6 x7 ak ar ab ai aq ad size) := by
  have h : ldPT cb cs cr cw cx db ds dr dw dx T M r0 r1 r2 r3 r4 r5 r6 r7 ip fc fp fz fs fo fd x0 x1 x2 x3 x4 x5 x6 x7 ak ar ab ai aq ad size = _ := (lockI_eq _ _).trans (ldP_form cb cs cr cw cx db ds dr dw dx T M r0 r1 r2 r3 r4 r5 r6 r7 ip fc fp fz fs fo fd x0 x1 x2 x3 x4 x5 x6 x7 ak ar ab ai aq ad size)
  simp only [Bool.and_eq_true] at hg
  simp only [ofV_in, hg, Bool.and_self, Bool.and_true, Bool.true_and, cond_true] at h
  rw [h]
  repeat' (first | exact rfl | refine ans_cond (F := ldPF cb cs cr cw cx db ds dr dw dx T M r0 r1 r2 r3 r4 r5 r6 r7 ip fc fp fz fs fo fd x0 x1 x2 x3 x4 x5 x6 x7 ak ar ab ai aq ad size) ?_ ?_)
theorem ldP_ev (cb cs : Int) (cr cw cx : Bool) (db ds : Int) (dr dw dx : Bool) (T : TypeId) (M : Int → Int) (r0 r1 r2 r3 r4 r5 r6 r7 ip : Int) (fc fp fz fs fo fd : Bool) (x0 x1 x2 x3 x4 x5 x6 x7 : Int) (ak ar ab ai aq ad : Int) (size : Int) (hg : (in32 r0 && (in32 r1 && (in32 r2 && (in32 r3 && (in32 r4 && (in32 r5 && (in32 r6 && (in32 r7 && (in32 ad && (in32 db && (in32 ds))))))))))) = true) : evF Try.prog ΓRg3 400 32 [.ptr 0 0, .agg [.v (.int .u32 r0), .v (.int .u32 r1), .v (.int .u32 r2), .v (.int .u32 r3), .v (.int .u32 r4), .v (.int .u32 r5), .v (.int .u32 r6), .v (.int .u32 r7), .v (.int .u32 ip), .v (.bool fc), .v (.bool fp), .v (.bool fz), .v (.bool fs), .v (.bool fo), .v (.bool fd), .v (.int .u64 x0), .v (.int .u64 x1), .v (.int .u64 x2), .v (.int .u64 x3), .v (.int .u64 x4), .v (.int .u64 x5), .v (.int .u64 x6), .v (.int .u64 x7)], .agg [.v (.int .i64 ak), .v (.int .i64 ar), .v (.int .i64 ab), .v (.int .i64 ai), .v (.int .i64 aq), .v (.int .u32 ad)], .v (.int .i64 size)] [.cells [.ptr 1 0, .v (.int .u32 cb), .v (.int .u32 cs), .v (.bool cr), .v (.bool cw), .v (.bool cx), .v (.int .u32 db), .v (.int .u32 ds), .v (.bool dr), .v (.bool dw), .v (.bool dx)] T, .ext 0 M] (kTk 2) kNo = some (.tup [.v (.int .u64 (ansI (ldPT cb cs cr cw cx db ds dr dw dx T M r0 r1 r2 r3 r4 r5 r6 r7 ip fc fp fz fs fo fd x0 x1 x2 x3 x4 x5 x6 x7 ak ar ab ai aq ad size) 0)), .v (.int .i64 (ansI (ldPT cb cs cr cw cx db ds dr dw dx T M r0 r1 r2 r3 r4 r5 r6 r7 ip fc fp fz fs fo fd x0 x1 x2 x3 x4 x5 x6 x7 ak ar ab ai aq ad size) 1))], [.cells [.ptr 1 0, .v (.int .u32 cb), .v (.int .u32 cs), .v (.bool cr), .v (.bool cw), .v (.bool cx), .v (.int .u32 db), .v (.int .u32 ds), .v (.bool dr), .v (.bool dw), .v (.bool dx)] T, .ext 0 M]) := (lockI_eq _ _).symm.trans (ldP_is cb cs cr cw cx db ds dr dw dx T M r0 r1 r2 r3 r4 r5 r6 r7 ip fc fp fz fs fo fd x0 x1 x2 x3 x4 x5 x6 x7 ak ar ab ai aq ad size hg)
noncomputable def ldPB (R : Type) (m : List SObj) (k : Sv → List SObj → Option R) (b : Nat) (g : Nat) (cb : Int) (cs : Int) (cr : Bool) (cw : Bool) (cx : Bool) (db : Int) (ds : Int) (dr : Bool) (dw : Bool) (dx : Bool) (T : TypeId) (M : Int → Int) (r0 : Int) (r1 : Int) (r2 : Int) (r3 : Int) (r4 : Int) (r5 : Int) (r6 : Int) (r7 : Int) (ip : Int) (fc : Bool) (fp : Bool) (fz : Bool) (fs : Bool) (fo : Bool) (fd : Bool) (x0 : Int) (x1 : Int) (x2 : Int) (x3 : Int) (x4 : Int) (x5 : Int) (x6 : Int) (x7 : Int) (ak : Int) (ar : Int) (ab : Int) (ai : Int) (aq : Int) (ad : Int) (size : Int) : Option R :=
  bif (in32 r0 && (in32 r1 && (in32 r2 && (in32 r3 && (in32 r4 && (in32 r5 && (in32 r6 && (in32 r7 && (in32 ad && (in32 db && (in32 ds))))))))))) && !(b == g) then k (.tup [.v (.int .u64 (ansI (ldPT cb cs cr cw cx db ds dr dw dx T M r0 r1 r2 r3 r4 r5 r6 r7 ip fc fp fz fs fo fd x0 x1 x2 x3 x4 x5 x6 x7 ak ar ab ai aq ad size) 0)), .v (.int .i64 (ansI (ldPT cb cs cr cw cx db ds dr dw dx T M r0 r1 r2 r3 r4 r5 r6 r7 ip fc fp fz fs fo fd x0 x1 x2 x3 x4 x5 x6 x7 ak ar ab ai aq ad size) 1))]) (((m.set b (.cells [.ptr g 0, .v (.int .u32 cb), .v (.int .u32 cs), .v (.bool cr), .v (.bool cw), .v (.bool cx), .v (.int .u32 db), .v (.int .u32 ds), .v (.bool dr), .v (.bool dw), .v (.bool dx)] T)).set g (.ext 0 M)) ++ []) else none
noncomputable def ldPS : Ev.Spec := fun R args m k kp => match args with
  | [.ptr b 0, .agg A0, .agg [.v (.int .i64 ak), .v (.int .i64 ar), .v (.int .i64 ab), .v (.int .i64 ai), .v (.int .i64 aq), .v (.int .u32 ad)], .v (.int .i64 size)] => (match A0 with
    | [.v (.int .u32 r0), .v (.int .u32 r1), .v (.int .u32 r2), .v (.int .u32 r3), .v (.int .u32 r4), .v (.int .u32 r5), .v (.int .u32 r6), .v (.int .u32 r7), .v (.int .u32 ip), .v (.bool fc), .v (.bool fp), .v (.bool fz), .v (.bool fs), .v (.bool fo), .v (.bool fd), .v (.int .u64 x0), .v (.int .u64 x1), .v (.int .u64 x2), .v (.int .u64 x3), .v (.int .u64 x4), .v (.int .u64 x5), .v (.int .u64 x6), .v (.int .u64 x7)] => (match m[b]? with
    | some (.cells [.ptr g 0, .v (.int .u32 cb), .v (.int .u32 cs), .v (.bool cr), .v (.bool cw), .v (.bool cx), .v (.int .u32 db), .v (.int .u32 ds), .v (.bool dr), .v (.bool dw), .v (.bool dx)] T) => (match m[g]? with
      | some (.ext 0 M) => ldPB R m k b g cb cs cr cw cx db ds dr dw dx T M r0 r1 r2 r3 r4 r5 r6 r7 ip fc fp fz fs fo fd x0 x1 x2 x3 x4 x5 x6 x7 ak ar ab ai aq ad size
      | _ => none)
    | _ => none)
    | _ => none)
  | _ => none
set_option maxHeartbeats 4000000 in
theorem ldPS_ok : SpecOk Try.prog XM 32 ldPS := by
  intro R args m k kp r h
  unfold ldPS at h
  split at h
  · split at h
    · split at h
      · split at h
        · rename_i _ b ak ar ab ai aq ad size _ r0 r1 r2 r3 r4 r5 r6 r7 ip fc fp fz fs fo fd x0 x1 x2 x3 x4 x5 x6 x7 _ g cb cs cr cw cx db ds dr dw dx T hb _ M hg
          unfold ldPB at h
          obtain ⟨hc, h⟩ := cond_some h
          rw [Bool.and_eq_true] at hc
          have hbg : ¬ b = g := by simpa using hc.2
          exact .inl ⟨_, _, h, (callR_evT ΓRg3_ok (by kernel_rfl) (ldP_ev cb cs cr cw cx db ds dr dw dx T M r0 r1 r2 r3 r4 r5 r6 r7 ip fc fp fz fs fo fd x0 x1 x2 x3 x4 x5 x6 x7 ak ar ab ai aq ad size hc.1) rfl rfl rfl rfl).frameL [b, g] (by simpa using hbg) ⟨hb, hg, trivial⟩ rfl rfl rfl rfl rfl rfl rfl⟩
        · cases h
      · cases h
    · cases h
  · cases h
theorem ldR_form (cb cs : Int) (cr cw cx : Bool) (db ds : Int) (dr dw dx : Bool) (T T2 : TypeId) (M : Int → Int) (r0 r1 r2 r3 r4 r5 r6 r7 ip : Int) (fc fp fz fs fo fd : Bool) (x0 x1 x2 x3 x4 x5 x6 x7 : Int) (ak ar ab ai aq ad : Int) (size : Int) :
    evF Try.prog ΓRg3 400 35 [.ptr 0 0, .agg [.v (.int .u32 r0), .v (.int .u32 r1), .v (.int .u32 r2), .v (.int .u32 r3), .v (.int .u32 r4), .v (.int .u32 r5), .v (.int .u32 r6), .v (.int .u32 r7), .v (.int .u32 ip), .v (.bool fc), .v (.bool fp), .v (.bool fz), .v (.bool fs), .v (.bool fo), .v (.bool fd), .v (.int .u64 x0), .v (.int .u64 x1), .v (.int .u64 x2), .v (.int .u64 x3), .v (.int .u64 x4), .v (.int .u64 x5), .v (.int .u64 x6), .v (.int .u64 x7)], .agg [.v (.int .i64 ak), .v (.int .i64 ar), .v (.int .i64 ab), .v (.int .i64 ai), .v (.int .i64 aq), .v (.int .u32 ad)], .v (.int .i64 size)] [.cells [.ptr 1 0, .v (.int .u32 cb), .v (.int .u32 cs), .v (.bool cr), .v (.bool cw), .v (.bool cx), .v (.int .u32 db), .v (.int .u32 ds), .v (.bool dr), .v (.bool dw), .v (.bool dx)] T, .cells [.mp 2] T2, .bm .u32 .u8 M] (kTk 3) kNo =
    (bif ak != 3 then
bif in32 r0 && (in32 r1 && (in32 r2 && (in32 r3 && (in32 r4 && (in32 r5 && (in32 r6 && (in32 r7 && in32 ad))))))) then
some
(Sv.tup
[vd ((getV ak ar ad r0 r1 r2 r3 r4 r5 r6 r7 x0 x1 x2 x3 x4 x5 x6 x7)),
vi 0],
[SObj.cells
[Sv.ptr 1 0, vw cb, vw cs, vb cr,
vb cw, vb cx, vw db, vw ds,
vb dr, vb dw, vb dx]
T,
SObj.cells [Sv.mp 2] T2, SObj.bm IntKind.u32 IntKind.u8 M])
else none
else
bif in32 ad then
bif in32 db && (in32 ds && in32 (ofV ab ai aq ad [r0, r1, r2, r3, r4, r5, r6, r7])) && true then
some
(Sv.tup
[vd ((ldV M db ds (ofV ab ai aq ad [r0, r1, r2, r3, r4, r5, r6, r7]) size (mayV dr dw dx 0))),
Sv.v
(Value.int IntKind.i64
(segE db ds (ofV ab ai aq ad [r0, r1, r2, r3, r4, r5, r6, r7]) (↑(bytesN size)) (mayV dr dw dx 0)))],
[SObj.cells
[Sv.ptr 1 0, vw cb, vw cs, vb cr,
vb cw, vb cx, vw db, vw ds,
vb dr, vb dw, vb dx]
T,
SObj.cells [Sv.mp 2] T2, SObj.bm IntKind.u32 IntKind.u8 M])
else none
else none) := by kernel_rfl
theorem ldR_ev (cb cs : Int) (cr cw cx : Bool) (db ds : Int) (dr dw dx : Bool) (T T2 : TypeId) (M : Int → Int) (r0 r1 r2 r3 r4 r5 r6 r7 ip : Int) (fc fp fz fs fo fd : Bool) (x0 x1 x2 x3 x4 x5 x6 x7 : Int) (ak ar ab ai aq ad : Int) (size : Int) (hg : (in32 r0 && (in32 r1 && (in32 r2 && (in32 r3 && (in32 r4 && (in32 r5 && (in32 r6 && (in32 r7 && (in32 ad && (in32 db && (in32 ds))))))))))) = true) : evF Try.prog ΓRg3 400 35 [.ptr 0 0, .agg [.v (.int .u32 r0), .v (.int .u32 r1), .v (.int .u32 r2), .v (.int .u32 r3), .v (.int .u32 r4), .v (.int .u32 r5), .v (.int .u32 r6), .v (.int .u32 r7), .v (.int .u32 ip), .v (.bool fc), .v (.bool fp), .v (.bool fz), .v (.bool fs), .v (.bool fo), .v (.bool fd), .v (.int .u64 x0), .v (.int .u64 x1), .v (.int .u64 x2), .v (.int .u64 x3), .v (.int .u64 x4), .v (.int .u64 x5), .v (.int .u64 x6), .v (.int .u64 x7)], .agg [.v (.int .i64 ak), .v (.int .i64 ar), .v (.int .i64 ab), .v (.int .i64 ai), .v (.int .i64 aq), .v (.int .u32 ad)], .v (.int .i64 size)] [.cells [.ptr 1 0, .v (.int .u32 cb), .v (.int .u32 cs), .v (.bool cr), .v (.bool cw), .v (.bool cx), .v (.int .u32 db), .v (.int .u32 ds), .v (.bool dr), .v (.bool dw), .v (.bool dx)] T, .cells [.mp 2] T2, .bm .u32 .u8 M] (kTk 3) kNo = some (.tup [.v (.int .u64 (ansI (ldPT cb cs cr cw cx db ds dr dw dx T M r0 r1 r2 r3 r4 r5 r6 r7 ip fc fp fz fs fo fd x0 x1 x2 x3 x4 x5 x6 x7 ak ar ab ai aq ad size) 0)), .v (.int .i64 (ansI (ldPT cb cs cr cw cx db ds dr dw dx T M r0 r1 r2 r3 r4 r5 r6 r7 ip fc fp fz fs fo fd x0 x1 x2 x3 x4 x5 x6 x7 ak ar ab ai aq ad size) 1))], [.cells [.ptr 1 0, .v (.int .u32 cb), .v (.int .u32 cs), .v (.bool cr), .v (.bool cw), .v (.bool cx), .v (.int .u32 db), .v (.int .u32 ds), .v (.bool dr), .v (.bool dw), .v (.bool dx)] T, .cells [.mp 2] T2, .bm .u32 .u8 M]) := by
  rw [ldR_form]
  rw [ldP_tree]
  simp only [Bool.and_eq_true] at hg
  simp only [hg, ofV_in, Bool.and_self, Bool.and_true, Bool.true_and, cond_true]
  simp only [bne]
  cases hk : (ak == 3) <;> (simp only [cond_true, cond_false, Bool.not_true, Bool.not_false]; first | rfl | (cases hs : (segE db ds (ofV ab ai aq ad [r0, r1, r2, r3, r4, r5, r6, r7]) (bytesN size) (mayV dr dw dx 0) == 0) <;> simp only [hs, cond_true, cond_false, Bool.not_true, Bool.not_false] <;> rfl))
noncomputable def ldRB (R : Type) (m : List SObj) (k : Sv → List SObj → Option R) (b : Nat) (g : Nat) (cb : Int) (cs : Int) (cr : Bool) (cw : Bool) (cx : Bool) (db : Int) (ds : Int) (dr : Bool) (dw : Bool) (dx : Bool) (T : TypeId) (M : Int → Int) (j : Nat) (T2 : TypeId) (r0 : Int) (r1 : Int) (r2 : Int) (r3 : Int) (r4 : Int) (r5 : Int) (r6 : Int) (r7 : Int) (ip : Int) (fc : Bool) (fp : Bool) (fz : Bool) (fs : Bool) (fo : Bool) (fd : Bool) (x0 : Int) (x1 : Int) (x2 : Int) (x3 : Int) (x4 : Int) (x5 : Int) (x6 : Int) (x7 : Int) (ak : Int) (ar : Int) (ab : Int) (ai : Int) (aq : Int) (ad : Int) (size : Int) : Option R :=
  bif (in32 r0 && (in32 r1 && (in32 r2 && (in32 r3 && (in32 r4 && (in32 r5 && (in32 r6 && (in32 r7 && (in32 ad && (in32 db && (in32 ds))))))))))) && (!(b == g) && (!(b == j) && !(g == j))) then k (.tup [.v (.int .u64 (ansI (ldPT cb cs cr cw cx db ds dr dw dx T M r0 r1 r2 r3 r4 r5 r6 r7 ip fc fp fz fs fo fd x0 x1 x2 x3 x4 x5 x6 x7 ak ar ab ai aq ad size) 0)), .v (.int .i64 (ansI (ldPT cb cs cr cw cx db ds dr dw dx T M r0 r1 r2 r3 r4 r5 r6 r7 ip fc fp fz fs fo fd x0 x1 x2 x3 x4 x5 x6 x7 ak ar ab ai aq ad size) 1))]) ((((m.set b (.cells [.ptr g 0, .v (.int .u32 cb), .v (.int .u32 cs), .v (.bool cr), .v (.bool cw), .v (.bool cx), .v (.int .u32 db), .v (.int .u32 ds), .v (.bool dr), .v (.bool dw), .v (.bool dx)] T)).set g (.cells [.mp j] T2)).set j (.bm .u32 .u8 M)) ++ []) else none
noncomputable def ldRS : Ev.Spec := fun R args m k kp => match args with
  | [.ptr b 0, .agg A0, .agg [.v (.int .i64 ak), .v (.int .i64 ar), .v (.int .i64 ab), .v (.int .i64 ai), .v (.int .i64 aq), .v (.int .u32 ad)], .v (.int .i64 size)] => (match A0 with
    | [.v (.int .u32 r0), .v (.int .u32 r1), .v (.int .u32 r2), .v (.int .u32 r3), .v (.int .u32 r4), .v (.int .u32 r5), .v (.int .u32 r6), .v (.int .u32 r7), .v (.int .u32 ip), .v (.bool fc), .v (.bool fp), .v (.bool fz), .v (.bool fs), .v (.bool fo), .v (.bool fd), .v (.int .u64 x0), .v (.int .u64 x1), .v (.int .u64 x2), .v (.int .u64 x3), .v (.int .u64 x4), .v (.int .u64 x5), .v (.int .u64 x6), .v (.int .u64 x7)] => (match m[b]? with
    | some (.cells [.ptr g 0, .v (.int .u32 cb), .v (.int .u32 cs), .v (.bool cr), .v (.bool cw), .v (.bool cx), .v (.int .u32 db), .v (.int .u32 ds), .v (.bool dr), .v (.bool dw), .v (.bool dx)] T) => (match m[g]? with
      | some (.cells [.mp j] T2) => (match m[j]? with
        | some (.bm .u32 .u8 M) => ldRB R m k b g cb cs cr cw cx db ds dr dw dx T M j T2 r0 r1 r2 r3 r4 r5 r6 r7 ip fc fp fz fs fo fd x0 x1 x2 x3 x4 x5 x6 x7 ak ar ab ai aq ad size
        | _ => none)
      | _ => none)
    | _ => none)
    | _ => none)
  | _ => none
set_option maxHeartbeats 4000000 in
theorem ldRS_ok : SpecOk Try.prog XM 35 ldRS := by
  intro R args m k kp r h
  unfold ldRS at h
  split at h
  · split at h
    · split at h
      · split at h
        · split at h
          · rename_i _ b ak ar ab ai aq ad size _ r0 r1 r2 r3 r4 r5 r6 r7 ip fc fp fz fs fo fd x0 x1 x2 x3 x4 x5 x6 x7 _ g cb cs cr cw cx db ds dr dw dx T hb _ j T2 hg _ M hj
            unfold ldRB at h
            obtain ⟨hc, h⟩ := cond_some h
            rw [Bool.and_eq_true] at hc
            have hd : ¬ b = g ∧ ¬ b = j ∧ ¬ g = j := by simpa using hc.2
            exact .inl ⟨_, _, h, (callR_evT ΓRg3_ok (by kernel_rfl) (ldR_ev cb cs cr cw cx db ds dr dw dx T T2 M r0 r1 r2 r3 r4 r5 r6 r7 ip fc fp fz fs fo fd x0 x1 x2 x3 x4 x5 x6 x7 ak ar ab ai aq ad size hc.1) rfl rfl rfl rfl).frameL [b, g, j] (by simp; exact ⟨⟨hd.1, hd.2.1⟩, hd.2.2⟩) ⟨hb, hg, hj, trivial⟩ rfl rfl rfl rfl rfl rfl rfl⟩
          · cases h
        · cases h
      · cases h
    · cases h
  · cases h
theorem stP_form (cb cs : Int) (cr cw cx : Bool) (db ds : Int) (dr dw dx : Bool) (T : TypeId) (M : Int → Int) (r0 r1 r2 r3 r4 r5 r6 r7 ip : Int) (fc fp fz fs fo fd : Bool) (x0 x1 x2 x3 x4 x5 x6 x7 : Int) (ak ar ab ai aq ad : Int) (size : Int) (v : Int) :
    evF Try.prog ΓRg3 400 31 [.ptr 0 0, .agg [.v (.int .u32 r0), .v (.int .u32 r1), .v (.int .u32 r2), .v (.int .u32 r3), .v (.int .u32 r4), .v (.int .u32 r5), .v (.int .u32 r6), .v (.int .u32 r7), .v (.int .u32 ip), .v (.bool fc), .v (.bool fp), .v (.bool fz), .v (.bool fs), .v (.bool fo), .v (.bool fd), .v (.int .u64 x0), .v (.int .u64 x1), .v (.int .u64 x2), .v (.int .u64 x3), .v (.int .u64 x4), .v (.int .u64 x5), .v (.int .u64 x6), .v (.int .u64 x7)], .agg [.v (.int .i64 ak), .v (.int .i64 ar), .v (.int .i64 ab), .v (.int .i64 ai), .v (.int .i64 aq), .v (.int .u32 ad)], .v (.int .i64 size), .v (.int .u64 v)] [.cells [.ptr 1 0, .v (.int .u32 cb), .v (.int .u32 cs), .v (.bool cr), .v (.bool cw), .v (.bool cx), .v (.int .u32 db), .v (.int .u32 ds), .v (.bool dr), .v (.bool dw), .v (.bool dx)] T, .ext 0 M] (kTk 2) kNo =
    (bif ak == 3 then
bif in32 db && (in32 ds && in32 (ofV ab ai aq ad [r0, r1, r2, r3, r4, r5, r6, r7])) && true then
some
(Sv.tup
[Sv.agg
[vw r0, vw r1, vw r2,
vw r3, vw r4, vw r5,
vw r6, vw r7, vw ip, vb fc,
vb fp, vb fz, vb fs, vb fo, vb fd,
vd x0, vd x1, vd x2,
vd x3, vd x4, vd x5,
vd x6, vd x7],
Sv.v
(Value.int IntKind.i64
(segE db ds (ofV ab ai aq ad [r0, r1, r2, r3, r4, r5, r6, r7]) (↑(bytesN size)) (mayV dr dw dx 1)))],
[SObj.cells
[Sv.ptr 1 0, vw cb, vw cs, vb cr,
vb cw, vb cx, vw db, vw ds,
vb dr, vb dw, vb dx]
T,
SObj.ext 0 (stV M db ds (ofV ab ai aq ad [r0, r1, r2, r3, r4, r5, r6, r7]) size v (mayV dr dw dx 1))])
else none
else
bif in32 r0 && (in32 r1 && (in32 r2 && (in32 r3 && in64 v))) then
some
(Sv.tup
[Sv.agg
[vw ((setA ak ar 0 r0 v)), vw ((setA ak ar 1 r1 v)),
vw ((setA ak ar 2 r2 v)), vw ((setA ak ar 3 r3 v)),
vw ((setB ak ar 4 r4 v)), vw ((setB ak ar 5 r5 v)),
vw ((setB ak ar 6 r6 v)), vw ((setB ak ar 7 r7 v)),
vw ip, vb fc, vb fp, vb fz, vb fs,
vb fo, vb fd, vd ((setX ak ar 0 x0 v)),
vd ((setX ak ar 1 x1 v)), vd ((setX ak ar 2 x2 v)),
vd ((setX ak ar 3 x3 v)), vd ((setX ak ar 4 x4 v)),
vd ((setX ak ar 5 x5 v)), vd ((setX ak ar 6 x6 v)),
vd ((setX ak ar 7 x7 v))],
vi 0],
[SObj.cells
[Sv.ptr 1 0, vw cb, vw cs, vb cr,
vb cw, vb cx, vw db, vw ds,
vb dr, vb dw, vb dx]
T,
SObj.ext 0 M])
else none) := by kernel_rfl
noncomputable def stPT (cb cs : Int) (cr cw cx : Bool) (db ds : Int) (dr dw dx : Bool) (T : TypeId) (M : Int → Int) (r0 r1 r2 r3 r4 r5 r6 r7 ip : Int) (fc fp fz fs fo fd : Bool) (x0 x1 x2 x3 x4 x5 x6 x7 : Int) (ak ar ab ai aq ad : Int) (size : Int) (v : Int) : Option (Sv × List SObj) := lockI r0 (evF Try.prog ΓRg3 400 31 [.ptr 0 0, .agg [.v (.int .u32 r0), .v (.int .u32 r1), .v (.int .u32 r2), .v (.int .u32 r3), .v (.int .u32 r4), .v (.int .u32 r5), .v (.int .u32 r6), .v (.int .u32 r7), .v (.int .u32 ip), .v (.bool fc), .v (.bool fp), .v (.bool fz), .v (.bool fs), .v (.bool fo), .v (.bool fd), .v (.int .u64 x0), .v (.int .u64 x1), .v (.int .u64 x2), .v (.int .u64 x3), .v (.int .u64 x4), .v (.int .u64 x5), .v (.int .u64 x6), .v (.int .u64 x7)], .agg [.v (.int .i64 ak), .v (.int .i64 ar), .v (.int .i64 ab), .v (.int .i64 ai), .v (.int .i64 aq), .v (.int .u32 ad)], .v (.int .i64 size), .v (.int .u64 v)] [.cells [.ptr 1 0, .v (.int .u32 cb), .v (.int .u32 cs), .v (.bool cr), .v (.bool cw), .v (.bool cx), .v (.int .u32 db), .v (.int .u32 ds), .v (.bool dr), .v (.bool dw), .v (.bool dx)] T, .ext 0 M] (kTk 2) kNo)
theorem stP_tree (cb cs : Int) (cr cw cx : Bool) (db ds : Int) (dr dw dx : Bool) (T : TypeId) (M : Int → Int) (r0 r1 r2 r3 r4 r5 r6 r7 ip : Int) (fc fp fz fs fo fd : Bool) (x0 x1 x2 x3 x4 x5 x6 x7 : Int) (ak ar ab ai aq ad : Int) (size : Int) (v : Int) : stPT cb cs cr cw cx db ds dr dw dx T M r0 r1 r2 r3 r4 r5 r6 r7 ip fc fp fz fs fo fd x0 x1 x2 x3 x4 x5 x6 x7 ak ar ab ai aq ad size v = (bif ak == 3 then
bif in32 db && (in32 ds && in32 (ofV ab ai aq ad [r0, r1, r2, r3, r4, r5, r6, r7])) && true then
some
(Sv.tup
[Sv.agg
[vw r0, vw r1, vw r2,
vw r3, vw r4, vw r5,
vw r6, vw r7, vw ip, vb fc,
vb fp, vb fz, vb fs, vb fo, vb fd,
vd x0, vd x1, vd x2,
vd x3, vd x4, vd x5,
vd x6, vd x7],
Sv.v
(Value.int IntKind.i64
(segE db ds (ofV ab ai aq ad [r0, r1, r2, r3, r4, r5, r6, r7]) (↑(bytesN size)) (mayV dr dw dx 1)))],
[SObj.cells
[Sv.ptr 1 0, vw cb, vw cs, vb cr,
vb cw, vb cx, vw db, vw ds,
vb dr, vb dw, vb dx]
T,
SObj.ext 0 (stV M db ds (ofV ab ai aq ad [r0, r1, r2, r3, r4, r5, r6, r7]) size v (mayV dr dw dx 1))])
else none
else
bif in32 r0 && (in32 r1 && (in32 r2 && (in32 r3 && in64 v))) then
some
(Sv.tup
[Sv.agg
[vw ((setA ak ar 0 r0 v)), vw ((setA ak ar 1 r1 v)),
vw ((setA ak ar 2 r2 v)), vw ((setA ak ar 3 r3 v)),
vw ((setB ak ar 4 r4 v)), vw ((setB ak ar 5 r5 v)),
vw ((setB ak ar 6 r6 v)), vw ((setB ak ar 7 r7 v)),
vw ip, vb fc, vb fp, vb fz, vb fs,
vb fo, vb fd, vd ((setX ak ar 0 x0 v)),
vd ((setX ak ar 1 x1 v)), vd ((setX ak ar 2 x2 v)),
vd ((setX ak ar 3 x3 v)), vd ((setX ak ar 4 x4 v)),
vd ((setX ak ar 5 x5 v)), vd ((setX ak ar 6 x6 v)),
vd ((setX ak ar 7 x7 v))],
vi 0],
[SObj.cells
[Sv.ptr 1 0, vw cb, vw cs, vb cr,
vb cw, vb cx, vw db, vw ds,
vb dr, vb dw, vb dx]
T,
SObj.ext 0 M])
else none) := (lockI_eq _ _).trans (stP_form cb cs cr cw cx db ds dr dw dx T M r0 r1 r2 r3 r4 r5 r6 r7 ip fc fp fz fs fo fd x0 x1 x2 x3 x4 x5 x6 x7 ak ar ab ai aq ad size v)
noncomputable def stPF (cb cs : Int) (cr cw cx : Bool) (db ds : Int) (dr dw dx : Bool) (T : TypeId) (M : Int → Int) (r0 r1 r2 r3 r4 r5 r6 r7 ip : Int) (fc fp fz fs fo fd : Bool) (x0 x1 x2 x3 x4 x5 x6 x7 : Int) (ak ar ab ai aq ad : Int) (size : Int) (v : Int) (X : Option (Sv × List SObj)) : Option (Sv × List SObj) := some (.tup [.agg [.v (.int .u32 (ansI (X) 0)), .v (.int .u32 (ansI (X) 1)), .v (.int .u32 (ansI (X) 2)), .v (.int .u32 (ansI (X) 3)), .v (.int .u32 (ansI (X) 4)), .v (.int .u32 (ansI (X) 5)), .v (.int .u32 (ansI (X) 6)), .v (.int .u32 (ansI (X) 7)), .v (.int .u32 (ansI (X) 8)), .v (.bool (ansB (X) 9)), .v (.bool (ansB (X) 10)), .v (.bool (ansB (X) 11)), .v (.bool (ansB (X) 12)), .v (.bool (ansB (X) 13)), .v (.bool (ansB (X) 14)), .v (.int .u64 (ansI (X) 15)), .v (.int .u64 (ansI (X) 16)), .v (.int .u64 (ansI (X) 17)), .v (.int .u64 (ansI (X) 18)), .v (.int .u64 (ansI (X) 19)), .v (.int .u64 (ansI (X) 20)), .v (.int .u64 (ansI (X) 21)), .v (.int .u64 (ansI (X) 22))], .v (.int .i64 (ansI (X) 23))], [.cells [.ptr 1 0, .v (.int .u32 cb), .v (.int .u32 cs), .v (.bool cr), .v (.bool cw), .v (.bool cx), .v (.int .u32 db), .v (.int .u32 ds), .v (.bool dr), .v (.bool dw), .v (.bool dx)] T, .ext 0 (ansM (X) 1)])
theorem stP_is (cb cs : Int) (cr cw cx : Bool) (db ds : Int) (dr dw dx : Bool) (T : TypeId) (M : Int → Int) (r0 r1 r2 r3 r4 r5 r6 r7 ip : Int) (fc fp fz fs fo fd : Bool) (x0 x1 x2 x3 x4 x5 x6 x7 : Int) (ak ar ab ai aq ad : Int) (size : Int) (v : Int) (hg : (in32 r0 && (in32 r1 && (in32 r2 && (in32 r3 && (in32 r4 && (in32 r5 && (in32 r6 && (in32 r7 && (in32 ad && (in32 db && (in32 ds && (in64 v)))))))))))) = true) : stPT cb cs cr cw cx db ds dr dw dx T M r0 r1 r2 r3 r4 r5 r6 r7 ip fc fp fz fs fo fd x0 x1 x2 x3 x4 x5 x6 x7 ak ar ab ai aq ad size v = stPF cb cs cr cw cx db ds dr dw dx T M r0 r1 r2 r3 r4 r5 r6 r7 ip fc fp fz fs fo fd x0 x1 x2 x3 x4 x5 x6 x7 ak ar ab ai aq ad size v (stPT cb cs cr cw cx db ds dr dw dx T M r0 r1 r2 r3 r4 r5 r6 r7 ip fc fp fz fs fo fd x0 x1 x2 x3 x4 x5 x6 x7 ak ar ab ai aq ad size v) := by
  have h : stPT cb cs cr cw cx db ds dr dw dx T M r0 r1 r2 r3 r4 r5 r6 r7 ip fc fp fz fs fo fd x0 x1 x2 x3 x4 x5 x6 x7 ak ar ab ai aq ad size v = _ := (lockI_eq _ _).trans (stP_form cb cs cr cw cx db ds dr dw dx T M r0 r1 r2 r3 r4 r5 r6 r7 ip fc fp fz fs fo fd x0 x1 x2 x3 x4 x5 x6 x7 ak ar ab ai aq ad size v)
  simp only [Bool.and_eq_true] at hg
  simp only [ofV_in, hg, Bool.and_self, Bool.and_true, Bool.true_and, cond_true] at h
  rw [h]
  repeat' (first | exact rfl | refine ans_cond (F := stPF cb cs cr cw cx db ds dr dw dx T M r0 r1 r2 r3 r4 r5 r6 r7 ip fc fp fz fs fo fd x0 x1 x2 x3 x4 x5 x6 x7 ak ar ab ai aq ad size v) ?_ ?_)
theorem stP_ev (cb cs : Int) (cr cw cx : Bool) (db ds : Int) (dr dw dx : Bool) (T : TypeId) (M : Int → Int) (r0 r1 r2 r3 r4 r5 r6 r7 ip : Int) (fc fp fz fs fo fd : Bool) (x0 x1 x2 x3 x4 x5 x6 x7 : Int) (ak ar ab ai aq ad : Int) (size : Int) (v : Int) (hg : (in32 r0 && (in32 r1 && (in32 r2 && (in32 r3 && (in32 r4 && (in32 r5 && (in32 r6 && (in32 r7 && (in32 ad && (in32 db && (in32 ds && (in64 v)))))))))))) = true) : evF Try.prog ΓRg3 400 31 [.ptr 0 0, .agg [.v (.int .u32 r0), .v (.int .u32 r1), .v (.int .u32 r2), .v (.int .u32 r3), .v (.int .u32 r4), .v (.int .u32 r5), .v (.int .u32 r6), .v (.int .u32 r7), .v (.int .u32 ip), .v (.bool fc), .v (.bool fp), .v (.bool fz), .v (.bool fs), .v (.bool fo), .v (.bool fd), .v (.int .u64 x0), .v (.int .u64 x1), .v (.int .u64 x2), .v (.int .u64 x3), .v (.int .u64 x4), .v (.int .u64 x5), .v (.int .u64 x6), .v (.int .u64 x7)], .agg [.v (.int .i64 ak), .v (.int .i64 ar), .v (.int .i64 ab), .v (.int .i64 ai), .v (.int .i64 aq), .v (.int .u32 ad)], .v (.int .i64 size), .v (.int .u64 v)] [.cells [.ptr 1 0, .v (.int .u32 cb), .v (.int .u32 cs), .v (.bool cr), .v (.bool cw), .v (.bool cx), .v (.int .u32 db), .v (.int .u32 ds), .v (.bool dr), .v (.bool dw), .v (.bool dx)] T, .ext 0 M] (kTk 2) kNo = some (.tup [.agg [.v (.int .u32 (ansI (stPT cb cs cr cw cx db ds dr dw dx T M r0 r1 r2 r3 r4 r5 r6 r7 ip fc fp fz fs fo fd x0 x1 x2 x3 x4 x5 x6 x7 ak ar ab ai aq ad size v) 0)), .v (.int .u32 (ansI (stPT cb cs cr cw cx db ds dr dw dx T M r0 r1 r2 r3 r4 r5 r6 r7 ip fc fp fz fs fo fd x0 x1 x2 x3 x4 x5 x6 x7 ak ar ab ai aq ad size v) 1)), .v (.int .u32 (ansI (stPT cb cs cr cw cx db ds dr dw dx T M r0 r1 r2 r3 r4 r5 r6 r7 ip fc fp fz fs fo fd x0 x1 x2 x3 x4 x5 x6 x7 ak ar ab ai aq ad size v) 2)), .v (.int .u32 (ansI (stPT cb cs cr cw cx db ds dr dw dx T M r0 r1 r2 r3 r4 r5 r6 r7 ip fc fp fz fs fo fd x0 x1 x2 x3 x4 x5 x6 x7 ak ar ab ai aq ad size v) 3)), .v (.int .u32 (ansI (stPT cb cs cr cw cx db ds dr dw dx T M r0 r1 r2 r3 r4 r5 r6 r7 ip fc fp fz fs fo fd x0 x1 x2 x3 x4 x5 x6 x7 ak ar ab ai aq ad size v) 4)), .v (.int .u32 (ansI (stPT cb cs cr cw cx db ds dr dw dx T M r0 r1 r2 r3 r4 r5 r6 r7 ip fc fp fz fs fo fd x0 x1 x2 x3 x4 x5 x6 x7 ak ar ab ai aq ad size v) 5)), .v (.int .u32 (ansI (stPT cb cs cr cw cx db ds dr dw dx T M r0 r1 r2 r3 r4 r5 r6 r7 ip fc fp fz fs fo fd x0 x1 x2 x3 x4 x5 x6 x7 ak ar ab ai aq ad size v) 6)), .v (.int .u32 (ansI (stPT cb cs cr cw cx db ds dr dw dx T M r0 r1 r2 r3 r4 r5 r6 r7 ip fc fp fz fs fo fd x0 x1 x2 x3 x4 x5 x6 x7 ak ar ab ai aq ad size v) 7)), .v (.int .u32 (ansI (stPT cb cs cr cw cx db ds dr dw dx T M r0 r1 r2 r3 r4 r5 r6 r7 ip fc fp fz fs fo fd x0 x1 x2 x3 x4 x5 x6 x7 ak ar ab ai aq ad size v) 8)), .v (.bool (ansB (stPT cb cs cr cw cx db ds dr dw dx T M r0 r1 r2 r3 r4 r5 r6 r7 ip fc fp fz fs fo fd x0 x1 x2 x3 x4 x5 x6 x7 ak ar ab ai aq ad size v) 9)), .v (.bool (ansB (stPT cb cs cr cw cx db ds dr dw dx T M r0 r1 r2 r3 r4 r5 r6 r7 ip fc fp fz fs fo fd x0 x1 x2 x3 x4 x5 x6 x7 ak ar ab ai aq ad size v) 10)), .v (.bool (ansB (stPT cb cs cr cw cx db ds dr dw dx T M r0 r1 r2 r3 r4 r5 r6 r7 ip fc fp fz fs fo fd x0 x1 x2 x3 x4 x5 x6 x7 ak ar ab ai aq ad size v) 11)), .v (.bool (ansB (stPT cb cs cr cw cx db ds dr dw dx T M r0 r1 r2 r3 r4 r5 r6 r7 ip fc fp fz fs fo fd x0 x1 x2 x3 x4 x5 x6 x7 ak ar ab ai aq ad size v) 12)), .v (.bool (ansB (stPT cb cs cr cw cx db ds dr dw dx T M r0 r1 r2 r3 r4 r5 r6 r7 ip fc fp fz fs fo fd x0 x1 x2 x3 x4 x5 x6 x7 ak ar ab ai aq ad size v) 13)), .v (.bool (ansB (stPT cb cs cr cw cx db ds dr dw dx T M r0 r1 r2 r3 r4 r5 r6 r7 ip fc fp fz fs fo fd x0 x1 x2 x3 x4 x5 x6 x7 ak ar ab ai aq ad size v) 14)), .v (.int .u64 (ansI (stPT cb cs cr cw cx db ds dr dw dx T M r0 r1 r2 r3 r4 r5 r6 r7 ip fc fp fz fs fo fd x0 x1 x2 x3 x4 x5 x6 x7 ak ar ab ai aq ad size v) 15)), .v (.int .u64 (ansI (stPT cb cs cr cw cx db ds dr dw dx T M r0 r1 r2 r3 r4 r5 r6 r7 ip fc fp fz fs fo fd x0 x1 x2 x3 x4 x5 x6 x7 ak ar ab ai aq ad size v) 16)), .v (.int .u64 (ansI (stPT cb cs cr cw cx db ds dr dw dx T M r0 r1 r2 r3 r4 r5 r6 r7 ip fc fp fz fs fo fd x0 x1 x2 x3 x4 x5 x6 x7 ak ar ab ai aq ad size v) 17)), .v (.int .u64 (ansI (stPT cb cs cr cw cx db ds dr dw dx T M r0 r1 r2 r3 r4 r5 r6 r7 ip fc fp fz fs fo fd x0 x1 x2 x3 x4 x5 x6 x7 ak ar ab ai aq ad size v) 18)), .v (.int .u64 (ansI (stPT cb cs cr cw cx db ds dr dw dx T M r0 r1 r2 r3 r4 r5 r6 r7 ip fc fp fz fs fo fd x0 x1 x2 x3 x4 x5 x6 x7 ak ar ab ai aq ad size v) 19)), .v (.int .u64 (ansI (stPT cb cs cr cw cx db ds dr dw dx T M r0 r1 r2 r3 r4 r5 r6 r7 ip fc fp fz fs fo fd x0 x1 x2 x3 x4 x5 x6 x7 ak ar ab ai aq ad size v) 20)), .v (.int .u64 (ansI (stPT cb cs cr cw cx db ds dr dw dx T M r0 r1 r2 r3 r4 r5 r6 r7 ip fc fp fz fs fo fd x0 x1 x2 x3 x4 x5 x6 x7 ak ar ab ai aq ad size v) 21)), .v (.int .u64 (ansI (stPT cb cs cr cw cx db ds dr dw dx T M r0 r1 r2 r3 r4 r5 r6 r7 ip fc fp fz fs fo fd x0 x1 x2 x3 x4 x5 x6 x7 ak ar ab ai aq ad size v) 22))], .v (.int .i64 (ansI (stPT cb cs cr cw cx db ds dr dw dx T M r0 r1 r2 r3 r4 r5 r6 r7 ip fc fp fz fs fo fd x0 x1 x2 x3 x4 x5 x6 x7 ak ar ab ai aq ad size v) 23))], [.cells [.ptr 1 0, .v (.int .u32 cb), .v (.int .u32 cs), .v (.bool cr), .v (.bool cw), .v (.bool cx), .v (.int .u32 db), .v (.int .u32 ds), .v (.bool dr), .v (.bool dw), .v (.bool dx)] T, .ext 0 (ansM (stPT cb cs cr cw cx db ds dr dw dx T M r0 r1 r2 r3 r4 r5 r6 r7 ip fc fp fz fs fo fd x0 x1 x2 x3 x4 x5 x6 x7 ak ar ab ai aq ad size v) 1)]) := (lockI_eq _ _).symm.trans (stP_is cb cs cr cw cx db ds dr dw dx T M r0 r1 r2 r3 r4 r5 r6 r7 ip fc fp fz fs fo fd x0 x1 x2 x3 x4 x5 x6 x7 ak ar ab ai aq ad size v hg)
noncomputable def stPB (R : Type) (m : List SObj) (k : Sv → List SObj → Option R) (b : Nat) (g : Nat) (cb : Int) (cs : Int) (cr : Bool) (cw : Bool) (cx : Bool) (db : Int) (ds : Int) (dr : Bool) (dw : Bool) (dx : Bool) (T : TypeId) (M : Int → Int) (r0 : Int) (r1 : Int) (r2 : Int) (r3 : Int) (r4 : Int) (r5 : Int) (r6 : Int) (r7 : Int) (ip : Int) (fc : Bool) (fp : Bool) (fz : Bool) (fs : Bool) (fo : Bool) (fd : Bool) (x0 : Int) (x1 : Int) (x2 : Int) (x3 : Int) (x4 : Int) (x5 : Int) (x6 : Int) (x7 : Int) (ak : Int) (ar : Int) (ab : Int) (ai : Int) (aq : Int) (ad : Int) (size : Int) (v : Int) : Option R :=
  bif (in32 r0 && (in32 r1 && (in32 r2 && (in32 r3 && (in32 r4 && (in32 r5 && (in32 r6 && (in32 r7 && (in32 ad && (in32 db && (in32 ds && (in64 v)))))))))))) && !(b == g) then k (.tup [.agg [.v (.int .u32 (ansI (stPT cb cs cr cw cx db ds dr dw dx T M r0 r1 r2 r3 r4 r5 r6 r7 ip fc fp fz fs fo fd x0 x1 x2 x3 x4 x5 x6 x7 ak ar ab ai aq ad size v) 0)), .v (.int .u32 (ansI (stPT cb cs cr cw cx db ds dr dw dx T M r0 r1 r2 r3 r4 r5 r6 r7 ip fc fp fz fs fo fd x0 x1 x2 x3 x4 x5 x6 x7 ak ar ab ai aq ad size v) 1)), .v (.int .u32 (ansI (stPT cb cs cr cw cx db ds dr dw dx T M r0 r1 r2 r3 r4 r5 r6 r7 ip fc fp fz fs fo fd x0 x1 x2 x3 x4 x5 x6 x7 ak ar ab ai aq ad size v) 2)), .v (.int .u32 (ansI (stPT cb cs cr cw cx db ds dr dw dx T M r0 r1 r2 r3 r4 r5 r6 r7 ip fc fp fz fs fo fd x0 x1 x2 x3 x4 x5 x6 x7 ak ar ab ai aq ad size v) 3)), .v (.int .u32 (ansI (stPT cb cs cr cw cx db ds dr dw dx T M r0 r1 r2 r3 r4 r5 r6 r7 ip fc fp fz fs fo fd x0 x1 x2 x3 x4 x5 x6 x7 ak ar ab ai aq ad size v) 4)), .v (.int .u32 (ansI (stPT cb cs cr cw cx db ds dr dw dx T M r0 r1 r2 r3 r4 r5 r6 r7 ip fc fp fz fs fo fd x0 x1 x2 x3 x4 x5 x6 x7 ak ar ab ai aq ad size v) 5)), .v (.int .u32 (ansI (stPT cb cs cr cw cx db ds dr dw dx T M r0 r1 r2 r3 r4 r5 r6 r7 ip fc fp fz fs fo fd x0 x1 x2 x3 x4 x5 x6 x7 ak ar ab ai aq ad size v) 6)), .v (.int .u32 (ansI (stPT cb cs cr cw cx db ds dr dw dx T M r0 r1 r2 r3 r4 r5 r6 r7 ip fc fp fz fs fo fd x0 x1 x2 x3 x4 x5 x6 x7 ak ar ab ai aq ad size v) 7)), .v (.int .u32 (ansI (stPT cb cs cr cw cx db ds dr dw dx T M r0 r1 r2 r3 r4 r5 r6 r7 ip fc fp fz fs fo fd x0 x1 x2 x3 x4 x5 x6 x7 ak ar ab ai aq ad size v) 8)), .v (.bool (ansB (stPT cb cs cr cw cx db ds dr dw dx T M r0 r1 r2 r3 r4 r5 r6 r7 ip fc fp fz fs fo fd x0 x1 x2 x3 x4 x5 x6 x7 ak ar ab ai aq ad size v) 9)), .v (.bool (ansB (stPT cb cs cr cw cx db ds dr dw dx T M r0 r1 r2 r3 r4 r5 r6 r7 ip fc fp fz fs fo fd x0 x1 x2 x3 x4 x5 x6 x7 ak ar ab ai aq ad size v) 10)), .v (.bool (ansB (stPT cb cs cr cw cx db ds dr dw dx T M r0 r1 r2 r3 r4 r5 r6 r7 ip fc fp fz fs fo fd x0 x1 x2 x3 x4 x5 x6 x7 ak ar ab ai aq ad size v) 11)), .v (.bool (ansB (stPT cb cs cr cw cx db ds dr dw dx T M r0 r1 r2 r3 r4 r5 r6 r7 ip fc fp fz fs fo fd x0 x1 x2 x3 x4 x5 x6 x7 ak ar ab ai aq ad size v) 12)), .v (.bool (ansB (stPT cb cs cr cw cx db ds dr dw dx T M r0 r1 r2 r3 r4 r5 r6 r7 ip fc fp fz fs fo fd x0 x1 x2 x3 x4 x5 x6 x7 ak ar ab ai aq ad size v) 13)), .v (.bool (ansB (stPT cb cs cr cw cx db ds dr dw dx T M r0 r1 r2 r3 r4 r5 r6 r7 ip fc fp fz fs fo fd x0 x1 x2 x3 x4 x5 x6 x7 ak ar ab ai aq ad size v) 14)), .v (.int .u64 (ansI (stPT cb cs cr cw cx db ds dr dw dx T M r0 r1 r2 r3 r4 r5 r6 r7 ip fc fp fz fs fo fd x0 x1 x2 x3 x4 x5 x6 x7 ak ar ab ai aq ad size v) 15)), .v (.int .u64 (ansI (stPT cb cs cr cw cx db ds dr dw dx T M r0 r1 r2 r3 r4 r5 r6 r7 ip fc fp fz fs fo fd x0 x1 x2 x3 x4 x5 x6 x7 ak ar ab ai aq ad size v) 16)), .v (.int .u64 (ansI (stPT cb cs cr cw cx db ds dr dw dx T M r0 r1 r2 r3 r4 r5 r6 r7 ip fc fp fz fs fo fd x0 x1 x2 x3 x4 x5 x6 x7 ak ar ab ai aq ad size v) 17)), .v (.int .u64 (ansI (stPT cb cs cr cw cx db ds dr dw dx T M r0 r1 r2 r3 r4 r5 r6 r7 ip fc fp fz fs fo fd x0 x1 x2 x3 x4 x5 x6 x7 ak ar ab ai aq ad size v) 18)), .v (.int .u64 (ansI (stPT cb cs cr cw cx db ds dr dw dx T M r0 r1 r2 r3 r4 r5 r6 r7 ip fc fp fz fs fo fd x0 x1 x2 x3 x4 x5 x6 x7 ak ar ab ai aq ad size v) 19)), .v (.int .u64 (ansI (stPT cb cs cr cw cx db ds dr dw dx T M r0 r1 r2 r3 r4 r5 r6 r7 ip fc fp fz fs fo fd x0 x1 x2 x3 x4 x5 x6 x7 ak ar ab ai aq ad size v) 20)), .v (.int .u64 (ansI (stPT cb cs cr cw cx db ds dr dw dx T M r0 r1 r2 r3 r4 r5 r6 r7 ip fc fp fz fs fo fd x0 x1 x2 x3 x4 x5 x6 x7 ak ar ab ai aq ad size v) 21)), .v (.int .u64 (ansI (stPT cb cs cr cw cx db ds dr dw dx T M r0 r1 r2 r3 r4 r5 r6 r7 ip fc fp fz fs fo fd x0 x1 x2 x3 x4 x5 x6 x7 ak ar ab ai aq ad size v) 22))], .v (.int .i64 (ansI (stPT cb cs cr cw cx db ds dr dw dx T M r0 r1 r2 r3 r4 r5 r6 r7 ip fc fp fz fs fo fd x0 x1 x2 x3 x4 x5 x6 x7 ak ar ab ai aq ad size v) 23))]) (((m.set b (.cells [.ptr g 0, .v (.int .u32 cb), .v (.int .u32 cs), .v (.bool cr), .v (.bool cw), .v (.bool cx), .v (.int .u32 db), .v (.int .u32 ds), .v (.bool dr), .v (.bool dw), .v (.bool dx)] T)).set g (.ext 0 (ansM (stPT cb cs cr cw cx db ds dr dw dx T M r0 r1 r2 r3 r4 r5 r6 r7 ip fc fp fz fs fo fd x0 x1 x2 x3 x4 x5 x6 x7 ak ar ab ai aq ad size v) 1))) ++ []) else none
noncomputable def stPS : Ev.Spec := fun R args m k kp => match args with
  | [.ptr b 0, .agg A0, .agg [.v (.int .i64 ak), .v (.int .i64 ar), .v (.int .i64 ab), .v (.int .i64 ai), .v (.int .i64 aq), .v (.int .u32 ad)], .v (.int .i64 size), .v (.int .u64 v)] => (match A0 with
    | [.v (.int .u32 r0), .v (.int .u32 r1), .v (.int .u32 r2), .v (.int .u32 r3), .v (.int .u32 r4), .v (.int .u32 r5), .v (.int .u32 r6), .v (.int .u32 r7), .v (.int .u32 ip), .v (.bool fc), .v (.bool fp), .v (.bool fz), .v (.bool fs), .v (.bool fo), .v (.bool fd), .v (.int .u64 x0), .v (.int .u64 x1), .v (.int .u64 x2), .v (.int .u64 x3), .v (.int .u64 x4), .v (.int .u64 x5), .v (.int .u64 x6), .v (.int .u64 x7)] => (match m[b]? with
    | some (.cells [.ptr g 0, .v (.int .u32 cb), .v (.int .u32 cs), .v (.bool cr), .v (.bool cw), .v (.bool cx), .v (.int .u32 db), .v (.int .u32 ds), .v (.bool dr), .v (.bool dw), .v (.bool dx)] T) => (match m[g]? with
      | some (.ext 0 M) => stPB R m k b g cb cs cr cw cx db ds dr dw dx T M r0 r1 r2 r3 r4 r5 r6 r7 ip fc fp fz fs fo fd x0 x1 x2 x3 x4 x5 x6 x7 ak ar ab ai aq ad size v
      | _ => none)
    | _ => none)
    | _ => none)
  | _ => none
set_option maxHeartbeats 4000000 in
theorem stPS_ok : SpecOk Try.prog XM 31 stPS := by
  intro R args m k kp r h
  unfold stPS at h
  split at h
  · split at h
    · split at h
      · split at h
        · rename_i _ b ak ar ab ai aq ad size v _ r0 r1 r2 r3 r4 r5 r6 r7 ip fc fp fz fs fo fd x0 x1 x2 x3 x4 x5 x6 x7 _ g cb cs cr cw cx db ds dr dw dx T hb _ M hg
          unfold stPB at h
          obtain ⟨hc, h⟩ := cond_some h
          rw [Bool.and_eq_true] at hc
          have hbg : ¬ b = g := by simpa using hc.2
          exact .inl ⟨_, _, h, (callR_evT ΓRg3_ok (by kernel_rfl) (stP_ev cb cs cr cw cx db ds dr dw dx T M r0 r1 r2 r3 r4 r5 r6 r7 ip fc fp fz fs fo fd x0 x1 x2 x3 x4 x5 x6 x7 ak ar ab ai aq ad size v hc.1) rfl rfl rfl rfl).frameL [b, g] (by simpa using hbg) ⟨hb, hg, trivial⟩ rfl rfl rfl rfl rfl rfl rfl⟩
        · cases h
      · cases h
    · cases h
  · cases h
theorem stR_form (cb cs : Int) (cr cw cx : Bool) (db ds : Int) (dr dw dx : Bool) (T T2 : TypeId) (M : Int → Int) (r0 r1 r2 r3 r4 r5 r6 r7 ip : Int) (fc fp fz fs fo fd : Bool) (x0 x1 x2 x3 x4 x5 x6 x7 : Int) (ak ar ab ai aq ad : Int) (size : Int) (v : Int) :
    evF Try.prog ΓRg3 400 36 [.ptr 0 0, .agg [.v (.int .u32 r0), .v (.int .u32 r1), .v (.int .u32 r2), .v (.int .u32 r3), .v (.int .u32 r4), .v (.int .u32 r5), .v (.int .u32 r6), .v (.int .u32 r7), .v (.int .u32 ip), .v (.bool fc), .v (.bool fp), .v (.bool fz), .v (.bool fs), .v (.bool fo), .v (.bool fd), .v (.int .u64 x0), .v (.int .u64 x1), .v (.int .u64 x2), .v (.int .u64 x3), .v (.int .u64 x4), .v (.int .u64 x5), .v (.int .u64 x6), .v (.int .u64 x7)], .agg [.v (.int .i64 ak), .v (.int .i64 ar), .v (.int .i64 ab), .v (.int .i64 ai), .v (.int .i64 aq), .v (.int .u32 ad)], .v (.int .i64 size), .v (.int .u64 v)] [.cells [.ptr 1 0, .v (.int .u32 cb), .v (.int .u32 cs), .v (.bool cr), .v (.bool cw), .v (.bool cx), .v (.int .u32 db), .v (.int .u32 ds), .v (.bool dr), .v (.bool dw), .v (.bool dx)] T, .cells [.mp 2] T2, .bm .u32 .u8 M] (kTk 3) kNo =
    (bif ak != 3 then
bif in32 r0 && (in32 r1 && (in32 r2 && (in32 r3 && in64 v))) then
some
(Sv.tup
[Sv.agg
[vw ((setA ak ar 0 r0 v)), vw ((setA ak ar 1 r1 v)),
vw ((setA ak ar 2 r2 v)), vw ((setA ak ar 3 r3 v)),
vw ((setB ak ar 4 r4 v)), vw ((setB ak ar 5 r5 v)),
vw ((setB ak ar 6 r6 v)), vw ((setB ak ar 7 r7 v)),
vw ip, vb fc, vb fp, vb fz, vb fs,
vb fo, vb fd, vd ((setX ak ar 0 x0 v)),
vd ((setX ak ar 1 x1 v)), vd ((setX ak ar 2 x2 v)),
vd ((setX ak ar 3 x3 v)), vd ((setX ak ar 4 x4 v)),
vd ((setX ak ar 5 x5 v)), vd ((setX ak ar 6 x6 v)),
vd ((setX ak ar 7 x7 v))],
vi 0],
[SObj.cells
[Sv.ptr 1 0, vw cb, vw cs, vb cr,
vb cw, vb cx, vw db, vw ds,
vb dr, vb dw, vb dx]
T,
SObj.cells [Sv.mp 2] T2, SObj.bm IntKind.u32 IntKind.u8 M])
else none
else
bif in32 ad then
bif in32 db && (in32 ds && in32 (ofV ab ai aq ad [r0, r1, r2, r3, r4, r5, r6, r7])) && true then
some
(Sv.tup
[Sv.agg
[vw r0, vw r1, vw r2,
vw r3, vw r4, vw r5,
vw r6, vw r7, vw ip, vb fc,
vb fp, vb fz, vb fs, vb fo, vb fd,
vd x0, vd x1, vd x2,
vd x3, vd x4, vd x5,
vd x6, vd x7],
Sv.v
(Value.int IntKind.i64
(segE db ds (ofV ab ai aq ad [r0, r1, r2, r3, r4, r5, r6, r7]) (↑(bytesN size)) (mayV dr dw dx 1)))],
[SObj.cells
[Sv.ptr 1 0, vw cb, vw cs, vb cr,
vb cw, vb cx, vw db, vw ds,
vb dr, vb dw, vb dx]
T,
SObj.cells [Sv.mp 2] T2,
SObj.bm IntKind.u32 IntKind.u8
(stV M db ds (ofV ab ai aq ad [r0, r1, r2, r3, r4, r5, r6, r7]) size v (mayV dr dw dx 1))])
else none
else none) := by kernel_rfl
theorem stR_ev (cb cs : Int) (cr cw cx : Bool) (db ds : Int) (dr dw dx : Bool) (T T2 : TypeId) (M : Int → Int) (r0 r1 r2 r3 r4 r5 r6 r7 ip : Int) (fc fp fz fs fo fd : Bool) (x0 x1 x2 x3 x4 x5 x6 x7 : Int) (ak ar ab ai aq ad : Int) (size : Int) (v : Int) (hg : (in32 r0 && (in32 r1 && (in32 r2 && (in32 r3 && (in32 r4 && (in32 r5 && (in32 r6 && (in32 r7 && (in32 ad && (in32 db && (in32 ds && (in64 v)))))))))))) = true) : evF Try.prog ΓRg3 400 36 [.ptr 0 0, .agg [.v (.int .u32 r0), .v (.int .u32 r1), .v (.int .u32 r2), .v (.int .u32 r3), .v (.int .u32 r4), .v (.int .u32 r5), .v (.int .u32 r6), .v (.int .u32 r7), .v (.int .u32 ip), .v (.bool fc), .v (.bool fp), .v (.bool fz), .v (.bool fs), .v (.bool fo), .v (.bool fd), .v (.int .u64 x0), .v (.int .u64 x1), .v (.int .u64 x2), .v (.int .u64 x3), .v (.int .u64 x4), .v (.int .u64 x5), .v (.int .u64 x6), .v (.int .u64 x7)], .agg [.v (.int .i64 ak), .v (.int .i64 ar), .v (.int .i64 ab), .v (.int .i64 ai), .v (.int .i64 aq), .v (.int .u32 ad)], .v (.int .i64 size), .v (.int .u64 v)] [.cells [.ptr 1 0, .v (.int .u32 cb), .v (.int .u32 cs), .v (.bool cr), .v (.bool cw), .v (.bool cx), .v (.int .u32 db), .v (.int .u32 ds), .v (.bool dr), .v (.bool dw), .v (.bool dx)] T, .cells [.mp 2] T2, .bm .u32 .u8 M] (kTk 3) kNo = some (.tup [.agg [.v (.int .u32 (ansI (stPT cb cs cr cw cx db ds dr dw dx T M r0 r1 r2 r3 r4 r5 r6 r7 ip fc fp fz fs fo fd x0 x1 x2 x3 x4 x5 x6 x7 ak ar ab ai aq ad size v) 0)), .v (.int .u32 (ansI (stPT cb cs cr cw cx db ds dr dw dx T M r0 r1 r2 r3 r4 r5 r6 r7 ip fc fp fz fs fo fd x0 x1 x2 x3 x4 x5 x6 x7 ak ar ab ai aq ad size v) 1)), .v (.int .u32 (ansI (stPT cb cs cr cw cx db ds dr dw dx T M r0 r1 r2 r3 r4 r5 r6 r7 ip fc fp fz fs fo fd x0 x1 x2 x3 x4 x5 x6 x7 ak ar ab ai aq ad size v) 2)), .v (.int .u32 (ansI (stPT cb cs cr cw cx db ds dr dw dx T M r0 r1 r2 r3 r4 r5 r6 r7 ip fc fp fz fs fo fd x0 x1 x2 x3 x4 x5 x6 x7 ak ar ab ai aq ad size v) 3)), .v (.int .u32 (ansI (stPT cb cs cr cw cx db ds dr dw dx T M r0 r1 r2 r3 r4 r5 r6 r7 ip fc fp fz fs fo fd x0 x1 x2 x3 x4 x5 x6 x7 ak ar ab ai aq ad size v) 4)), .v (.int .u32 (ansI (stPT cb cs cr cw cx db ds dr dw dx T M r0 r1 r2 r3 r4 r5 r6 r7 ip fc fp fz fs fo fd x0 x1 x2 x3 x4 x5 x6 x7 ak ar ab ai aq ad size v) 5)), .v (.int .u32 (ansI (stPT cb cs cr cw cx db ds dr dw dx T M r0 r1 r2 r3 r4 r5 r6 r7 ip fc fp fz fs fo fd x0 x1 x2 x3 x4 x5 x6 x7 ak ar ab ai aq ad size v) 6)), .v (.int .u32 (ansI (stPT cb cs cr cw cx db ds dr dw dx T M r0 r1 r2 r3 r4 r5 r6 r7 ip fc fp fz fs fo fd x0 x1 x2 x3 x4 x5 x6 x7 ak ar ab ai aq ad size v) 7)), .v (.int .u32 (ansI (stPT cb cs cr cw cx db ds dr dw dx T M r0 r1 r2 r3 r4 r5 r6 r7 ip fc fp fz fs fo fd x0 x1 x2 x3 x4 x5 x6 x7 ak ar ab ai aq ad size v) 8)), .v (.bool (ansB (stPT cb cs cr cw cx db ds dr dw dx T M r0 r1 r2 r3 r4 r5 r6 r7 ip fc fp fz fs fo fd x0 x1 x2 x3 x4 x5 x6 x7 ak ar ab ai aq ad size v) 9)), .v (.bool (ansB (stPT cb cs cr cw cx db ds dr dw dx T M r0 r1 r2 r3 r4 r5 r6 r7 ip fc fp fz fs fo fd x0 x1 x2 x3 x4 x5 x6 x7 ak ar ab ai aq ad size v) 10)), .v (.bool (ansB (stPT cb cs cr cw cx db ds dr dw dx T M r0 r1 r2 r3 r4 r5 r6 r7 ip fc fp fz fs fo fd x0 x1 x2 x3 x4 x5 x6 x7 ak ar ab ai aq ad size v) 11)), .v (.bool (ansB (stPT cb cs cr cw cx db ds dr dw dx T M r0 r1 r2 r3 r4 r5 r6 r7 ip fc fp fz fs fo fd x0 x1 x2 x3 x4 x5 x6 x7 ak ar ab ai aq ad size v) 12)), .v (.bool (ansB (stPT cb cs cr cw cx db ds dr dw dx T M r0 r1 r2 r3 r4 r5 r6 r7 ip fc fp fz fs fo fd x0 x1 x2 x3 x4 x5 x6 x7 ak ar ab ai aq ad size v) 13)), .v (.bool (ansB (stPT cb cs cr cw cx db ds dr dw dx T M r0 r1 r2 r3 r4 r5 r6 r7 ip fc fp fz fs fo fd x0 x1 x2 x3 x4 x5 x6 x7 ak ar ab ai aq ad size v) 14)), .v (.int .u64 (ansI (stPT cb cs cr cw cx db ds dr dw dx T M r0 r1 r2 r3 r4 r5 r6 r7 ip fc fp fz fs fo fd x0 x1 x2 x3 x4 x5 x6 x7 ak ar ab ai aq ad size v) 15)), .v (.int .u64 (ansI (stPT cb cs cr cw cx db ds dr dw dx T M r0 r1 r2 r3 r4 r5 r6 r7 ip fc fp fz fs fo fd x0 x1 x2 x3 x4 x5 x6 x7 ak ar ab ai aq ad size v) 16)), .v (.int .u64 (ansI (stPT cb cs cr cw cx db ds dr dw dx T M r0 r1 r2 r3 r4 r5 r6 r7 ip fc fp fz fs fo fd x0 x1 x2 x3 x4 x5 x6 x7 ak ar ab ai aq ad size v) 17)), .v (.int .u64 (ansI (stPT cb cs cr cw cx db ds dr dw dx T M r0 r1 r2 r3 r4 r5 r6 r7 ip fc fp fz fs fo fd x0 x1 x2 x3 x4 x5 x6 x7 ak ar ab ai aq ad size v) 18)), .v (.int .u64 (ansI (stPT cb cs cr cw cx db ds dr dw dx T M r0 r1 r2 r3 r4 r5 r6 r7 ip fc fp fz fs fo fd x0 x1 x2 x3 x4 x5 x6 x7 ak ar ab ai aq ad size v) 19)), .v (.int .u64 (ansI (stPT cb cs cr cw cx db ds dr dw dx T M r0 r1 r2 r3 r4 r5 r6 r7 ip fc fp fz fs fo fd x0 x1 x2 x3 x4 x5 x6 x7 ak ar ab ai aq ad size v) 20)), .v (.int .u64 (ansI (stPT cb cs cr cw cx db ds dr dw dx T M r0 r1 r2 r3 r4 r5 r6 r7 ip fc fp fz fs fo fd x0 x1 x2 x3 x4 x5 x6 x7 ak ar ab ai aq ad size v) 21)), .v (.int .u64 (ansI (stPT cb cs cr cw cx db ds dr dw dx T M r0 r1 r2 r3 r4 r5 r6 r7 ip fc fp fz fs fo fd x0 x1 x2 x3 x4 x5 x6 x7 ak ar ab ai aq ad size v) 22))], .v (.int .i64 (ansI (stPT cb cs cr cw cx db ds dr dw dx T M r0 r1 r2 r3 r4 r5 r6 r7 ip fc fp fz fs fo fd x0 x1 x2 x3 x4 x5 x6 x7 ak ar ab ai aq ad size v) 23))], [.cells [.ptr 1 0, .v (.int .u32 cb), .v (.int .u32 cs), .v (.bool cr), .v (.bool cw), .v (.bool cx), .v (.int .u32 db), .v (.int .u32 ds), .v (.bool dr), .v (.bool dw), .v (.bool dx)] T, .cells [.mp 2] T2, .bm .u32 .u8 (ansM (stPT cb cs cr cw cx db ds dr dw dx T M r0 r1 r2 r3 r4 r5 r6 r7 ip fc fp fz fs fo fd x0 x1 x2 x3 x4 x5 x6 x7 ak ar ab ai aq ad size v) 1)]) := by
  rw [stR_form]
  rw [stP_tree]
  simp only [Bool.and_eq_true] at hg
  simp only [hg, ofV_in, Bool.and_self, Bool.and_true, Bool.true_and, cond_true]
  simp only [bne]
  cases hk : (ak == 3) <;> (simp only [cond_true, cond_false, Bool.not_true, Bool.not_false]; first | rfl | (cases hs : (segE db ds (ofV ab ai aq ad [r0, r1, r2, r3, r4, r5, r6, r7]) (bytesN size) (mayV dr dw dx 1) == 0) <;> simp only [hs, cond_true, cond_false, Bool.not_true, Bool.not_false] <;> rfl))
noncomputable def stRB (R : Type) (m : List SObj) (k : Sv → List SObj → Option R) (b : Nat) (g : Nat) (cb : Int) (cs : Int) (cr : Bool) (cw : Bool) (cx : Bool) (db : Int) (ds : Int) (dr : Bool) (dw : Bool) (dx : Bool) (T : TypeId) (M : Int → Int) (j : Nat) (T2 : TypeId) (r0 : Int) (r1 : Int) (r2 : Int) (r3 : Int) (r4 : Int) (r5 : Int) (r6 : Int) (r7 : Int) (ip : Int) (fc : Bool) (fp : Bool) (fz : Bool) (fs : Bool) (fo : Bool) (fd : Bool) (x0 : Int) (x1 : Int) (x2 : Int) (x3 : Int) (x4 : Int) (x5 : Int) (x6 : Int) (x7 : Int) (ak : Int) (ar : Int) (ab : Int) (ai : Int) (aq : Int) (ad : Int) (size : Int) (v : Int) : Option R :=
  bif (in32 r0 && (in32 r1 && (in32 r2 && (in32 r3 && (in32 r4 && (in32 r5 && (in32 r6 && (in32 r7 && (in32 ad && (in32 db && (in32 ds && (in64 v)))))))))))) && (!(b == g) && (!(b == j) && !(g == j))) then k (.tup [.agg [.v (.int .u32 (ansI (stPT cb cs cr cw cx db ds dr dw dx T M r0 r1 r2 r3 r4 r5 r6 r7 ip fc fp fz fs fo fd x0 x1 x2 x3 x4 x5 x6 x7 ak ar ab ai aq ad size v) 0)), .v (.int .u32 (ansI (stPT cb cs cr cw cx db ds dr dw dx T M r0 r1 r2 r3 r4 r5 r6 r7 ip fc fp fz fs fo fd x0 x1 x2 x3 x4 x5 x6 x7 ak ar ab ai aq ad size v) 1)), .v (.int .u32 (ansI (stPT cb cs cr cw cx db ds dr dw dx T M r0 r1 r2 r3 r4 r5 r6 r7 ip fc fp fz fs fo fd x0 x1 x2 x3 x4 x5 x6 x7 ak ar ab ai aq ad size v) 2)), .v (.int .u32 (ansI (stPT cb cs cr cw cx db ds dr dw dx T M r0 r1 r2 r3 r4 r5 r6 r7 ip fc fp fz fs fo fd x0 x1 x2 x3 x4 x5 x6 x7 ak ar ab ai aq ad size v) 3)), .v (.int .u32 (ansI (stPT cb cs cr cw cx db ds dr dw dx T M r0 r1 r2 r3 r4 r5 r6 r7 ip fc fp fz fs fo fd x0 x1 x2 x3 x4 x5 x6 x7 ak ar ab ai aq ad size v) 4)), .v (.int .u32 (ansI (stPT cb cs cr cw cx db ds dr dw dx T M r0 r1 r2 r3 r4 r5 r6 r7 ip fc fp fz fs fo fd x0 x1 x2 x3 x4 x5 x6 x7 ak ar ab ai aq ad size v) 5)), .v (.int .u32 (ansI (stPT cb cs cr cw cx db ds dr dw dx T M r0 r1 r2 r3 r4 r5 r6 r7 ip fc fp fz fs fo fd x0 x1 x2 x3 x4 x5 x6 x7 ak ar ab ai aq ad size v) 6)), .v (.int .u32 (ansI (stPT cb cs cr cw cx db ds dr dw dx T M r0 r1 r2 r3 r4 r5 r6 r7 ip fc fp fz fs fo fd x0 x1 x2 x3 x4 x5 x6 x7 ak ar ab ai aq ad size v) 7)), .v (.int .u32 (ansI (stPT cb cs cr cw cx db ds dr dw dx T M r0 r1 r2 r3 r4 r5 r6 r7 ip fc fp fz fs fo fd x0 x1 x2 x3 x4 x5 x6 x7 ak ar ab ai aq ad size v) 8)), .v (.bool (ansB (stPT cb cs cr cw cx db ds dr dw dx T M r0 r1 r2 r3 r4 r5 r6 r7 ip fc fp fz fs fo fd x0 x1 x2 x3 x4 x5 x6 x7 ak ar ab ai aq ad size v) 9)), .v (.bool (ansB (stPT cb cs cr cw cx db ds dr dw dx T M r0 r1 r2 r3 r4 r5 r6 r7 ip fc fp fz fs fo fd x0 x1 x2 x3 x4 x5 x6 x7 ak ar ab ai aq ad size v) 10)), .v (.bool (ansB (stPT cb cs cr cw cx db ds dr dw dx T M r0 r1 r2 r3 r4 r5 r6 r7 ip fc fp fz fs fo fd x0 x1 x2 x3 x4 x5 x6 x7 ak ar ab ai aq ad size v) 11)), .v (.bool (ansB (stPT cb cs cr cw cx db ds dr dw dx T M r0 r1 r2 r3 r4 r5 r6 r7 ip fc fp fz fs fo fd x0 x1 x2 x3 x4 x5 x6 x7 ak ar ab ai aq ad size v) 12)), .v (.bool (ansB (stPT cb cs cr cw cx db ds dr dw dx T M r0 r1 r2 r3 r4 r5 r6 r7 ip fc fp fz fs fo fd x0 x1 x2 x3 x4 x5 x6 x7 ak ar ab ai aq ad size v) 13)), .v (.bool (ansB (stPT cb cs cr cw cx db ds dr dw dx T M r0 r1 r2 r3 r4 r5 r6 r7 ip fc fp fz fs fo fd x0 x1 x2 x3 x4 x5 x6 x7 ak ar ab ai aq ad size v) 14)), .v (.int .u64 (ansI (stPT cb cs cr cw cx db ds dr dw dx T M r0 r1 r2 r3 r4 r5 r6 r7 ip fc fp fz fs fo fd x0 x1 x2 x3 x4 x5 x6 x7 ak ar ab ai aq ad size v) 15)), .v (.int .u64 (ansI (stPT cb cs cr cw cx db ds dr dw dx T M r0 r1 r2 r3 r4 r5 r6 r7 ip fc fp fz fs fo fd x0 x1 x2 x3 x4 x5 x6 x7 ak ar ab ai aq ad size v) 16)), .v (.int .u64 (ansI (stPT cb cs cr cw cx db ds dr dw dx T M r0 r1 r2 r3 r4 r5 r6 r7 ip fc fp fz fs fo fd x0 x1 x2 x3 x4 x5 x6 x7 ak ar ab ai aq ad size v) 17)), .v (.int .u64 (ansI (stPT cb cs cr cw cx db ds dr dw dx T M r0 r1 r2 r3 r4 r5 r6 r7 ip fc fp fz fs fo fd x0 x1 x2 x3 x4 x5 x6 x7 ak ar ab ai aq ad size v) 18)), .v (.int .u64 (ansI (stPT cb cs cr cw cx db ds dr dw dx T M r0 r1 r2 r3 r4 r5 r6 r7 ip fc fp fz fs fo fd x0 x1 x2 x3 x4 x5 x6 x7 ak ar ab ai aq ad size v) 19)), .v (.int .u64 (ansI (stPT cb cs cr cw cx db ds dr dw dx T M r0 r1 r2 r3 r4 r5 r6 r7 ip fc fp fz fs fo fd x0 x1 x2 x3 x4 x5 x6 x7 ak ar ab ai aq ad size v) 20)), .v (.int .u64 (ansI (stPT cb cs cr cw cx db ds dr dw dx T M r0 r1 r2 r3 r4 r5 r6 r7 ip fc fp fz fs fo fd x0 x1 x2 x3 x4 x5 x6 x7 ak ar ab ai aq ad size v) 21)), .v (.int .u64 (ansI (stPT cb cs cr cw cx db ds dr dw dx T M r0 r1 r2 r3 r4 r5 r6 r7 ip fc fp fz fs fo fd x0 x1 x2 x3 x4 x5 x6 x7 ak ar ab ai aq ad size v) 22))], .v (.int .i64 (ansI (stPT cb cs cr cw cx db ds dr dw dx T M r0 r1 r2 r3 r4 r5 r6 r7 ip fc fp fz fs fo fd x0 x1 x2 x3 x4 x5 x6 x7 ak ar ab ai aq ad size v) 23))]) ((((m.set b (.cells [.ptr g 0, .v (.int .u32 cb), .v (.int .u32 cs), .v (.bool cr), .v (.bool cw), .v (.bool cx), .v (.int .u32 db), .v (.int .u32 ds), .v (.bool dr), .v (.bool dw), .v (.bool dx)] T)).set g (.cells [.mp j] T2)).set j (.bm .u32 .u8 (ansM (stPT cb cs cr cw cx db ds dr dw dx T M r0 r1 r2 r3 r4 r5 r6 r7 ip fc fp fz fs fo fd x0 x1 x2 x3 x4 x5 x6 x7 ak ar ab ai aq ad size v) 1))) ++ []) else none
noncomputable def stRS : Ev.Spec := fun R args m k kp => match args with
  | [.ptr b 0, .agg A0, .agg [.v (.int .i64 ak), .v (.int .i64 ar), .v (.int .i64 ab), .v (.int .i64 ai), .v (.int .i64 aq), .v (.int .u32 ad)], .v (.int .i64 size), .v (.int .u64 v)] => (match A0 with
    | [.v (.int .u32 r0), .v (.int .u32 r1), .v (.int .u32 r2), .v (.int .u32 r3), .v (.int .u32 r4), .v (.int .u32 r5), .v (.int .u32 r6), .v (.int .u32 r7), .v (.int .u32 ip), .v (.bool fc), .v (.bool fp), .v (.bool fz), .v (.bool fs), .v (.bool fo), .v (.bool fd), .v (.int .u64 x0), .v (.int .u64 x1), .v (.int .u64 x2), .v (.int .u64 x3), .v (.int .u64 x4), .v (.int .u64 x5), .v (.int .u64 x6), .v (.int .u64 x7)] => (match m[b]? with
    | some (.cells [.ptr g 0, .v (.int .u32 cb), .v (.int .u32 cs), .v (.bool cr), .v (.bool cw), .v (.bool cx), .v (.int .u32 db), .v (.int .u32 ds), .v (.bool dr), .v (.bool dw), .v (.bool dx)] T) => (match m[g]? with
      | some (.cells [.mp j] T2) => (match m[j]? with
        | some (.bm .u32 .u8 M) => stRB R m k b g cb cs cr cw cx db ds dr dw dx T M j T2 r0 r1 r2 r3 r4 r5 r6 r7 ip fc fp fz fs fo fd x0 x1 x2 x3 x4 x5 x6 x7 ak ar ab ai aq ad size v
        | _ => none)
      | _ => none)
    | _ => none)
    | _ => none)
  | _ => none
set_option maxHeartbeats 4000000 in
theorem stRS_ok : SpecOk Try.prog XM 36 stRS := by
  intro R args m k kp r h
  unfold stRS at h
  split at h
  · split at h
    · split at h
      · split at h
        · split at h
          · rename_i _ b ak ar ab ai aq ad size v _ r0 r1 r2 r3 r4 r5 r6 r7 ip fc fp fz fs fo fd x0 x1 x2 x3 x4 x5 x6 x7 _ g cb cs cr cw cx db ds dr dw dx T hb _ j T2 hg _ M hj
            unfold stRB at h
            obtain ⟨hc, h⟩ := cond_some h
            rw [Bool.and_eq_true] at hc
            have hd : ¬ b = g ∧ ¬ b = j ∧ ¬ g = j := by simpa using hc.2
            exact .inl ⟨_, _, h, (callR_evT ΓRg3_ok (by kernel_rfl) (stR_ev cb cs cr cw cx db ds dr dw dx T T2 M r0 r1 r2 r3 r4 r5 r6 r7 ip fc fp fz fs fo fd x0 x1 x2 x3 x4 x5 x6 x7 ak ar ab ai aq ad size v hc.1) rfl rfl rfl rfl).frameL [b, g, j] (by simp; exact ⟨⟨hd.1, hd.2.1⟩, hd.2.2⟩) ⟨hb, hg, hj, trivial⟩ rfl rfl rfl rfl rfl rfl rfl⟩
          · cases h
        · cases h
      · cases h
    · cases h
  · cases h
noncomputable def ΓAd2 : Env := ((((ΓRg3.add 32 ldPS).add 35 ldRS).add 31 stPS).add 36 stRS)
theorem ΓAd2_ok : EnvOk Try.prog X0 ΓAd2 := ((((ΓRg3_ok.add (by kernel_rfl) ldPS_ok).add (by kernel_rfl) ldRS_ok).add (by kernel_rfl) stPS_ok).add (by kernel_rfl) stRS_ok)
end Go.Proofs.Ytjcbgjakomalaaa
