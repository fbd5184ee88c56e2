/- What operands hold, what a store makes of them, in closed form. -/
import Derived.Test.YtpgdpoloipifeaaEvV
import Derived.Test.YtpgdpoloipifeaaCRg3
import Derived.Test.YtpgdpoloipifeaaCMm6
import Derived.Test.YtpgdpoloipifeaaNSeat
namespace Go.Proofs.Ytpgdpoloipifeaa
open Go Go.Ev
set_option linter.unusedVariables false
set_option linter.unusedSimpArgs false
set_option maxRecDepth 100000
/-- Of an operand of memory, or of another. -/
def ldW (k x y : Int) : Int := bif k == 3 then x else y
def erW (k e : Int) : Int := bif k == 3 then e else 0
def memW (k : Int) (M N : Int → Int) : Int → Int := bif k == 3 then M else N
theorem ldW_in {k x y : Int} (h : in32 x = true) (h2 : in32 y = true) : in32 (ldW k x y) = true := by
  unfold ldW; cases k == 3
  · exact h2
  · exact h
theorem ldW_in64 {k x y : Int} (h : in64 x = true) (h2 : in64 y = true) : in64 (ldW k x y) = true := by
  unfold ldW; cases k == 3
  · exact h2
  · exact h
abbrev cCAd4z0 (r0 r1 r2 r3 r4 r5 r6 r7 ip : Int) (fc fp fz fs fo fd : Bool) (x0 x1 x2 x3 x4 x5 x6 x7 : Int) : List Sv := [.v (.int .u32 r0), .v (.int .u32 r1), .v (.int .u32 r2), .v (.int .u32 r3), .v (.int .u32 r4), .v (.int .u32 r5), .v (.int .u32 r6), .v (.int .u32 r7), .v (.int .u32 ip), .v (.bool fc), .v (.bool fp), .v (.bool fz), .v (.bool fs), .v (.bool fo), .v (.bool fd), .v (.int .u64 x0), .v (.int .u64 x1), .v (.int .u64 x2), .v (.int .u64 x3), .v (.int .u64 x4), .v (.int .u64 x5), .v (.int .u64 x6), .v (.int .u64 x7)]
abbrev cCAd4z1 (cb cs : Int) (cr cw cx : Bool) (db ds : Int) (dr dw dx : Bool) : List Sv := [.ptr 1 0, .v (.int .u32 cb), .v (.int .u32 cs), .v (.bool cr), .v (.bool cw), .v (.bool cx), .v (.int .u32 db), .v (.int .u32 ds), .v (.bool dr), .v (.bool dw), .v (.bool dx)]
abbrev cCAd4z2 (ak ar ab ai aq ad : Int) : List Sv := [.v (.int .i64 ak), .v (.int .i64 ar), .v (.int .i64 ab), .v (.int .i64 ai), .v (.int .i64 aq), .v (.int .u32 ad)]
abbrev cCAd4z4 (cb cs : Int) (cr cw cx : Bool) (db ds : Int) (dr dw dx : Bool) : List Sv := [Sv.ptr 1 0, vw cb, vw cs, vb cr, vb cw, vb cx, vw db, vw ds, vb dr, vb dw, vb dx]
theorem ldC_form (cb cs : Int) (cr cw cx : Bool) (db ds : Int) (dr dw dx : Bool) (T : TypeId) (M : Int → Int) (r0 r1 r2 r3 r4 r5 r6 r7 ip : Int) (fc fp fz fs fo fd : Bool) (x0 x1 x2 x3 x4 x5 x6 x7 ak ar ab ai aq ad size : Int) :
    evF Try.prog ΓRg3 400 98 [.ptr 0 0, .agg (cCAd4z0 r0 r1 r2 r3 r4 r5 r6 r7 ip fc fp fz fs fo fd x0 x1 x2 x3 x4 x5 x6 x7), .agg (cCAd4z2 ak ar ab ai aq ad), .v (.int .i64 size)] [.cells (cCAd4z1 cb cs cr cw cx db ds dr dw dx) T, .ext 0 M] (kTk 2) kNo =
    (bif ak == 3 then
bif in32 db && (in32 ds && in32 (ofV ab ai aq ad [r0, r1, r2, r3, r4, r5, r6, r7])) && true then
some
(Sv.tup
[vd ((ldV M db ds (ofV ab ai aq ad [r0, r1, r2, r3, r4, r5, r6, r7]) size (mayV dr dw dx 0))),
Sv.v
(Value.int IntKind.i64
(segE db ds (ofV ab ai aq ad [r0, r1, r2, r3, r4, r5, r6, r7]) (↑(bytesN size)) (mayV dr dw dx 0)))],
[SObj.cells
(cCAd4z4 cb cs cr cw cx db ds dr dw dx)
T,
SObj.ext 0 M])
else none
else
bif in32 r0 && (in32 r1 && (in32 r2 && (in32 r3 && (in32 r4 && (in32 r5 && (in32 r6 && (in32 r7 && in32 ad))))))) then
some
(Sv.tup
[vd ((getV ak ar ad r0 r1 r2 r3 r4 r5 r6 r7 x0 x1 x2 x3 x4 x5 x6 x7)),
vi 0],
[SObj.cells
(cCAd4z4 cb cs cr cw cx db ds dr dw dx)
T,
SObj.ext 0 M])
else none) := by kernel_rfl
theorem ldC_ev (cb cs : Int) (cr cw cx : Bool) (db ds : Int) (dr dw dx : Bool) (T : TypeId) (M : Int → Int) (r0 r1 r2 r3 r4 r5 r6 r7 ip : Int) (fc fp fz fs fo fd : Bool) (x0 x1 x2 x3 x4 x5 x6 x7 ak ar ab ai aq ad size : Int) (hg : (in32 r0 && (in32 r1 && (in32 r2 && (in32 r3 && (in32 r4 && (in32 r5 && (in32 r6 && (in32 r7 && (in32 ad && (in32 db && (in32 ds))))))))))) = true) : evF Try.prog ΓRg3 400 98 [.ptr 0 0, .agg (cCAd4z0 r0 r1 r2 r3 r4 r5 r6 r7 ip fc fp fz fs fo fd x0 x1 x2 x3 x4 x5 x6 x7), .agg (cCAd4z2 ak ar ab ai aq ad), .v (.int .i64 size)] [.cells (cCAd4z1 cb cs cr cw cx db ds dr dw dx) T, .ext 0 M] (kTk 2) kNo = some (.tup [.v (.int .u64 (ldW ak (ldV M db ds (ofV ab ai aq ad [r0, r1, r2, r3, r4, r5, r6, r7]) size (mayV dr dw dx 0)) (getV ak ar ad r0 r1 r2 r3 r4 r5 r6 r7 x0 x1 x2 x3 x4 x5 x6 x7))), .v (.int .i64 (erW ak (segE db ds (ofV ab ai aq ad [r0, r1, r2, r3, r4, r5, r6, r7]) ((bytesN size : Nat) : Int) (mayV dr dw dx 0))))], [.cells (cCAd4z1 cb cs cr cw cx db ds dr dw dx) T, .ext 0 M]) := by
  rw [ldC_form]
  simp only [Bool.and_eq_true] at hg
  simp only [hg, ofV_in, Bool.and_self, Bool.and_true, Bool.true_and, cond_true, bne]
  unfold ldW erW
  cases hk : (ak == 3) <;> simp only [cond_true, cond_false, Bool.not_true, Bool.not_false, beq_self_eq_true] <;> rfl
abbrev cCAd4z3 (g : Nat) (cb cs : Int) (cr cw cx : Bool) (db ds : Int) (dr dw dx : Bool) : List Sv := [.ptr g 0, .v (.int .u32 cb), .v (.int .u32 cs), .v (.bool cr), .v (.bool cw), .v (.bool cx), .v (.int .u32 db), .v (.int .u32 ds), .v (.bool dr), .v (.bool dw), .v (.bool dx)]
noncomputable def ldCB (R : Type) (m : List SObj) (k : Sv → List SObj → Option R) (b g : Nat) (cb cs : Int) (cr cw cx : Bool) (db ds : Int) (dr dw dx : Bool) (T : TypeId) (M : Int → Int) (r0 r1 r2 r3 r4 r5 r6 r7 ip : Int) (fc fp fz fs fo fd : Bool) (x0 x1 x2 x3 x4 x5 x6 x7 ak ar ab ai aq ad size : Int) : Option R :=
  bif (in32 r0 && (in32 r1 && (in32 r2 && (in32 r3 && (in32 r4 && (in32 r5 && (in32 r6 && (in32 r7 && (in32 ad && (in32 db && (in32 ds))))))))))) && !(b == g) then k (.tup [.v (.int .u64 (ldW ak (ldV M db ds (ofV ab ai aq ad [r0, r1, r2, r3, r4, r5, r6, r7]) size (mayV dr dw dx 0)) (getV ak ar ad r0 r1 r2 r3 r4 r5 r6 r7 x0 x1 x2 x3 x4 x5 x6 x7))), .v (.int .i64 (erW ak (segE db ds (ofV ab ai aq ad [r0, r1, r2, r3, r4, r5, r6, r7]) ((bytesN size : Nat) : Int) (mayV dr dw dx 0))))]) (((m.set b (.cells (cCAd4z3 g cb cs cr cw cx db ds dr dw dx) T)).set g (.ext 0 M)) ++ []) else none
noncomputable def ldCS : Ev.Spec := fun R args m k kp => match args with
  | [.ptr b 0, .agg A0, .agg [.v (.int .i64 ak), .v (.int .i64 ar), .v (.int .i64 ab), .v (.int .i64 ai), .v (.int .i64 aq), .v (.int .u32 ad)], .v (.int .i64 size)] => (match A0 with
    | [.v (.int .u32 r0), .v (.int .u32 r1), .v (.int .u32 r2), .v (.int .u32 r3), .v (.int .u32 r4), .v (.int .u32 r5), .v (.int .u32 r6), .v (.int .u32 r7), .v (.int .u32 ip), .v (.bool fc), .v (.bool fp), .v (.bool fz), .v (.bool fs), .v (.bool fo), .v (.bool fd), .v (.int .u64 x0), .v (.int .u64 x1), .v (.int .u64 x2), .v (.int .u64 x3), .v (.int .u64 x4), .v (.int .u64 x5), .v (.int .u64 x6), .v (.int .u64 x7)] => (match m[b]? with
    | some (.cells [.ptr g 0, .v (.int .u32 cb), .v (.int .u32 cs), .v (.bool cr), .v (.bool cw), .v (.bool cx), .v (.int .u32 db), .v (.int .u32 ds), .v (.bool dr), .v (.bool dw), .v (.bool dx)] T) => (match m[g]? with
      | some (.ext 0 M) => ldCB R m k b g cb cs cr cw cx db ds dr dw dx T M r0 r1 r2 r3 r4 r5 r6 r7 ip fc fp fz fs fo fd x0 x1 x2 x3 x4 x5 x6 x7 ak ar ab ai aq ad size
      | _ => none)
    | _ => none)
    | _ => none)
  | _ => none
set_option maxHeartbeats 4000000 in
theorem ldCS_ok : SpecOk Try.prog XM 98 ldCS := by
  intro R args m k kp r h
  unfold ldCS at h
  split at h
  · split at h
    · split at h
      · split at h
        · rename_i _ b ak ar ab ai aq ad size _ r0 r1 r2 r3 r4 r5 r6 r7 ip fc fp fz fs fo fd x0 x1 x2 x3 x4 x5 x6 x7 _ g cb cs cr cw cx db ds dr dw dx T hb _ M hg
          unfold ldCB at h
          obtain ⟨hc, h⟩ := cond_some h
          rw [Bool.and_eq_true] at hc
          have hbg : ¬ b = g := by simpa using hc.2
          exact .inl ⟨_, _, h, (callR_evT ΓRg3_ok (by kernel_rfl) (ldC_ev cb cs cr cw cx db ds dr dw dx T M r0 r1 r2 r3 r4 r5 r6 r7 ip fc fp fz fs fo fd x0 x1 x2 x3 x4 x5 x6 x7 ak ar ab ai aq ad size hc.1) rfl rfl rfl rfl).frameL [b, g] (by simpa using hbg) ⟨hb, hg, trivial⟩ rfl rfl rfl rfl rfl rfl rfl⟩
        · cases h
      · cases h
    · cases h
  · cases h
theorem ldD_form (cb cs : Int) (cr cw cx : Bool) (db ds : Int) (dr dw dx : Bool) (T T2 : TypeId) (M : Int → Int) (r0 r1 r2 r3 r4 r5 r6 r7 ip : Int) (fc fp fz fs fo fd : Bool) (x0 x1 x2 x3 x4 x5 x6 x7 ak ar ab ai aq ad size : Int) :
    evF Try.prog ΓRg3 400 59 [.ptr 0 0, .agg (cCAd4z0 r0 r1 r2 r3 r4 r5 r6 r7 ip fc fp fz fs fo fd x0 x1 x2 x3 x4 x5 x6 x7), .agg (cCAd4z2 ak ar ab ai aq ad), .v (.int .i64 size)] [.cells (cCAd4z1 cb cs cr cw cx db ds dr dw dx) T, .cells [.mp 2] T2, .bm .u32 .u8 M] (kTk 3) kNo =
    (bif ak != 3 then
bif in32 r0 && (in32 r1 && (in32 r2 && (in32 r3 && (in32 r4 && (in32 r5 && (in32 r6 && (in32 r7 && in32 ad))))))) then
some
(Sv.tup
[vd ((getV ak ar ad r0 r1 r2 r3 r4 r5 r6 r7 x0 x1 x2 x3 x4 x5 x6 x7)), vb true],
[SObj.cells
(cCAd4z4 cb cs cr cw cx db ds dr dw dx)
T,
SObj.cells [Sv.mp 2] T2, SObj.bm IntKind.u32 IntKind.u8 M])
else none
else
bif in32 ad then
bif in32 db && (in32 ds && in32 (ofV ab ai aq ad [r0, r1, r2, r3, r4, r5, r6, r7])) && true then
some
(Sv.tup
[vd ((ldV M db ds (ofV ab ai aq ad [r0, r1, r2, r3, r4, r5, r6, r7]) size (mayV dr dw dx 0))),
Sv.v
(Value.bool (segE db ds (ofV ab ai aq ad [r0, r1, r2, r3, r4, r5, r6, r7]) (↑(bytesN size)) (mayV dr dw dx 0) == 0))],
[SObj.cells
(cCAd4z4 cb cs cr cw cx db ds dr dw dx)
T,
SObj.cells [Sv.mp 2] T2, SObj.bm IntKind.u32 IntKind.u8 M])
else none
else none) := by kernel_rfl
theorem ldD_ev (cb cs : Int) (cr cw cx : Bool) (db ds : Int) (dr dw dx : Bool) (T T2 : TypeId) (M : Int → Int) (r0 r1 r2 r3 r4 r5 r6 r7 ip : Int) (fc fp fz fs fo fd : Bool) (x0 x1 x2 x3 x4 x5 x6 x7 ak ar ab ai aq ad size : Int) (hg : (in32 r0 && (in32 r1 && (in32 r2 && (in32 r3 && (in32 r4 && (in32 r5 && (in32 r6 && (in32 r7 && (in32 ad && (in32 db && (in32 ds))))))))))) = true) : evF Try.prog ΓRg3 400 59 [.ptr 0 0, .agg (cCAd4z0 r0 r1 r2 r3 r4 r5 r6 r7 ip fc fp fz fs fo fd x0 x1 x2 x3 x4 x5 x6 x7), .agg (cCAd4z2 ak ar ab ai aq ad), .v (.int .i64 size)] [.cells (cCAd4z1 cb cs cr cw cx db ds dr dw dx) T, .cells [.mp 2] T2, .bm .u32 .u8 M] (kTk 3) kNo = some (.tup [.v (.int .u64 (ldW ak (ldV M db ds (ofV ab ai aq ad [r0, r1, r2, r3, r4, r5, r6, r7]) size (mayV dr dw dx 0)) (getV ak ar ad r0 r1 r2 r3 r4 r5 r6 r7 x0 x1 x2 x3 x4 x5 x6 x7))), .v (.bool ((erW ak (segE db ds (ofV ab ai aq ad [r0, r1, r2, r3, r4, r5, r6, r7]) ((bytesN size : Nat) : Int) (mayV dr dw dx 0))) == 0))], [.cells (cCAd4z1 cb cs cr cw cx db ds dr dw dx) T, .cells [.mp 2] T2, .bm .u32 .u8 M]) := by
  rw [ldD_form]
  simp only [Bool.and_eq_true] at hg
  simp only [hg, ofV_in, Bool.and_self, Bool.and_true, Bool.true_and, cond_true, bne]
  unfold ldW erW
  cases hk : (ak == 3) <;> simp only [cond_true, cond_false, Bool.not_true, Bool.not_false, beq_self_eq_true] <;> rfl
noncomputable def ldDB (R : Type) (m : List SObj) (k : Sv → List SObj → Option R) (b g : Nat) (cb cs : Int) (cr cw cx : Bool) (db ds : Int) (dr dw dx : Bool) (T : TypeId) (M : Int → Int) (j : Nat) (T2 : TypeId) (r0 r1 r2 r3 r4 r5 r6 r7 ip : Int) (fc fp fz fs fo fd : Bool) (x0 x1 x2 x3 x4 x5 x6 x7 ak ar ab ai aq ad size : Int) : Option R :=
  bif (in32 r0 && (in32 r1 && (in32 r2 && (in32 r3 && (in32 r4 && (in32 r5 && (in32 r6 && (in32 r7 && (in32 ad && (in32 db && (in32 ds))))))))))) && (!(b == g) && (!(b == j) && !(g == j))) then k (.tup [.v (.int .u64 (ldW ak (ldV M db ds (ofV ab ai aq ad [r0, r1, r2, r3, r4, r5, r6, r7]) size (mayV dr dw dx 0)) (getV ak ar ad r0 r1 r2 r3 r4 r5 r6 r7 x0 x1 x2 x3 x4 x5 x6 x7))), .v (.bool ((erW ak (segE db ds (ofV ab ai aq ad [r0, r1, r2, r3, r4, r5, r6, r7]) ((bytesN size : Nat) : Int) (mayV dr dw dx 0))) == 0))]) ((((m.set b (.cells (cCAd4z3 g cb cs cr cw cx db ds dr dw dx) T)).set g (.cells [.mp j] T2)).set j (.bm .u32 .u8 M)) ++ []) else none
noncomputable def ldDS : Ev.Spec := fun R args m k kp => match args with
  | [.ptr b 0, .agg A0, .agg [.v (.int .i64 ak), .v (.int .i64 ar), .v (.int .i64 ab), .v (.int .i64 ai), .v (.int .i64 aq), .v (.int .u32 ad)], .v (.int .i64 size)] => (match A0 with
    | [.v (.int .u32 r0), .v (.int .u32 r1), .v (.int .u32 r2), .v (.int .u32 r3), .v (.int .u32 r4), .v (.int .u32 r5), .v (.int .u32 r6), .v (.int .u32 r7), .v (.int .u32 ip), .v (.bool fc), .v (.bool fp), .v (.bool fz), .v (.bool fs), .v (.bool fo), .v (.bool fd), .v (.int .u64 x0), .v (.int .u64 x1), .v (.int .u64 x2), .v (.int .u64 x3), .v (.int .u64 x4), .v (.int .u64 x5), .v (.int .u64 x6), .v (.int .u64 x7)] => (match m[b]? with
    | some (.cells [.ptr g 0, .v (.int .u32 cb), .v (.int .u32 cs), .v (.bool cr), .v (.bool cw), .v (.bool cx), .v (.int .u32 db), .v (.int .u32 ds), .v (.bool dr), .v (.bool dw), .v (.bool dx)] T) => (match m[g]? with
      | some (.cells [.mp j] T2) => (match m[j]? with
        | some (.bm .u32 .u8 M) => ldDB R m k b g cb cs cr cw cx db ds dr dw dx T M j T2 r0 r1 r2 r3 r4 r5 r6 r7 ip fc fp fz fs fo fd x0 x1 x2 x3 x4 x5 x6 x7 ak ar ab ai aq ad size
        | _ => none)
      | _ => none)
    | _ => none)
    | _ => none)
  | _ => none
set_option maxHeartbeats 4000000 in
theorem ldDS_ok : SpecOk Try.prog XM 59 ldDS := by
  intro R args m k kp r h
  unfold ldDS at h
  split at h
  · split at h
    · split at h
      · split at h
        · split at h
          · rename_i _ b ak ar ab ai aq ad size _ r0 r1 r2 r3 r4 r5 r6 r7 ip fc fp fz fs fo fd x0 x1 x2 x3 x4 x5 x6 x7 _ g cb cs cr cw cx db ds dr dw dx T hb _ j T2 hg _ M hj
            unfold ldDB at h
            obtain ⟨hc, h⟩ := cond_some h
            rw [Bool.and_eq_true] at hc
            have hd : ¬ b = g ∧ ¬ b = j ∧ ¬ g = j := by simpa using hc.2
            exact .inl ⟨_, _, h, (callR_evT ΓRg3_ok (by kernel_rfl) (ldD_ev cb cs cr cw cx db ds dr dw dx T T2 M r0 r1 r2 r3 r4 r5 r6 r7 ip fc fp fz fs fo fd x0 x1 x2 x3 x4 x5 x6 x7 ak ar ab ai aq ad size hc.1) rfl rfl rfl rfl).frameL [b, g, j] (by simp; exact ⟨⟨hd.1, hd.2.1⟩, hd.2.2⟩) ⟨hb, hg, hj, trivial⟩ rfl rfl rfl rfl rfl rfl rfl⟩
          · cases h
        · cases h
      · cases h
    · cases h
  · cases h
theorem stC_form (cb cs : Int) (cr cw cx : Bool) (db ds : Int) (dr dw dx : Bool) (T : TypeId) (M : Int → Int) (r0 r1 r2 r3 r4 r5 r6 r7 ip : Int) (fc fp fz fs fo fd : Bool) (x0 x1 x2 x3 x4 x5 x6 x7 ak ar ab ai aq ad size v : Int) :
    evF Try.prog ΓRg3 400 70 [.ptr 0 0, .agg (cCAd4z0 r0 r1 r2 r3 r4 r5 r6 r7 ip fc fp fz fs fo fd x0 x1 x2 x3 x4 x5 x6 x7), .agg (cCAd4z2 ak ar ab ai aq ad), .v (.int .i64 size), .v (.int .u64 v)] [.cells (cCAd4z1 cb cs cr cw cx db ds dr dw dx) T, .ext 0 M] (kTk 2) kNo =
    (bif ak == 3 then
bif in32 db && (in32 ds && in32 (ofV ab ai aq ad [r0, r1, r2, r3, r4, r5, r6, r7])) && true then
some
(Sv.tup
[Sv.agg
[vw r0, vw r1, vw r2,
vw r3, vw r4, vw r5,
vw r6, vw r7, vw ip, vb fc,
vb fp, vb fz, vb fs, vb fo, vb fd,
vd x0, vd x1, vd x2,
vd x3, vd x4, vd x5,
vd x6, vd x7],
Sv.v
(Value.int IntKind.i64
(segE db ds (ofV ab ai aq ad [r0, r1, r2, r3, r4, r5, r6, r7]) (↑(bytesN size)) (mayV dr dw dx 1)))],
[SObj.cells
(cCAd4z4 cb cs cr cw cx db ds dr dw dx)
T,
SObj.ext 0 (stV M db ds (ofV ab ai aq ad [r0, r1, r2, r3, r4, r5, r6, r7]) size v (mayV dr dw dx 1))])
else none
else
bif in32 r0 && (in32 r1 && (in32 r2 && (in32 r3 && in64 v))) then
some
(Sv.tup
[Sv.agg
[vw ((setA ak ar 0 r0 v)), vw ((setA ak ar 1 r1 v)),
vw ((setA ak ar 2 r2 v)), vw ((setA ak ar 3 r3 v)),
vw ((setB ak ar 4 r4 v)), vw ((setB ak ar 5 r5 v)),
vw ((setB ak ar 6 r6 v)), vw ((setB ak ar 7 r7 v)),
vw ip, vb fc, vb fp, vb fz, vb fs,
vb fo, vb fd, vd ((setX ak ar 0 x0 v)),
vd ((setX ak ar 1 x1 v)), vd ((setX ak ar 2 x2 v)),
vd ((setX ak ar 3 x3 v)), vd ((setX ak ar 4 x4 v)),
vd ((setX ak ar 5 x5 v)), vd ((setX ak ar 6 x6 v)),
vd ((setX ak ar 7 x7 v))],
vi 0],
[SObj.cells
(cCAd4z4 cb cs cr cw cx db ds dr dw dx)
T,
SObj.ext 0 M])
else none) := by kernel_rfl
theorem stC_ev (cb cs : Int) (cr cw cx : Bool) (db ds : Int) (dr dw dx : Bool) (T : TypeId) (M : Int → Int) (r0 r1 r2 r3 r4 r5 r6 r7 ip : Int) (fc fp fz fs fo fd : Bool) (x0 x1 x2 x3 x4 x5 x6 x7 ak ar ab ai aq ad size v : Int) (hg : (in32 r0 && (in32 r1 && (in32 r2 && (in32 r3 && (in32 r4 && (in32 r5 && (in32 r6 && (in32 r7 && (in32 ad && (in32 db && (in32 ds && (in64 v)))))))))))) = true) : evF Try.prog ΓRg3 400 70 [.ptr 0 0, .agg (cCAd4z0 r0 r1 r2 r3 r4 r5 r6 r7 ip fc fp fz fs fo fd x0 x1 x2 x3 x4 x5 x6 x7), .agg (cCAd4z2 ak ar ab ai aq ad), .v (.int .i64 size), .v (.int .u64 v)] [.cells (cCAd4z1 cb cs cr cw cx db ds dr dw dx) T, .ext 0 M] (kTk 2) kNo = some (.tup [.agg [.v (.int .u32 (ldW ak r0 (setA ak ar 0 r0 v))), .v (.int .u32 (ldW ak r1 (setA ak ar 1 r1 v))), .v (.int .u32 (ldW ak r2 (setA ak ar 2 r2 v))), .v (.int .u32 (ldW ak r3 (setA ak ar 3 r3 v))), .v (.int .u32 (ldW ak r4 (setB ak ar 4 r4 v))), .v (.int .u32 (ldW ak r5 (setB ak ar 5 r5 v))), .v (.int .u32 (ldW ak r6 (setB ak ar 6 r6 v))), .v (.int .u32 (ldW ak r7 (setB ak ar 7 r7 v))), .v (.int .u32 ip), .v (.bool fc), .v (.bool fp), .v (.bool fz), .v (.bool fs), .v (.bool fo), .v (.bool fd), .v (.int .u64 (ldW ak x0 (setX ak ar 0 x0 v))), .v (.int .u64 (ldW ak x1 (setX ak ar 1 x1 v))), .v (.int .u64 (ldW ak x2 (setX ak ar 2 x2 v))), .v (.int .u64 (ldW ak x3 (setX ak ar 3 x3 v))), .v (.int .u64 (ldW ak x4 (setX ak ar 4 x4 v))), .v (.int .u64 (ldW ak x5 (setX ak ar 5 x5 v))), .v (.int .u64 (ldW ak x6 (setX ak ar 6 x6 v))), .v (.int .u64 (ldW ak x7 (setX ak ar 7 x7 v)))], .v (.int .i64 (erW ak (segE db ds (ofV ab ai aq ad [r0, r1, r2, r3, r4, r5, r6, r7]) ((bytesN size : Nat) : Int) (mayV dr dw dx 1))))], [.cells (cCAd4z1 cb cs cr cw cx db ds dr dw dx) T, .ext 0 (memW ak (stV M db ds (ofV ab ai aq ad [r0, r1, r2, r3, r4, r5, r6, r7]) size v (mayV dr dw dx 1)) M)]) := by
  rw [stC_form]
  simp only [Bool.and_eq_true] at hg
  simp only [hg, ofV_in, Bool.and_self, Bool.and_true, Bool.true_and, cond_true, bne]
  unfold ldW erW memW
  cases hk : (ak == 3) <;> simp only [cond_true, cond_false, Bool.not_true, Bool.not_false, beq_self_eq_true] <;> rfl
noncomputable def stCB (R : Type) (m : List SObj) (k : Sv → List SObj → Option R) (b g : Nat) (cb cs : Int) (cr cw cx : Bool) (db ds : Int) (dr dw dx : Bool) (T : TypeId) (M : Int → Int) (r0 r1 r2 r3 r4 r5 r6 r7 ip : Int) (fc fp fz fs fo fd : Bool) (x0 x1 x2 x3 x4 x5 x6 x7 ak ar ab ai aq ad size v : Int) : Option R :=
  bif (in32 r0 && (in32 r1 && (in32 r2 && (in32 r3 && (in32 r4 && (in32 r5 && (in32 r6 && (in32 r7 && (in32 ad && (in32 db && (in32 ds && (in64 v)))))))))))) && !(b == g) then k (.tup [.agg [.v (.int .u32 (ldW ak r0 (setA ak ar 0 r0 v))), .v (.int .u32 (ldW ak r1 (setA ak ar 1 r1 v))), .v (.int .u32 (ldW ak r2 (setA ak ar 2 r2 v))), .v (.int .u32 (ldW ak r3 (setA ak ar 3 r3 v))), .v (.int .u32 (ldW ak r4 (setB ak ar 4 r4 v))), .v (.int .u32 (ldW ak r5 (setB ak ar 5 r5 v))), .v (.int .u32 (ldW ak r6 (setB ak ar 6 r6 v))), .v (.int .u32 (ldW ak r7 (setB ak ar 7 r7 v))), .v (.int .u32 ip), .v (.bool fc), .v (.bool fp), .v (.bool fz), .v (.bool fs), .v (.bool fo), .v (.bool fd), .v (.int .u64 (ldW ak x0 (setX ak ar 0 x0 v))), .v (.int .u64 (ldW ak x1 (setX ak ar 1 x1 v))), .v (.int .u64 (ldW ak x2 (setX ak ar 2 x2 v))), .v (.int .u64 (ldW ak x3 (setX ak ar 3 x3 v))), .v (.int .u64 (ldW ak x4 (setX ak ar 4 x4 v))), .v (.int .u64 (ldW ak x5 (setX ak ar 5 x5 v))), .v (.int .u64 (ldW ak x6 (setX ak ar 6 x6 v))), .v (.int .u64 (ldW ak x7 (setX ak ar 7 x7 v)))], .v (.int .i64 (erW ak (segE db ds (ofV ab ai aq ad [r0, r1, r2, r3, r4, r5, r6, r7]) ((bytesN size : Nat) : Int) (mayV dr dw dx 1))))]) (((m.set b (.cells (cCAd4z3 g cb cs cr cw cx db ds dr dw dx) T)).set g (.ext 0 (memW ak (stV M db ds (ofV ab ai aq ad [r0, r1, r2, r3, r4, r5, r6, r7]) size v (mayV dr dw dx 1)) M))) ++ []) else none
noncomputable def stCS : Ev.Spec := fun R args m k kp => match args with
  | [.ptr b 0, .agg A0, .agg [.v (.int .i64 ak), .v (.int .i64 ar), .v (.int .i64 ab), .v (.int .i64 ai), .v (.int .i64 aq), .v (.int .u32 ad)], .v (.int .i64 size), .v (.int .u64 v)] => (match A0 with
    | [.v (.int .u32 r0), .v (.int .u32 r1), .v (.int .u32 r2), .v (.int .u32 r3), .v (.int .u32 r4), .v (.int .u32 r5), .v (.int .u32 r6), .v (.int .u32 r7), .v (.int .u32 ip), .v (.bool fc), .v (.bool fp), .v (.bool fz), .v (.bool fs), .v (.bool fo), .v (.bool fd), .v (.int .u64 x0), .v (.int .u64 x1), .v (.int .u64 x2), .v (.int .u64 x3), .v (.int .u64 x4), .v (.int .u64 x5), .v (.int .u64 x6), .v (.int .u64 x7)] => (match m[b]? with
    | some (.cells [.ptr g 0, .v (.int .u32 cb), .v (.int .u32 cs), .v (.bool cr), .v (.bool cw), .v (.bool cx), .v (.int .u32 db), .v (.int .u32 ds), .v (.bool dr), .v (.bool dw), .v (.bool dx)] T) => (match m[g]? with
      | some (.ext 0 M) => stCB R m k b g cb cs cr cw cx db ds dr dw dx T M r0 r1 r2 r3 r4 r5 r6 r7 ip fc fp fz fs fo fd x0 x1 x2 x3 x4 x5 x6 x7 ak ar ab ai aq ad size v
      | _ => none)
    | _ => none)
    | _ => none)
  | _ => none
set_option maxHeartbeats 4000000 in
theorem stCS_ok : SpecOk Try.prog XM 70 stCS := by
  intro R args m k kp r h
  unfold stCS at h
  split at h
  · split at h
    · split at h
      · split at h
        · rename_i _ b ak ar ab ai aq ad size v _ r0 r1 r2 r3 r4 r5 r6 r7 ip fc fp fz fs fo fd x0 x1 x2 x3 x4 x5 x6 x7 _ g cb cs cr cw cx db ds dr dw dx T hb _ M hg
          unfold stCB at h
          obtain ⟨hc, h⟩ := cond_some h
          rw [Bool.and_eq_true] at hc
          have hbg : ¬ b = g := by simpa using hc.2
          exact .inl ⟨_, _, h, (callR_evT ΓRg3_ok (by kernel_rfl) (stC_ev cb cs cr cw cx db ds dr dw dx T M r0 r1 r2 r3 r4 r5 r6 r7 ip fc fp fz fs fo fd x0 x1 x2 x3 x4 x5 x6 x7 ak ar ab ai aq ad size v hc.1) rfl rfl rfl rfl).frameL [b, g] (by simpa using hbg) ⟨hb, hg, trivial⟩ rfl rfl rfl rfl rfl rfl rfl⟩
        · cases h
      · cases h
    · cases h
  · cases h
theorem stD_form (cb cs : Int) (cr cw cx : Bool) (db ds : Int) (dr dw dx : Bool) (T T2 : TypeId) (M : Int → Int) (hr0 hr1 hr2 hr3 hr4 hr5 hr6 hr7 hip : Int) (hfc hfp hfz hfs hfo hfd : Bool) (hx0 hx1 hx2 hx3 hx4 hx5 hx6 hx7 r0 r1 r2 r3 r4 r5 r6 r7 ip : Int) (fc fp fz fs fo fd : Bool) (x0 x1 x2 x3 x4 x5 x6 x7 ak ar ab ai aq ad size v : Int) :
    evF Try.prog ΓRg3 400 79 [.ptr 0 0, .agg [.v (.int .u32 hr0), .v (.int .u32 hr1), .v (.int .u32 hr2), .v (.int .u32 hr3), .v (.int .u32 hr4), .v (.int .u32 hr5), .v (.int .u32 hr6), .v (.int .u32 hr7), .v (.int .u32 hip), .v (.bool hfc), .v (.bool hfp), .v (.bool hfz), .v (.bool hfs), .v (.bool hfo), .v (.bool hfd), .v (.int .u64 hx0), .v (.int .u64 hx1), .v (.int .u64 hx2), .v (.int .u64 hx3), .v (.int .u64 hx4), .v (.int .u64 hx5), .v (.int .u64 hx6), .v (.int .u64 hx7)], .agg (cCAd4z0 r0 r1 r2 r3 r4 r5 r6 r7 ip fc fp fz fs fo fd x0 x1 x2 x3 x4 x5 x6 x7), .agg (cCAd4z2 ak ar ab ai aq ad), .v (.int .i64 size), .v (.int .u64 v)] [.cells (cCAd4z1 cb cs cr cw cx db ds dr dw dx) T, .cells [.mp 2] T2, .bm .u32 .u8 M] (kTk 3) kNo =
    (bif ak != 3 then
bif in32 r0 && (in32 r1 && (in32 r2 && (in32 r3 && in64 v))) then
some
(Sv.tup
[Sv.agg
[vw ((setA ak ar 0 r0 v)), vw ((setA ak ar 1 r1 v)),
vw ((setA ak ar 2 r2 v)), vw ((setA ak ar 3 r3 v)),
vw ((setB ak ar 4 r4 v)), vw ((setB ak ar 5 r5 v)),
vw ((setB ak ar 6 r6 v)), vw ((setB ak ar 7 r7 v)),
vw ip, vb fc, vb fp, vb fz, vb fs,
vb fo, vb fd, vd ((setX ak ar 0 x0 v)),
vd ((setX ak ar 1 x1 v)), vd ((setX ak ar 2 x2 v)),
vd ((setX ak ar 3 x3 v)), vd ((setX ak ar 4 x4 v)),
vd ((setX ak ar 5 x5 v)), vd ((setX ak ar 6 x6 v)),
vd ((setX ak ar 7 x7 v))],
vb true],
[SObj.cells
(cCAd4z4 cb cs cr cw cx db ds dr dw dx)
T,
SObj.cells [Sv.mp 2] T2, SObj.bm IntKind.u32 IntKind.u8 M])
else none
else
bif in32 ad then
bif in32 db && (in32 ds && in32 (ofV ab ai aq ad [hr0, hr1, hr2, hr3, hr4, hr5, hr6, hr7])) && true then
some
(Sv.tup
[Sv.agg
[vw r0, vw r1, vw r2,
vw r3, vw r4, vw r5,
vw r6, vw r7, vw ip, vb fc,
vb fp, vb fz, vb fs, vb fo, vb fd,
vd x0, vd x1, vd x2,
vd x3, vd x4, vd x5,
vd x6, vd x7],
Sv.v
(Value.bool
(segE db ds (ofV ab ai aq ad [hr0, hr1, hr2, hr3, hr4, hr5, hr6, hr7]) (↑(bytesN size)) (mayV dr dw dx 1) == 0))],
[SObj.cells
(cCAd4z4 cb cs cr cw cx db ds dr dw dx)
T,
SObj.cells [Sv.mp 2] T2,
SObj.bm IntKind.u32 IntKind.u8
(stV M db ds (ofV ab ai aq ad [hr0, hr1, hr2, hr3, hr4, hr5, hr6, hr7]) size v (mayV dr dw dx 1))])
else none
else none) := by kernel_rfl
theorem stD_ev (cb cs : Int) (cr cw cx : Bool) (db ds : Int) (dr dw dx : Bool) (T T2 : TypeId) (M : Int → Int) (hr0 hr1 hr2 hr3 hr4 hr5 hr6 hr7 hip : Int) (hfc hfp hfz hfs hfo hfd : Bool) (hx0 hx1 hx2 hx3 hx4 hx5 hx6 hx7 r0 r1 r2 r3 r4 r5 r6 r7 ip : Int) (fc fp fz fs fo fd : Bool) (x0 x1 x2 x3 x4 x5 x6 x7 ak ar ab ai aq ad size v : Int) (hg : (in32 hr0 && (in32 hr1 && (in32 hr2 && (in32 hr3 && (in32 hr4 && (in32 hr5 && (in32 hr6 && (in32 hr7 && (in32 r0 && (in32 r1 && (in32 r2 && (in32 r3 && (in32 r4 && (in32 r5 && (in32 r6 && (in32 r7 && (in32 ad && (in32 db && (in32 ds && (in64 v)))))))))))))))))))) = true) : evF Try.prog ΓRg3 400 79 [.ptr 0 0, .agg [.v (.int .u32 hr0), .v (.int .u32 hr1), .v (.int .u32 hr2), .v (.int .u32 hr3), .v (.int .u32 hr4), .v (.int .u32 hr5), .v (.int .u32 hr6), .v (.int .u32 hr7), .v (.int .u32 hip), .v (.bool hfc), .v (.bool hfp), .v (.bool hfz), .v (.bool hfs), .v (.bool hfo), .v (.bool hfd), .v (.int .u64 hx0), .v (.int .u64 hx1), .v (.int .u64 hx2), .v (.int .u64 hx3), .v (.int .u64 hx4), .v (.int .u64 hx5), .v (.int .u64 hx6), .v (.int .u64 hx7)], .agg (cCAd4z0 r0 r1 r2 r3 r4 r5 r6 r7 ip fc fp fz fs fo fd x0 x1 x2 x3 x4 x5 x6 x7), .agg (cCAd4z2 ak ar ab ai aq ad), .v (.int .i64 size), .v (.int .u64 v)] [.cells (cCAd4z1 cb cs cr cw cx db ds dr dw dx) T, .cells [.mp 2] T2, .bm .u32 .u8 M] (kTk 3) kNo = some (.tup [.agg [.v (.int .u32 (ldW ak r0 (setA ak ar 0 r0 v))), .v (.int .u32 (ldW ak r1 (setA ak ar 1 r1 v))), .v (.int .u32 (ldW ak r2 (setA ak ar 2 r2 v))), .v (.int .u32 (ldW ak r3 (setA ak ar 3 r3 v))), .v (.int .u32 (ldW ak r4 (setB ak ar 4 r4 v))), .v (.int .u32 (ldW ak r5 (setB ak ar 5 r5 v))), .v (.int .u32 (ldW ak r6 (setB ak ar 6 r6 v))), .v (.int .u32 (ldW ak r7 (setB ak ar 7 r7 v))), .v (.int .u32 ip), .v (.bool fc), .v (.bool fp), .v (.bool fz), .v (.bool fs), .v (.bool fo), .v (.bool fd), .v (.int .u64 (ldW ak x0 (setX ak ar 0 x0 v))), .v (.int .u64 (ldW ak x1 (setX ak ar 1 x1 v))), .v (.int .u64 (ldW ak x2 (setX ak ar 2 x2 v))), .v (.int .u64 (ldW ak x3 (setX ak ar 3 x3 v))), .v (.int .u64 (ldW ak x4 (setX ak ar 4 x4 v))), .v (.int .u64 (ldW ak x5 (setX ak ar 5 x5 v))), .v (.int .u64 (ldW ak x6 (setX ak ar 6 x6 v))), .v (.int .u64 (ldW ak x7 (setX ak ar 7 x7 v)))], .v (.bool ((erW ak (segE db ds (ofV ab ai aq ad [hr0, hr1, hr2, hr3, hr4, hr5, hr6, hr7]) ((bytesN size : Nat) : Int) (mayV dr dw dx 1))) == 0))], [.cells (cCAd4z1 cb cs cr cw cx db ds dr dw dx) T, .cells [.mp 2] T2, .bm .u32 .u8 (memW ak (stV M db ds (ofV ab ai aq ad [hr0, hr1, hr2, hr3, hr4, hr5, hr6, hr7]) size v (mayV dr dw dx 1)) M)]) := by
  rw [stD_form]
  simp only [Bool.and_eq_true] at hg
  simp only [hg, ofV_in, Bool.and_self, Bool.and_true, Bool.true_and, cond_true, bne]
  unfold ldW erW memW
  cases hk : (ak == 3) <;> simp only [cond_true, cond_false, Bool.not_true, Bool.not_false, beq_self_eq_true] <;> rfl
noncomputable def stDB (R : Type) (m : List SObj) (k : Sv → List SObj → Option R) (b g : Nat) (cb cs : Int) (cr cw cx : Bool) (db ds : Int) (dr dw dx : Bool) (T : TypeId) (M : Int → Int) (j : Nat) (T2 : TypeId) (hr0 hr1 hr2 hr3 hr4 hr5 hr6 hr7 hip : Int) (hfc hfp hfz hfs hfo hfd : Bool) (hx0 hx1 hx2 hx3 hx4 hx5 hx6 hx7 r0 r1 r2 r3 r4 r5 r6 r7 ip : Int) (fc fp fz fs fo fd : Bool) (x0 x1 x2 x3 x4 x5 x6 x7 ak ar ab ai aq ad size v : Int) : Option R :=
  bif (in32 hr0 && (in32 hr1 && (in32 hr2 && (in32 hr3 && (in32 hr4 && (in32 hr5 && (in32 hr6 && (in32 hr7 && (in32 r0 && (in32 r1 && (in32 r2 && (in32 r3 && (in32 r4 && (in32 r5 && (in32 r6 && (in32 r7 && (in32 ad && (in32 db && (in32 ds && (in64 v)))))))))))))))))))) && (!(b == g) && (!(b == j) && !(g == j))) then k (.tup [.agg [.v (.int .u32 (ldW ak r0 (setA ak ar 0 r0 v))), .v (.int .u32 (ldW ak r1 (setA ak ar 1 r1 v))), .v (.int .u32 (ldW ak r2 (setA ak ar 2 r2 v))), .v (.int .u32 (ldW ak r3 (setA ak ar 3 r3 v))), .v (.int .u32 (ldW ak r4 (setB ak ar 4 r4 v))), .v (.int .u32 (ldW ak r5 (setB ak ar 5 r5 v))), .v (.int .u32 (ldW ak r6 (setB ak ar 6 r6 v))), .v (.int .u32 (ldW ak r7 (setB ak ar 7 r7 v))), .v (.int .u32 ip), .v (.bool fc), .v (.bool fp), .v (.bool fz), .v (.bool fs), .v (.bool fo), .v (.bool fd), .v (.int .u64 (ldW ak x0 (setX ak ar 0 x0 v))), .v (.int .u64 (ldW ak x1 (setX ak ar 1 x1 v))), .v (.int .u64 (ldW ak x2 (setX ak ar 2 x2 v))), .v (.int .u64 (ldW ak x3 (setX ak ar 3 x3 v))), .v (.int .u64 (ldW ak x4 (setX ak ar 4 x4 v))), .v (.int .u64 (ldW ak x5 (setX ak ar 5 x5 v))), .v (.int .u64 (ldW ak x6 (setX ak ar 6 x6 v))), .v (.int .u64 (ldW ak x7 (setX ak ar 7 x7 v)))], .v (.bool ((erW ak (segE db ds (ofV ab ai aq ad [hr0, hr1, hr2, hr3, hr4, hr5, hr6, hr7]) ((bytesN size : Nat) : Int) (mayV dr dw dx 1))) == 0))]) ((((m.set b (.cells (cCAd4z3 g cb cs cr cw cx db ds dr dw dx) T)).set g (.cells [.mp j] T2)).set j (.bm .u32 .u8 (memW ak (stV M db ds (ofV ab ai aq ad [hr0, hr1, hr2, hr3, hr4, hr5, hr6, hr7]) size v (mayV dr dw dx 1)) M))) ++ []) else none
noncomputable def stDS : Ev.Spec := fun R args m k kp => match args with
  | [.ptr b 0, .agg A0, .agg A1, .agg [.v (.int .i64 ak), .v (.int .i64 ar), .v (.int .i64 ab), .v (.int .i64 ai), .v (.int .i64 aq), .v (.int .u32 ad)], .v (.int .i64 size), .v (.int .u64 v)] => (match A0 with
    | [.v (.int .u32 hr0), .v (.int .u32 hr1), .v (.int .u32 hr2), .v (.int .u32 hr3), .v (.int .u32 hr4), .v (.int .u32 hr5), .v (.int .u32 hr6), .v (.int .u32 hr7), .v (.int .u32 hip), .v (.bool hfc), .v (.bool hfp), .v (.bool hfz), .v (.bool hfs), .v (.bool hfo), .v (.bool hfd), .v (.int .u64 hx0), .v (.int .u64 hx1), .v (.int .u64 hx2), .v (.int .u64 hx3), .v (.int .u64 hx4), .v (.int .u64 hx5), .v (.int .u64 hx6), .v (.int .u64 hx7)] => (match A1 with
    | [.v (.int .u32 r0), .v (.int .u32 r1), .v (.int .u32 r2), .v (.int .u32 r3), .v (.int .u32 r4), .v (.int .u32 r5), .v (.int .u32 r6), .v (.int .u32 r7), .v (.int .u32 ip), .v (.bool fc), .v (.bool fp), .v (.bool fz), .v (.bool fs), .v (.bool fo), .v (.bool fd), .v (.int .u64 x0), .v (.int .u64 x1), .v (.int .u64 x2), .v (.int .u64 x3), .v (.int .u64 x4), .v (.int .u64 x5), .v (.int .u64 x6), .v (.int .u64 x7)] => (match m[b]? with
    | some (.cells [.ptr g 0, .v (.int .u32 cb), .v (.int .u32 cs), .v (.bool cr), .v (.bool cw), .v (.bool cx), .v (.int .u32 db), .v (.int .u32 ds), .v (.bool dr), .v (.bool dw), .v (.bool dx)] T) => (match m[g]? with
      | some (.cells [.mp j] T2) => (match m[j]? with
        | some (.bm .u32 .u8 M) => stDB R m k b g cb cs cr cw cx db ds dr dw dx T M j T2 hr0 hr1 hr2 hr3 hr4 hr5 hr6 hr7 hip hfc hfp hfz hfs hfo hfd hx0 hx1 hx2 hx3 hx4 hx5 hx6 hx7 r0 r1 r2 r3 r4 r5 r6 r7 ip fc fp fz fs fo fd x0 x1 x2 x3 x4 x5 x6 x7 ak ar ab ai aq ad size v
        | _ => none)
      | _ => none)
    | _ => none)
    | _ => none)
    | _ => none)
  | _ => none
set_option maxHeartbeats 4000000 in
theorem stDS_ok : SpecOk Try.prog XM 79 stDS := by
  intro R args m k kp r h
  unfold stDS at h
  split at h
  · split at h
    · split at h
      · split at h
        · split at h
          · split at h
            · rename_i _ b ak ar ab ai aq ad size v _ hr0 hr1 hr2 hr3 hr4 hr5 hr6 hr7 hip hfc hfp hfz hfs hfo hfd hx0 hx1 hx2 hx3 hx4 hx5 hx6 hx7 _ r0 r1 r2 r3 r4 r5 r6 r7 ip fc fp fz fs fo fd x0 x1 x2 x3 x4 x5 x6 x7 _ g cb cs cr cw cx db ds dr dw dx T hb _ j T2 hg _ M hj
              unfold stDB at h
              obtain ⟨hc, h⟩ := cond_some h
              rw [Bool.and_eq_true] at hc
              have hd : ¬ b = g ∧ ¬ b = j ∧ ¬ g = j := by simpa using hc.2
              exact .inl ⟨_, _, h, (callR_evT ΓRg3_ok (by kernel_rfl) (stD_ev cb cs cr cw cx db ds dr dw dx T T2 M hr0 hr1 hr2 hr3 hr4 hr5 hr6 hr7 hip hfc hfp hfz hfs hfo hfd hx0 hx1 hx2 hx3 hx4 hx5 hx6 hx7 r0 r1 r2 r3 r4 r5 r6 r7 ip fc fp fz fs fo fd x0 x1 x2 x3 x4 x5 x6 x7 ak ar ab ai aq ad size v hc.1) rfl rfl rfl rfl).frameL [b, g, j] (by simp; exact ⟨⟨hd.1, hd.2.1⟩, hd.2.2⟩) ⟨hb, hg, hj, trivial⟩ rfl rfl rfl rfl rfl rfl rfl⟩
            · cases h
          · cases h
        · cases h
      · cases h
    · cases h
  · cases h
noncomputable def ΓAd4 : Env := ((((ΓRg3.add 98 ldCS).add 59 ldDS).add 70 stCS).add 79 stDS)
theorem ΓAd4_ok : EnvOk Try.prog X0 ΓAd4 := ((((ΓRg3_ok.add (by kernel_rfl) ldCS_ok).add (by kernel_rfl) ldDS_ok).add (by kernel_rfl) stCS_ok).add (by kernel_rfl) stDS_ok)
end Go.Proofs.Ytpgdpoloipifeaa
