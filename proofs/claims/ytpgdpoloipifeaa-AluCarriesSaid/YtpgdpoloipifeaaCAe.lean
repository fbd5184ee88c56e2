/- Operands, and sums. -/
import Derived.Test.YtpgdpoloipifeaaCAd4
import Derived.Test.YtpgdpoloipifeaaCAr6
namespace Go.Proofs.Ytpgdpoloipifeaa
open Go Go.Ev
set_option linter.unusedVariables false
set_option linter.unusedSimpArgs false
set_option maxRecDepth 100000
theorem wOf2 {f : FuncId} {args : List Sv} {m : List SObj} {sv : Sv} {b g : Nat} {B J : SObj} (hb : m[b]? = some B) (q : CallR Try.prog XM f args m sv (((m.set b B).set g J) ++ [])) : CallR Try.prog XM f args m sv (m.set g J) := by rwa [List.append_nil, set_self hb] at q
theorem nOf2 {f : FuncId} {args : List Sv} {m : List SObj} {sv : Sv} {b g : Nat} {B G : SObj} (hb : m[b]? = some B) (hg : m[g]? = some G) (q : CallR Try.prog XM f args m sv (((m.set b B).set g G) ++ [])) : CallR Try.prog XM f args m sv (m ++ []) := by
  rw [List.append_nil, set_self hb, set_self hg] at q
  rw [List.append_nil]
  exact q
noncomputable def ldCNB (R : Type) (m : List SObj) (k : Sv → List SObj → Option R) (b : Nat) (g : Nat) (cb : Int) (cs : Int) (cr : Bool) (cw : Bool) (cx : Bool) (db : Int) (ds : Int) (dr : Bool) (dw : Bool) (dx : Bool) (T : TypeId) (M : Int → Int) (r0 : Int) (r1 : Int) (r2 : Int) (r3 : Int) (r4 : Int) (r5 : Int) (r6 : Int) (r7 : Int) (ip : Int) (fc : Bool) (fp : Bool) (fz : Bool) (fs : Bool) (fo : Bool) (fd : Bool) (x0 : Int) (x1 : Int) (x2 : Int) (x3 : Int) (x4 : Int) (x5 : Int) (x6 : Int) (x7 : Int) (ak : Int) (ar : Int) (ab : Int) (ai : Int) (aq : Int) (ad : Int) (size : Int) : Option R :=
  bif (in32 r0 && (in32 r1 && (in32 r2 && (in32 r3 && (in32 r4 && (in32 r5 && (in32 r6 && (in32 r7 && (in32 ad && (in32 db && (in32 ds))))))))))) && !(b == g) then k (.tup [.v (.int .u64 (ldW ak (ldV M db ds (ofV ab ai aq ad [r0, r1, r2, r3, r4, r5, r6, r7]) size (mayV dr dw dx 0)) (getV ak ar ad r0 r1 r2 r3 r4 r5 r6 r7 x0 x1 x2 x3 x4 x5 x6 x7))), .v (.int .i64 (erW ak (segE db ds (ofV ab ai aq ad [r0, r1, r2, r3, r4, r5, r6, r7]) ((bytesN size : Nat) : Int) (mayV dr dw dx 0))))])  [] else none
noncomputable def ldCN : NSpec := fun R args m k => match args with
  | [.ptr b 0, .agg A0, .agg [.v (.int .i64 ak), .v (.int .i64 ar), .v (.int .i64 ab), .v (.int .i64 ai), .v (.int .i64 aq), .v (.int .u32 ad)], .v (.int .i64 size)] => (match A0 with
    | [.v (.int .u32 r0), .v (.int .u32 r1), .v (.int .u32 r2), .v (.int .u32 r3), .v (.int .u32 r4), .v (.int .u32 r5), .v (.int .u32 r6), .v (.int .u32 r7), .v (.int .u32 ip), .v (.bool fc), .v (.bool fp), .v (.bool fz), .v (.bool fs), .v (.bool fo), .v (.bool fd), .v (.int .u64 x0), .v (.int .u64 x1), .v (.int .u64 x2), .v (.int .u64 x3), .v (.int .u64 x4), .v (.int .u64 x5), .v (.int .u64 x6), .v (.int .u64 x7)] => (match m[b]? with
    | some (.cells [.ptr g 0, .v (.int .u32 cb), .v (.int .u32 cs), .v (.bool cr), .v (.bool cw), .v (.bool cx), .v (.int .u32 db), .v (.int .u32 ds), .v (.bool dr), .v (.bool dw), .v (.bool dx)] T) => (match m[g]? with
      | some (.ext 0 M) => ldCNB R m k b g cb cs cr cw cx db ds dr dw dx T M r0 r1 r2 r3 r4 r5 r6 r7 ip fc fp fz fs fo fd x0 x1 x2 x3 x4 x5 x6 x7 ak ar ab ai aq ad size
      | _ => none)
    | _ => none)
    | _ => none)
  | _ => none
set_option maxHeartbeats 4000000 in
theorem ldCN_ok : NSpecOk Try.prog XM 98 ldCN := by
  intro R args m k r h
  unfold ldCN at h
  split at h
  · split at h
    · split at h
      · split at h
        · rename_i _ b ak ar ab ai aq ad size _ r0 r1 r2 r3 r4 r5 r6 r7 ip fc fp fz fs fo fd x0 x1 x2 x3 x4 x5 x6 x7 _ g cb cs cr cw cx db ds dr dw dx T hb _ M hg
          unfold ldCNB at h
          obtain ⟨hc, h⟩ := cond_some h
          rw [Bool.and_eq_true] at hc
          have hbg : ¬ b = g := by simpa using hc.2
          exact ⟨_, _, h, nOf2 hb hg ((callR_evT ΓRg3_ok (by kernel_rfl) (ldC_ev cb cs cr cw cx db ds dr dw dx T M r0 r1 r2 r3 r4 r5 r6 r7 ip fc fp fz fs fo fd x0 x1 x2 x3 x4 x5 x6 x7 ak ar ab ai aq ad size hc.1) rfl rfl rfl rfl).frameL [b, g] (by simpa using hbg) ⟨hb, hg, trivial⟩ rfl rfl rfl rfl rfl rfl rfl)⟩
        · cases h
      · cases h
    · cases h
  · cases h
noncomputable def stCWB (R : Type) (m : List SObj) (k : Sv → Nat → SObj → Option R) (b : Nat) (g : Nat) (cb : Int) (cs : Int) (cr : Bool) (cw : Bool) (cx : Bool) (db : Int) (ds : Int) (dr : Bool) (dw : Bool) (dx : Bool) (T : TypeId) (M : Int → Int) (r0 : Int) (r1 : Int) (r2 : Int) (r3 : Int) (r4 : Int) (r5 : Int) (r6 : Int) (r7 : Int) (ip : Int) (fc : Bool) (fp : Bool) (fz : Bool) (fs : Bool) (fo : Bool) (fd : Bool) (x0 : Int) (x1 : Int) (x2 : Int) (x3 : Int) (x4 : Int) (x5 : Int) (x6 : Int) (x7 : Int) (ak : Int) (ar : Int) (ab : Int) (ai : Int) (aq : Int) (ad : Int) (size : Int) (v : Int) : Option R :=
  bif (in32 r0 && (in32 r1 && (in32 r2 && (in32 r3 && (in32 r4 && (in32 r5 && (in32 r6 && (in32 r7 && (in32 ad && (in32 db && (in32 ds && (in64 v)))))))))))) && !(b == g) then k (.tup [.agg [.v (.int .u32 (ldW ak r0 (setA ak ar 0 r0 v))), .v (.int .u32 (ldW ak r1 (setA ak ar 1 r1 v))), .v (.int .u32 (ldW ak r2 (setA ak ar 2 r2 v))), .v (.int .u32 (ldW ak r3 (setA ak ar 3 r3 v))), .v (.int .u32 (ldW ak r4 (setB ak ar 4 r4 v))), .v (.int .u32 (ldW ak r5 (setB ak ar 5 r5 v))), .v (.int .u32 (ldW ak r6 (setB ak ar 6 r6 v))), .v (.int .u32 (ldW ak r7 (setB ak ar 7 r7 v))), .v (.int .u32 ip), .v (.bool fc), .v (.bool fp), .v (.bool fz), .v (.bool fs), .v (.bool fo), .v (.bool fd), .v (.int .u64 (ldW ak x0 (setX ak ar 0 x0 v))), .v (.int .u64 (ldW ak x1 (setX ak ar 1 x1 v))), .v (.int .u64 (ldW ak x2 (setX ak ar 2 x2 v))), .v (.int .u64 (ldW ak x3 (setX ak ar 3 x3 v))), .v (.int .u64 (ldW ak x4 (setX ak ar 4 x4 v))), .v (.int .u64 (ldW ak x5 (setX ak ar 5 x5 v))), .v (.int .u64 (ldW ak x6 (setX ak ar 6 x6 v))), .v (.int .u64 (ldW ak x7 (setX ak ar 7 x7 v)))], .v (.int .i64 (erW ak (segE db ds (ofV ab ai aq ad [r0, r1, r2, r3, r4, r5, r6, r7]) ((bytesN size : Nat) : Int) (mayV dr dw dx 1))))])  g (.ext 0 (memW ak (stV M db ds (ofV ab ai aq ad [r0, r1, r2, r3, r4, r5, r6, r7]) size v (mayV dr dw dx 1)) M)) else none
noncomputable def stCW : WSpec := fun R args m k => match args with
  | [.ptr b 0, .agg A0, .agg [.v (.int .i64 ak), .v (.int .i64 ar), .v (.int .i64 ab), .v (.int .i64 ai), .v (.int .i64 aq), .v (.int .u32 ad)], .v (.int .i64 size), .v (.int .u64 v)] => (match A0 with
    | [.v (.int .u32 r0), .v (.int .u32 r1), .v (.int .u32 r2), .v (.int .u32 r3), .v (.int .u32 r4), .v (.int .u32 r5), .v (.int .u32 r6), .v (.int .u32 r7), .v (.int .u32 ip), .v (.bool fc), .v (.bool fp), .v (.bool fz), .v (.bool fs), .v (.bool fo), .v (.bool fd), .v (.int .u64 x0), .v (.int .u64 x1), .v (.int .u64 x2), .v (.int .u64 x3), .v (.int .u64 x4), .v (.int .u64 x5), .v (.int .u64 x6), .v (.int .u64 x7)] => (match m[b]? with
    | some (.cells [.ptr g 0, .v (.int .u32 cb), .v (.int .u32 cs), .v (.bool cr), .v (.bool cw), .v (.bool cx), .v (.int .u32 db), .v (.int .u32 ds), .v (.bool dr), .v (.bool dw), .v (.bool dx)] T) => (match m[g]? with
      | some (.ext 0 M) => stCWB R m k b g cb cs cr cw cx db ds dr dw dx T M r0 r1 r2 r3 r4 r5 r6 r7 ip fc fp fz fs fo fd x0 x1 x2 x3 x4 x5 x6 x7 ak ar ab ai aq ad size v
      | _ => none)
    | _ => none)
    | _ => none)
  | _ => none
set_option maxHeartbeats 4000000 in
theorem stCW_ok : WSpecOk Try.prog XM 70 stCW := by
  intro R args m k r h
  unfold stCW at h
  split at h
  · split at h
    · split at h
      · split at h
        · rename_i _ b ak ar ab ai aq ad size v _ r0 r1 r2 r3 r4 r5 r6 r7 ip fc fp fz fs fo fd x0 x1 x2 x3 x4 x5 x6 x7 _ g cb cs cr cw cx db ds dr dw dx T hb _ M hg
          unfold stCWB at h
          obtain ⟨hc, h⟩ := cond_some h
          rw [Bool.and_eq_true] at hc
          have hbg : ¬ b = g := by simpa using hc.2
          exact ⟨_, _, _, h, wOf2 hb ((callR_evT ΓRg3_ok (by kernel_rfl) (stC_ev cb cs cr cw cx db ds dr dw dx T M r0 r1 r2 r3 r4 r5 r6 r7 ip fc fp fz fs fo fd x0 x1 x2 x3 x4 x5 x6 x7 ak ar ab ai aq ad size v hc.1) rfl rfl rfl rfl).frameL [b, g] (by simpa using hbg) ⟨hb, hg, trivial⟩ rfl rfl rfl rfl rfl rfl rfl)⟩
        · cases h
      · cases h
    · cases h
  · cases h
noncomputable def ΓAe : Env := (((((((ΓAd4.addN 98 ldCN).widen 98).addW 70 stCW).widen 70).add 157 (pureSpec sumS)).add 144 (pureSpec difS)).add 145 (pureSpec stepS))
theorem ΓAe_ok : EnvOk Try.prog X0 ΓAe := (((((((ΓAd4_ok.addN (by kernel_rfl) ldCN_ok).widen 98).addW (by kernel_rfl) stCW_ok).widen 70).add (by kernel_rfl) (specOk_of_nice ΓAr3_ok sumS_ok)).add (by kernel_rfl) (specOk_of_nice ΓAr3_ok difS_ok)).add (by kernel_rfl) (specOk_of_nice ΓAr5_ok stepS_ok))
end Go.Proofs.Ytpgdpoloipifeaa
