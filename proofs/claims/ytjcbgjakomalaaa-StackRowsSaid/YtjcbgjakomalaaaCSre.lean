/- A push in a row. -/
import Derived.Test.YtjcbgjakomalaaaCKn16
import Derived.Test.YtjcbgjakomalaaaCSk0
import Derived.Test.YtjcbgjakomalaaaEvW
import Derived.Test.YtjcbgjakomalaaaNStr
namespace Go.Proofs.Ytjcbgjakomalaaa
open Go Go.Ev
set_option linter.unusedVariables false
set_option linter.unusedSimpArgs false
set_option maxRecDepth 100000
theorem wOf2 {f : FuncId} {args : List Sv} {m : List SObj} {sv : Sv} {b g : Nat} {B J : SObj} (hb : m[b]? = some B) (q : CallR Try.prog XM f args m sv (((m.set b B).set g J) ++ [])) : CallR Try.prog XM f args m sv (m.set g J) := by rwa [List.append_nil, set_self hb] at q
noncomputable def puPWB (R : Type) (m : List SObj) (k : Sv → Nat → SObj → Option R) (b : Nat) (g : Nat) (cb : Int) (cs : Int) (cr : Bool) (cw : Bool) (cx : Bool) (db : Int) (ds : Int) (dr : Bool) (dw : Bool) (dx : Bool) (T : TypeId) (M : Int → Int) (r0 : Int) (r1 : Int) (r2 : Int) (r3 : Int) (r4 : Int) (r5 : Int) (r6 : Int) (r7 : Int) (ip : Int) (fc : Bool) (fp : Bool) (fz : Bool) (fs : Bool) (fo : Bool) (fd : Bool) (x0 : Int) (x1 : Int) (x2 : Int) (x3 : Int) (x4 : Int) (x5 : Int) (x6 : Int) (x7 : Int) (v : Int) : Option R :=
  bif (in32 r0 && (in32 r1 && (in32 r2 && (in32 r3 && (in32 r4 && (in32 r5 && (in32 r6 && (in32 r7 && (in32 db && (in32 ds && (in32 v))))))))))) && !(b == g) then k (.tup [.agg [.v (.int .u32 r0), .v (.int .u32 r1), .v (.int .u32 r2), .v (.int .u32 r3), .v (.int .u32 (puV r4 (skOk db ds (IntKind.wrap .u32 (r4 - 4)) (mayV dr dw dx 1)))), .v (.int .u32 r5), .v (.int .u32 r6), .v (.int .u32 r7), .v (.int .u32 ip), .v (.bool fc), .v (.bool fp), .v (.bool fz), .v (.bool fs), .v (.bool fo), .v (.bool fd), .v (.int .u64 x0), .v (.int .u64 x1), .v (.int .u64 x2), .v (.int .u64 x3), .v (.int .u64 x4), .v (.int .u64 x5), .v (.int .u64 x6), .v (.int .u64 x7)], .v (.int .i64 (endV (skOk db ds (IntKind.wrap .u32 (r4 - 4)) (mayV dr dw dx 1))))])  g (.ext 0 (stV M db ds (IntKind.wrap .u32 (r4 - 4)) 4 (IntKind.wrap .u64 v) (mayV dr dw dx 1))) else none
noncomputable def puPW : WSpec := fun R args m k => match args with
  | [.ptr b 0, .agg A0, .v (.int .u32 v)] => (match A0 with
    | [.v (.int .u32 r0), .v (.int .u32 r1), .v (.int .u32 r2), .v (.int .u32 r3), .v (.int .u32 r4), .v (.int .u32 r5), .v (.int .u32 r6), .v (.int .u32 r7), .v (.int .u32 ip), .v (.bool fc), .v (.bool fp), .v (.bool fz), .v (.bool fs), .v (.bool fo), .v (.bool fd), .v (.int .u64 x0), .v (.int .u64 x1), .v (.int .u64 x2), .v (.int .u64 x3), .v (.int .u64 x4), .v (.int .u64 x5), .v (.int .u64 x6), .v (.int .u64 x7)] => (match m[b]? with
    | some (.cells [.ptr g 0, .v (.int .u32 cb), .v (.int .u32 cs), .v (.bool cr), .v (.bool cw), .v (.bool cx), .v (.int .u32 db), .v (.int .u32 ds), .v (.bool dr), .v (.bool dw), .v (.bool dx)] T) => (match m[g]? with
      | some (.ext 0 M) => puPWB R m k b g cb cs cr cw cx db ds dr dw dx T M r0 r1 r2 r3 r4 r5 r6 r7 ip fc fp fz fs fo fd x0 x1 x2 x3 x4 x5 x6 x7 v
      | _ => none)
    | _ => none)
    | _ => none)
  | _ => none
set_option maxHeartbeats 4000000 in
theorem puPW_ok : WSpecOk Try.prog XM 25 puPW := by
  intro R args m k r h
  unfold puPW at h
  split at h
  · split at h
    · split at h
      · split at h
        · rename_i _ b v _ r0 r1 r2 r3 r4 r5 r6 r7 ip fc fp fz fs fo fd x0 x1 x2 x3 x4 x5 x6 x7 _ g cb cs cr cw cx db ds dr dw dx T hb _ M hg
          unfold puPWB at h
          obtain ⟨hc, h⟩ := cond_some h
          rw [Bool.and_eq_true] at hc
          have hbg : ¬ b = g := by simpa using hc.2
          exact ⟨_, _, _, h, wOf2 hb ((callR_evT ΓAd4_ok (by kernel_rfl) (puP_ev cb cs cr cw cx db ds dr dw dx T M r0 r1 r2 r3 r4 r5 r6 r7 ip fc fp fz fs fo fd x0 x1 x2 x3 x4 x5 x6 x7 v hc.1) rfl rfl rfl rfl).frameL [b, g] (by simpa using hbg) ⟨hb, hg, trivial⟩ rfl rfl rfl rfl rfl rfl rfl)⟩
        · cases h
      · cases h
    · cases h
  · cases h
noncomputable def ΓSr0 : Env := ((ΓSk0.addW 25 puPW).widen 25).add 23 (pureSpec known16S)
theorem ΓSr0_ok : EnvOk Try.prog X0 ΓSr0 := ((ΓSk0_ok.addW (by kernel_rfl) puPW_ok).widen 25).add (by kernel_rfl) (specOk_of_nice ΓM6_ok known16S_ok)
end Go.Proofs.Ytjcbgjakomalaaa
