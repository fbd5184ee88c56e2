/- Operands, and doubles. -/
import Derived.Test.YtpgdpoloipifeaaCAd4
import Derived.Test.YtpgdpoloipifeaaCFl4
import Derived.Test.YtpgdpoloipifeaaNFpu
namespace Go.Proofs.Ytpgdpoloipifeaa
open Go Go.Ev
set_option linter.unusedVariables false
set_option linter.unusedSimpArgs false
set_option maxRecDepth 100000
theorem wOf {f : FuncId} {args : List Sv} {m : List SObj} {sv : Sv} {b g j : Nat} {B G J : SObj} (hb : m[b]? = some B) (hg : m[g]? = some G) (q : CallR Try.prog XM f args m sv ((((m.set b B).set g G).set j J) ++ [])) : CallR Try.prog XM f args m sv (m.set j J) := by rwa [List.append_nil, set_self hb, set_self hg] at q
noncomputable def stDWB (R : Type) (m : List SObj) (k : Sv → Nat → SObj → Option R) (b g : Nat) (cb cs : Int) (cr cw cx : Bool) (db ds : Int) (dr dw dx : Bool) (T : TypeId) (M : Int → Int) (j : Nat) (T2 : TypeId) (hr0 hr1 hr2 hr3 hr4 hr5 hr6 hr7 hip : Int) (hfc hfp hfz hfs hfo hfd : Bool) (hx0 hx1 hx2 hx3 hx4 hx5 hx6 hx7 r0 r1 r2 r3 r4 r5 r6 r7 ip : Int) (fc fp fz fs fo fd : Bool) (x0 x1 x2 x3 x4 x5 x6 x7 ak ar ab ai aq ad size v : Int) : Option R :=
  bif (in32 hr0 && (in32 hr1 && (in32 hr2 && (in32 hr3 && (in32 hr4 && (in32 hr5 && (in32 hr6 && (in32 hr7 && (in32 r0 && (in32 r1 && (in32 r2 && (in32 r3 && (in32 r4 && (in32 r5 && (in32 r6 && (in32 r7 && (in32 ad && (in32 db && (in32 ds && (in64 v)))))))))))))))))))) && (!(b == g) && (!(b == j) && !(g == j))) then k (.tup [.agg [.v (.int .u32 (ldW ak r0 (setA ak ar 0 r0 v))), .v (.int .u32 (ldW ak r1 (setA ak ar 1 r1 v))), .v (.int .u32 (ldW ak r2 (setA ak ar 2 r2 v))), .v (.int .u32 (ldW ak r3 (setA ak ar 3 r3 v))), .v (.int .u32 (ldW ak r4 (setB ak ar 4 r4 v))), .v (.int .u32 (ldW ak r5 (setB ak ar 5 r5 v))), .v (.int .u32 (ldW ak r6 (setB ak ar 6 r6 v))), .v (.int .u32 (ldW ak r7 (setB ak ar 7 r7 v))), .v (.int .u32 ip), .v (.bool fc), .v (.bool fp), .v (.bool fz), .v (.bool fs), .v (.bool fo), .v (.bool fd), .v (.int .u64 (ldW ak x0 (setX ak ar 0 x0 v))), .v (.int .u64 (ldW ak x1 (setX ak ar 1 x1 v))), .v (.int .u64 (ldW ak x2 (setX ak ar 2 x2 v))), .v (.int .u64 (ldW ak x3 (setX ak ar 3 x3 v))), .v (.int .u64 (ldW ak x4 (setX ak ar 4 x4 v))), .v (.int .u64 (ldW ak x5 (setX ak ar 5 x5 v))), .v (.int .u64 (ldW ak x6 (setX ak ar 6 x6 v))), .v (.int .u64 (ldW ak x7 (setX ak ar 7 x7 v)))], .v (.bool ((erW ak (segE db ds (ofV ab ai aq ad [hr0, hr1, hr2, hr3, hr4, hr5, hr6, hr7]) ((bytesN size : Nat) : Int) (mayV dr dw dx 1))) == 0))]) j (.bm .u32 .u8 (memW ak (stV M db ds (ofV ab ai aq ad [hr0, hr1, hr2, hr3, hr4, hr5, hr6, hr7]) size v (mayV dr dw dx 1)) M)) else none
noncomputable def stDW : WSpec := fun R args m k => match args with
  | [.ptr b 0, .agg A0, .agg A1, .agg [.v (.int .i64 ak), .v (.int .i64 ar), .v (.int .i64 ab), .v (.int .i64 ai), .v (.int .i64 aq), .v (.int .u32 ad)], .v (.int .i64 size), .v (.int .u64 v)] => (match A0 with
    | [.v (.int .u32 hr0), .v (.int .u32 hr1), .v (.int .u32 hr2), .v (.int .u32 hr3), .v (.int .u32 hr4), .v (.int .u32 hr5), .v (.int .u32 hr6), .v (.int .u32 hr7), .v (.int .u32 hip), .v (.bool hfc), .v (.bool hfp), .v (.bool hfz), .v (.bool hfs), .v (.bool hfo), .v (.bool hfd), .v (.int .u64 hx0), .v (.int .u64 hx1), .v (.int .u64 hx2), .v (.int .u64 hx3), .v (.int .u64 hx4), .v (.int .u64 hx5), .v (.int .u64 hx6), .v (.int .u64 hx7)] => (match A1 with
    | [.v (.int .u32 r0), .v (.int .u32 r1), .v (.int .u32 r2), .v (.int .u32 r3), .v (.int .u32 r4), .v (.int .u32 r5), .v (.int .u32 r6), .v (.int .u32 r7), .v (.int .u32 ip), .v (.bool fc), .v (.bool fp), .v (.bool fz), .v (.bool fs), .v (.bool fo), .v (.bool fd), .v (.int .u64 x0), .v (.int .u64 x1), .v (.int .u64 x2), .v (.int .u64 x3), .v (.int .u64 x4), .v (.int .u64 x5), .v (.int .u64 x6), .v (.int .u64 x7)] => (match m[b]? with
    | some (.cells [.ptr g 0, .v (.int .u32 cb), .v (.int .u32 cs), .v (.bool cr), .v (.bool cw), .v (.bool cx), .v (.int .u32 db), .v (.int .u32 ds), .v (.bool dr), .v (.bool dw), .v (.bool dx)] T) => (match m[g]? with
      | some (.cells [.mp j] T2) => (match m[j]? with
        | some (.bm .u32 .u8 M) => stDWB R m k b g cb cs cr cw cx db ds dr dw dx T M j T2 hr0 hr1 hr2 hr3 hr4 hr5 hr6 hr7 hip hfc hfp hfz hfs hfo hfd hx0 hx1 hx2 hx3 hx4 hx5 hx6 hx7 r0 r1 r2 r3 r4 r5 r6 r7 ip fc fp fz fs fo fd x0 x1 x2 x3 x4 x5 x6 x7 ak ar ab ai aq ad size v
        | _ => none)
      | _ => none)
    | _ => none)
    | _ => none)
    | _ => none)
  | _ => none
set_option maxHeartbeats 4000000 in
theorem stDW_ok : WSpecOk Try.prog XM 79 stDW := by
  intro R args m k r h
  unfold stDW at h
  split at h
  · split at h
    · split at h
      · split at h
        · split at h
          · split at h
            · rename_i _ b ak ar ab ai aq ad size v _ hr0 hr1 hr2 hr3 hr4 hr5 hr6 hr7 hip hfc hfp hfz hfs hfo hfd hx0 hx1 hx2 hx3 hx4 hx5 hx6 hx7 _ r0 r1 r2 r3 r4 r5 r6 r7 ip fc fp fz fs fo fd x0 x1 x2 x3 x4 x5 x6 x7 _ g cb cs cr cw cx db ds dr dw dx T hb _ j T2 hg _ M hj
              unfold stDWB at h
              obtain ⟨hc, h⟩ := cond_some h
              rw [Bool.and_eq_true] at hc
              have hd : ¬ b = g ∧ ¬ b = j ∧ ¬ g = j := by simpa using hc.2
              exact ⟨_, _, _, h, wOf hb hg ((callR_evT ΓRg3_ok (by kernel_rfl) (stD_ev cb cs cr cw cx db ds dr dw dx T T2 M hr0 hr1 hr2 hr3 hr4 hr5 hr6 hr7 hip hfc hfp hfz hfs hfo hfd hx0 hx1 hx2 hx3 hx4 hx5 hx6 hx7 r0 r1 r2 r3 r4 r5 r6 r7 ip fc fp fz fs fo fd x0 x1 x2 x3 x4 x5 x6 x7 ak ar ab ai aq ad size v hc.1) rfl rfl rfl rfl).frameL [b, g, j] (by simp; exact ⟨⟨hd.1, hd.2.1⟩, hd.2.2⟩) ⟨hb, hg, hj, trivial⟩ rfl rfl rfl rfl rfl rfl rfl)⟩
            · cases h
          · cases h
        · cases h
      · cases h
    · cases h
  · cases h
noncomputable def ΓFe : Env := ((((((((((ΓAd4.addW 79 stDW).widen 79).add 66 (pureSpec compareS)).add 77 (pureSpec rcompareS)).add 67 (pureSpec fromIntS)).add 75 (pureSpec rfromIntS)).add 69 (pureSpec do_S)).add 80 (pureSpec rfloatS)).add 68 (pureSpec toIntS)).add 76 (pureSpec rtoIntS))
theorem ΓFe_ok : EnvOk Try.prog X0 ΓFe := ((((((((((ΓAd4_ok.addW (by kernel_rfl) stDW_ok).widen 79).add (by kernel_rfl) (specOk_of_nice ΓF1_ok compareS_ok)).add (by kernel_rfl) (specOk_of_nice ΓF1_ok rcompareS_ok)).add (by kernel_rfl) (specOk_of_nice ΓF_ok fromIntS_ok)).add (by kernel_rfl) (specOk_of_nice ΓF_ok rfromIntS_ok)).add (by kernel_rfl) (specOk_of_nice ΓF2_ok do_S_ok)).add (by kernel_rfl) (specOk_of_nice ΓF2_ok rfloatS_ok)).add (by kernel_rfl) (specOk_of_nice ΓF3_ok toIntS_ok)).add (by kernel_rfl) (specOk_of_nice ΓF3_ok rtoIntS_ok))
end Go.Proofs.Ytpgdpoloipifeaa
