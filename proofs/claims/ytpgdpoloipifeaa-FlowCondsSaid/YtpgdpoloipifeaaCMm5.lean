/- Calls that only lay new objects. -/
import Derived.Test.YtpgdpoloipifeaaEvV
import Derived.Test.YtpgdpoloipifeaaCMm4
namespace Go.Proofs.Ytpgdpoloipifeaa
open Go Go.Ev
set_option linter.unusedVariables false
set_option linter.unusedSimpArgs false
set_option maxRecDepth 100000

def readN : NSpec := fun R args m k => match args with
  | [.ptr b 0, .v (.int .u32 a), .v (.int .i64 n)] => (match m[b]? with
    | some (.ext 0 M) => bif n == 288 then k (.sl m.length 0 288 288) [.arr .u8 5 288 (rowF (fun _ => 0) (rdB M a) 288), .dead] else bif n == 256 then k (.sl m.length 0 256 256) [.arr .u8 5 256 (rowF (fun _ => 0) (rdB M a) 256), .dead] else bif n == 100 then k (.sl m.length 0 100 100) [.arr .u8 5 100 (rowF (fun _ => 0) (rdB M a) 100), .dead] else bif n == 40 then k (.sl m.length 0 40 40) [.arr .u8 5 40 (rowF (fun _ => 0) (rdB M a) 40), .dead] else bif n == 4 then k (.sl m.length 0 4 4) [.arr .u8 5 4 (rowF (fun _ => 0) (rdB M a) 4), .dead] else bif n == 1 then k (.sl m.length 0 1 1) [.arr .u8 5 1 (rowF (fun _ => 0) (rdB M a) 1), .dead] else none
    | _ => none)
  | _ => none
theorem readN_ok : NSpecOk Try.prog XM 63 readN := by
  intro R args m k r h
  unfold readN at h
  split at h
  · split at h
    · rename_i _ b a n _ M hb
      rcases cond_two h with ⟨hn, h⟩ | ⟨hn, h⟩
      · have hn : n = 288 := eq_of_beq hn
        subst hn
        exact ⟨_, _, h, (callR_ev ΓMh_ok (by kernel_rfl) (read288_form a M)).frameN (m0 := [.ext 0 M]) (ex0 := [.arr .u8 5 288 (rowF (fun _ => 0) (rdB M a) 288), .dead]) [b] (by simp) ⟨hb, trivial⟩ rfl rfl rfl rfl rfl rfl⟩
      rcases cond_two h with ⟨hn, h⟩ | ⟨hn, h⟩
      · have hn : n = 256 := eq_of_beq hn
        subst hn
        exact ⟨_, _, h, (callR_ev ΓMh_ok (by kernel_rfl) (read256_form a M)).frameN (m0 := [.ext 0 M]) (ex0 := [.arr .u8 5 256 (rowF (fun _ => 0) (rdB M a) 256), .dead]) [b] (by simp) ⟨hb, trivial⟩ rfl rfl rfl rfl rfl rfl⟩
      rcases cond_two h with ⟨hn, h⟩ | ⟨hn, h⟩
      · have hn : n = 100 := eq_of_beq hn
        subst hn
        exact ⟨_, _, h, (callR_ev ΓMh_ok (by kernel_rfl) (read100_form a M)).frameN (m0 := [.ext 0 M]) (ex0 := [.arr .u8 5 100 (rowF (fun _ => 0) (rdB M a) 100), .dead]) [b] (by simp) ⟨hb, trivial⟩ rfl rfl rfl rfl rfl rfl⟩
      rcases cond_two h with ⟨hn, h⟩ | ⟨hn, h⟩
      · have hn : n = 40 := eq_of_beq hn
        subst hn
        exact ⟨_, _, h, (callR_ev ΓMh_ok (by kernel_rfl) (read40_form a M)).frameN (m0 := [.ext 0 M]) (ex0 := [.arr .u8 5 40 (rowF (fun _ => 0) (rdB M a) 40), .dead]) [b] (by simp) ⟨hb, trivial⟩ rfl rfl rfl rfl rfl rfl⟩
      rcases cond_two h with ⟨hn, h⟩ | ⟨hn, h⟩
      · have hn : n = 4 := eq_of_beq hn
        subst hn
        exact ⟨_, _, h, (callR_ev ΓMh_ok (by kernel_rfl) (read4_form a M)).frameN (m0 := [.ext 0 M]) (ex0 := [.arr .u8 5 4 (rowF (fun _ => 0) (rdB M a) 4), .dead]) [b] (by simp) ⟨hb, trivial⟩ rfl rfl rfl rfl rfl rfl⟩
      rcases cond_two h with ⟨hn, h⟩ | ⟨hn, h⟩
      · have hn : n = 1 := eq_of_beq hn
        subst hn
        exact ⟨_, _, h, (callR_ev ΓMh_ok (by kernel_rfl) (read1_form a M)).frameN (m0 := [.ext 0 M]) (ex0 := [.arr .u8 5 1 (rowF (fun _ => 0) (rdB M a) 1), .dead]) [b] (by simp) ⟨hb, trivial⟩ rfl rfl rfl rfl rfl rfl⟩
      cases h
    · cases h
  · cases h
def rreadN : NSpec := fun R args m k => match args with
  | [.ptr b 0, .v (.int .u32 a), .v (.int .i64 n)] => (match m[b]? with
    | some (.cells [.mp j] T2) => (match m[j]? with
      | some (.bm .u32 .u8 M) => bif !(b == j) then (bif n == 288 then k (.sl m.length 0 288 288) [.arr .u8 5 288 (rowF (fun _ => 0) (rdB M a) 288), .dead] else bif n == 256 then k (.sl m.length 0 256 256) [.arr .u8 5 256 (rowF (fun _ => 0) (rdB M a) 256), .dead] else bif n == 100 then k (.sl m.length 0 100 100) [.arr .u8 5 100 (rowF (fun _ => 0) (rdB M a) 100), .dead] else bif n == 40 then k (.sl m.length 0 40 40) [.arr .u8 5 40 (rowF (fun _ => 0) (rdB M a) 40), .dead] else bif n == 4 then k (.sl m.length 0 4 4) [.arr .u8 5 4 (rowF (fun _ => 0) (rdB M a) 4), .dead] else bif n == 1 then k (.sl m.length 0 1 1) [.arr .u8 5 1 (rowF (fun _ => 0) (rdB M a) 1), .dead] else none) else none
      | _ => none)
    | _ => none)
  | _ => none
theorem rreadN_ok : NSpecOk Try.prog XM 35 rreadN := by
  intro R args m k r h
  unfold rreadN at h
  split at h
  · split at h
    · split at h
      · rename_i _ b a n _ j T2 hb _ M hj
        obtain ⟨hc, h⟩ := cond_some h
        simp only [Bool.not_eq_true', beq_eq_false_iff_ne] at hc
        rcases cond_two h with ⟨hn, h⟩ | ⟨hn, h⟩
        · have hn : n = 288 := eq_of_beq hn
          subst hn
          exact ⟨_, _, h, (callR_ev ΓMh_ok (by kernel_rfl) (rread288_form a M T2)).frameN (m0 := [.cells [.mp 1] T2, .bm .u32 .u8 M]) (ex0 := [.arr .u8 5 288 (rowF (fun _ => 0) (rdB M a) 288), .dead]) [b, j] (by simpa using hc) ⟨hb, hj, trivial⟩ rfl rfl rfl rfl rfl rfl⟩
        rcases cond_two h with ⟨hn, h⟩ | ⟨hn, h⟩
        · have hn : n = 256 := eq_of_beq hn
          subst hn
          exact ⟨_, _, h, (callR_ev ΓMh_ok (by kernel_rfl) (rread256_form a M T2)).frameN (m0 := [.cells [.mp 1] T2, .bm .u32 .u8 M]) (ex0 := [.arr .u8 5 256 (rowF (fun _ => 0) (rdB M a) 256), .dead]) [b, j] (by simpa using hc) ⟨hb, hj, trivial⟩ rfl rfl rfl rfl rfl rfl⟩
        rcases cond_two h with ⟨hn, h⟩ | ⟨hn, h⟩
        · have hn : n = 100 := eq_of_beq hn
          subst hn
          exact ⟨_, _, h, (callR_ev ΓMh_ok (by kernel_rfl) (rread100_form a M T2)).frameN (m0 := [.cells [.mp 1] T2, .bm .u32 .u8 M]) (ex0 := [.arr .u8 5 100 (rowF (fun _ => 0) (rdB M a) 100), .dead]) [b, j] (by simpa using hc) ⟨hb, hj, trivial⟩ rfl rfl rfl rfl rfl rfl⟩
        rcases cond_two h with ⟨hn, h⟩ | ⟨hn, h⟩
        · have hn : n = 40 := eq_of_beq hn
          subst hn
          exact ⟨_, _, h, (callR_ev ΓMh_ok (by kernel_rfl) (rread40_form a M T2)).frameN (m0 := [.cells [.mp 1] T2, .bm .u32 .u8 M]) (ex0 := [.arr .u8 5 40 (rowF (fun _ => 0) (rdB M a) 40), .dead]) [b, j] (by simpa using hc) ⟨hb, hj, trivial⟩ rfl rfl rfl rfl rfl rfl⟩
        rcases cond_two h with ⟨hn, h⟩ | ⟨hn, h⟩
        · have hn : n = 4 := eq_of_beq hn
          subst hn
          exact ⟨_, _, h, (callR_ev ΓMh_ok (by kernel_rfl) (rread4_form a M T2)).frameN (m0 := [.cells [.mp 1] T2, .bm .u32 .u8 M]) (ex0 := [.arr .u8 5 4 (rowF (fun _ => 0) (rdB M a) 4), .dead]) [b, j] (by simpa using hc) ⟨hb, hj, trivial⟩ rfl rfl rfl rfl rfl rfl⟩
        rcases cond_two h with ⟨hn, h⟩ | ⟨hn, h⟩
        · have hn : n = 1 := eq_of_beq hn
          subst hn
          exact ⟨_, _, h, (callR_ev ΓMh_ok (by kernel_rfl) (rread1_form a M T2)).frameN (m0 := [.cells [.mp 1] T2, .bm .u32 .u8 M]) (ex0 := [.arr .u8 5 1 (rowF (fun _ => 0) (rdB M a) 1), .dead]) [b, j] (by simpa using hc) ⟨hb, hj, trivial⟩ rfl rfl rfl rfl rfl rfl⟩
        cases h
      · cases h
    · cases h
  · cases h
theorem busNew_form (cb cs db ds : Int) (cr cw cx dr dw dx : Bool) (M : Int → Int) :
    evF Try.prog ΓM4 400 42 [.ptr 0 0, .agg [.v (.int .u32 cb), .v (.int .u32 cs), .v (.bool cr), .v (.bool cw), .v (.bool cx)], .agg [.v (.int .u32 db), .v (.int .u32 ds), .v (.bool dr), .v (.bool dw), .v (.bool dx)]] [.ext 0 M] kSM kNo =
    (some
(Sv.ptr 3 0,
[SObj.ext 0 M,
SObj.cells
[vw cb, vw cs, vb cr, vb cw,
vb cx]
66,
SObj.cells
[vw db, vw ds, vb dr, vb dw,
vb dx]
66,
SObj.cells
[Sv.ptr 0 0, vw cb, vw cs, vb cr,
vb cw, vb cx, vw db, vw ds,
vb dr, vb dw, vb dx]
115])) := by kernel_rfl
def busNewN : NSpec := fun R args m k => match args with
  | [.ptr b 0, .agg [.v (.int .u32 cb), .v (.int .u32 cs), .v (.bool cr), .v (.bool cw), .v (.bool cx)], .agg [.v (.int .u32 db), .v (.int .u32 ds), .v (.bool dr), .v (.bool dw), .v (.bool dx)]] => (match m[b]? with
    | some (.ext 0 M) => k (.ptr (m.length + 2) 0) [.cells [.v (.int .u32 cb), .v (.int .u32 cs), .v (.bool cr), .v (.bool cw), .v (.bool cx)] 66, .cells [.v (.int .u32 db), .v (.int .u32 ds), .v (.bool dr), .v (.bool dw), .v (.bool dx)] 66, .cells [.ptr b 0, .v (.int .u32 cb), .v (.int .u32 cs), .v (.bool cr), .v (.bool cw), .v (.bool cx), .v (.int .u32 db), .v (.int .u32 ds), .v (.bool dr), .v (.bool dw), .v (.bool dx)] 115]
    | _ => none)
  | _ => none
theorem busNewN_ok : NSpecOk Try.prog XM 42 busNewN := by
  intro R args m k r h
  unfold busNewN at h
  split at h
  · split at h
    · rename_i _ b cb cs cr cw cx db ds dr dw dx _ M hb
      exact ⟨_, _, h, (callR_ev ΓM4_ok (by kernel_rfl) (busNew_form cb cs db ds cr cw cx dr dw dx M)).frameN (m0 := [.ext 0 M]) (ex0 := [.cells [.v (.int .u32 cb), .v (.int .u32 cs), .v (.bool cr), .v (.bool cw), .v (.bool cx)] 66, .cells [.v (.int .u32 db), .v (.int .u32 ds), .v (.bool dr), .v (.bool dw), .v (.bool dx)] 66, .cells [.ptr 0 0, .v (.int .u32 cb), .v (.int .u32 cs), .v (.bool cr), .v (.bool cw), .v (.bool cx), .v (.int .u32 db), .v (.int .u32 ds), .v (.bool dr), .v (.bool dw), .v (.bool dx)] 115]) [b] (by simp) ⟨hb, trivial⟩ rfl rfl rfl rfl rfl rfl⟩
    · cases h
  · cases h
theorem busMem_form (cb cs db ds : Int) (cr cw cx dr dw dx : Bool) (M : Int → Int) (T : TypeId) :
    evF Try.prog ΓM4 400 62 [.ptr 0 0] [.cells [.ptr 1 0, .v (.int .u32 cb), .v (.int .u32 cs), .v (.bool cr), .v (.bool cw), .v (.bool cx), .v (.int .u32 db), .v (.int .u32 ds), .v (.bool dr), .v (.bool dw), .v (.bool dx)] T, .ext 0 M] kSM kNo =
    (some
(Sv.ptr 1 0,
[SObj.cells
[Sv.ptr 1 0, vw cb, vw cs, vb cr,
vb cw, vb cx, vw db, vw ds,
vb dr, vb dw, vb dx]
T,
SObj.ext 0 M])) := by kernel_rfl
def busMemN : NSpec := fun R args m k => match args with
  | [.ptr b 0] => (match m[b]? with
    | some (.cells [.ptr g 0, .v (.int .u32 cb), .v (.int .u32 cs), .v (.bool cr), .v (.bool cw), .v (.bool cx), .v (.int .u32 db), .v (.int .u32 ds), .v (.bool dr), .v (.bool dw), .v (.bool dx)] T) => (match m[g]? with
      | some (.ext 0 M) => bif !(b == g) then k (.ptr g 0) [] else none
      | _ => none)
    | _ => none)
  | _ => none
theorem busMemN_ok : NSpecOk Try.prog XM 62 busMemN := by
  intro R args m k r h
  unfold busMemN at h
  split at h
  · split at h
    · split at h
      · rename_i _ b _ g cb cs cr cw cx db ds dr dw dx T hb _ M hg
        obtain ⟨hc, h⟩ := cond_some h
        simp only [Bool.not_eq_true', beq_eq_false_iff_ne] at hc
        exact ⟨_, _, h, (callR_ev ΓM4_ok (by kernel_rfl) (busMem_form cb cs db ds cr cw cx dr dw dx M T)).frameN (m0 := [.cells [.ptr 1 0, .v (.int .u32 cb), .v (.int .u32 cs), .v (.bool cr), .v (.bool cw), .v (.bool cx), .v (.int .u32 db), .v (.int .u32 ds), .v (.bool dr), .v (.bool dw), .v (.bool dx)] T, .ext 0 M]) (ex0 := []) [b, g] (by simpa using hc) ⟨hb, hg, trivial⟩ rfl rfl rfl rfl rfl rfl⟩
      · cases h
    · cases h
  · cases h
def ΓM5 : Env := ((((ΓM4.addN 63 readN).addN 35 rreadN).addN 42 busNewN).addN 62 busMemN)
theorem ΓM5_ok : EnvOk Try.prog X0 ΓM5 := ((((ΓM4_ok.addN (by kernel_rfl) readN_ok).addN (by kernel_rfl) rreadN_ok).addN (by kernel_rfl) busNewN_ok).addN (by kernel_rfl) busMemN_ok)
end Go.Proofs.Ytpgdpoloipifeaa
