/- Boxes: made, held against one another. -/
import Derived.Test.YtpgdpoloipifeaaEvV
import Derived.Test.YtpgdpoloipifeaaCMm5
import Derived.Test.YtpgdpoloipifeaaCMm2
import Derived.Test.YtpgdpoloipifeaaEvG
namespace Go.Proofs.Ytpgdpoloipifeaa
open Go Go.Ev
set_option linter.unusedVariables false
set_option linter.unusedSimpArgs false
set_option maxRecDepth 100000

/-- Are two memories alike, where boxes lie? -/
def alikeV (M M2 : Int → Int) : Bool := strEq (bstr (rowF (fun _ => 0) (rdB M 36848) 288) 0 288) (bstr (rowF (fun _ => 0) (rdB M2 36848) 288) 0 288) && strEq (bstr (rowF (fun _ => 0) (rdB M 20464) 100) 0 100) (bstr (rowF (fun _ => 0) (rdB M2 20464) 100) 0 100)
theorem alikeV_self (M : Int → Int) : alikeV M M = true := by unfold alikeV strEq; simp
abbrev cCMm6z6  : List Sv := [Sv.ptr 1 0, vw 16384, vw 4096, vb false, vb false, vb true, vw 36864, vw 256, vb true, vb true, vb false]
abbrev cCMm6z7  : List Sv := [Sv.ptr 6 0, vw 16384, vw 4096, vb false, vb false, vb true, vw 36864, vw 256, vb true, vb true, vb false]
theorem boxes15_form (k : Int) :
    evF Try.prog ΓM5 400 33 [.v (.slice none 0 0), .v (.int .u32 k)] [] kSM kNo =
    (some
(Sv.tup [Sv.ptr (10 + 2) 0, Sv.ptr 5 0],
[SObj.bm IntKind.u32 IntKind.u8 (wrM (fun x => 0) 36864 (rowF (fun x => 0) (fillB k) 256) 256),
SObj.cells [Sv.mp 0] 129, SObj.arr IntKind.u8 5 256 (rowF (fun x => 0) (fillB k) 256), SObj.dead, SObj.dead,
SObj.cells
(cCMm6z6 )
68,
SObj.ext 0 (wrM (fun x => 0) 36864 (rowF (fun x => 0) (fillB k) 256) 256),
SObj.arr IntKind.u8 5 256 (rowF (fun x => 0) (fillB k) 256), SObj.dead, SObj.dead,
SObj.cells
[vw 16384, vw 4096, vb false,
vb false, vb true]
66,
SObj.cells
[vw 36864, vw 256, vb true, vb true,
vb false]
66,
SObj.cells
(cCMm6z7 )
115])) := by kernel_rfl
def boxes15S : Ev.Spec := fun R args m k kp => match args with
  | [.v (.slice none 0 0), .v (.int .u32 a)] => k (.tup [.ptr (m.length + 12) 0, .ptr (m.length + 5) 0]) (m ++ [.bm .u32 .u8 (wrM (fun _ => 0) 36864 (rowF (fun _ => 0) (fillB a) 256) 256), .cells [.mp m.length] 129, .arr .u8 5 256 (rowF (fun _ => 0) (fillB a) 256), .dead, .dead, .cells [.ptr (m.length + 1) 0, .v (.int .u32 16384), .v (.int .u32 4096), .v (.bool false), .v (.bool false), .v (.bool true), .v (.int .u32 36864), .v (.int .u32 256), .v (.bool true), .v (.bool true), .v (.bool false)] 68, .ext 0 (wrM (fun _ => 0) 36864 (rowF (fun _ => 0) (fillB a) 256) 256), .arr .u8 5 256 (rowF (fun _ => 0) (fillB a) 256), .dead, .dead, .cells [.v (.int .u32 16384), .v (.int .u32 4096), .v (.bool false), .v (.bool false), .v (.bool true)] 66, .cells [.v (.int .u32 36864), .v (.int .u32 256), .v (.bool true), .v (.bool true), .v (.bool false)] 66, .cells [.ptr (m.length + 6) 0, .v (.int .u32 16384), .v (.int .u32 4096), .v (.bool false), .v (.bool false), .v (.bool true), .v (.int .u32 36864), .v (.int .u32 256), .v (.bool true), .v (.bool true), .v (.bool false)] 115])
  | _ => none
abbrev cCMm6z2  : List Sv := [.ptr 1 0, .v (.int .u32 16384), .v (.int .u32 4096), .v (.bool false), .v (.bool false), .v (.bool true), .v (.int .u32 36864), .v (.int .u32 256), .v (.bool true), .v (.bool true), .v (.bool false)]
abbrev cCMm6z3  : List Sv := [.ptr 6 0, .v (.int .u32 16384), .v (.int .u32 4096), .v (.bool false), .v (.bool false), .v (.bool true), .v (.int .u32 36864), .v (.int .u32 256), .v (.bool true), .v (.bool true), .v (.bool false)]
abbrev cCMm6z8  : List Sv := [.v (.int .u32 16384), .v (.int .u32 4096), .v (.bool false), .v (.bool false), .v (.bool true)]
abbrev cCMm6z9  : List Sv := [.v (.int .u32 36864), .v (.int .u32 256), .v (.bool true), .v (.bool true), .v (.bool false)]
theorem boxes15S_ok : SpecOk Try.prog XM 33 boxes15S := by
  intro R args m k kp r h
  unfold boxes15S at h
  split at h
  · rename_i a
    exact .inl ⟨_, _, h, (callR_ev ΓM5_ok (by kernel_rfl) (boxes15_form a)).frameN (m0 := []) (ex0 := [.bm .u32 .u8 (wrM (fun _ => 0) 36864 (rowF (fun _ => 0) (fillB a) 256) 256), .cells [.mp 0] 129, .arr .u8 5 256 (rowF (fun _ => 0) (fillB a) 256), .dead, .dead, .cells (cCMm6z2 ) 68, .ext 0 (wrM (fun _ => 0) 36864 (rowF (fun _ => 0) (fillB a) 256) 256), .arr .u8 5 256 (rowF (fun _ => 0) (fillB a) 256), .dead, .dead, .cells (cCMm6z8 ) 66, .cells (cCMm6z9 ) 66, .cells (cCMm6z3 ) 115]) [] (by simp) trivial rfl rfl rfl rfl rfl rfl⟩
  · cases h
abbrev cCMm6z0 (cb2 cs2 : Int) (cr2 cw2 cx2 : Bool) (db2 ds2 : Int) (dr2 dw2 dx2 : Bool) : List Sv := [.ptr 3 0, .v (.int .u32 cb2), .v (.int .u32 cs2), .v (.bool cr2), .v (.bool cw2), .v (.bool cx2), .v (.int .u32 db2), .v (.int .u32 ds2), .v (.bool dr2), .v (.bool dw2), .v (.bool dx2)]
abbrev cCMm6z1 (cb cs : Int) (cr cw cx : Bool) (db ds : Int) (dr dw dx : Bool) : List Sv := [.ptr 1 0, .v (.int .u32 cb), .v (.int .u32 cs), .v (.bool cr), .v (.bool cw), .v (.bool cx), .v (.int .u32 db), .v (.int .u32 ds), .v (.bool dr), .v (.bool dw), .v (.bool dx)]
abbrev cCMm6z4 (cb2 cs2 : Int) (cr2 cw2 cx2 : Bool) (db2 ds2 : Int) (dr2 dw2 dx2 : Bool) : List Sv := [Sv.ptr 3 0, vw cb2, vw cs2, vb cr2, vb cw2, vb cx2, vw db2, vw ds2, vb dr2, vb dw2, vb dx2]
abbrev cCMm6z5 (cb cs : Int) (cr cw cx : Bool) (db ds : Int) (dr dw dx : Bool) : List Sv := [Sv.ptr 1 0, vw cb, vw cs, vb cr, vb cw, vb cx, vw db, vw ds, vb dr, vb dw, vb dx]
theorem alike15_form (cb cs db ds cb2 cs2 db2 ds2 : Int) (cr cw cx dr dw dx cr2 cw2 cx2 dr2 dw2 dx2 : Bool) (M M2 : Int → Int) (T T2 T3 : TypeId) :
    evF Try.prog ΓM5 400 36 [.ptr 0 0, .ptr 2 0] [.cells (cCMm6z1 cb cs cr cw cx db ds dr dw dx) T, .ext 0 M, .cells (cCMm6z0 cb2 cs2 cr2 cw2 cx2 db2 ds2 dr2 dw2 dx2) T2, .cells [.mp 4] T3, .bm .u32 .u8 M2] (kTk 5) kNo =
    (bif strEq (bstr (rowF (fun x => 0) (rdB M 36848) 288) 0 288) (bstr (rowF (fun x => 0) (rdB M2 36848) 288) 0 288) then
some
(Sv.v
(Value.bool
(strEq (bstr (rowF (fun x => 0) (rdB M 20464) 100) 0 100) (bstr (rowF (fun x => 0) (rdB M2 20464) 100) 0 100))),
[SObj.cells
(cCMm6z5 cb cs cr cw cx db ds dr dw dx)
T,
SObj.ext 0 M,
SObj.cells
(cCMm6z4 cb2 cs2 cr2 cw2 cx2 db2 ds2 dr2 dw2 dx2)
T2,
SObj.cells [Sv.mp 4] T3, SObj.bm IntKind.u32 IntKind.u8 M2])
else
some
(vb false,
[SObj.cells
(cCMm6z5 cb cs cr cw cx db ds dr dw dx)
T,
SObj.ext 0 M,
SObj.cells
(cCMm6z4 cb2 cs2 cr2 cw2 cx2 db2 ds2 dr2 dw2 dx2)
T2,
SObj.cells [Sv.mp 4] T3, SObj.bm IntKind.u32 IntKind.u8 M2])) := by kernel_rfl
theorem alike15_ev (cb cs db ds cb2 cs2 db2 ds2 : Int) (cr cw cx dr dw dx cr2 cw2 cx2 dr2 dw2 dx2 : Bool) (M M2 : Int → Int) (T T2 T3 : TypeId) : evF Try.prog ΓM5 400 36 [.ptr 0 0, .ptr 2 0] [.cells (cCMm6z1 cb cs cr cw cx db ds dr dw dx) T, .ext 0 M, .cells (cCMm6z0 cb2 cs2 cr2 cw2 cx2 db2 ds2 dr2 dw2 dx2) T2, .cells [.mp 4] T3, .bm .u32 .u8 M2] (kTk 5) kNo = some (.v (.bool (alikeV M M2)), [.cells (cCMm6z1 cb cs cr cw cx db ds dr dw dx) T, .ext 0 M, .cells (cCMm6z0 cb2 cs2 cr2 cw2 cx2 db2 ds2 dr2 dw2 dx2) T2, .cells [.mp 4] T3, .bm .u32 .u8 M2]) := by
  rw [alike15_form]
  unfold alikeV
  cases strEq (bstr (rowF (fun _ => 0) (rdB M 36848) 288) 0 288) (bstr (rowF (fun _ => 0) (rdB M2 36848) 288) 0 288) <;> rfl
def alike15N : NSpec := fun R args m k => match args with
  | [.ptr b 0, .ptr w 0] => (match m[b]? with
    | some (.cells [.ptr g 0, .v (.int .u32 cb), .v (.int .u32 cs), .v (.bool cr), .v (.bool cw), .v (.bool cx), .v (.int .u32 db), .v (.int .u32 ds), .v (.bool dr), .v (.bool dw), .v (.bool dx)] T) => (match m[g]? with
      | some (.ext 0 M) => (match m[w]? with
        | some (.cells [.ptr h 0, .v (.int .u32 cb2), .v (.int .u32 cs2), .v (.bool cr2), .v (.bool cw2), .v (.bool cx2), .v (.int .u32 db2), .v (.int .u32 ds2), .v (.bool dr2), .v (.bool dw2), .v (.bool dx2)] T2) => (match m[h]? with
          | some (.cells [.mp j] T3) => (match m[j]? with
            | some (.bm .u32 .u8 M2) => bif (!(b == g) && (!(b == w) && (!(b == h) && !(b == j)))) && ((!(g == w) && (!(g == h) && !(g == j))) && ((!(w == h) && !(w == j)) && !(h == j))) then
                k (.v (.bool (alikeV M M2))) [] else none
            | _ => none)
          | _ => none)
        | _ => none)
      | _ => none)
    | _ => none)
  | _ => none
theorem alike15N_ok : NSpecOk Try.prog XM 36 alike15N := by
  intro R args m k r hh
  unfold alike15N at hh
  split at hh
  · split at hh
    · split at hh
      · split at hh
        · split at hh
          · split at hh
            · rename_i _ b w _ g cb cs cr cw cx db ds dr dw dx T hb _ M hg _ h cb2 cs2 cr2 cw2 cx2 db2 ds2 dr2 dw2 dx2 T2 hw _ j T3 hh3 _ M2 hj
              obtain ⟨hc, h9⟩ := cond_some hh
              clear hh
              simp only [Bool.and_eq_true, Bool.not_eq_true', beq_eq_false_iff_ne] at hc
              obtain ⟨⟨c1, c2, c3, c4⟩, ⟨c5, c6, c7⟩, ⟨c8, c9⟩, c10⟩ := hc
              have hd : [b, g, w, h, j].Nodup := by simp; exact ⟨⟨c1, c2, c3, c4⟩, ⟨c5, c6, c7⟩, ⟨c8, c9⟩, c10⟩
              have hf := callR_evT ΓM5_ok (by kernel_rfl) (alike15_ev cb cs db ds cb2 cs2 db2 ds2 cr cw cx dr dw dx cr2 cw2 cx2 dr2 dw2 dx2 M M2 T T2 T3) rfl rfl rfl rfl
              exact ⟨_, _, h9, CallR.frameN (m0 := [.cells (cCMm6z1 cb cs cr cw cx db ds dr dw dx) T, .ext 0 M, .cells (cCMm6z0 cb2 cs2 cr2 cw2 cx2 db2 ds2 dr2 dw2 dx2) T2, .cells [.mp 4] T3, .bm .u32 .u8 M2]) (ex0 := []) (by rw [List.append_nil]; exact hf) [b, g, w, h, j] hd ⟨hb, hg, hw, hh3, hj, trivial⟩ rfl rfl rfl rfl rfl rfl⟩
            · cases hh
          · cases hh
        · cases hh
      · cases hh
    · cases hh
  · cases hh
def alike15S : Ev.Spec := fun R args m k kp => alike15N R args m (fun sv ex => k sv (m ++ ex))
theorem alike15S_ok : SpecOk Try.prog XM 36 alike15S := by
  intro R args m k kp r h
  obtain ⟨sv, ex, h1, h2⟩ := alike15N_ok R args m _ r h
  exact .inl ⟨sv, _, h1, h2⟩
theorem boxes18_form (k : Int) :
    evF Try.prog ΓM5 400 13 [.v (.slice none 0 0), .v (.int .u32 k)] [] kSM kNo =
    (some
(Sv.tup [Sv.ptr (10 + 2) 0, Sv.ptr 5 0],
[SObj.bm IntKind.u32 IntKind.u8 (wrM (fun x => 0) 36864 (rowF (fun x => 0) (fillB k) 256) 256),
SObj.cells [Sv.mp 0] 129, SObj.arr IntKind.u8 5 256 (rowF (fun x => 0) (fillB k) 256), SObj.dead, SObj.dead,
SObj.cells
(cCMm6z6 )
68,
SObj.ext 0 (wrM (fun x => 0) 36864 (rowF (fun x => 0) (fillB k) 256) 256),
SObj.arr IntKind.u8 5 256 (rowF (fun x => 0) (fillB k) 256), SObj.dead, SObj.dead,
SObj.cells
[vw 16384, vw 4096, vb false,
vb false, vb true]
66,
SObj.cells
[vw 36864, vw 256, vb true, vb true,
vb false]
66,
SObj.cells
(cCMm6z7 )
115])) := by kernel_rfl
def boxes18S : Ev.Spec := fun R args m k kp => match args with
  | [.v (.slice none 0 0), .v (.int .u32 a)] => k (.tup [.ptr (m.length + 12) 0, .ptr (m.length + 5) 0]) (m ++ [.bm .u32 .u8 (wrM (fun _ => 0) 36864 (rowF (fun _ => 0) (fillB a) 256) 256), .cells [.mp m.length] 129, .arr .u8 5 256 (rowF (fun _ => 0) (fillB a) 256), .dead, .dead, .cells [.ptr (m.length + 1) 0, .v (.int .u32 16384), .v (.int .u32 4096), .v (.bool false), .v (.bool false), .v (.bool true), .v (.int .u32 36864), .v (.int .u32 256), .v (.bool true), .v (.bool true), .v (.bool false)] 68, .ext 0 (wrM (fun _ => 0) 36864 (rowF (fun _ => 0) (fillB a) 256) 256), .arr .u8 5 256 (rowF (fun _ => 0) (fillB a) 256), .dead, .dead, .cells [.v (.int .u32 16384), .v (.int .u32 4096), .v (.bool false), .v (.bool false), .v (.bool true)] 66, .cells [.v (.int .u32 36864), .v (.int .u32 256), .v (.bool true), .v (.bool true), .v (.bool false)] 66, .cells [.ptr (m.length + 6) 0, .v (.int .u32 16384), .v (.int .u32 4096), .v (.bool false), .v (.bool false), .v (.bool true), .v (.int .u32 36864), .v (.int .u32 256), .v (.bool true), .v (.bool true), .v (.bool false)] 115])
  | _ => none
theorem boxes18S_ok : SpecOk Try.prog XM 13 boxes18S := by
  intro R args m k kp r h
  unfold boxes18S at h
  split at h
  · rename_i a
    exact .inl ⟨_, _, h, (callR_ev ΓM5_ok (by kernel_rfl) (boxes18_form a)).frameN (m0 := []) (ex0 := [.bm .u32 .u8 (wrM (fun _ => 0) 36864 (rowF (fun _ => 0) (fillB a) 256) 256), .cells [.mp 0] 129, .arr .u8 5 256 (rowF (fun _ => 0) (fillB a) 256), .dead, .dead, .cells (cCMm6z2 ) 68, .ext 0 (wrM (fun _ => 0) 36864 (rowF (fun _ => 0) (fillB a) 256) 256), .arr .u8 5 256 (rowF (fun _ => 0) (fillB a) 256), .dead, .dead, .cells (cCMm6z8 ) 66, .cells (cCMm6z9 ) 66, .cells (cCMm6z3 ) 115]) [] (by simp) trivial rfl rfl rfl rfl rfl rfl⟩
  · cases h
theorem alike18_form (cb cs db ds cb2 cs2 db2 ds2 : Int) (cr cw cx dr dw dx cr2 cw2 cx2 dr2 dw2 dx2 : Bool) (M M2 : Int → Int) (T T2 T3 : TypeId) :
    evF Try.prog ΓM5 400 21 [.ptr 0 0, .ptr 2 0] [.cells (cCMm6z1 cb cs cr cw cx db ds dr dw dx) T, .ext 0 M, .cells (cCMm6z0 cb2 cs2 cr2 cw2 cx2 db2 ds2 dr2 dw2 dx2) T2, .cells [.mp 4] T3, .bm .u32 .u8 M2] (kTk 5) kNo =
    (bif strEq (bstr (rowF (fun x => 0) (rdB M 36848) 288) 0 288) (bstr (rowF (fun x => 0) (rdB M2 36848) 288) 0 288) then
some
(Sv.v
(Value.bool
(strEq (bstr (rowF (fun x => 0) (rdB M 20464) 100) 0 100) (bstr (rowF (fun x => 0) (rdB M2 20464) 100) 0 100))),
[SObj.cells
(cCMm6z5 cb cs cr cw cx db ds dr dw dx)
T,
SObj.ext 0 M,
SObj.cells
(cCMm6z4 cb2 cs2 cr2 cw2 cx2 db2 ds2 dr2 dw2 dx2)
T2,
SObj.cells [Sv.mp 4] T3, SObj.bm IntKind.u32 IntKind.u8 M2])
else
some
(vb false,
[SObj.cells
(cCMm6z5 cb cs cr cw cx db ds dr dw dx)
T,
SObj.ext 0 M,
SObj.cells
(cCMm6z4 cb2 cs2 cr2 cw2 cx2 db2 ds2 dr2 dw2 dx2)
T2,
SObj.cells [Sv.mp 4] T3, SObj.bm IntKind.u32 IntKind.u8 M2])) := by kernel_rfl
theorem alike18_ev (cb cs db ds cb2 cs2 db2 ds2 : Int) (cr cw cx dr dw dx cr2 cw2 cx2 dr2 dw2 dx2 : Bool) (M M2 : Int → Int) (T T2 T3 : TypeId) : evF Try.prog ΓM5 400 21 [.ptr 0 0, .ptr 2 0] [.cells (cCMm6z1 cb cs cr cw cx db ds dr dw dx) T, .ext 0 M, .cells (cCMm6z0 cb2 cs2 cr2 cw2 cx2 db2 ds2 dr2 dw2 dx2) T2, .cells [.mp 4] T3, .bm .u32 .u8 M2] (kTk 5) kNo = some (.v (.bool (alikeV M M2)), [.cells (cCMm6z1 cb cs cr cw cx db ds dr dw dx) T, .ext 0 M, .cells (cCMm6z0 cb2 cs2 cr2 cw2 cx2 db2 ds2 dr2 dw2 dx2) T2, .cells [.mp 4] T3, .bm .u32 .u8 M2]) := by
  rw [alike18_form]
  unfold alikeV
  cases strEq (bstr (rowF (fun _ => 0) (rdB M 36848) 288) 0 288) (bstr (rowF (fun _ => 0) (rdB M2 36848) 288) 0 288) <;> rfl
def alike18N : NSpec := fun R args m k => match args with
  | [.ptr b 0, .ptr w 0] => (match m[b]? with
    | some (.cells [.ptr g 0, .v (.int .u32 cb), .v (.int .u32 cs), .v (.bool cr), .v (.bool cw), .v (.bool cx), .v (.int .u32 db), .v (.int .u32 ds), .v (.bool dr), .v (.bool dw), .v (.bool dx)] T) => (match m[g]? with
      | some (.ext 0 M) => (match m[w]? with
        | some (.cells [.ptr h 0, .v (.int .u32 cb2), .v (.int .u32 cs2), .v (.bool cr2), .v (.bool cw2), .v (.bool cx2), .v (.int .u32 db2), .v (.int .u32 ds2), .v (.bool dr2), .v (.bool dw2), .v (.bool dx2)] T2) => (match m[h]? with
          | some (.cells [.mp j] T3) => (match m[j]? with
            | some (.bm .u32 .u8 M2) => bif (!(b == g) && (!(b == w) && (!(b == h) && !(b == j)))) && ((!(g == w) && (!(g == h) && !(g == j))) && ((!(w == h) && !(w == j)) && !(h == j))) then
                k (.v (.bool (alikeV M M2))) [] else none
            | _ => none)
          | _ => none)
        | _ => none)
      | _ => none)
    | _ => none)
  | _ => none
theorem alike18N_ok : NSpecOk Try.prog XM 21 alike18N := by
  intro R args m k r hh
  unfold alike18N at hh
  split at hh
  · split at hh
    · split at hh
      · split at hh
        · split at hh
          · split at hh
            · rename_i _ b w _ g cb cs cr cw cx db ds dr dw dx T hb _ M hg _ h cb2 cs2 cr2 cw2 cx2 db2 ds2 dr2 dw2 dx2 T2 hw _ j T3 hh3 _ M2 hj
              obtain ⟨hc, h9⟩ := cond_some hh
              clear hh
              simp only [Bool.and_eq_true, Bool.not_eq_true', beq_eq_false_iff_ne] at hc
              obtain ⟨⟨c1, c2, c3, c4⟩, ⟨c5, c6, c7⟩, ⟨c8, c9⟩, c10⟩ := hc
              have hd : [b, g, w, h, j].Nodup := by simp; exact ⟨⟨c1, c2, c3, c4⟩, ⟨c5, c6, c7⟩, ⟨c8, c9⟩, c10⟩
              have hf := callR_evT ΓM5_ok (by kernel_rfl) (alike18_ev cb cs db ds cb2 cs2 db2 ds2 cr cw cx dr dw dx cr2 cw2 cx2 dr2 dw2 dx2 M M2 T T2 T3) rfl rfl rfl rfl
              exact ⟨_, _, h9, CallR.frameN (m0 := [.cells (cCMm6z1 cb cs cr cw cx db ds dr dw dx) T, .ext 0 M, .cells (cCMm6z0 cb2 cs2 cr2 cw2 cx2 db2 ds2 dr2 dw2 dx2) T2, .cells [.mp 4] T3, .bm .u32 .u8 M2]) (ex0 := []) (by rw [List.append_nil]; exact hf) [b, g, w, h, j] hd ⟨hb, hg, hw, hh3, hj, trivial⟩ rfl rfl rfl rfl rfl rfl⟩
            · cases hh
          · cases hh
        · cases hh
      · cases hh
    · cases hh
  · cases hh
def alike18S : Ev.Spec := fun R args m k kp => alike18N R args m (fun sv ex => k sv (m ++ ex))
theorem alike18S_ok : SpecOk Try.prog XM 21 alike18S := by
  intro R args m k kp r h
  obtain ⟨sv, ex, h1, h2⟩ := alike18N_ok R args m _ r h
  exact .inl ⟨sv, _, h1, h2⟩
theorem boxes19_form (k : Int) :
    evF Try.prog ΓM5 400 25 [.v (.slice none 0 0), .v (.int .u32 k)] [] kSM kNo =
    (some
(Sv.tup [Sv.ptr (10 + 2) 0, Sv.ptr 5 0],
[SObj.bm IntKind.u32 IntKind.u8 (wrM (fun x => 0) 36864 (rowF (fun x => 0) (fillB k) 256) 256),
SObj.cells [Sv.mp 0] 129, SObj.arr IntKind.u8 5 256 (rowF (fun x => 0) (fillB k) 256), SObj.dead, SObj.dead,
SObj.cells
(cCMm6z6 )
68,
SObj.ext 0 (wrM (fun x => 0) 36864 (rowF (fun x => 0) (fillB k) 256) 256),
SObj.arr IntKind.u8 5 256 (rowF (fun x => 0) (fillB k) 256), SObj.dead, SObj.dead,
SObj.cells
[vw 16384, vw 4096, vb false,
vb false, vb true]
66,
SObj.cells
[vw 36864, vw 256, vb true, vb true,
vb false]
66,
SObj.cells
(cCMm6z7 )
115])) := by kernel_rfl
def boxes19S : Ev.Spec := fun R args m k kp => match args with
  | [.v (.slice none 0 0), .v (.int .u32 a)] => k (.tup [.ptr (m.length + 12) 0, .ptr (m.length + 5) 0]) (m ++ [.bm .u32 .u8 (wrM (fun _ => 0) 36864 (rowF (fun _ => 0) (fillB a) 256) 256), .cells [.mp m.length] 129, .arr .u8 5 256 (rowF (fun _ => 0) (fillB a) 256), .dead, .dead, .cells [.ptr (m.length + 1) 0, .v (.int .u32 16384), .v (.int .u32 4096), .v (.bool false), .v (.bool false), .v (.bool true), .v (.int .u32 36864), .v (.int .u32 256), .v (.bool true), .v (.bool true), .v (.bool false)] 68, .ext 0 (wrM (fun _ => 0) 36864 (rowF (fun _ => 0) (fillB a) 256) 256), .arr .u8 5 256 (rowF (fun _ => 0) (fillB a) 256), .dead, .dead, .cells [.v (.int .u32 16384), .v (.int .u32 4096), .v (.bool false), .v (.bool false), .v (.bool true)] 66, .cells [.v (.int .u32 36864), .v (.int .u32 256), .v (.bool true), .v (.bool true), .v (.bool false)] 66, .cells [.ptr (m.length + 6) 0, .v (.int .u32 16384), .v (.int .u32 4096), .v (.bool false), .v (.bool false), .v (.bool true), .v (.int .u32 36864), .v (.int .u32 256), .v (.bool true), .v (.bool true), .v (.bool false)] 115])
  | _ => none
theorem boxes19S_ok : SpecOk Try.prog XM 25 boxes19S := by
  intro R args m k kp r h
  unfold boxes19S at h
  split at h
  · rename_i a
    exact .inl ⟨_, _, h, (callR_ev ΓM5_ok (by kernel_rfl) (boxes19_form a)).frameN (m0 := []) (ex0 := [.bm .u32 .u8 (wrM (fun _ => 0) 36864 (rowF (fun _ => 0) (fillB a) 256) 256), .cells [.mp 0] 129, .arr .u8 5 256 (rowF (fun _ => 0) (fillB a) 256), .dead, .dead, .cells (cCMm6z2 ) 68, .ext 0 (wrM (fun _ => 0) 36864 (rowF (fun _ => 0) (fillB a) 256) 256), .arr .u8 5 256 (rowF (fun _ => 0) (fillB a) 256), .dead, .dead, .cells (cCMm6z8 ) 66, .cells (cCMm6z9 ) 66, .cells (cCMm6z3 ) 115]) [] (by simp) trivial rfl rfl rfl rfl rfl rfl⟩
  · cases h
theorem alike19_form (cb cs db ds cb2 cs2 db2 ds2 : Int) (cr cw cx dr dw dx cr2 cw2 cx2 dr2 dw2 dx2 : Bool) (M M2 : Int → Int) (T T2 T3 : TypeId) :
    evF Try.prog ΓM5 400 29 [.ptr 0 0, .ptr 2 0] [.cells (cCMm6z1 cb cs cr cw cx db ds dr dw dx) T, .ext 0 M, .cells (cCMm6z0 cb2 cs2 cr2 cw2 cx2 db2 ds2 dr2 dw2 dx2) T2, .cells [.mp 4] T3, .bm .u32 .u8 M2] (kTk 5) kNo =
    (bif strEq (bstr (rowF (fun x => 0) (rdB M 36848) 288) 0 288) (bstr (rowF (fun x => 0) (rdB M2 36848) 288) 0 288) then
some
(Sv.v
(Value.bool
(strEq (bstr (rowF (fun x => 0) (rdB M 20464) 100) 0 100) (bstr (rowF (fun x => 0) (rdB M2 20464) 100) 0 100))),
[SObj.cells
(cCMm6z5 cb cs cr cw cx db ds dr dw dx)
T,
SObj.ext 0 M,
SObj.cells
(cCMm6z4 cb2 cs2 cr2 cw2 cx2 db2 ds2 dr2 dw2 dx2)
T2,
SObj.cells [Sv.mp 4] T3, SObj.bm IntKind.u32 IntKind.u8 M2])
else
some
(vb false,
[SObj.cells
(cCMm6z5 cb cs cr cw cx db ds dr dw dx)
T,
SObj.ext 0 M,
SObj.cells
(cCMm6z4 cb2 cs2 cr2 cw2 cx2 db2 ds2 dr2 dw2 dx2)
T2,
SObj.cells [Sv.mp 4] T3, SObj.bm IntKind.u32 IntKind.u8 M2])) := by kernel_rfl
theorem alike19_ev (cb cs db ds cb2 cs2 db2 ds2 : Int) (cr cw cx dr dw dx cr2 cw2 cx2 dr2 dw2 dx2 : Bool) (M M2 : Int → Int) (T T2 T3 : TypeId) : evF Try.prog ΓM5 400 29 [.ptr 0 0, .ptr 2 0] [.cells (cCMm6z1 cb cs cr cw cx db ds dr dw dx) T, .ext 0 M, .cells (cCMm6z0 cb2 cs2 cr2 cw2 cx2 db2 ds2 dr2 dw2 dx2) T2, .cells [.mp 4] T3, .bm .u32 .u8 M2] (kTk 5) kNo = some (.v (.bool (alikeV M M2)), [.cells (cCMm6z1 cb cs cr cw cx db ds dr dw dx) T, .ext 0 M, .cells (cCMm6z0 cb2 cs2 cr2 cw2 cx2 db2 ds2 dr2 dw2 dx2) T2, .cells [.mp 4] T3, .bm .u32 .u8 M2]) := by
  rw [alike19_form]
  unfold alikeV
  cases strEq (bstr (rowF (fun _ => 0) (rdB M 36848) 288) 0 288) (bstr (rowF (fun _ => 0) (rdB M2 36848) 288) 0 288) <;> rfl
def alike19N : NSpec := fun R args m k => match args with
  | [.ptr b 0, .ptr w 0] => (match m[b]? with
    | some (.cells [.ptr g 0, .v (.int .u32 cb), .v (.int .u32 cs), .v (.bool cr), .v (.bool cw), .v (.bool cx), .v (.int .u32 db), .v (.int .u32 ds), .v (.bool dr), .v (.bool dw), .v (.bool dx)] T) => (match m[g]? with
      | some (.ext 0 M) => (match m[w]? with
        | some (.cells [.ptr h 0, .v (.int .u32 cb2), .v (.int .u32 cs2), .v (.bool cr2), .v (.bool cw2), .v (.bool cx2), .v (.int .u32 db2), .v (.int .u32 ds2), .v (.bool dr2), .v (.bool dw2), .v (.bool dx2)] T2) => (match m[h]? with
          | some (.cells [.mp j] T3) => (match m[j]? with
            | some (.bm .u32 .u8 M2) => bif (!(b == g) && (!(b == w) && (!(b == h) && !(b == j)))) && ((!(g == w) && (!(g == h) && !(g == j))) && ((!(w == h) && !(w == j)) && !(h == j))) then
                k (.v (.bool (alikeV M M2))) [] else none
            | _ => none)
          | _ => none)
        | _ => none)
      | _ => none)
    | _ => none)
  | _ => none
theorem alike19N_ok : NSpecOk Try.prog XM 29 alike19N := by
  intro R args m k r hh
  unfold alike19N at hh
  split at hh
  · split at hh
    · split at hh
      · split at hh
        · split at hh
          · split at hh
            · rename_i _ b w _ g cb cs cr cw cx db ds dr dw dx T hb _ M hg _ h cb2 cs2 cr2 cw2 cx2 db2 ds2 dr2 dw2 dx2 T2 hw _ j T3 hh3 _ M2 hj
              obtain ⟨hc, h9⟩ := cond_some hh
              clear hh
              simp only [Bool.and_eq_true, Bool.not_eq_true', beq_eq_false_iff_ne] at hc
              obtain ⟨⟨c1, c2, c3, c4⟩, ⟨c5, c6, c7⟩, ⟨c8, c9⟩, c10⟩ := hc
              have hd : [b, g, w, h, j].Nodup := by simp; exact ⟨⟨c1, c2, c3, c4⟩, ⟨c5, c6, c7⟩, ⟨c8, c9⟩, c10⟩
              have hf := callR_evT ΓM5_ok (by kernel_rfl) (alike19_ev cb cs db ds cb2 cs2 db2 ds2 cr cw cx dr dw dx cr2 cw2 cx2 dr2 dw2 dx2 M M2 T T2 T3) rfl rfl rfl rfl
              exact ⟨_, _, h9, CallR.frameN (m0 := [.cells (cCMm6z1 cb cs cr cw cx db ds dr dw dx) T, .ext 0 M, .cells (cCMm6z0 cb2 cs2 cr2 cw2 cx2 db2 ds2 dr2 dw2 dx2) T2, .cells [.mp 4] T3, .bm .u32 .u8 M2]) (ex0 := []) (by rw [List.append_nil]; exact hf) [b, g, w, h, j] hd ⟨hb, hg, hw, hh3, hj, trivial⟩ rfl rfl rfl rfl rfl rfl⟩
            · cases hh
          · cases hh
        · cases hh
      · cases hh
    · cases hh
  · cases hh
def alike19S : Ev.Spec := fun R args m k kp => alike19N R args m (fun sv ex => k sv (m ++ ex))
theorem alike19S_ok : SpecOk Try.prog XM 29 alike19S := by
  intro R args m k kp r h
  obtain ⟨sv, ex, h1, h2⟩ := alike19N_ok R args m _ r h
  exact .inl ⟨sv, _, h1, h2⟩
def ΓM6 : Env := ((((((((((((((((((((ΓM5.add 33 boxes15S).add 36 alike15S).addN 36 alike15N).widen 36).add 13 boxes18S).add 21 alike18S).addN 21 alike18N).widen 21).add 25 boxes19S).add 29 alike19S).addN 29 alike19N).widen 29).add 100 busStoreS).addW 100 busStoreW).widen 100).add 27 busLoadS).add 104 refStoreS).addW 104 refStoreW).widen 104).add 102 refLoadS)
theorem ΓM6_ok : EnvOk Try.prog X0 ΓM6 := ((((((((((((((((((((ΓM5_ok.add (by kernel_rfl) boxes15S_ok).add (by kernel_rfl) alike15S_ok).addN (by kernel_rfl) alike15N_ok).widen 36).add (by kernel_rfl) boxes18S_ok).add (by kernel_rfl) alike18S_ok).addN (by kernel_rfl) alike18N_ok).widen 21).add (by kernel_rfl) boxes19S_ok).add (by kernel_rfl) alike19S_ok).addN (by kernel_rfl) alike19N_ok).widen 29).add (by kernel_rfl) busStore_ok).addW (by kernel_rfl) busStoreW_ok).widen 100).add (by kernel_rfl) busLoad_ok).add (by kernel_rfl) refStore_ok).addW (by kernel_rfl) refStoreW_ok).widen 104).add (by kernel_rfl) refLoad_ok)
end Go.Proofs.Ytpgdpoloipifeaa
