/- Boxes: made, held against one another. -/
import Derived.Test.YtjcbgjakomalaaaEvV
import Derived.Test.YtjcbgjakomalaaaCMm5
import Derived.Test.YtjcbgjakomalaaaCMm2
import Derived.Test.YtjcbgjakomalaaaEvG
namespace Go.Proofs.Ytjcbgjakomalaaa
open Go Go.Ev
set_option linter.unusedVariables false
set_option linter.unusedSimpArgs false
set_option maxRecDepth 100000

/-- Are two memories alike, where boxes lie? -/
def alikeV (M M2 : Int → Int) : Bool := strEq (bstr (rowF (fun _ => 0) (rdB M 36848) 288) 0 288) (bstr (rowF (fun _ => 0) (rdB M2 36848) 288) 0 288) && strEq (bstr (rowF (fun _ => 0) (rdB M 20464) 100) 0 100) (bstr (rowF (fun _ => 0) (rdB M2 20464) 100) 0 100)
theorem alikeV_self (M : Int → Int) : alikeV M M = true := by unfold alikeV strEq; simp
theorem boxes14_form (k : Int) :
    evF Try.prog ΓM5 400 30 [.v (.slice none 0 0), .v (.int .u32 k)] [] kSM kNo =
    (some
(Sv.tup [Sv.ptr (10 + 2) 0, Sv.ptr 5 0],
[SObj.bm IntKind.u32 IntKind.u8 (wrM (fun x => 0) 36864 (rowF (fun x => 0) (fillB k) 256) 256),
SObj.cells [Sv.mp 0] 137, SObj.arr IntKind.u8 5 256 (rowF (fun x => 0) (fillB k) 256), SObj.dead, SObj.dead,
SObj.cells
[Sv.ptr 1 0, vw 16384, vw 4096, vb false,
vb false, vb true, vw 36864, vw 256,
vb true, vb true, vb false]
82,
SObj.ext 0 (wrM (fun x => 0) 36864 (rowF (fun x => 0) (fillB k) 256) 256),
SObj.arr IntKind.u8 5 256 (rowF (fun x => 0) (fillB k) 256), SObj.dead, SObj.dead,
SObj.cells
[vw 16384, vw 4096, vb false,
vb false, vb true]
24,
SObj.cells
[vw 36864, vw 256, vb true, vb true,
vb false]
24,
SObj.cells
[Sv.ptr 6 0, vw 16384, vw 4096, vb false,
vb false, vb true, vw 36864, vw 256,
vb true, vb true, vb false]
103])) := by kernel_rfl
def boxes14S : Ev.Spec := fun R args m k kp => match args with
  | [.v (.slice none 0 0), .v (.int .u32 a)] => k (.tup [.ptr (m.length + 12) 0, .ptr (m.length + 5) 0]) (m ++ [.bm .u32 .u8 (wrM (fun _ => 0) 36864 (rowF (fun _ => 0) (fillB a) 256) 256), .cells [.mp m.length] 137, .arr .u8 5 256 (rowF (fun _ => 0) (fillB a) 256), .dead, .dead, .cells [.ptr (m.length + 1) 0, .v (.int .u32 16384), .v (.int .u32 4096), .v (.bool false), .v (.bool false), .v (.bool true), .v (.int .u32 36864), .v (.int .u32 256), .v (.bool true), .v (.bool true), .v (.bool false)] 82, .ext 0 (wrM (fun _ => 0) 36864 (rowF (fun _ => 0) (fillB a) 256) 256), .arr .u8 5 256 (rowF (fun _ => 0) (fillB a) 256), .dead, .dead, .cells [.v (.int .u32 16384), .v (.int .u32 4096), .v (.bool false), .v (.bool false), .v (.bool true)] 24, .cells [.v (.int .u32 36864), .v (.int .u32 256), .v (.bool true), .v (.bool true), .v (.bool false)] 24, .cells [.ptr (m.length + 6) 0, .v (.int .u32 16384), .v (.int .u32 4096), .v (.bool false), .v (.bool false), .v (.bool true), .v (.int .u32 36864), .v (.int .u32 256), .v (.bool true), .v (.bool true), .v (.bool false)] 103])
  | _ => none
theorem boxes14S_ok : SpecOk Try.prog XM 30 boxes14S := by
  intro R args m k kp r h
  unfold boxes14S at h
  split at h
  · rename_i a
    exact .inl ⟨_, _, h, (callR_ev ΓM5_ok (by kernel_rfl) (boxes14_form a)).frameN (m0 := []) (ex0 := [.bm .u32 .u8 (wrM (fun _ => 0) 36864 (rowF (fun _ => 0) (fillB a) 256) 256), .cells [.mp 0] 137, .arr .u8 5 256 (rowF (fun _ => 0) (fillB a) 256), .dead, .dead, .cells [.ptr 1 0, .v (.int .u32 16384), .v (.int .u32 4096), .v (.bool false), .v (.bool false), .v (.bool true), .v (.int .u32 36864), .v (.int .u32 256), .v (.bool true), .v (.bool true), .v (.bool false)] 82, .ext 0 (wrM (fun _ => 0) 36864 (rowF (fun _ => 0) (fillB a) 256) 256), .arr .u8 5 256 (rowF (fun _ => 0) (fillB a) 256), .dead, .dead, .cells [.v (.int .u32 16384), .v (.int .u32 4096), .v (.bool false), .v (.bool false), .v (.bool true)] 24, .cells [.v (.int .u32 36864), .v (.int .u32 256), .v (.bool true), .v (.bool true), .v (.bool false)] 24, .cells [.ptr 6 0, .v (.int .u32 16384), .v (.int .u32 4096), .v (.bool false), .v (.bool false), .v (.bool true), .v (.int .u32 36864), .v (.int .u32 256), .v (.bool true), .v (.bool true), .v (.bool false)] 103]) [] (by simp) trivial rfl rfl rfl rfl rfl rfl⟩
  · cases h
theorem alike14_form (cb cs db ds cb2 cs2 db2 ds2 : Int) (cr cw cx dr dw dx cr2 cw2 cx2 dr2 dw2 dx2 : Bool) (M M2 : Int → Int) (T T2 T3 : TypeId) :
    evF Try.prog ΓM5 400 37 [.ptr 0 0, .ptr 2 0] [.cells [.ptr 1 0, .v (.int .u32 cb), .v (.int .u32 cs), .v (.bool cr), .v (.bool cw), .v (.bool cx), .v (.int .u32 db), .v (.int .u32 ds), .v (.bool dr), .v (.bool dw), .v (.bool dx)] T, .ext 0 M, .cells [.ptr 3 0, .v (.int .u32 cb2), .v (.int .u32 cs2), .v (.bool cr2), .v (.bool cw2), .v (.bool cx2), .v (.int .u32 db2), .v (.int .u32 ds2), .v (.bool dr2), .v (.bool dw2), .v (.bool dx2)] T2, .cells [.mp 4] T3, .bm .u32 .u8 M2] (kTk 5) kNo =
    (bif strEq (bstr (rowF (fun x => 0) (rdB M 36848) 288) 0 288) (bstr (rowF (fun x => 0) (rdB M2 36848) 288) 0 288) then
some
(Sv.v
(Value.bool
(strEq (bstr (rowF (fun x => 0) (rdB M 20464) 100) 0 100) (bstr (rowF (fun x => 0) (rdB M2 20464) 100) 0 100))),
[SObj.cells
[Sv.ptr 1 0, vw cb, vw cs, vb cr,
vb cw, vb cx, vw db, vw ds,
vb dr, vb dw, vb dx]
T,
SObj.ext 0 M,
SObj.cells
[Sv.ptr 3 0, vw cb2, vw cs2, vb cr2,
vb cw2, vb cx2, vw db2, vw ds2,
vb dr2, vb dw2, vb dx2]
T2,
SObj.cells [Sv.mp 4] T3, SObj.bm IntKind.u32 IntKind.u8 M2])
else
some
(vb false,
[SObj.cells
[Sv.ptr 1 0, vw cb, vw cs, vb cr,
vb cw, vb cx, vw db, vw ds,
vb dr, vb dw, vb dx]
T,
SObj.ext 0 M,
SObj.cells
[Sv.ptr 3 0, vw cb2, vw cs2, vb cr2,
vb cw2, vb cx2, vw db2, vw ds2,
vb dr2, vb dw2, vb dx2]
T2,
SObj.cells [Sv.mp 4] T3, SObj.bm IntKind.u32 IntKind.u8 M2])) := by kernel_rfl
theorem alike14_ev (cb cs db ds cb2 cs2 db2 ds2 : Int) (cr cw cx dr dw dx cr2 cw2 cx2 dr2 dw2 dx2 : Bool) (M M2 : Int → Int) (T T2 T3 : TypeId) : evF Try.prog ΓM5 400 37 [.ptr 0 0, .ptr 2 0] [.cells [.ptr 1 0, .v (.int .u32 cb), .v (.int .u32 cs), .v (.bool cr), .v (.bool cw), .v (.bool cx), .v (.int .u32 db), .v (.int .u32 ds), .v (.bool dr), .v (.bool dw), .v (.bool dx)] T, .ext 0 M, .cells [.ptr 3 0, .v (.int .u32 cb2), .v (.int .u32 cs2), .v (.bool cr2), .v (.bool cw2), .v (.bool cx2), .v (.int .u32 db2), .v (.int .u32 ds2), .v (.bool dr2), .v (.bool dw2), .v (.bool dx2)] T2, .cells [.mp 4] T3, .bm .u32 .u8 M2] (kTk 5) kNo = some (.v (.bool (alikeV M M2)), [.cells [.ptr 1 0, .v (.int .u32 cb), .v (.int .u32 cs), .v (.bool cr), .v (.bool cw), .v (.bool cx), .v (.int .u32 db), .v (.int .u32 ds), .v (.bool dr), .v (.bool dw), .v (.bool dx)] T, .ext 0 M, .cells [.ptr 3 0, .v (.int .u32 cb2), .v (.int .u32 cs2), .v (.bool cr2), .v (.bool cw2), .v (.bool cx2), .v (.int .u32 db2), .v (.int .u32 ds2), .v (.bool dr2), .v (.bool dw2), .v (.bool dx2)] T2, .cells [.mp 4] T3, .bm .u32 .u8 M2]) := by
  rw [alike14_form]
  unfold alikeV
  cases strEq (bstr (rowF (fun _ => 0) (rdB M 36848) 288) 0 288) (bstr (rowF (fun _ => 0) (rdB M2 36848) 288) 0 288) <;> rfl
def alike14N : NSpec := fun R args m k => match args with
  | [.ptr b 0, .ptr w 0] => (match m[b]? with
    | some (.cells [.ptr g 0, .v (.int .u32 cb), .v (.int .u32 cs), .v (.bool cr), .v (.bool cw), .v (.bool cx), .v (.int .u32 db), .v (.int .u32 ds), .v (.bool dr), .v (.bool dw), .v (.bool dx)] T) => (match m[g]? with
      | some (.ext 0 M) => (match m[w]? with
        | some (.cells [.ptr h 0, .v (.int .u32 cb2), .v (.int .u32 cs2), .v (.bool cr2), .v (.bool cw2), .v (.bool cx2), .v (.int .u32 db2), .v (.int .u32 ds2), .v (.bool dr2), .v (.bool dw2), .v (.bool dx2)] T2) => (match m[h]? with
          | some (.cells [.mp j] T3) => (match m[j]? with
            | some (.bm .u32 .u8 M2) => bif (!(b == g) && (!(b == w) && (!(b == h) && !(b == j)))) && ((!(g == w) && (!(g == h) && !(g == j))) && ((!(w == h) && !(w == j)) && !(h == j))) then
                k (.v (.bool (alikeV M M2))) [] else none
            | _ => none)
          | _ => none)
        | _ => none)
      | _ => none)
    | _ => none)
  | _ => none
theorem alike14N_ok : NSpecOk Try.prog XM 37 alike14N := by
  intro R args m k r hh
  unfold alike14N at hh
  split at hh
  · split at hh
    · split at hh
      · split at hh
        · split at hh
          · split at hh
            · rename_i _ b w _ g cb cs cr cw cx db ds dr dw dx T hb _ M hg _ h cb2 cs2 cr2 cw2 cx2 db2 ds2 dr2 dw2 dx2 T2 hw _ j T3 hh3 _ M2 hj
              obtain ⟨hc, h9⟩ := cond_some hh
              clear hh
              simp only [Bool.and_eq_true, Bool.not_eq_true', beq_eq_false_iff_ne] at hc
              obtain ⟨⟨c1, c2, c3, c4⟩, ⟨c5, c6, c7⟩, ⟨c8, c9⟩, c10⟩ := hc
              have hd : [b, g, w, h, j].Nodup := by simp; exact ⟨⟨c1, c2, c3, c4⟩, ⟨c5, c6, c7⟩, ⟨c8, c9⟩, c10⟩
              have hf := callR_evT ΓM5_ok (by kernel_rfl) (alike14_ev cb cs db ds cb2 cs2 db2 ds2 cr cw cx dr dw dx cr2 cw2 cx2 dr2 dw2 dx2 M M2 T T2 T3) rfl rfl rfl rfl
              exact ⟨_, _, h9, CallR.frameN (m0 := [.cells [.ptr 1 0, .v (.int .u32 cb), .v (.int .u32 cs), .v (.bool cr), .v (.bool cw), .v (.bool cx), .v (.int .u32 db), .v (.int .u32 ds), .v (.bool dr), .v (.bool dw), .v (.bool dx)] T, .ext 0 M, .cells [.ptr 3 0, .v (.int .u32 cb2), .v (.int .u32 cs2), .v (.bool cr2), .v (.bool cw2), .v (.bool cx2), .v (.int .u32 db2), .v (.int .u32 ds2), .v (.bool dr2), .v (.bool dw2), .v (.bool dx2)] T2, .cells [.mp 4] T3, .bm .u32 .u8 M2]) (ex0 := []) (by rw [List.append_nil]; exact hf) [b, g, w, h, j] hd ⟨hb, hg, hw, hh3, hj, trivial⟩ rfl rfl rfl rfl rfl rfl⟩
            · cases hh
          · cases hh
        · cases hh
      · cases hh
    · cases hh
  · cases hh
def alike14S : Ev.Spec := fun R args m k kp => alike14N R args m (fun sv ex => k sv (m ++ ex))
theorem alike14S_ok : SpecOk Try.prog XM 37 alike14S := by
  intro R args m k kp r h
  obtain ⟨sv, ex, h1, h2⟩ := alike14N_ok R args m _ r h
  exact .inl ⟨sv, _, h1, h2⟩
theorem boxes16_form (k : Int) :
    evF Try.prog ΓM5 400 24 [.v (.slice none 0 0), .v (.int .u32 k)] [] kSM kNo =
    (some
(Sv.tup [Sv.ptr (10 + 2) 0, Sv.ptr 5 0],
[SObj.bm IntKind.u32 IntKind.u8 (wrM (fun x => 0) 36864 (rowF (fun x => 0) (fillB k) 256) 256),
SObj.cells [Sv.mp 0] 137, SObj.arr IntKind.u8 5 256 (rowF (fun x => 0) (fillB k) 256), SObj.dead, SObj.dead,
SObj.cells
[Sv.ptr 1 0, vw 16384, vw 4096, vb false,
vb false, vb true, vw 36864, vw 256,
vb true, vb true, vb false]
82,
SObj.ext 0 (wrM (fun x => 0) 36864 (rowF (fun x => 0) (fillB k) 256) 256),
SObj.arr IntKind.u8 5 256 (rowF (fun x => 0) (fillB k) 256), SObj.dead, SObj.dead,
SObj.cells
[vw 16384, vw 4096, vb false,
vb false, vb true]
24,
SObj.cells
[vw 36864, vw 256, vb true, vb true,
vb false]
24,
SObj.cells
[Sv.ptr 6 0, vw 16384, vw 4096, vb false,
vb false, vb true, vw 36864, vw 256,
vb true, vb true, vb false]
103])) := by kernel_rfl
def boxes16S : Ev.Spec := fun R args m k kp => match args with
  | [.v (.slice none 0 0), .v (.int .u32 a)] => k (.tup [.ptr (m.length + 12) 0, .ptr (m.length + 5) 0]) (m ++ [.bm .u32 .u8 (wrM (fun _ => 0) 36864 (rowF (fun _ => 0) (fillB a) 256) 256), .cells [.mp m.length] 137, .arr .u8 5 256 (rowF (fun _ => 0) (fillB a) 256), .dead, .dead, .cells [.ptr (m.length + 1) 0, .v (.int .u32 16384), .v (.int .u32 4096), .v (.bool false), .v (.bool false), .v (.bool true), .v (.int .u32 36864), .v (.int .u32 256), .v (.bool true), .v (.bool true), .v (.bool false)] 82, .ext 0 (wrM (fun _ => 0) 36864 (rowF (fun _ => 0) (fillB a) 256) 256), .arr .u8 5 256 (rowF (fun _ => 0) (fillB a) 256), .dead, .dead, .cells [.v (.int .u32 16384), .v (.int .u32 4096), .v (.bool false), .v (.bool false), .v (.bool true)] 24, .cells [.v (.int .u32 36864), .v (.int .u32 256), .v (.bool true), .v (.bool true), .v (.bool false)] 24, .cells [.ptr (m.length + 6) 0, .v (.int .u32 16384), .v (.int .u32 4096), .v (.bool false), .v (.bool false), .v (.bool true), .v (.int .u32 36864), .v (.int .u32 256), .v (.bool true), .v (.bool true), .v (.bool false)] 103])
  | _ => none
theorem boxes16S_ok : SpecOk Try.prog XM 24 boxes16S := by
  intro R args m k kp r h
  unfold boxes16S at h
  split at h
  · rename_i a
    exact .inl ⟨_, _, h, (callR_ev ΓM5_ok (by kernel_rfl) (boxes16_form a)).frameN (m0 := []) (ex0 := [.bm .u32 .u8 (wrM (fun _ => 0) 36864 (rowF (fun _ => 0) (fillB a) 256) 256), .cells [.mp 0] 137, .arr .u8 5 256 (rowF (fun _ => 0) (fillB a) 256), .dead, .dead, .cells [.ptr 1 0, .v (.int .u32 16384), .v (.int .u32 4096), .v (.bool false), .v (.bool false), .v (.bool true), .v (.int .u32 36864), .v (.int .u32 256), .v (.bool true), .v (.bool true), .v (.bool false)] 82, .ext 0 (wrM (fun _ => 0) 36864 (rowF (fun _ => 0) (fillB a) 256) 256), .arr .u8 5 256 (rowF (fun _ => 0) (fillB a) 256), .dead, .dead, .cells [.v (.int .u32 16384), .v (.int .u32 4096), .v (.bool false), .v (.bool false), .v (.bool true)] 24, .cells [.v (.int .u32 36864), .v (.int .u32 256), .v (.bool true), .v (.bool true), .v (.bool false)] 24, .cells [.ptr 6 0, .v (.int .u32 16384), .v (.int .u32 4096), .v (.bool false), .v (.bool false), .v (.bool true), .v (.int .u32 36864), .v (.int .u32 256), .v (.bool true), .v (.bool true), .v (.bool false)] 103]) [] (by simp) trivial rfl rfl rfl rfl rfl rfl⟩
  · cases h
theorem alike16_form (cb cs db ds cb2 cs2 db2 ds2 : Int) (cr cw cx dr dw dx cr2 cw2 cx2 dr2 dw2 dx2 : Bool) (M M2 : Int → Int) (T T2 T3 : TypeId) :
    evF Try.prog ΓM5 400 51 [.ptr 0 0, .ptr 2 0] [.cells [.ptr 1 0, .v (.int .u32 cb), .v (.int .u32 cs), .v (.bool cr), .v (.bool cw), .v (.bool cx), .v (.int .u32 db), .v (.int .u32 ds), .v (.bool dr), .v (.bool dw), .v (.bool dx)] T, .ext 0 M, .cells [.ptr 3 0, .v (.int .u32 cb2), .v (.int .u32 cs2), .v (.bool cr2), .v (.bool cw2), .v (.bool cx2), .v (.int .u32 db2), .v (.int .u32 ds2), .v (.bool dr2), .v (.bool dw2), .v (.bool dx2)] T2, .cells [.mp 4] T3, .bm .u32 .u8 M2] (kTk 5) kNo =
    (bif strEq (bstr (rowF (fun x => 0) (rdB M 36848) 288) 0 288) (bstr (rowF (fun x => 0) (rdB M2 36848) 288) 0 288) then
some
(Sv.v
(Value.bool
(strEq (bstr (rowF (fun x => 0) (rdB M 20464) 100) 0 100) (bstr (rowF (fun x => 0) (rdB M2 20464) 100) 0 100))),
[SObj.cells
[Sv.ptr 1 0, vw cb, vw cs, vb cr,
vb cw, vb cx, vw db, vw ds,
vb dr, vb dw, vb dx]
T,
SObj.ext 0 M,
SObj.cells
[Sv.ptr 3 0, vw cb2, vw cs2, vb cr2,
vb cw2, vb cx2, vw db2, vw ds2,
vb dr2, vb dw2, vb dx2]
T2,
SObj.cells [Sv.mp 4] T3, SObj.bm IntKind.u32 IntKind.u8 M2])
else
some
(vb false,
[SObj.cells
[Sv.ptr 1 0, vw cb, vw cs, vb cr,
vb cw, vb cx, vw db, vw ds,
vb dr, vb dw, vb dx]
T,
SObj.ext 0 M,
SObj.cells
[Sv.ptr 3 0, vw cb2, vw cs2, vb cr2,
vb cw2, vb cx2, vw db2, vw ds2,
vb dr2, vb dw2, vb dx2]
T2,
SObj.cells [Sv.mp 4] T3, SObj.bm IntKind.u32 IntKind.u8 M2])) := by kernel_rfl
theorem alike16_ev (cb cs db ds cb2 cs2 db2 ds2 : Int) (cr cw cx dr dw dx cr2 cw2 cx2 dr2 dw2 dx2 : Bool) (M M2 : Int → Int) (T T2 T3 : TypeId) : evF Try.prog ΓM5 400 51 [.ptr 0 0, .ptr 2 0] [.cells [.ptr 1 0, .v (.int .u32 cb), .v (.int .u32 cs), .v (.bool cr), .v (.bool cw), .v (.bool cx), .v (.int .u32 db), .v (.int .u32 ds), .v (.bool dr), .v (.bool dw), .v (.bool dx)] T, .ext 0 M, .cells [.ptr 3 0, .v (.int .u32 cb2), .v (.int .u32 cs2), .v (.bool cr2), .v (.bool cw2), .v (.bool cx2), .v (.int .u32 db2), .v (.int .u32 ds2), .v (.bool dr2), .v (.bool dw2), .v (.bool dx2)] T2, .cells [.mp 4] T3, .bm .u32 .u8 M2] (kTk 5) kNo = some (.v (.bool (alikeV M M2)), [.cells [.ptr 1 0, .v (.int .u32 cb), .v (.int .u32 cs), .v (.bool cr), .v (.bool cw), .v (.bool cx), .v (.int .u32 db), .v (.int .u32 ds), .v (.bool dr), .v (.bool dw), .v (.bool dx)] T, .ext 0 M, .cells [.ptr 3 0, .v (.int .u32 cb2), .v (.int .u32 cs2), .v (.bool cr2), .v (.bool cw2), .v (.bool cx2), .v (.int .u32 db2), .v (.int .u32 ds2), .v (.bool dr2), .v (.bool dw2), .v (.bool dx2)] T2, .cells [.mp 4] T3, .bm .u32 .u8 M2]) := by
  rw [alike16_form]
  unfold alikeV
  cases strEq (bstr (rowF (fun _ => 0) (rdB M 36848) 288) 0 288) (bstr (rowF (fun _ => 0) (rdB M2 36848) 288) 0 288) <;> rfl
def alike16N : NSpec := fun R args m k => match args with
  | [.ptr b 0, .ptr w 0] => (match m[b]? with
    | some (.cells [.ptr g 0, .v (.int .u32 cb), .v (.int .u32 cs), .v (.bool cr), .v (.bool cw), .v (.bool cx), .v (.int .u32 db), .v (.int .u32 ds), .v (.bool dr), .v (.bool dw), .v (.bool dx)] T) => (match m[g]? with
      | some (.ext 0 M) => (match m[w]? with
        | some (.cells [.ptr h 0, .v (.int .u32 cb2), .v (.int .u32 cs2), .v (.bool cr2), .v (.bool cw2), .v (.bool cx2), .v (.int .u32 db2), .v (.int .u32 ds2), .v (.bool dr2), .v (.bool dw2), .v (.bool dx2)] T2) => (match m[h]? with
          | some (.cells [.mp j] T3) => (match m[j]? with
            | some (.bm .u32 .u8 M2) => bif (!(b == g) && (!(b == w) && (!(b == h) && !(b == j)))) && ((!(g == w) && (!(g == h) && !(g == j))) && ((!(w == h) && !(w == j)) && !(h == j))) then
                k (.v (.bool (alikeV M M2))) [] else none
            | _ => none)
          | _ => none)
        | _ => none)
      | _ => none)
    | _ => none)
  | _ => none
theorem alike16N_ok : NSpecOk Try.prog XM 51 alike16N := by
  intro R args m k r hh
  unfold alike16N at hh
  split at hh
  · split at hh
    · split at hh
      · split at hh
        · split at hh
          · split at hh
            · rename_i _ b w _ g cb cs cr cw cx db ds dr dw dx T hb _ M hg _ h cb2 cs2 cr2 cw2 cx2 db2 ds2 dr2 dw2 dx2 T2 hw _ j T3 hh3 _ M2 hj
              obtain ⟨hc, h9⟩ := cond_some hh
              clear hh
              simp only [Bool.and_eq_true, Bool.not_eq_true', beq_eq_false_iff_ne] at hc
              obtain ⟨⟨c1, c2, c3, c4⟩, ⟨c5, c6, c7⟩, ⟨c8, c9⟩, c10⟩ := hc
              have hd : [b, g, w, h, j].Nodup := by simp; exact ⟨⟨c1, c2, c3, c4⟩, ⟨c5, c6, c7⟩, ⟨c8, c9⟩, c10⟩
              have hf := callR_evT ΓM5_ok (by kernel_rfl) (alike16_ev cb cs db ds cb2 cs2 db2 ds2 cr cw cx dr dw dx cr2 cw2 cx2 dr2 dw2 dx2 M M2 T T2 T3) rfl rfl rfl rfl
              exact ⟨_, _, h9, CallR.frameN (m0 := [.cells [.ptr 1 0, .v (.int .u32 cb), .v (.int .u32 cs), .v (.bool cr), .v (.bool cw), .v (.bool cx), .v (.int .u32 db), .v (.int .u32 ds), .v (.bool dr), .v (.bool dw), .v (.bool dx)] T, .ext 0 M, .cells [.ptr 3 0, .v (.int .u32 cb2), .v (.int .u32 cs2), .v (.bool cr2), .v (.bool cw2), .v (.bool cx2), .v (.int .u32 db2), .v (.int .u32 ds2), .v (.bool dr2), .v (.bool dw2), .v (.bool dx2)] T2, .cells [.mp 4] T3, .bm .u32 .u8 M2]) (ex0 := []) (by rw [List.append_nil]; exact hf) [b, g, w, h, j] hd ⟨hb, hg, hw, hh3, hj, trivial⟩ rfl rfl rfl rfl rfl rfl⟩
            · cases hh
          · cases hh
        · cases hh
      · cases hh
    · cases hh
  · cases hh
def alike16S : Ev.Spec := fun R args m k kp => alike16N R args m (fun sv ex => k sv (m ++ ex))
theorem alike16S_ok : SpecOk Try.prog XM 51 alike16S := by
  intro R args m k kp r h
  obtain ⟨sv, ex, h1, h2⟩ := alike16N_ok R args m _ r h
  exact .inl ⟨sv, _, h1, h2⟩
theorem boxes17_form (k : Int) :
    evF Try.prog ΓM5 400 43 [.v (.slice none 0 0), .v (.int .u32 k)] [] kSM kNo =
    (some
(Sv.tup [Sv.ptr (10 + 2) 0, Sv.ptr 5 0],
[SObj.bm IntKind.u32 IntKind.u8 (wrM (fun x => 0) 36864 (rowF (fun x => 0) (fillB k) 256) 256),
SObj.cells [Sv.mp 0] 137, SObj.arr IntKind.u8 5 256 (rowF (fun x => 0) (fillB k) 256), SObj.dead, SObj.dead,
SObj.cells
[Sv.ptr 1 0, vw 16384, vw 4096, vb false,
vb false, vb true, vw 36864, vw 256,
vb true, vb true, vb false]
82,
SObj.ext 0 (wrM (fun x => 0) 36864 (rowF (fun x => 0) (fillB k) 256) 256),
SObj.arr IntKind.u8 5 256 (rowF (fun x => 0) (fillB k) 256), SObj.dead, SObj.dead,
SObj.cells
[vw 16384, vw 4096, vb false,
vb false, vb true]
24,
SObj.cells
[vw 36864, vw 256, vb true, vb true,
vb false]
24,
SObj.cells
[Sv.ptr 6 0, vw 16384, vw 4096, vb false,
vb false, vb true, vw 36864, vw 256,
vb true, vb true, vb false]
103])) := by kernel_rfl
def boxes17S : Ev.Spec := fun R args m k kp => match args with
  | [.v (.slice none 0 0), .v (.int .u32 a)] => k (.tup [.ptr (m.length + 12) 0, .ptr (m.length + 5) 0]) (m ++ [.bm .u32 .u8 (wrM (fun _ => 0) 36864 (rowF (fun _ => 0) (fillB a) 256) 256), .cells [.mp m.length] 137, .arr .u8 5 256 (rowF (fun _ => 0) (fillB a) 256), .dead, .dead, .cells [.ptr (m.length + 1) 0, .v (.int .u32 16384), .v (.int .u32 4096), .v (.bool false), .v (.bool false), .v (.bool true), .v (.int .u32 36864), .v (.int .u32 256), .v (.bool true), .v (.bool true), .v (.bool false)] 82, .ext 0 (wrM (fun _ => 0) 36864 (rowF (fun _ => 0) (fillB a) 256) 256), .arr .u8 5 256 (rowF (fun _ => 0) (fillB a) 256), .dead, .dead, .cells [.v (.int .u32 16384), .v (.int .u32 4096), .v (.bool false), .v (.bool false), .v (.bool true)] 24, .cells [.v (.int .u32 36864), .v (.int .u32 256), .v (.bool true), .v (.bool true), .v (.bool false)] 24, .cells [.ptr (m.length + 6) 0, .v (.int .u32 16384), .v (.int .u32 4096), .v (.bool false), .v (.bool false), .v (.bool true), .v (.int .u32 36864), .v (.int .u32 256), .v (.bool true), .v (.bool true), .v (.bool false)] 103])
  | _ => none
theorem boxes17S_ok : SpecOk Try.prog XM 43 boxes17S := by
  intro R args m k kp r h
  unfold boxes17S at h
  split at h
  · rename_i a
    exact .inl ⟨_, _, h, (callR_ev ΓM5_ok (by kernel_rfl) (boxes17_form a)).frameN (m0 := []) (ex0 := [.bm .u32 .u8 (wrM (fun _ => 0) 36864 (rowF (fun _ => 0) (fillB a) 256) 256), .cells [.mp 0] 137, .arr .u8 5 256 (rowF (fun _ => 0) (fillB a) 256), .dead, .dead, .cells [.ptr 1 0, .v (.int .u32 16384), .v (.int .u32 4096), .v (.bool false), .v (.bool false), .v (.bool true), .v (.int .u32 36864), .v (.int .u32 256), .v (.bool true), .v (.bool true), .v (.bool false)] 82, .ext 0 (wrM (fun _ => 0) 36864 (rowF (fun _ => 0) (fillB a) 256) 256), .arr .u8 5 256 (rowF (fun _ => 0) (fillB a) 256), .dead, .dead, .cells [.v (.int .u32 16384), .v (.int .u32 4096), .v (.bool false), .v (.bool false), .v (.bool true)] 24, .cells [.v (.int .u32 36864), .v (.int .u32 256), .v (.bool true), .v (.bool true), .v (.bool false)] 24, .cells [.ptr 6 0, .v (.int .u32 16384), .v (.int .u32 4096), .v (.bool false), .v (.bool false), .v (.bool true), .v (.int .u32 36864), .v (.int .u32 256), .v (.bool true), .v (.bool true), .v (.bool false)] 103]) [] (by simp) trivial rfl rfl rfl rfl rfl rfl⟩
  · cases h
theorem alike17_form (cb cs db ds cb2 cs2 db2 ds2 : Int) (cr cw cx dr dw dx cr2 cw2 cx2 dr2 dw2 dx2 : Bool) (M M2 : Int → Int) (T T2 T3 : TypeId) :
    evF Try.prog ΓM5 400 46 [.ptr 0 0, .ptr 2 0] [.cells [.ptr 1 0, .v (.int .u32 cb), .v (.int .u32 cs), .v (.bool cr), .v (.bool cw), .v (.bool cx), .v (.int .u32 db), .v (.int .u32 ds), .v (.bool dr), .v (.bool dw), .v (.bool dx)] T, .ext 0 M, .cells [.ptr 3 0, .v (.int .u32 cb2), .v (.int .u32 cs2), .v (.bool cr2), .v (.bool cw2), .v (.bool cx2), .v (.int .u32 db2), .v (.int .u32 ds2), .v (.bool dr2), .v (.bool dw2), .v (.bool dx2)] T2, .cells [.mp 4] T3, .bm .u32 .u8 M2] (kTk 5) kNo =
    (bif strEq (bstr (rowF (fun x => 0) (rdB M 36848) 288) 0 288) (bstr (rowF (fun x => 0) (rdB M2 36848) 288) 0 288) then
some
(Sv.v
(Value.bool
(strEq (bstr (rowF (fun x => 0) (rdB M 20464) 100) 0 100) (bstr (rowF (fun x => 0) (rdB M2 20464) 100) 0 100))),
[SObj.cells
[Sv.ptr 1 0, vw cb, vw cs, vb cr,
vb cw, vb cx, vw db, vw ds,
vb dr, vb dw, vb dx]
T,
SObj.ext 0 M,
SObj.cells
[Sv.ptr 3 0, vw cb2, vw cs2, vb cr2,
vb cw2, vb cx2, vw db2, vw ds2,
vb dr2, vb dw2, vb dx2]
T2,
SObj.cells [Sv.mp 4] T3, SObj.bm IntKind.u32 IntKind.u8 M2])
else
some
(vb false,
[SObj.cells
[Sv.ptr 1 0, vw cb, vw cs, vb cr,
vb cw, vb cx, vw db, vw ds,
vb dr, vb dw, vb dx]
T,
SObj.ext 0 M,
SObj.cells
[Sv.ptr 3 0, vw cb2, vw cs2, vb cr2,
vb cw2, vb cx2, vw db2, vw ds2,
vb dr2, vb dw2, vb dx2]
T2,
SObj.cells [Sv.mp 4] T3, SObj.bm IntKind.u32 IntKind.u8 M2])) := by kernel_rfl
theorem alike17_ev (cb cs db ds cb2 cs2 db2 ds2 : Int) (cr cw cx dr dw dx cr2 cw2 cx2 dr2 dw2 dx2 : Bool) (M M2 : Int → Int) (T T2 T3 : TypeId) : evF Try.prog ΓM5 400 46 [.ptr 0 0, .ptr 2 0] [.cells [.ptr 1 0, .v (.int .u32 cb), .v (.int .u32 cs), .v (.bool cr), .v (.bool cw), .v (.bool cx), .v (.int .u32 db), .v (.int .u32 ds), .v (.bool dr), .v (.bool dw), .v (.bool dx)] T, .ext 0 M, .cells [.ptr 3 0, .v (.int .u32 cb2), .v (.int .u32 cs2), .v (.bool cr2), .v (.bool cw2), .v (.bool cx2), .v (.int .u32 db2), .v (.int .u32 ds2), .v (.bool dr2), .v (.bool dw2), .v (.bool dx2)] T2, .cells [.mp 4] T3, .bm .u32 .u8 M2] (kTk 5) kNo = some (.v (.bool (alikeV M M2)), [.cells [.ptr 1 0, .v (.int .u32 cb), .v (.int .u32 cs), .v (.bool cr), .v (.bool cw), .v (.bool cx), .v (.int .u32 db), .v (.int .u32 ds), .v (.bool dr), .v (.bool dw), .v (.bool dx)] T, .ext 0 M, .cells [.ptr 3 0, .v (.int .u32 cb2), .v (.int .u32 cs2), .v (.bool cr2), .v (.bool cw2), .v (.bool cx2), .v (.int .u32 db2), .v (.int .u32 ds2), .v (.bool dr2), .v (.bool dw2), .v (.bool dx2)] T2, .cells [.mp 4] T3, .bm .u32 .u8 M2]) := by
  rw [alike17_form]
  unfold alikeV
  cases strEq (bstr (rowF (fun _ => 0) (rdB M 36848) 288) 0 288) (bstr (rowF (fun _ => 0) (rdB M2 36848) 288) 0 288) <;> rfl
def alike17N : NSpec := fun R args m k => match args with
  | [.ptr b 0, .ptr w 0] => (match m[b]? with
    | some (.cells [.ptr g 0, .v (.int .u32 cb), .v (.int .u32 cs), .v (.bool cr), .v (.bool cw), .v (.bool cx), .v (.int .u32 db), .v (.int .u32 ds), .v (.bool dr), .v (.bool dw), .v (.bool dx)] T) => (match m[g]? with
      | some (.ext 0 M) => (match m[w]? with
        | some (.cells [.ptr h 0, .v (.int .u32 cb2), .v (.int .u32 cs2), .v (.bool cr2), .v (.bool cw2), .v (.bool cx2), .v (.int .u32 db2), .v (.int .u32 ds2), .v (.bool dr2), .v (.bool dw2), .v (.bool dx2)] T2) => (match m[h]? with
          | some (.cells [.mp j] T3) => (match m[j]? with
            | some (.bm .u32 .u8 M2) => bif (!(b == g) && (!(b == w) && (!(b == h) && !(b == j)))) && ((!(g == w) && (!(g == h) && !(g == j))) && ((!(w == h) && !(w == j)) && !(h == j))) then
                k (.v (.bool (alikeV M M2))) [] else none
            | _ => none)
          | _ => none)
        | _ => none)
      | _ => none)
    | _ => none)
  | _ => none
theorem alike17N_ok : NSpecOk Try.prog XM 46 alike17N := by
  intro R args m k r hh
  unfold alike17N at hh
  split at hh
  · split at hh
    · split at hh
      · split at hh
        · split at hh
          · split at hh
            · rename_i _ b w _ g cb cs cr cw cx db ds dr dw dx T hb _ M hg _ h cb2 cs2 cr2 cw2 cx2 db2 ds2 dr2 dw2 dx2 T2 hw _ j T3 hh3 _ M2 hj
              obtain ⟨hc, h9⟩ := cond_some hh
              clear hh
              simp only [Bool.and_eq_true, Bool.not_eq_true', beq_eq_false_iff_ne] at hc
              obtain ⟨⟨c1, c2, c3, c4⟩, ⟨c5, c6, c7⟩, ⟨c8, c9⟩, c10⟩ := hc
              have hd : [b, g, w, h, j].Nodup := by simp; exact ⟨⟨c1, c2, c3, c4⟩, ⟨c5, c6, c7⟩, ⟨c8, c9⟩, c10⟩
              have hf := callR_evT ΓM5_ok (by kernel_rfl) (alike17_ev cb cs db ds cb2 cs2 db2 ds2 cr cw cx dr dw dx cr2 cw2 cx2 dr2 dw2 dx2 M M2 T T2 T3) rfl rfl rfl rfl
              exact ⟨_, _, h9, CallR.frameN (m0 := [.cells [.ptr 1 0, .v (.int .u32 cb), .v (.int .u32 cs), .v (.bool cr), .v (.bool cw), .v (.bool cx), .v (.int .u32 db), .v (.int .u32 ds), .v (.bool dr), .v (.bool dw), .v (.bool dx)] T, .ext 0 M, .cells [.ptr 3 0, .v (.int .u32 cb2), .v (.int .u32 cs2), .v (.bool cr2), .v (.bool cw2), .v (.bool cx2), .v (.int .u32 db2), .v (.int .u32 ds2), .v (.bool dr2), .v (.bool dw2), .v (.bool dx2)] T2, .cells [.mp 4] T3, .bm .u32 .u8 M2]) (ex0 := []) (by rw [List.append_nil]; exact hf) [b, g, w, h, j] hd ⟨hb, hg, hw, hh3, hj, trivial⟩ rfl rfl rfl rfl rfl rfl⟩
            · cases hh
          · cases hh
        · cases hh
      · cases hh
    · cases hh
  · cases hh
def alike17S : Ev.Spec := fun R args m k kp => alike17N R args m (fun sv ex => k sv (m ++ ex))
theorem alike17S_ok : SpecOk Try.prog XM 46 alike17S := by
  intro R args m k kp r h
  obtain ⟨sv, ex, h1, h2⟩ := alike17N_ok R args m _ r h
  exact .inl ⟨sv, _, h1, h2⟩
def ΓM6 : Env := ((((((((((((((((((((ΓM5.add 30 boxes14S).add 37 alike14S).addN 37 alike14N).widen 37).add 24 boxes16S).add 51 alike16S).addN 51 alike16N).widen 51).add 43 boxes17S).add 46 alike17S).addN 46 alike17N).widen 46).add 20 busStoreS).addW 20 busStoreW).widen 20).add 54 busLoadS).add 69 refStoreS).addW 69 refStoreW).widen 69).add 67 refLoadS)
theorem ΓM6_ok : EnvOk Try.prog X0 ΓM6 := ((((((((((((((((((((ΓM5_ok.add (by kernel_rfl) boxes14S_ok).add (by kernel_rfl) alike14S_ok).addN (by kernel_rfl) alike14N_ok).widen 37).add (by kernel_rfl) boxes16S_ok).add (by kernel_rfl) alike16S_ok).addN (by kernel_rfl) alike16N_ok).widen 51).add (by kernel_rfl) boxes17S_ok).add (by kernel_rfl) alike17S_ok).addN (by kernel_rfl) alike17N_ok).widen 46).add (by kernel_rfl) busStore_ok).addW (by kernel_rfl) busStoreW_ok).widen 20).add (by kernel_rfl) busLoad_ok).add (by kernel_rfl) refStore_ok).addW (by kernel_rfl) refStoreW_ok).widen 69).add (by kernel_rfl) refLoad_ok)
end Go.Proofs.Ytjcbgjakomalaaa
