/- Contracts: words, doubles, flags of numbers. -/
import Derived.Test.YtpgdpoloipifeaaEvV
import Derived.Test.YtpgdpoloipifeaaCMm6
import Derived.Test.YtpgdpoloipifeaaNSeat
namespace Go.Proofs.Ytpgdpoloipifeaa
open Go Go.Ev
set_option linter.unusedVariables false
set_option linter.unusedSimpArgs false
set_option maxRecDepth 100000
theorem word_form (a : Int) :
    evF Try.prog ΓM6 400 56 [vw a] [] (fun x _ => some x) (fun _ _ => none) =
    (bif Int.tmod a 3 == 0 then some (vw ((IntKind.wrap IntKind.u32 (Int.tdiv a 3))))
 else
 bif
 decide (0 ≤ Int.tmod (IntKind.wrap IntKind.u32 (Int.tdiv a 3)) 16) &&
 decide (Int.tmod (IntKind.wrap IntKind.u32 (Int.tdiv a 3)) 16 < 16) then
 some
 (Sv.v
 (Value.int IntKind.u32
 (selL (Int.tmod (IntKind.wrap IntKind.u32 (Int.tdiv a 3)) 16) 0
 [0, 1, 2, 4, 8, 31, 127, 128, 255, 2147483647, 2147483648, 4294967295, 4294967294, 64, 100, 128])))
 else none) := by kernel_rfl
theorem word_nice (a : Int) (hg : (in32 a) = true) :
    evF Try.prog ΓM6 400 56 [vw a] [] (fun x _ => some x) (fun _ _ => none) = some (.v (.int .u32 (wordV a))) := by
  rw [word_form]
  try simp only [bitsL_eq]
  unfold wordV
  have hb := in32_iff.1 hg
  have h1 := word_ix hb.1 hb.2
  have e1 : decide (0 ≤ Int.tmod (IntKind.wrap IntKind.u32 (Int.tdiv a 3)) 16) = true := decide_eq_true h1.1
  have e2 : decide (Int.tmod (IntKind.wrap IntKind.u32 (Int.tdiv a 3)) 16 < 16) = true := decide_eq_true h1.2
  rw [e1, e2]
  cases Int.tmod a 3 == 0 <;> rfl
def wordS : Nice := fun R args kv => match args with
  | [.v (.int .u32 a)] => bif in32 a then kv (.v (.int .u32 (wordV a))) else none
  | _ => none
theorem wordS_ok : NiceOk Try.prog ΓM6 400 56 wordS := by
  intro R args kv r h
  unfold wordS at h
  split at h
  · obtain ⟨hg, h⟩ := cond_some h
    exact ⟨_, h, rfl, rfl, word_nice _ hg⟩
  · cases h
theorem sdbl_form (a : Int) :
    evF Try.prog ΓM6 400 57 [vd a] [] (fun x _ => some x) (fun _ _ => none) =
    (bif Int.tmod a 4 == 0 then some (vd a)
 else
 bif
 decide (0 ≤ Int.tmod (IntKind.wrap IntKind.u64 (Int.tdiv a 4)) 18) &&
 decide (Int.tmod (IntKind.wrap IntKind.u64 (Int.tdiv a 4)) 18 < 18) then
 some
 (Sv.v
 (Value.int IntKind.u64
 (selL (Int.tmod (IntKind.wrap IntKind.u64 (Int.tdiv a 4)) 18) 0
 [0, 9223372036854775808, 4607182418800017408, 13830554455654793216, 9218868437227405312, 18442240474082181120,
 9221120237041090561, 9218868437227405313, 18444492273895866368, 1, 9223372036854775809, 9218868437227405311,
 4746794007248502784, 13970166044105375744, 4746794007244308480, 4602678819172646912, 4613937818241073152,
 4503599627370496])))
 else none) := by kernel_rfl
theorem sdbl_nice (a : Int) (hg : (in64 a) = true) :
    evF Try.prog ΓM6 400 57 [vd a] [] (fun x _ => some x) (fun _ _ => none) = some (.v (.int .u64 (dblW a))) := by
  rw [sdbl_form]
  try simp only [bitsL_eq]
  unfold dblW
  have hb := in64_iff.1 hg
  have h1 := dblW_ix hb.1 hb.2
  have e1 : decide (0 ≤ Int.tmod (IntKind.wrap IntKind.u64 (Int.tdiv a 4)) 18) = true := decide_eq_true h1.1
  have e2 : decide (Int.tmod (IntKind.wrap IntKind.u64 (Int.tdiv a 4)) 18 < 18) = true := decide_eq_true h1.2
  rw [e1, e2]
  cases Int.tmod a 4 == 0 <;> rfl
def sdblS : Nice := fun R args kv => match args with
  | [.v (.int .u64 a)] => bif in64 a then kv (.v (.int .u64 (dblW a))) else none
  | _ => none
theorem sdblS_ok : NiceOk Try.prog ΓM6 400 57 sdblS := by
  intro R args kv r h
  unfold sdblS at h
  split at h
  · obtain ⟨hg, h⟩ := cond_some h
    exact ⟨_, h, rfl, rfl, sdbl_nice _ hg⟩
  · cases h
def ΓSt0 : Env := ((ΓM6.add 56 (pureSpec wordS)).add 57 (pureSpec sdblS))
theorem ΓSt0_ok : EnvOk Try.prog X0 ΓSt0 := ((ΓM6_ok.add (by kernel_rfl) (specOk_of_nice ΓM6_ok wordS_ok)).add (by kernel_rfl) (specOk_of_nice ΓM6_ok sdblS_ok))
end Go.Proofs.Ytpgdpoloipifeaa
namespace Go.Proofs.Ytpgdpoloipifeaa
open Go Go.Ev
set_option linter.unusedVariables false
set_option linter.unusedSimpArgs false
set_option maxRecDepth 100000
theorem flags_form (a : Int) :
    evF Try.prog ΓSt0 400 55 [vy a] [] (fun x _ => some x) (fun _ _ => none) =
    (some
 (Sv.agg
 [Sv.v
 (Value.bool
 (bitsL BinOp.and IntKind.u32
 (Int.fdiv
 (bitsL BinOp.or IntKind.u32 (IntKind.wrap IntKind.u32 (IntKind.wrap IntKind.u32 a * 37))
 (IntKind.wrap IntKind.u32 (IntKind.wrap IntKind.u32 (bitsL BinOp.and IntKind.u8 a 8) * 128)))
 1)
 1 ==
 1)),
 Sv.v
 (Value.bool
 (bitsL BinOp.and IntKind.u32
 (Int.fdiv
 (bitsL BinOp.or IntKind.u32 (IntKind.wrap IntKind.u32 (IntKind.wrap IntKind.u32 a * 37))
 (IntKind.wrap IntKind.u32 (IntKind.wrap IntKind.u32 (bitsL BinOp.and IntKind.u8 a 8) * 128)))
 4)
 1 ==
 1)),
 Sv.v
 (Value.bool
 (bitsL BinOp.and IntKind.u32
 (Int.fdiv
 (bitsL BinOp.or IntKind.u32 (IntKind.wrap IntKind.u32 (IntKind.wrap IntKind.u32 a * 37))
 (IntKind.wrap IntKind.u32 (IntKind.wrap IntKind.u32 (bitsL BinOp.and IntKind.u8 a 8) * 128)))
 64)
 1 ==
 1)),
 Sv.v
 (Value.bool
 (bitsL BinOp.and IntKind.u32
 (Int.fdiv
 (bitsL BinOp.or IntKind.u32 (IntKind.wrap IntKind.u32 (IntKind.wrap IntKind.u32 a * 37))
 (IntKind.wrap IntKind.u32 (IntKind.wrap IntKind.u32 (bitsL BinOp.and IntKind.u8 a 8) * 128)))
 128)
 1 ==
 1)),
 Sv.v
 (Value.bool
 (bitsL BinOp.and IntKind.u32
 (Int.fdiv
 (bitsL BinOp.or IntKind.u32 (IntKind.wrap IntKind.u32 (IntKind.wrap IntKind.u32 a * 37))
 (IntKind.wrap IntKind.u32 (IntKind.wrap IntKind.u32 (bitsL BinOp.and IntKind.u8 a 8) * 128)))
 2048)
 1 ==
 1)),
 Sv.v
 (Value.bool
 (bitsL BinOp.and IntKind.u32
 (Int.fdiv
 (bitsL BinOp.or IntKind.u32 (IntKind.wrap IntKind.u32 (IntKind.wrap IntKind.u32 a * 37))
 (IntKind.wrap IntKind.u32 (IntKind.wrap IntKind.u32 (bitsL BinOp.and IntKind.u8 a 8) * 128)))
 1024)
 1 ==
 1))])) := by kernel_rfl
theorem flags_nice (a : Int) (hg : (in8 a) = true) :
    evF Try.prog ΓSt0 400 55 [vy a] [] (fun x _ => some x) (fun _ _ => none) = some (.agg [.v (.bool (flagW a 1)), .v (.bool (flagW a 4)), .v (.bool (flagW a 64)), .v (.bool (flagW a 128)), .v (.bool (flagW a 2048)), .v (.bool (flagW a 1024))]) := by
  rw [flags_form]
  rfl
def flagsS : Nice := fun R args kv => match args with
  | [.v (.int .u8 a)] => bif in8 a then kv (.agg [.v (.bool (flagW a 1)), .v (.bool (flagW a 4)), .v (.bool (flagW a 64)), .v (.bool (flagW a 128)), .v (.bool (flagW a 2048)), .v (.bool (flagW a 1024))]) else none
  | _ => none
theorem flagsS_ok : NiceOk Try.prog ΓSt0 400 55 flagsS := by
  intro R args kv r h
  unfold flagsS at h
  split at h
  · obtain ⟨hg, h⟩ := cond_some h
    exact ⟨_, h, rfl, rfl, flags_nice _ hg⟩
  · cases h
def ΓSt1 : Env := (ΓSt0.add 55 (pureSpec flagsS))
theorem ΓSt1_ok : EnvOk Try.prog X0 ΓSt1 := (ΓSt0_ok.add (by kernel_rfl) (specOk_of_nice ΓSt0_ok flagsS_ok))
end Go.Proofs.Ytpgdpoloipifeaa
namespace Go.Proofs.Ytpgdpoloipifeaa
open Go Go.Ev
set_option linter.unusedVariables false
set_option linter.unusedSimpArgs false
set_option maxRecDepth 100000
abbrev cCSt3z0 (r0 r1 r2 r3 r4 r5 r6 r7 : Int) : List Sv := [vw r0, vw r1, vw r2, vw r3, vw r4, vw r5, vw r6, vw r7]
abbrev cCSt3z1 (x0 x1 x2 x3 x4 x5 x6 x7 : Int) : List Sv := [vd x0, vd x1, vd x2, vd x3, vd x4, vd x5, vd x6, vd x7]
theorem st_form0 (r0 r1 r2 r3 r4 r5 r6 r7 x0 x1 x2 x3 x4 x5 x6 x7 near : Int) (fc fp fz fs fo fd : Bool) (z : List Sv) (e1 e2 e3 e4 : TypeId) (g : List Sv) :
    ev Try.prog ΓSt1 60 (fun _ => none) (roundOf Try.prog 17 0) (fr 45 [3, 4, 5, 8, 9, 10] [vy near, .ptr 0 0, .ptr 1 0, .ptr 2 0, .ptr 3 0, vi 0] g) [.cells (cCSt3z0 r0 r1 r2 r3 r4 r5 r6 r7) e1, .cells (cCSt3z1 x0 x1 x2 x3 x4 x5 x6 x7) e2, .cells z e3, .cells [vw 0, vw 0, vw 0, vw 0, vw 0, vw 0, vw 0, vw 0, vw 0, vb fc, vb fp, vb fz, vb fs, vb fo, vb fd, vd 0, vd 0, vd 0, vd 0, vd 0, vd 0, vd 0, vd 0] e4] (liveK [3, 4, 5, 8, 9, 10]) =
    (bif in32 r0 then
bif in64 x0 then
bif bitsL BinOp.and IntKind.u8 (Int.fdiv near 1) 1 == 1 then
some
(0, 45,
[vy near, Sv.ptr 0 0, Sv.ptr 1 0, Sv.ptr 2 0, Sv.ptr 3 0, vi 1],
[SObj.cells
[vw r0, vw r1, vw r2,
vw r3, vw r4, vw r5,
vw r6, vw r7]
e1,
SObj.cells
[vd x0, vd x1, vd x2,
vd x3, vd x4, vd x5,
vd x6, vd x7]
e2,
SObj.cells z e3,
SObj.cells
[vw ((Int.tmod r0 300)), vw 0, vw 0,
vw 0, vw 0, vw 0,
vw 0, vw 0, vw 0, vb fc,
vb fp, vb fz, vb fs, vb fo, vb fd,
vd ((dblW x0)), vd 0, vd 0,
vd 0, vd 0, vd 0,
vd 0, vd 0]
e4])
else
some
(0, 45,
[vy near, Sv.ptr 0 0, Sv.ptr 1 0, Sv.ptr 2 0, Sv.ptr 3 0, vi 1],
[SObj.cells
[vw r0, vw r1, vw r2,
vw r3, vw r4, vw r5,
vw r6, vw r7]
e1,
SObj.cells
[vd x0, vd x1, vd x2,
vd x3, vd x4, vd x5,
vd x6, vd x7]
e2,
SObj.cells z e3,
SObj.cells
[vw ((wordV r0)), vw 0, vw 0,
vw 0, vw 0, vw 0,
vw 0, vw 0, vw 0, vb fc,
vb fp, vb fz, vb fs, vb fo, vb fd,
vd ((dblW x0)), vd 0, vd 0,
vd 0, vd 0, vd 0,
vd 0, vd 0]
e4])
else none
else none) := by kernel_rfl
theorem st_round0 (r0 r1 r2 r3 r4 r5 r6 r7 x0 x1 x2 x3 x4 x5 x6 x7 near : Int) (fc fp fz fs fo fd : Bool) (z : List Sv) (e1 e2 e3 e4 : TypeId) (g : List Sv) (hr : in32 r0 = true) (hx : in64 x0 = true) : ev Try.prog ΓSt1 60 (fun _ => none) (roundOf Try.prog 17 0) (fr 45 [3, 4, 5, 8, 9, 10] [vy near, .ptr 0 0, .ptr 1 0, .ptr 2 0, .ptr 3 0, vi 0] g) [.cells (cCSt3z0 r0 r1 r2 r3 r4 r5 r6 r7) e1, .cells (cCSt3z1 x0 x1 x2 x3 x4 x5 x6 x7) e2, .cells z e3, .cells [vw 0, vw 0, vw 0, vw 0, vw 0, vw 0, vw 0, vw 0, vw 0, vb fc, vb fp, vb fz, vb fs, vb fo, vb fd, vd 0, vd 0, vd 0, vd 0, vd 0, vd 0, vd 0, vd 0] e4] (liveK [3, 4, 5, 8, 9, 10]) = some (0, 45, [vy near, .ptr 0 0, .ptr 1 0, .ptr 2 0, .ptr 3 0, vi 1], [.cells (cCSt3z0 r0 r1 r2 r3 r4 r5 r6 r7) e1, .cells (cCSt3z1 x0 x1 x2 x3 x4 x5 x6 x7) e2, .cells z e3, .cells [.v (.int .u32 (stRV (stBit near 1) r0)), vw 0, vw 0, vw 0, vw 0, vw 0, vw 0, vw 0, vw 0, vb fc, vb fp, vb fz, vb fs, vb fo, vb fd, .v (.int .u64 (dblW x0)), vd 0, vd 0, vd 0, vd 0, vd 0, vd 0, vd 0] e4]) := by
  rw [st_form0, hr, hx]
  simp only [cond_true]
  simp only [stRV, stBit]
  cases (bitsL BinOp.and IntKind.u8 (Int.fdiv near 1) 1 == 1) <;> rfl
theorem st_form1 (r0 r1 r2 r3 r4 r5 r6 r7 x0 x1 x2 x3 x4 x5 x6 x7 near : Int) (fc fp fz fs fo fd : Bool) (z : List Sv) (e1 e2 e3 e4 : TypeId) (g : List Sv) :
    ev Try.prog ΓSt1 60 (fun _ => none) (roundOf Try.prog 17 0) (fr 45 [3, 4, 5, 8, 9, 10] [vy near, .ptr 0 0, .ptr 1 0, .ptr 2 0, .ptr 3 0, vi 1] g) [.cells (cCSt3z0 r0 r1 r2 r3 r4 r5 r6 r7) e1, .cells (cCSt3z1 x0 x1 x2 x3 x4 x5 x6 x7) e2, .cells z e3, .cells [.v (.int .u32 (stRV (stBit near 1) r0)), vw 0, vw 0, vw 0, vw 0, vw 0, vw 0, vw 0, vw 0, vb fc, vb fp, vb fz, vb fs, vb fo, vb fd, .v (.int .u64 (dblW x0)), vd 0, vd 0, vd 0, vd 0, vd 0, vd 0, vd 0] e4] (liveK [3, 4, 5, 8, 9, 10]) =
    (bif in32 r1 then
bif in64 x1 then
bif bitsL BinOp.and IntKind.u8 (Int.fdiv near 2) 1 == 1 then
some
(0, 45,
[vy near, Sv.ptr 0 0, Sv.ptr 1 0, Sv.ptr 2 0, Sv.ptr 3 0, vi 2],
[SObj.cells
[vw r0, vw r1, vw r2,
vw r3, vw r4, vw r5,
vw r6, vw r7]
e1,
SObj.cells
[vd x0, vd x1, vd x2,
vd x3, vd x4, vd x5,
vd x6, vd x7]
e2,
SObj.cells z e3,
SObj.cells
[vw ((stRV (stBit near 1) r0)), vw ((Int.tmod r1 300)),
vw 0, vw 0, vw 0,
vw 0, vw 0, vw 0,
vw 0, vb fc, vb fp, vb fz, vb fs,
vb fo, vb fd, vd ((dblW x0)),
vd ((dblW x1)), vd 0, vd 0,
vd 0, vd 0, vd 0,
vd 0]
e4])
else
some
(0, 45,
[vy near, Sv.ptr 0 0, Sv.ptr 1 0, Sv.ptr 2 0, Sv.ptr 3 0, vi 2],
[SObj.cells
[vw r0, vw r1, vw r2,
vw r3, vw r4, vw r5,
vw r6, vw r7]
e1,
SObj.cells
[vd x0, vd x1, vd x2,
vd x3, vd x4, vd x5,
vd x6, vd x7]
e2,
SObj.cells z e3,
SObj.cells
[vw ((stRV (stBit near 1) r0)), vw ((wordV r1)),
vw 0, vw 0, vw 0,
vw 0, vw 0, vw 0,
vw 0, vb fc, vb fp, vb fz, vb fs,
vb fo, vb fd, vd ((dblW x0)),
vd ((dblW x1)), vd 0, vd 0,
vd 0, vd 0, vd 0,
vd 0]
e4])
else none
else none) := by kernel_rfl
theorem st_round1 (r0 r1 r2 r3 r4 r5 r6 r7 x0 x1 x2 x3 x4 x5 x6 x7 near : Int) (fc fp fz fs fo fd : Bool) (z : List Sv) (e1 e2 e3 e4 : TypeId) (g : List Sv) (hr : in32 r1 = true) (hx : in64 x1 = true) : ev Try.prog ΓSt1 60 (fun _ => none) (roundOf Try.prog 17 0) (fr 45 [3, 4, 5, 8, 9, 10] [vy near, .ptr 0 0, .ptr 1 0, .ptr 2 0, .ptr 3 0, vi 1] g) [.cells (cCSt3z0 r0 r1 r2 r3 r4 r5 r6 r7) e1, .cells (cCSt3z1 x0 x1 x2 x3 x4 x5 x6 x7) e2, .cells z e3, .cells [.v (.int .u32 (stRV (stBit near 1) r0)), vw 0, vw 0, vw 0, vw 0, vw 0, vw 0, vw 0, vw 0, vb fc, vb fp, vb fz, vb fs, vb fo, vb fd, .v (.int .u64 (dblW x0)), vd 0, vd 0, vd 0, vd 0, vd 0, vd 0, vd 0] e4] (liveK [3, 4, 5, 8, 9, 10]) = some (0, 45, [vy near, .ptr 0 0, .ptr 1 0, .ptr 2 0, .ptr 3 0, vi 2], [.cells (cCSt3z0 r0 r1 r2 r3 r4 r5 r6 r7) e1, .cells (cCSt3z1 x0 x1 x2 x3 x4 x5 x6 x7) e2, .cells z e3, .cells [.v (.int .u32 (stRV (stBit near 1) r0)), .v (.int .u32 (stRV (stBit near 2) r1)), vw 0, vw 0, vw 0, vw 0, vw 0, vw 0, vw 0, vb fc, vb fp, vb fz, vb fs, vb fo, vb fd, .v (.int .u64 (dblW x0)), .v (.int .u64 (dblW x1)), vd 0, vd 0, vd 0, vd 0, vd 0, vd 0] e4]) := by
  rw [st_form1, hr, hx]
  simp only [cond_true]
  simp only [stRV, stBit]
  cases (bitsL BinOp.and IntKind.u8 (Int.fdiv near 2) 1 == 1) <;> rfl
theorem st_form2 (r0 r1 r2 r3 r4 r5 r6 r7 x0 x1 x2 x3 x4 x5 x6 x7 near : Int) (fc fp fz fs fo fd : Bool) (z : List Sv) (e1 e2 e3 e4 : TypeId) (g : List Sv) :
    ev Try.prog ΓSt1 60 (fun _ => none) (roundOf Try.prog 17 0) (fr 45 [3, 4, 5, 8, 9, 10] [vy near, .ptr 0 0, .ptr 1 0, .ptr 2 0, .ptr 3 0, vi 2] g) [.cells (cCSt3z0 r0 r1 r2 r3 r4 r5 r6 r7) e1, .cells (cCSt3z1 x0 x1 x2 x3 x4 x5 x6 x7) e2, .cells z e3, .cells [.v (.int .u32 (stRV (stBit near 1) r0)), .v (.int .u32 (stRV (stBit near 2) r1)), vw 0, vw 0, vw 0, vw 0, vw 0, vw 0, vw 0, vb fc, vb fp, vb fz, vb fs, vb fo, vb fd, .v (.int .u64 (dblW x0)), .v (.int .u64 (dblW x1)), vd 0, vd 0, vd 0, vd 0, vd 0, vd 0] e4] (liveK [3, 4, 5, 8, 9, 10]) =
    (bif in32 r2 then
bif in64 x2 then
bif bitsL BinOp.and IntKind.u8 (Int.fdiv near 4) 1 == 1 then
some
(0, 45,
[vy near, Sv.ptr 0 0, Sv.ptr 1 0, Sv.ptr 2 0, Sv.ptr 3 0, vi 3],
[SObj.cells
[vw r0, vw r1, vw r2,
vw r3, vw r4, vw r5,
vw r6, vw r7]
e1,
SObj.cells
[vd x0, vd x1, vd x2,
vd x3, vd x4, vd x5,
vd x6, vd x7]
e2,
SObj.cells z e3,
SObj.cells
[vw ((stRV (stBit near 1) r0)), vw ((stRV (stBit near 2) r1)),
vw ((Int.tmod r2 300)), vw 0, vw 0,
vw 0, vw 0, vw 0,
vw 0, vb fc, vb fp, vb fz, vb fs,
vb fo, vb fd, vd ((dblW x0)),
vd ((dblW x1)), vd ((dblW x2)), vd 0,
vd 0, vd 0, vd 0,
vd 0]
e4])
else
some
(0, 45,
[vy near, Sv.ptr 0 0, Sv.ptr 1 0, Sv.ptr 2 0, Sv.ptr 3 0, vi 3],
[SObj.cells
[vw r0, vw r1, vw r2,
vw r3, vw r4, vw r5,
vw r6, vw r7]
e1,
SObj.cells
[vd x0, vd x1, vd x2,
vd x3, vd x4, vd x5,
vd x6, vd x7]
e2,
SObj.cells z e3,
SObj.cells
[vw ((stRV (stBit near 1) r0)), vw ((stRV (stBit near 2) r1)),
vw ((wordV r2)), vw 0, vw 0,
vw 0, vw 0, vw 0,
vw 0, vb fc, vb fp, vb fz, vb fs,
vb fo, vb fd, vd ((dblW x0)),
vd ((dblW x1)), vd ((dblW x2)), vd 0,
vd 0, vd 0, vd 0,
vd 0]
e4])
else none
else none) := by kernel_rfl
theorem st_round2 (r0 r1 r2 r3 r4 r5 r6 r7 x0 x1 x2 x3 x4 x5 x6 x7 near : Int) (fc fp fz fs fo fd : Bool) (z : List Sv) (e1 e2 e3 e4 : TypeId) (g : List Sv) (hr : in32 r2 = true) (hx : in64 x2 = true) : ev Try.prog ΓSt1 60 (fun _ => none) (roundOf Try.prog 17 0) (fr 45 [3, 4, 5, 8, 9, 10] [vy near, .ptr 0 0, .ptr 1 0, .ptr 2 0, .ptr 3 0, vi 2] g) [.cells (cCSt3z0 r0 r1 r2 r3 r4 r5 r6 r7) e1, .cells (cCSt3z1 x0 x1 x2 x3 x4 x5 x6 x7) e2, .cells z e3, .cells [.v (.int .u32 (stRV (stBit near 1) r0)), .v (.int .u32 (stRV (stBit near 2) r1)), vw 0, vw 0, vw 0, vw 0, vw 0, vw 0, vw 0, vb fc, vb fp, vb fz, vb fs, vb fo, vb fd, .v (.int .u64 (dblW x0)), .v (.int .u64 (dblW x1)), vd 0, vd 0, vd 0, vd 0, vd 0, vd 0] e4] (liveK [3, 4, 5, 8, 9, 10]) = some (0, 45, [vy near, .ptr 0 0, .ptr 1 0, .ptr 2 0, .ptr 3 0, vi 3], [.cells (cCSt3z0 r0 r1 r2 r3 r4 r5 r6 r7) e1, .cells (cCSt3z1 x0 x1 x2 x3 x4 x5 x6 x7) e2, .cells z e3, .cells [.v (.int .u32 (stRV (stBit near 1) r0)), .v (.int .u32 (stRV (stBit near 2) r1)), .v (.int .u32 (stRV (stBit near 4) r2)), vw 0, vw 0, vw 0, vw 0, vw 0, vw 0, vb fc, vb fp, vb fz, vb fs, vb fo, vb fd, .v (.int .u64 (dblW x0)), .v (.int .u64 (dblW x1)), .v (.int .u64 (dblW x2)), vd 0, vd 0, vd 0, vd 0, vd 0] e4]) := by
  rw [st_form2, hr, hx]
  simp only [cond_true]
  simp only [stRV, stBit]
  cases (bitsL BinOp.and IntKind.u8 (Int.fdiv near 4) 1 == 1) <;> rfl
theorem st_form3 (r0 r1 r2 r3 r4 r5 r6 r7 x0 x1 x2 x3 x4 x5 x6 x7 near : Int) (fc fp fz fs fo fd : Bool) (z : List Sv) (e1 e2 e3 e4 : TypeId) (g : List Sv) :
    ev Try.prog ΓSt1 60 (fun _ => none) (roundOf Try.prog 17 0) (fr 45 [3, 4, 5, 8, 9, 10] [vy near, .ptr 0 0, .ptr 1 0, .ptr 2 0, .ptr 3 0, vi 3] g) [.cells (cCSt3z0 r0 r1 r2 r3 r4 r5 r6 r7) e1, .cells (cCSt3z1 x0 x1 x2 x3 x4 x5 x6 x7) e2, .cells z e3, .cells [.v (.int .u32 (stRV (stBit near 1) r0)), .v (.int .u32 (stRV (stBit near 2) r1)), .v (.int .u32 (stRV (stBit near 4) r2)), vw 0, vw 0, vw 0, vw 0, vw 0, vw 0, vb fc, vb fp, vb fz, vb fs, vb fo, vb fd, .v (.int .u64 (dblW x0)), .v (.int .u64 (dblW x1)), .v (.int .u64 (dblW x2)), vd 0, vd 0, vd 0, vd 0, vd 0] e4] (liveK [3, 4, 5, 8, 9, 10]) =
    (bif in32 r3 then
bif in64 x3 then
bif bitsL BinOp.and IntKind.u8 (Int.fdiv near 8) 1 == 1 then
some
(0, 45,
[vy near, Sv.ptr 0 0, Sv.ptr 1 0, Sv.ptr 2 0, Sv.ptr 3 0, vi 4],
[SObj.cells
[vw r0, vw r1, vw r2,
vw r3, vw r4, vw r5,
vw r6, vw r7]
e1,
SObj.cells
[vd x0, vd x1, vd x2,
vd x3, vd x4, vd x5,
vd x6, vd x7]
e2,
SObj.cells z e3,
SObj.cells
[vw ((stRV (stBit near 1) r0)), vw ((stRV (stBit near 2) r1)),
vw ((stRV (stBit near 4) r2)), vw ((Int.tmod r3 300)),
vw 0, vw 0, vw 0,
vw 0, vw 0, vb fc, vb fp,
vb fz, vb fs, vb fo, vb fd,
vd ((dblW x0)), vd ((dblW x1)), vd ((dblW x2)),
vd ((dblW x3)), vd 0, vd 0,
vd 0, vd 0]
e4])
else
some
(0, 45,
[vy near, Sv.ptr 0 0, Sv.ptr 1 0, Sv.ptr 2 0, Sv.ptr 3 0, vi 4],
[SObj.cells
[vw r0, vw r1, vw r2,
vw r3, vw r4, vw r5,
vw r6, vw r7]
e1,
SObj.cells
[vd x0, vd x1, vd x2,
vd x3, vd x4, vd x5,
vd x6, vd x7]
e2,
SObj.cells z e3,
SObj.cells
[vw ((stRV (stBit near 1) r0)), vw ((stRV (stBit near 2) r1)),
vw ((stRV (stBit near 4) r2)), vw ((wordV r3)),
vw 0, vw 0, vw 0,
vw 0, vw 0, vb fc, vb fp,
vb fz, vb fs, vb fo, vb fd,
vd ((dblW x0)), vd ((dblW x1)), vd ((dblW x2)),
vd ((dblW x3)), vd 0, vd 0,
vd 0, vd 0]
e4])
else none
else none) := by kernel_rfl
theorem st_round3 (r0 r1 r2 r3 r4 r5 r6 r7 x0 x1 x2 x3 x4 x5 x6 x7 near : Int) (fc fp fz fs fo fd : Bool) (z : List Sv) (e1 e2 e3 e4 : TypeId) (g : List Sv) (hr : in32 r3 = true) (hx : in64 x3 = true) : ev Try.prog ΓSt1 60 (fun _ => none) (roundOf Try.prog 17 0) (fr 45 [3, 4, 5, 8, 9, 10] [vy near, .ptr 0 0, .ptr 1 0, .ptr 2 0, .ptr 3 0, vi 3] g) [.cells (cCSt3z0 r0 r1 r2 r3 r4 r5 r6 r7) e1, .cells (cCSt3z1 x0 x1 x2 x3 x4 x5 x6 x7) e2, .cells z e3, .cells [.v (.int .u32 (stRV (stBit near 1) r0)), .v (.int .u32 (stRV (stBit near 2) r1)), .v (.int .u32 (stRV (stBit near 4) r2)), vw 0, vw 0, vw 0, vw 0, vw 0, vw 0, vb fc, vb fp, vb fz, vb fs, vb fo, vb fd, .v (.int .u64 (dblW x0)), .v (.int .u64 (dblW x1)), .v (.int .u64 (dblW x2)), vd 0, vd 0, vd 0, vd 0, vd 0] e4] (liveK [3, 4, 5, 8, 9, 10]) = some (0, 45, [vy near, .ptr 0 0, .ptr 1 0, .ptr 2 0, .ptr 3 0, vi 4], [.cells (cCSt3z0 r0 r1 r2 r3 r4 r5 r6 r7) e1, .cells (cCSt3z1 x0 x1 x2 x3 x4 x5 x6 x7) e2, .cells z e3, .cells [.v (.int .u32 (stRV (stBit near 1) r0)), .v (.int .u32 (stRV (stBit near 2) r1)), .v (.int .u32 (stRV (stBit near 4) r2)), .v (.int .u32 (stRV (stBit near 8) r3)), vw 0, vw 0, vw 0, vw 0, vw 0, vb fc, vb fp, vb fz, vb fs, vb fo, vb fd, .v (.int .u64 (dblW x0)), .v (.int .u64 (dblW x1)), .v (.int .u64 (dblW x2)), .v (.int .u64 (dblW x3)), vd 0, vd 0, vd 0, vd 0] e4]) := by
  rw [st_form3, hr, hx]
  simp only [cond_true]
  simp only [stRV, stBit]
  cases (bitsL BinOp.and IntKind.u8 (Int.fdiv near 8) 1 == 1) <;> rfl
theorem st_form4 (r0 r1 r2 r3 r4 r5 r6 r7 x0 x1 x2 x3 x4 x5 x6 x7 near : Int) (fc fp fz fs fo fd : Bool) (z : List Sv) (e1 e2 e3 e4 : TypeId) (g : List Sv) :
    ev Try.prog ΓSt1 60 (fun _ => none) (roundOf Try.prog 17 0) (fr 45 [3, 4, 5, 8, 9, 10] [vy near, .ptr 0 0, .ptr 1 0, .ptr 2 0, .ptr 3 0, vi 4] g) [.cells (cCSt3z0 r0 r1 r2 r3 r4 r5 r6 r7) e1, .cells (cCSt3z1 x0 x1 x2 x3 x4 x5 x6 x7) e2, .cells z e3, .cells [.v (.int .u32 (stRV (stBit near 1) r0)), .v (.int .u32 (stRV (stBit near 2) r1)), .v (.int .u32 (stRV (stBit near 4) r2)), .v (.int .u32 (stRV (stBit near 8) r3)), vw 0, vw 0, vw 0, vw 0, vw 0, vb fc, vb fp, vb fz, vb fs, vb fo, vb fd, .v (.int .u64 (dblW x0)), .v (.int .u64 (dblW x1)), .v (.int .u64 (dblW x2)), .v (.int .u64 (dblW x3)), vd 0, vd 0, vd 0, vd 0] e4] (liveK [3, 4, 5, 8, 9, 10]) =
    (bif in32 r4 then
bif in64 x4 then
bif bitsL BinOp.and IntKind.u8 (Int.fdiv near 16) 1 == 1 then
some
(0, 45,
[vy near, Sv.ptr 0 0, Sv.ptr 1 0, Sv.ptr 2 0, Sv.ptr 3 0, vi 5],
[SObj.cells
[vw r0, vw r1, vw r2,
vw r3, vw r4, vw r5,
vw r6, vw r7]
e1,
SObj.cells
[vd x0, vd x1, vd x2,
vd x3, vd x4, vd x5,
vd x6, vd x7]
e2,
SObj.cells z e3,
SObj.cells
[vw ((stRV (stBit near 1) r0)), vw ((stRV (stBit near 2) r1)),
vw ((stRV (stBit near 4) r2)), vw ((stRV (stBit near 8) r3)),
vw ((Int.tmod r4 300)), vw 0, vw 0,
vw 0, vw 0, vb fc, vb fp,
vb fz, vb fs, vb fo, vb fd,
vd ((dblW x0)), vd ((dblW x1)), vd ((dblW x2)),
vd ((dblW x3)), vd ((dblW x4)), vd 0,
vd 0, vd 0]
e4])
else
some
(0, 45,
[vy near, Sv.ptr 0 0, Sv.ptr 1 0, Sv.ptr 2 0, Sv.ptr 3 0, vi 5],
[SObj.cells
[vw r0, vw r1, vw r2,
vw r3, vw r4, vw r5,
vw r6, vw r7]
e1,
SObj.cells
[vd x0, vd x1, vd x2,
vd x3, vd x4, vd x5,
vd x6, vd x7]
e2,
SObj.cells z e3,
SObj.cells
[vw ((stRV (stBit near 1) r0)), vw ((stRV (stBit near 2) r1)),
vw ((stRV (stBit near 4) r2)), vw ((stRV (stBit near 8) r3)),
vw ((wordV r4)), vw 0, vw 0,
vw 0, vw 0, vb fc, vb fp,
vb fz, vb fs, vb fo, vb fd,
vd ((dblW x0)), vd ((dblW x1)), vd ((dblW x2)),
vd ((dblW x3)), vd ((dblW x4)), vd 0,
vd 0, vd 0]
e4])
else none
else none) := by kernel_rfl
theorem st_round4 (r0 r1 r2 r3 r4 r5 r6 r7 x0 x1 x2 x3 x4 x5 x6 x7 near : Int) (fc fp fz fs fo fd : Bool) (z : List Sv) (e1 e2 e3 e4 : TypeId) (g : List Sv) (hr : in32 r4 = true) (hx : in64 x4 = true) : ev Try.prog ΓSt1 60 (fun _ => none) (roundOf Try.prog 17 0) (fr 45 [3, 4, 5, 8, 9, 10] [vy near, .ptr 0 0, .ptr 1 0, .ptr 2 0, .ptr 3 0, vi 4] g) [.cells (cCSt3z0 r0 r1 r2 r3 r4 r5 r6 r7) e1, .cells (cCSt3z1 x0 x1 x2 x3 x4 x5 x6 x7) e2, .cells z e3, .cells [.v (.int .u32 (stRV (stBit near 1) r0)), .v (.int .u32 (stRV (stBit near 2) r1)), .v (.int .u32 (stRV (stBit near 4) r2)), .v (.int .u32 (stRV (stBit near 8) r3)), vw 0, vw 0, vw 0, vw 0, vw 0, vb fc, vb fp, vb fz, vb fs, vb fo, vb fd, .v (.int .u64 (dblW x0)), .v (.int .u64 (dblW x1)), .v (.int .u64 (dblW x2)), .v (.int .u64 (dblW x3)), vd 0, vd 0, vd 0, vd 0] e4] (liveK [3, 4, 5, 8, 9, 10]) = some (0, 45, [vy near, .ptr 0 0, .ptr 1 0, .ptr 2 0, .ptr 3 0, vi 5], [.cells (cCSt3z0 r0 r1 r2 r3 r4 r5 r6 r7) e1, .cells (cCSt3z1 x0 x1 x2 x3 x4 x5 x6 x7) e2, .cells z e3, .cells [.v (.int .u32 (stRV (stBit near 1) r0)), .v (.int .u32 (stRV (stBit near 2) r1)), .v (.int .u32 (stRV (stBit near 4) r2)), .v (.int .u32 (stRV (stBit near 8) r3)), .v (.int .u32 (stRV (stBit near 16) r4)), vw 0, vw 0, vw 0, vw 0, vb fc, vb fp, vb fz, vb fs, vb fo, vb fd, .v (.int .u64 (dblW x0)), .v (.int .u64 (dblW x1)), .v (.int .u64 (dblW x2)), .v (.int .u64 (dblW x3)), .v (.int .u64 (dblW x4)), vd 0, vd 0, vd 0] e4]) := by
  rw [st_form4, hr, hx]
  simp only [cond_true]
  simp only [stRV, stBit]
  cases (bitsL BinOp.and IntKind.u8 (Int.fdiv near 16) 1 == 1) <;> rfl
theorem st_form5 (r0 r1 r2 r3 r4 r5 r6 r7 x0 x1 x2 x3 x4 x5 x6 x7 near : Int) (fc fp fz fs fo fd : Bool) (z : List Sv) (e1 e2 e3 e4 : TypeId) (g : List Sv) :
    ev Try.prog ΓSt1 60 (fun _ => none) (roundOf Try.prog 17 0) (fr 45 [3, 4, 5, 8, 9, 10] [vy near, .ptr 0 0, .ptr 1 0, .ptr 2 0, .ptr 3 0, vi 5] g) [.cells (cCSt3z0 r0 r1 r2 r3 r4 r5 r6 r7) e1, .cells (cCSt3z1 x0 x1 x2 x3 x4 x5 x6 x7) e2, .cells z e3, .cells [.v (.int .u32 (stRV (stBit near 1) r0)), .v (.int .u32 (stRV (stBit near 2) r1)), .v (.int .u32 (stRV (stBit near 4) r2)), .v (.int .u32 (stRV (stBit near 8) r3)), .v (.int .u32 (stRV (stBit near 16) r4)), vw 0, vw 0, vw 0, vw 0, vb fc, vb fp, vb fz, vb fs, vb fo, vb fd, .v (.int .u64 (dblW x0)), .v (.int .u64 (dblW x1)), .v (.int .u64 (dblW x2)), .v (.int .u64 (dblW x3)), .v (.int .u64 (dblW x4)), vd 0, vd 0, vd 0] e4] (liveK [3, 4, 5, 8, 9, 10]) =
    (bif in32 r5 then
bif in64 x5 then
bif bitsL BinOp.and IntKind.u8 (Int.fdiv near 32) 1 == 1 then
some
(0, 45,
[vy near, Sv.ptr 0 0, Sv.ptr 1 0, Sv.ptr 2 0, Sv.ptr 3 0, vi 6],
[SObj.cells
[vw r0, vw r1, vw r2,
vw r3, vw r4, vw r5,
vw r6, vw r7]
e1,
SObj.cells
[vd x0, vd x1, vd x2,
vd x3, vd x4, vd x5,
vd x6, vd x7]
e2,
SObj.cells z e3,
SObj.cells
[vw ((stRV (stBit near 1) r0)), vw ((stRV (stBit near 2) r1)),
vw ((stRV (stBit near 4) r2)), vw ((stRV (stBit near 8) r3)),
vw ((stRV (stBit near 16) r4)), vw ((Int.tmod r5 300)),
vw 0, vw 0, vw 0, vb fc,
vb fp, vb fz, vb fs, vb fo, vb fd,
vd ((dblW x0)), vd ((dblW x1)), vd ((dblW x2)),
vd ((dblW x3)), vd ((dblW x4)), vd ((dblW x5)),
vd 0, vd 0]
e4])
else
some
(0, 45,
[vy near, Sv.ptr 0 0, Sv.ptr 1 0, Sv.ptr 2 0, Sv.ptr 3 0, vi 6],
[SObj.cells
[vw r0, vw r1, vw r2,
vw r3, vw r4, vw r5,
vw r6, vw r7]
e1,
SObj.cells
[vd x0, vd x1, vd x2,
vd x3, vd x4, vd x5,
vd x6, vd x7]
e2,
SObj.cells z e3,
SObj.cells
[vw ((stRV (stBit near 1) r0)), vw ((stRV (stBit near 2) r1)),
vw ((stRV (stBit near 4) r2)), vw ((stRV (stBit near 8) r3)),
vw ((stRV (stBit near 16) r4)), vw ((wordV r5)),
vw 0, vw 0, vw 0, vb fc,
vb fp, vb fz, vb fs, vb fo, vb fd,
vd ((dblW x0)), vd ((dblW x1)), vd ((dblW x2)),
vd ((dblW x3)), vd ((dblW x4)), vd ((dblW x5)),
vd 0, vd 0]
e4])
else none
else none) := by kernel_rfl
theorem st_round5 (r0 r1 r2 r3 r4 r5 r6 r7 x0 x1 x2 x3 x4 x5 x6 x7 near : Int) (fc fp fz fs fo fd : Bool) (z : List Sv) (e1 e2 e3 e4 : TypeId) (g : List Sv) (hr : in32 r5 = true) (hx : in64 x5 = true) : ev Try.prog ΓSt1 60 (fun _ => none) (roundOf Try.prog 17 0) (fr 45 [3, 4, 5, 8, 9, 10] [vy near, .ptr 0 0, .ptr 1 0, .ptr 2 0, .ptr 3 0, vi 5] g) [.cells (cCSt3z0 r0 r1 r2 r3 r4 r5 r6 r7) e1, .cells (cCSt3z1 x0 x1 x2 x3 x4 x5 x6 x7) e2, .cells z e3, .cells [.v (.int .u32 (stRV (stBit near 1) r0)), .v (.int .u32 (stRV (stBit near 2) r1)), .v (.int .u32 (stRV (stBit near 4) r2)), .v (.int .u32 (stRV (stBit near 8) r3)), .v (.int .u32 (stRV (stBit near 16) r4)), vw 0, vw 0, vw 0, vw 0, vb fc, vb fp, vb fz, vb fs, vb fo, vb fd, .v (.int .u64 (dblW x0)), .v (.int .u64 (dblW x1)), .v (.int .u64 (dblW x2)), .v (.int .u64 (dblW x3)), .v (.int .u64 (dblW x4)), vd 0, vd 0, vd 0] e4] (liveK [3, 4, 5, 8, 9, 10]) = some (0, 45, [vy near, .ptr 0 0, .ptr 1 0, .ptr 2 0, .ptr 3 0, vi 6], [.cells (cCSt3z0 r0 r1 r2 r3 r4 r5 r6 r7) e1, .cells (cCSt3z1 x0 x1 x2 x3 x4 x5 x6 x7) e2, .cells z e3, .cells [.v (.int .u32 (stRV (stBit near 1) r0)), .v (.int .u32 (stRV (stBit near 2) r1)), .v (.int .u32 (stRV (stBit near 4) r2)), .v (.int .u32 (stRV (stBit near 8) r3)), .v (.int .u32 (stRV (stBit near 16) r4)), .v (.int .u32 (stRV (stBit near 32) r5)), vw 0, vw 0, vw 0, vb fc, vb fp, vb fz, vb fs, vb fo, vb fd, .v (.int .u64 (dblW x0)), .v (.int .u64 (dblW x1)), .v (.int .u64 (dblW x2)), .v (.int .u64 (dblW x3)), .v (.int .u64 (dblW x4)), .v (.int .u64 (dblW x5)), vd 0, vd 0] e4]) := by
  rw [st_form5, hr, hx]
  simp only [cond_true]
  simp only [stRV, stBit]
  cases (bitsL BinOp.and IntKind.u8 (Int.fdiv near 32) 1 == 1) <;> rfl
theorem st_form6 (r0 r1 r2 r3 r4 r5 r6 r7 x0 x1 x2 x3 x4 x5 x6 x7 near : Int) (fc fp fz fs fo fd : Bool) (z : List Sv) (e1 e2 e3 e4 : TypeId) (g : List Sv) :
    ev Try.prog ΓSt1 60 (fun _ => none) (roundOf Try.prog 17 0) (fr 45 [3, 4, 5, 8, 9, 10] [vy near, .ptr 0 0, .ptr 1 0, .ptr 2 0, .ptr 3 0, vi 6] g) [.cells (cCSt3z0 r0 r1 r2 r3 r4 r5 r6 r7) e1, .cells (cCSt3z1 x0 x1 x2 x3 x4 x5 x6 x7) e2, .cells z e3, .cells [.v (.int .u32 (stRV (stBit near 1) r0)), .v (.int .u32 (stRV (stBit near 2) r1)), .v (.int .u32 (stRV (stBit near 4) r2)), .v (.int .u32 (stRV (stBit near 8) r3)), .v (.int .u32 (stRV (stBit near 16) r4)), .v (.int .u32 (stRV (stBit near 32) r5)), vw 0, vw 0, vw 0, vb fc, vb fp, vb fz, vb fs, vb fo, vb fd, .v (.int .u64 (dblW x0)), .v (.int .u64 (dblW x1)), .v (.int .u64 (dblW x2)), .v (.int .u64 (dblW x3)), .v (.int .u64 (dblW x4)), .v (.int .u64 (dblW x5)), vd 0, vd 0] e4] (liveK [3, 4, 5, 8, 9, 10]) =
    (bif in32 r6 then
bif in64 x6 then
bif bitsL BinOp.and IntKind.u8 (Int.fdiv near 64) 1 == 1 then
some
(0, 45,
[vy near, Sv.ptr 0 0, Sv.ptr 1 0, Sv.ptr 2 0, Sv.ptr 3 0, vi 7],
[SObj.cells
[vw r0, vw r1, vw r2,
vw r3, vw r4, vw r5,
vw r6, vw r7]
e1,
SObj.cells
[vd x0, vd x1, vd x2,
vd x3, vd x4, vd x5,
vd x6, vd x7]
e2,
SObj.cells z e3,
SObj.cells
[vw ((stRV (stBit near 1) r0)), vw ((stRV (stBit near 2) r1)),
vw ((stRV (stBit near 4) r2)), vw ((stRV (stBit near 8) r3)),
vw ((stRV (stBit near 16) r4)), vw ((stRV (stBit near 32) r5)),
vw ((Int.tmod r6 300)), vw 0, vw 0,
vb fc, vb fp, vb fz, vb fs, vb fo,
vb fd, vd ((dblW x0)), vd ((dblW x1)),
vd ((dblW x2)), vd ((dblW x3)), vd ((dblW x4)),
vd ((dblW x5)), vd ((dblW x6)), vd 0]
e4])
else
some
(0, 45,
[vy near, Sv.ptr 0 0, Sv.ptr 1 0, Sv.ptr 2 0, Sv.ptr 3 0, vi 7],
[SObj.cells
[vw r0, vw r1, vw r2,
vw r3, vw r4, vw r5,
vw r6, vw r7]
e1,
SObj.cells
[vd x0, vd x1, vd x2,
vd x3, vd x4, vd x5,
vd x6, vd x7]
e2,
SObj.cells z e3,
SObj.cells
[vw ((stRV (stBit near 1) r0)), vw ((stRV (stBit near 2) r1)),
vw ((stRV (stBit near 4) r2)), vw ((stRV (stBit near 8) r3)),
vw ((stRV (stBit near 16) r4)), vw ((stRV (stBit near 32) r5)),
vw ((wordV r6)), vw 0, vw 0,
vb fc, vb fp, vb fz, vb fs, vb fo,
vb fd, vd ((dblW x0)), vd ((dblW x1)),
vd ((dblW x2)), vd ((dblW x3)), vd ((dblW x4)),
vd ((dblW x5)), vd ((dblW x6)), vd 0]
e4])
else none
else none) := by kernel_rfl
theorem st_round6 (r0 r1 r2 r3 r4 r5 r6 r7 x0 x1 x2 x3 x4 x5 x6 x7 near : Int) (fc fp fz fs fo fd : Bool) (z : List Sv) (e1 e2 e3 e4 : TypeId) (g : List Sv) (hr : in32 r6 = true) (hx : in64 x6 = true) : ev Try.prog ΓSt1 60 (fun _ => none) (roundOf Try.prog 17 0) (fr 45 [3, 4, 5, 8, 9, 10] [vy near, .ptr 0 0, .ptr 1 0, .ptr 2 0, .ptr 3 0, vi 6] g) [.cells (cCSt3z0 r0 r1 r2 r3 r4 r5 r6 r7) e1, .cells (cCSt3z1 x0 x1 x2 x3 x4 x5 x6 x7) e2, .cells z e3, .cells [.v (.int .u32 (stRV (stBit near 1) r0)), .v (.int .u32 (stRV (stBit near 2) r1)), .v (.int .u32 (stRV (stBit near 4) r2)), .v (.int .u32 (stRV (stBit near 8) r3)), .v (.int .u32 (stRV (stBit near 16) r4)), .v (.int .u32 (stRV (stBit near 32) r5)), vw 0, vw 0, vw 0, vb fc, vb fp, vb fz, vb fs, vb fo, vb fd, .v (.int .u64 (dblW x0)), .v (.int .u64 (dblW x1)), .v (.int .u64 (dblW x2)), .v (.int .u64 (dblW x3)), .v (.int .u64 (dblW x4)), .v (.int .u64 (dblW x5)), vd 0, vd 0] e4] (liveK [3, 4, 5, 8, 9, 10]) = some (0, 45, [vy near, .ptr 0 0, .ptr 1 0, .ptr 2 0, .ptr 3 0, vi 7], [.cells (cCSt3z0 r0 r1 r2 r3 r4 r5 r6 r7) e1, .cells (cCSt3z1 x0 x1 x2 x3 x4 x5 x6 x7) e2, .cells z e3, .cells [.v (.int .u32 (stRV (stBit near 1) r0)), .v (.int .u32 (stRV (stBit near 2) r1)), .v (.int .u32 (stRV (stBit near 4) r2)), .v (.int .u32 (stRV (stBit near 8) r3)), .v (.int .u32 (stRV (stBit near 16) r4)), .v (.int .u32 (stRV (stBit near 32) r5)), .v (.int .u32 (stRV (stBit near 64) r6)), vw 0, vw 0, vb fc, vb fp, vb fz, vb fs, vb fo, vb fd, .v (.int .u64 (dblW x0)), .v (.int .u64 (dblW x1)), .v (.int .u64 (dblW x2)), .v (.int .u64 (dblW x3)), .v (.int .u64 (dblW x4)), .v (.int .u64 (dblW x5)), .v (.int .u64 (dblW x6)), vd 0] e4]) := by
  rw [st_form6, hr, hx]
  simp only [cond_true]
  simp only [stRV, stBit]
  cases (bitsL BinOp.and IntKind.u8 (Int.fdiv near 64) 1 == 1) <;> rfl
theorem st_form7 (r0 r1 r2 r3 r4 r5 r6 r7 x0 x1 x2 x3 x4 x5 x6 x7 near : Int) (fc fp fz fs fo fd : Bool) (z : List Sv) (e1 e2 e3 e4 : TypeId) (g : List Sv) :
    ev Try.prog ΓSt1 60 (fun _ => none) (roundOf Try.prog 17 0) (fr 45 [3, 4, 5, 8, 9, 10] [vy near, .ptr 0 0, .ptr 1 0, .ptr 2 0, .ptr 3 0, vi 7] g) [.cells (cCSt3z0 r0 r1 r2 r3 r4 r5 r6 r7) e1, .cells (cCSt3z1 x0 x1 x2 x3 x4 x5 x6 x7) e2, .cells z e3, .cells [.v (.int .u32 (stRV (stBit near 1) r0)), .v (.int .u32 (stRV (stBit near 2) r1)), .v (.int .u32 (stRV (stBit near 4) r2)), .v (.int .u32 (stRV (stBit near 8) r3)), .v (.int .u32 (stRV (stBit near 16) r4)), .v (.int .u32 (stRV (stBit near 32) r5)), .v (.int .u32 (stRV (stBit near 64) r6)), vw 0, vw 0, vb fc, vb fp, vb fz, vb fs, vb fo, vb fd, .v (.int .u64 (dblW x0)), .v (.int .u64 (dblW x1)), .v (.int .u64 (dblW x2)), .v (.int .u64 (dblW x3)), .v (.int .u64 (dblW x4)), .v (.int .u64 (dblW x5)), .v (.int .u64 (dblW x6)), vd 0] e4] (liveK [3, 4, 5, 8, 9, 10]) =
    (bif in32 r7 then
bif in64 x7 then
bif bitsL BinOp.and IntKind.u8 (Int.fdiv near 128) 1 == 1 then
some
(0, 45,
[vy near, Sv.ptr 0 0, Sv.ptr 1 0, Sv.ptr 2 0, Sv.ptr 3 0, vi 8],
[SObj.cells
[vw r0, vw r1, vw r2,
vw r3, vw r4, vw r5,
vw r6, vw r7]
e1,
SObj.cells
[vd x0, vd x1, vd x2,
vd x3, vd x4, vd x5,
vd x6, vd x7]
e2,
SObj.cells z e3,
SObj.cells
[vw ((stRV (stBit near 1) r0)), vw ((stRV (stBit near 2) r1)),
vw ((stRV (stBit near 4) r2)), vw ((stRV (stBit near 8) r3)),
vw ((stRV (stBit near 16) r4)), vw ((stRV (stBit near 32) r5)),
vw ((stRV (stBit near 64) r6)), vw ((Int.tmod r7 300)),
vw 0, vb fc, vb fp, vb fz, vb fs,
vb fo, vb fd, vd ((dblW x0)),
vd ((dblW x1)), vd ((dblW x2)), vd ((dblW x3)),
vd ((dblW x4)), vd ((dblW x5)), vd ((dblW x6)),
vd ((dblW x7))]
e4])
else
some
(0, 45,
[vy near, Sv.ptr 0 0, Sv.ptr 1 0, Sv.ptr 2 0, Sv.ptr 3 0, vi 8],
[SObj.cells
[vw r0, vw r1, vw r2,
vw r3, vw r4, vw r5,
vw r6, vw r7]
e1,
SObj.cells
[vd x0, vd x1, vd x2,
vd x3, vd x4, vd x5,
vd x6, vd x7]
e2,
SObj.cells z e3,
SObj.cells
[vw ((stRV (stBit near 1) r0)), vw ((stRV (stBit near 2) r1)),
vw ((stRV (stBit near 4) r2)), vw ((stRV (stBit near 8) r3)),
vw ((stRV (stBit near 16) r4)), vw ((stRV (stBit near 32) r5)),
vw ((stRV (stBit near 64) r6)), vw ((wordV r7)),
vw 0, vb fc, vb fp, vb fz, vb fs,
vb fo, vb fd, vd ((dblW x0)),
vd ((dblW x1)), vd ((dblW x2)), vd ((dblW x3)),
vd ((dblW x4)), vd ((dblW x5)), vd ((dblW x6)),
vd ((dblW x7))]
e4])
else none
else none) := by kernel_rfl
theorem st_round7 (r0 r1 r2 r3 r4 r5 r6 r7 x0 x1 x2 x3 x4 x5 x6 x7 near : Int) (fc fp fz fs fo fd : Bool) (z : List Sv) (e1 e2 e3 e4 : TypeId) (g : List Sv) (hr : in32 r7 = true) (hx : in64 x7 = true) : ev Try.prog ΓSt1 60 (fun _ => none) (roundOf Try.prog 17 0) (fr 45 [3, 4, 5, 8, 9, 10] [vy near, .ptr 0 0, .ptr 1 0, .ptr 2 0, .ptr 3 0, vi 7] g) [.cells (cCSt3z0 r0 r1 r2 r3 r4 r5 r6 r7) e1, .cells (cCSt3z1 x0 x1 x2 x3 x4 x5 x6 x7) e2, .cells z e3, .cells [.v (.int .u32 (stRV (stBit near 1) r0)), .v (.int .u32 (stRV (stBit near 2) r1)), .v (.int .u32 (stRV (stBit near 4) r2)), .v (.int .u32 (stRV (stBit near 8) r3)), .v (.int .u32 (stRV (stBit near 16) r4)), .v (.int .u32 (stRV (stBit near 32) r5)), .v (.int .u32 (stRV (stBit near 64) r6)), vw 0, vw 0, vb fc, vb fp, vb fz, vb fs, vb fo, vb fd, .v (.int .u64 (dblW x0)), .v (.int .u64 (dblW x1)), .v (.int .u64 (dblW x2)), .v (.int .u64 (dblW x3)), .v (.int .u64 (dblW x4)), .v (.int .u64 (dblW x5)), .v (.int .u64 (dblW x6)), vd 0] e4] (liveK [3, 4, 5, 8, 9, 10]) = some (0, 45, [vy near, .ptr 0 0, .ptr 1 0, .ptr 2 0, .ptr 3 0, vi 8], [.cells (cCSt3z0 r0 r1 r2 r3 r4 r5 r6 r7) e1, .cells (cCSt3z1 x0 x1 x2 x3 x4 x5 x6 x7) e2, .cells z e3, .cells [.v (.int .u32 (stRV (stBit near 1) r0)), .v (.int .u32 (stRV (stBit near 2) r1)), .v (.int .u32 (stRV (stBit near 4) r2)), .v (.int .u32 (stRV (stBit near 8) r3)), .v (.int .u32 (stRV (stBit near 16) r4)), .v (.int .u32 (stRV (stBit near 32) r5)), .v (.int .u32 (stRV (stBit near 64) r6)), .v (.int .u32 (stRV (stBit near 128) r7)), vw 0, vb fc, vb fp, vb fz, vb fs, vb fo, vb fd, .v (.int .u64 (dblW x0)), .v (.int .u64 (dblW x1)), .v (.int .u64 (dblW x2)), .v (.int .u64 (dblW x3)), .v (.int .u64 (dblW x4)), .v (.int .u64 (dblW x5)), .v (.int .u64 (dblW x6)), .v (.int .u64 (dblW x7))] e4]) := by
  rw [st_form7, hr, hx]
  simp only [cond_true]
  simp only [stRV, stBit]
  cases (bitsL BinOp.and IntKind.u8 (Int.fdiv near 128) 1 == 1) <;> rfl
theorem st_form8 (r0 r1 r2 r3 r4 r5 r6 r7 x0 x1 x2 x3 x4 x5 x6 x7 near : Int) (fc fp fz fs fo fd : Bool) (z : List Sv) (e1 e2 e3 e4 : TypeId) (g : List Sv) :
    ev Try.prog ΓSt1 60 (fun _ => none) (roundOf Try.prog 17 0) (fr 45 [3, 4, 5, 8, 9, 10] [vy near, .ptr 0 0, .ptr 1 0, .ptr 2 0, .ptr 3 0, vi 8] g) [.cells (cCSt3z0 r0 r1 r2 r3 r4 r5 r6 r7) e1, .cells (cCSt3z1 x0 x1 x2 x3 x4 x5 x6 x7) e2, .cells z e3, .cells [.v (.int .u32 (stRV (stBit near 1) r0)), .v (.int .u32 (stRV (stBit near 2) r1)), .v (.int .u32 (stRV (stBit near 4) r2)), .v (.int .u32 (stRV (stBit near 8) r3)), .v (.int .u32 (stRV (stBit near 16) r4)), .v (.int .u32 (stRV (stBit near 32) r5)), .v (.int .u32 (stRV (stBit near 64) r6)), .v (.int .u32 (stRV (stBit near 128) r7)), vw 0, vb fc, vb fp, vb fz, vb fs, vb fo, vb fd, .v (.int .u64 (dblW x0)), .v (.int .u64 (dblW x1)), .v (.int .u64 (dblW x2)), .v (.int .u64 (dblW x3)), .v (.int .u64 (dblW x4)), .v (.int .u64 (dblW x5)), .v (.int .u64 (dblW x6)), .v (.int .u64 (dblW x7))] e4] (liveK [3, 4, 5, 8, 9, 10]) =
    (some
(2, 45,
[vy near, Sv.ptr 0 0, Sv.ptr 1 0, Sv.ptr 2 0, Sv.ptr 3 0, vi 8],
[SObj.cells
[vw r0, vw r1, vw r2,
vw r3, vw r4, vw r5,
vw r6, vw r7]
e1,
SObj.cells
[vd x0, vd x1, vd x2,
vd x3, vd x4, vd x5,
vd x6, vd x7]
e2,
SObj.cells z e3,
SObj.cells
[vw ((stRV (stBit near 1) r0)), vw ((stRV (stBit near 2) r1)),
vw ((stRV (stBit near 4) r2)), vw ((stRV (stBit near 8) r3)),
vw ((stRV (stBit near 16) r4)), vw ((stRV (stBit near 32) r5)),
vw ((stRV (stBit near 64) r6)), vw ((stRV (stBit near 128) r7)),
vw 0, vb fc, vb fp, vb fz, vb fs,
vb fo, vb fd, vd ((dblW x0)),
vd ((dblW x1)), vd ((dblW x2)), vd ((dblW x3)),
vd ((dblW x4)), vd ((dblW x5)), vd ((dblW x6)),
vd ((dblW x7))]
e4])) := by kernel_rfl
structure StS where
  r0 : Int
  r1 : Int
  r2 : Int
  r3 : Int
  r4 : Int
  r5 : Int
  r6 : Int
  r7 : Int
  x0 : Int
  x1 : Int
  x2 : Int
  x3 : Int
  x4 : Int
  x5 : Int
  x6 : Int
  x7 : Int
  near : Int
  fc : Bool
  fp : Bool
  fz : Bool
  fs : Bool
  fo : Bool
  fd : Bool
  z : List Sv
  e1 : TypeId
  e2 : TypeId
  e3 : TypeId
  e4 : TypeId
def stVs (s : StS) (i : Nat) : List Sv := [vy s.near, .ptr 0 0, .ptr 1 0, .ptr 2 0, .ptr 3 0, vi i]
def stMs (s : StS) : Nat → List SObj
  | 0 => [.cells [.v (.int .u32 s.r0), .v (.int .u32 s.r1), .v (.int .u32 s.r2), .v (.int .u32 s.r3), .v (.int .u32 s.r4), .v (.int .u32 s.r5), .v (.int .u32 s.r6), .v (.int .u32 s.r7)] s.e1, .cells [.v (.int .u64 s.x0), .v (.int .u64 s.x1), .v (.int .u64 s.x2), .v (.int .u64 s.x3), .v (.int .u64 s.x4), .v (.int .u64 s.x5), .v (.int .u64 s.x6), .v (.int .u64 s.x7)] s.e2, .cells s.z s.e3, .cells [.v (.int .u32 0), .v (.int .u32 0), .v (.int .u32 0), .v (.int .u32 0), .v (.int .u32 0), .v (.int .u32 0), .v (.int .u32 0), .v (.int .u32 0), .v (.int .u32 0), .v (.bool s.fc), .v (.bool s.fp), .v (.bool s.fz), .v (.bool s.fs), .v (.bool s.fo), .v (.bool s.fd), .v (.int .u64 0), .v (.int .u64 0), .v (.int .u64 0), .v (.int .u64 0), .v (.int .u64 0), .v (.int .u64 0), .v (.int .u64 0), .v (.int .u64 0)] s.e4]
  | 1 => [.cells [.v (.int .u32 s.r0), .v (.int .u32 s.r1), .v (.int .u32 s.r2), .v (.int .u32 s.r3), .v (.int .u32 s.r4), .v (.int .u32 s.r5), .v (.int .u32 s.r6), .v (.int .u32 s.r7)] s.e1, .cells [.v (.int .u64 s.x0), .v (.int .u64 s.x1), .v (.int .u64 s.x2), .v (.int .u64 s.x3), .v (.int .u64 s.x4), .v (.int .u64 s.x5), .v (.int .u64 s.x6), .v (.int .u64 s.x7)] s.e2, .cells s.z s.e3, .cells [.v (.int .u32 (stRV (stBit s.near 1) s.r0)), .v (.int .u32 0), .v (.int .u32 0), .v (.int .u32 0), .v (.int .u32 0), .v (.int .u32 0), .v (.int .u32 0), .v (.int .u32 0), .v (.int .u32 0), .v (.bool s.fc), .v (.bool s.fp), .v (.bool s.fz), .v (.bool s.fs), .v (.bool s.fo), .v (.bool s.fd), .v (.int .u64 (dblW s.x0)), .v (.int .u64 0), .v (.int .u64 0), .v (.int .u64 0), .v (.int .u64 0), .v (.int .u64 0), .v (.int .u64 0), .v (.int .u64 0)] s.e4]
  | 2 => [.cells [.v (.int .u32 s.r0), .v (.int .u32 s.r1), .v (.int .u32 s.r2), .v (.int .u32 s.r3), .v (.int .u32 s.r4), .v (.int .u32 s.r5), .v (.int .u32 s.r6), .v (.int .u32 s.r7)] s.e1, .cells [.v (.int .u64 s.x0), .v (.int .u64 s.x1), .v (.int .u64 s.x2), .v (.int .u64 s.x3), .v (.int .u64 s.x4), .v (.int .u64 s.x5), .v (.int .u64 s.x6), .v (.int .u64 s.x7)] s.e2, .cells s.z s.e3, .cells [.v (.int .u32 (stRV (stBit s.near 1) s.r0)), .v (.int .u32 (stRV (stBit s.near 2) s.r1)), .v (.int .u32 0), .v (.int .u32 0), .v (.int .u32 0), .v (.int .u32 0), .v (.int .u32 0), .v (.int .u32 0), .v (.int .u32 0), .v (.bool s.fc), .v (.bool s.fp), .v (.bool s.fz), .v (.bool s.fs), .v (.bool s.fo), .v (.bool s.fd), .v (.int .u64 (dblW s.x0)), .v (.int .u64 (dblW s.x1)), .v (.int .u64 0), .v (.int .u64 0), .v (.int .u64 0), .v (.int .u64 0), .v (.int .u64 0), .v (.int .u64 0)] s.e4]
  | 3 => [.cells [.v (.int .u32 s.r0), .v (.int .u32 s.r1), .v (.int .u32 s.r2), .v (.int .u32 s.r3), .v (.int .u32 s.r4), .v (.int .u32 s.r5), .v (.int .u32 s.r6), .v (.int .u32 s.r7)] s.e1, .cells [.v (.int .u64 s.x0), .v (.int .u64 s.x1), .v (.int .u64 s.x2), .v (.int .u64 s.x3), .v (.int .u64 s.x4), .v (.int .u64 s.x5), .v (.int .u64 s.x6), .v (.int .u64 s.x7)] s.e2, .cells s.z s.e3, .cells [.v (.int .u32 (stRV (stBit s.near 1) s.r0)), .v (.int .u32 (stRV (stBit s.near 2) s.r1)), .v (.int .u32 (stRV (stBit s.near 4) s.r2)), .v (.int .u32 0), .v (.int .u32 0), .v (.int .u32 0), .v (.int .u32 0), .v (.int .u32 0), .v (.int .u32 0), .v (.bool s.fc), .v (.bool s.fp), .v (.bool s.fz), .v (.bool s.fs), .v (.bool s.fo), .v (.bool s.fd), .v (.int .u64 (dblW s.x0)), .v (.int .u64 (dblW s.x1)), .v (.int .u64 (dblW s.x2)), .v (.int .u64 0), .v (.int .u64 0), .v (.int .u64 0), .v (.int .u64 0), .v (.int .u64 0)] s.e4]
  | 4 => [.cells [.v (.int .u32 s.r0), .v (.int .u32 s.r1), .v (.int .u32 s.r2), .v (.int .u32 s.r3), .v (.int .u32 s.r4), .v (.int .u32 s.r5), .v (.int .u32 s.r6), .v (.int .u32 s.r7)] s.e1, .cells [.v (.int .u64 s.x0), .v (.int .u64 s.x1), .v (.int .u64 s.x2), .v (.int .u64 s.x3), .v (.int .u64 s.x4), .v (.int .u64 s.x5), .v (.int .u64 s.x6), .v (.int .u64 s.x7)] s.e2, .cells s.z s.e3, .cells [.v (.int .u32 (stRV (stBit s.near 1) s.r0)), .v (.int .u32 (stRV (stBit s.near 2) s.r1)), .v (.int .u32 (stRV (stBit s.near 4) s.r2)), .v (.int .u32 (stRV (stBit s.near 8) s.r3)), .v (.int .u32 0), .v (.int .u32 0), .v (.int .u32 0), .v (.int .u32 0), .v (.int .u32 0), .v (.bool s.fc), .v (.bool s.fp), .v (.bool s.fz), .v (.bool s.fs), .v (.bool s.fo), .v (.bool s.fd), .v (.int .u64 (dblW s.x0)), .v (.int .u64 (dblW s.x1)), .v (.int .u64 (dblW s.x2)), .v (.int .u64 (dblW s.x3)), .v (.int .u64 0), .v (.int .u64 0), .v (.int .u64 0), .v (.int .u64 0)] s.e4]
  | 5 => [.cells [.v (.int .u32 s.r0), .v (.int .u32 s.r1), .v (.int .u32 s.r2), .v (.int .u32 s.r3), .v (.int .u32 s.r4), .v (.int .u32 s.r5), .v (.int .u32 s.r6), .v (.int .u32 s.r7)] s.e1, .cells [.v (.int .u64 s.x0), .v (.int .u64 s.x1), .v (.int .u64 s.x2), .v (.int .u64 s.x3), .v (.int .u64 s.x4), .v (.int .u64 s.x5), .v (.int .u64 s.x6), .v (.int .u64 s.x7)] s.e2, .cells s.z s.e3, .cells [.v (.int .u32 (stRV (stBit s.near 1) s.r0)), .v (.int .u32 (stRV (stBit s.near 2) s.r1)), .v (.int .u32 (stRV (stBit s.near 4) s.r2)), .v (.int .u32 (stRV (stBit s.near 8) s.r3)), .v (.int .u32 (stRV (stBit s.near 16) s.r4)), .v (.int .u32 0), .v (.int .u32 0), .v (.int .u32 0), .v (.int .u32 0), .v (.bool s.fc), .v (.bool s.fp), .v (.bool s.fz), .v (.bool s.fs), .v (.bool s.fo), .v (.bool s.fd), .v (.int .u64 (dblW s.x0)), .v (.int .u64 (dblW s.x1)), .v (.int .u64 (dblW s.x2)), .v (.int .u64 (dblW s.x3)), .v (.int .u64 (dblW s.x4)), .v (.int .u64 0), .v (.int .u64 0), .v (.int .u64 0)] s.e4]
  | 6 => [.cells [.v (.int .u32 s.r0), .v (.int .u32 s.r1), .v (.int .u32 s.r2), .v (.int .u32 s.r3), .v (.int .u32 s.r4), .v (.int .u32 s.r5), .v (.int .u32 s.r6), .v (.int .u32 s.r7)] s.e1, .cells [.v (.int .u64 s.x0), .v (.int .u64 s.x1), .v (.int .u64 s.x2), .v (.int .u64 s.x3), .v (.int .u64 s.x4), .v (.int .u64 s.x5), .v (.int .u64 s.x6), .v (.int .u64 s.x7)] s.e2, .cells s.z s.e3, .cells [.v (.int .u32 (stRV (stBit s.near 1) s.r0)), .v (.int .u32 (stRV (stBit s.near 2) s.r1)), .v (.int .u32 (stRV (stBit s.near 4) s.r2)), .v (.int .u32 (stRV (stBit s.near 8) s.r3)), .v (.int .u32 (stRV (stBit s.near 16) s.r4)), .v (.int .u32 (stRV (stBit s.near 32) s.r5)), .v (.int .u32 0), .v (.int .u32 0), .v (.int .u32 0), .v (.bool s.fc), .v (.bool s.fp), .v (.bool s.fz), .v (.bool s.fs), .v (.bool s.fo), .v (.bool s.fd), .v (.int .u64 (dblW s.x0)), .v (.int .u64 (dblW s.x1)), .v (.int .u64 (dblW s.x2)), .v (.int .u64 (dblW s.x3)), .v (.int .u64 (dblW s.x4)), .v (.int .u64 (dblW s.x5)), .v (.int .u64 0), .v (.int .u64 0)] s.e4]
  | 7 => [.cells [.v (.int .u32 s.r0), .v (.int .u32 s.r1), .v (.int .u32 s.r2), .v (.int .u32 s.r3), .v (.int .u32 s.r4), .v (.int .u32 s.r5), .v (.int .u32 s.r6), .v (.int .u32 s.r7)] s.e1, .cells [.v (.int .u64 s.x0), .v (.int .u64 s.x1), .v (.int .u64 s.x2), .v (.int .u64 s.x3), .v (.int .u64 s.x4), .v (.int .u64 s.x5), .v (.int .u64 s.x6), .v (.int .u64 s.x7)] s.e2, .cells s.z s.e3, .cells [.v (.int .u32 (stRV (stBit s.near 1) s.r0)), .v (.int .u32 (stRV (stBit s.near 2) s.r1)), .v (.int .u32 (stRV (stBit s.near 4) s.r2)), .v (.int .u32 (stRV (stBit s.near 8) s.r3)), .v (.int .u32 (stRV (stBit s.near 16) s.r4)), .v (.int .u32 (stRV (stBit s.near 32) s.r5)), .v (.int .u32 (stRV (stBit s.near 64) s.r6)), .v (.int .u32 0), .v (.int .u32 0), .v (.bool s.fc), .v (.bool s.fp), .v (.bool s.fz), .v (.bool s.fs), .v (.bool s.fo), .v (.bool s.fd), .v (.int .u64 (dblW s.x0)), .v (.int .u64 (dblW s.x1)), .v (.int .u64 (dblW s.x2)), .v (.int .u64 (dblW s.x3)), .v (.int .u64 (dblW s.x4)), .v (.int .u64 (dblW s.x5)), .v (.int .u64 (dblW s.x6)), .v (.int .u64 0)] s.e4]
  | _ => [.cells [.v (.int .u32 s.r0), .v (.int .u32 s.r1), .v (.int .u32 s.r2), .v (.int .u32 s.r3), .v (.int .u32 s.r4), .v (.int .u32 s.r5), .v (.int .u32 s.r6), .v (.int .u32 s.r7)] s.e1, .cells [.v (.int .u64 s.x0), .v (.int .u64 s.x1), .v (.int .u64 s.x2), .v (.int .u64 s.x3), .v (.int .u64 s.x4), .v (.int .u64 s.x5), .v (.int .u64 s.x6), .v (.int .u64 s.x7)] s.e2, .cells s.z s.e3, .cells [.v (.int .u32 (stRV (stBit s.near 1) s.r0)), .v (.int .u32 (stRV (stBit s.near 2) s.r1)), .v (.int .u32 (stRV (stBit s.near 4) s.r2)), .v (.int .u32 (stRV (stBit s.near 8) s.r3)), .v (.int .u32 (stRV (stBit s.near 16) s.r4)), .v (.int .u32 (stRV (stBit s.near 32) s.r5)), .v (.int .u32 (stRV (stBit s.near 64) s.r6)), .v (.int .u32 (stRV (stBit s.near 128) s.r7)), .v (.int .u32 0), .v (.bool s.fc), .v (.bool s.fp), .v (.bool s.fz), .v (.bool s.fs), .v (.bool s.fo), .v (.bool s.fd), .v (.int .u64 (dblW s.x0)), .v (.int .u64 (dblW s.x1)), .v (.int .u64 (dblW s.x2)), .v (.int .u64 (dblW s.x3)), .v (.int .u64 (dblW s.x4)), .v (.int .u64 (dblW s.x5)), .v (.int .u64 (dblW s.x6)), .v (.int .u64 (dblW s.x7))] s.e4]
def stInv (s : StS) : Prop := in32 s.r0 = true ∧ in32 s.r1 = true ∧ in32 s.r2 = true ∧ in32 s.r3 = true ∧ in32 s.r4 = true ∧ in32 s.r5 = true ∧ in32 s.r6 = true ∧ in32 s.r7 = true ∧ in64 s.x0 = true ∧ in64 s.x1 = true ∧ in64 s.x2 = true ∧ in64 s.x3 = true ∧ in64 s.x4 = true ∧ in64 s.x5 = true ∧ in64 s.x6 = true ∧ in64 s.x7 = true
def stL : Rounds (CntS StS) (CntS StS) := cntL 45 [3, 4, 5, 8, 9, 10] (fun _ => 8) stVs stMs stInv
theorem stL_ok : stL.Ok Try.prog ΓSt1 60 (roundOf Try.prog 17 0) := cntL_ok
  (fun s g i hs hi => by
    obtain ⟨hr0, hr1, hr2, hr3, hr4, hr5, hr6, hr7, hx0, hx1, hx2, hx3, hx4, hx5, hx6, hx7⟩ := hs
    match i, hi with
    | 0, _ => exact st_round0 s.r0 s.r1 s.r2 s.r3 s.r4 s.r5 s.r6 s.r7 s.x0 s.x1 s.x2 s.x3 s.x4 s.x5 s.x6 s.x7 s.near s.fc s.fp s.fz s.fs s.fo s.fd s.z s.e1 s.e2 s.e3 s.e4 g hr0 hx0
    | 1, _ => exact st_round1 s.r0 s.r1 s.r2 s.r3 s.r4 s.r5 s.r6 s.r7 s.x0 s.x1 s.x2 s.x3 s.x4 s.x5 s.x6 s.x7 s.near s.fc s.fp s.fz s.fs s.fo s.fd s.z s.e1 s.e2 s.e3 s.e4 g hr1 hx1
    | 2, _ => exact st_round2 s.r0 s.r1 s.r2 s.r3 s.r4 s.r5 s.r6 s.r7 s.x0 s.x1 s.x2 s.x3 s.x4 s.x5 s.x6 s.x7 s.near s.fc s.fp s.fz s.fs s.fo s.fd s.z s.e1 s.e2 s.e3 s.e4 g hr2 hx2
    | 3, _ => exact st_round3 s.r0 s.r1 s.r2 s.r3 s.r4 s.r5 s.r6 s.r7 s.x0 s.x1 s.x2 s.x3 s.x4 s.x5 s.x6 s.x7 s.near s.fc s.fp s.fz s.fs s.fo s.fd s.z s.e1 s.e2 s.e3 s.e4 g hr3 hx3
    | 4, _ => exact st_round4 s.r0 s.r1 s.r2 s.r3 s.r4 s.r5 s.r6 s.r7 s.x0 s.x1 s.x2 s.x3 s.x4 s.x5 s.x6 s.x7 s.near s.fc s.fp s.fz s.fs s.fo s.fd s.z s.e1 s.e2 s.e3 s.e4 g hr4 hx4
    | 5, _ => exact st_round5 s.r0 s.r1 s.r2 s.r3 s.r4 s.r5 s.r6 s.r7 s.x0 s.x1 s.x2 s.x3 s.x4 s.x5 s.x6 s.x7 s.near s.fc s.fp s.fz s.fs s.fo s.fd s.z s.e1 s.e2 s.e3 s.e4 g hr5 hx5
    | 6, _ => exact st_round6 s.r0 s.r1 s.r2 s.r3 s.r4 s.r5 s.r6 s.r7 s.x0 s.x1 s.x2 s.x3 s.x4 s.x5 s.x6 s.x7 s.near s.fc s.fp s.fz s.fs s.fo s.fd s.z s.e1 s.e2 s.e3 s.e4 g hr6 hx6
    | 7, _ => exact st_round7 s.r0 s.r1 s.r2 s.r3 s.r4 s.r5 s.r6 s.r7 s.x0 s.x1 s.x2 s.x3 s.x4 s.x5 s.x6 s.x7 s.near s.fc s.fp s.fz s.fs s.fo s.fd s.z s.e1 s.e2 s.e3 s.e4 g hr7 hx7
    | n + 8, h => exact absurd h (by omega))
  (fun s g hs => st_form8 s.r0 s.r1 s.r2 s.r3 s.r4 s.r5 s.r6 s.r7 s.x0 s.x1 s.x2 s.x3 s.x4 s.x5 s.x6 s.x7 s.near s.fc s.fp s.fz s.fs s.fo s.fd s.z s.e1 s.e2 s.e3 s.e4 g)
def stDec : (R : Type) → List Sv → List SObj → (StS → Option R) → Option R := fun R l m k => match l with
  | [.v (.int .u8 near), .ptr 0 0, .ptr 1 0, .ptr 2 0, .ptr 3 0, .v (.int .i64 i)] => (match m with
    | [.cells A0 e1, .cells A1 e2, .cells z e3, .cells A2 e4] => (match A0 with
      | [.v (.int .u32 r0), .v (.int .u32 r1), .v (.int .u32 r2), .v (.int .u32 r3), .v (.int .u32 r4), .v (.int .u32 r5), .v (.int .u32 r6), .v (.int .u32 r7)] => (match A1 with
        | [.v (.int .u64 x0), .v (.int .u64 x1), .v (.int .u64 x2), .v (.int .u64 x3), .v (.int .u64 x4), .v (.int .u64 x5), .v (.int .u64 x6), .v (.int .u64 x7)] => (match A2 with
          | [.v (.int .u32 q0), .v (.int .u32 q1), .v (.int .u32 q2), .v (.int .u32 q3), .v (.int .u32 q4), .v (.int .u32 q5), .v (.int .u32 q6), .v (.int .u32 q7), .v (.int .u32 q8), .v (.bool fc), .v (.bool fp), .v (.bool fz), .v (.bool fs), .v (.bool fo), .v (.bool fd), .v (.int .u64 q9), .v (.int .u64 q10), .v (.int .u64 q11), .v (.int .u64 q12), .v (.int .u64 q13), .v (.int .u64 q14), .v (.int .u64 q15), .v (.int .u64 q16)] => bif (i == 0) && (in32 r0 && (in32 r1 && (in32 r2 && (in32 r3 && (in32 r4 && (in32 r5 && (in32 r6 && (in32 r7 && (in64 x0 && (in64 x1 && (in64 x2 && (in64 x3 && (in64 x4 && (in64 x5 && (in64 x6 && (in64 x7 && ((q0 == 0) && ((q1 == 0) && ((q2 == 0) && ((q3 == 0) && ((q4 == 0) && ((q5 == 0) && ((q6 == 0) && ((q7 == 0) && ((q8 == 0) && ((q9 == 0) && ((q10 == 0) && ((q11 == 0) && ((q12 == 0) && ((q13 == 0) && ((q14 == 0) && ((q15 == 0) && ((q16 == 0)))))))))))))))))))))))))))))))))) then k ⟨r0, r1, r2, r3, r4, r5, r6, r7, x0, x1, x2, x3, x4, x5, x6, x7, near, fc, fp, fz, fs, fo, fd, z, e1, e2, e3, e4⟩ else none
          | _ => none)
        | _ => none)
      | _ => none)
    | _ => none)
  | _ => none
set_option maxHeartbeats 4000000 in
theorem stDec_ok : ∀ (R : Type) l m (k : StS → Option R) r, stDec R l m k = some r → ∃ s, k s = some r ∧ l = stVs s 0 ∧ m = stMs s 0 ∧ stInv s := by
  intro R l m k r h
  unfold stDec at h
  split at h
  · split at h
    · split at h
      · split at h
        · split at h
          · obtain ⟨hg, h2⟩ := cond_some h
            simp only [Bool.and_eq_true, beq_iff_eq] at hg
            obtain ⟨rfl, hr0, hr1, hr2, hr3, hr4, hr5, hr6, hr7, hx0, hx1, hx2, hx3, hx4, hx5, hx6, hx7, rfl, rfl, rfl, rfl, rfl, rfl, rfl, rfl, rfl, rfl, rfl, rfl, rfl, rfl, rfl, rfl, rfl⟩ := hg
            exact ⟨_, h2, rfl, rfl, hr0, hr1, hr2, hr3, hr4, hr5, hr6, hr7, hx0, hx1, hx2, hx3, hx4, hx5, hx6, hx7⟩
          · cases h
        · cases h
      · cases h
    · cases h
  · cases h
noncomputable def ΓSth : Env := ΓSt1.hook 17 0 (cntHook Try.prog X0 stL (fun _ => 8) 0 (roundOf Try.prog 17 0) stDec)
theorem ΓSth_ok : EnvOk Try.prog X0 ΓSth := ΓSt1_ok.hook (a := .loop (roundOf Try.prog 17 0)) (by kernel_rfl) (cntHook_ok ΓSt1_ok stL_ok stDec_ok)
end Go.Proofs.Ytpgdpoloipifeaa
namespace Go.Proofs.Ytpgdpoloipifeaa
open Go Go.Ev
set_option linter.unusedVariables false
set_option linter.unusedSimpArgs false
set_option maxRecDepth 100000
theorem state_form (r_0 r_1 r_2 r_3 r_4 r_5 r_6 r_7 x_0 x_1 x_2 x_3 x_4 x_5 x_6 x_7 f n : Int) :
    evF Try.prog ΓSth 400 17 [.agg [vw r_0, vw r_1, vw r_2, vw r_3, vw r_4, vw r_5, vw r_6, vw r_7], .agg [vd x_0, vd x_1, vd x_2, vd x_3, vd x_4, vd x_5, vd x_6, vd x_7], vy f, vy n] [] (fun x _ => some x) (fun _ _ => none) =
    (bif in8 f then
 bif
 true &&
 (in32 r_0 &&
 (in32 r_1 &&
 (in32 r_2 &&
 (in32 r_3 &&
 (in32 r_4 &&
 (in32 r_5 &&
 (in32 r_6 &&
 (in32 r_7 &&
 (in64 x_0 &&
 (in64 x_1 && (in64 x_2 && (in64 x_3 && (in64 x_4 && (in64 x_5 && (in64 x_6 && (in64 x_7 && true)))))))))))))))) then
 some
 (Sv.agg
 [vw ((stRV (stBit n 1) r_0)), vw ((stRV (stBit n 2) r_1)),
 vw ((stRV (stBit n 4) r_2)), vw ((stRV (stBit n 8) r_3)),
 vw ((stRV (stBit n 16) r_4)), vw ((stRV (stBit n 32) r_5)),
 vw ((stRV (stBit n 64) r_6)), vw ((stRV (stBit n 128) r_7)),
 vw 0, vb ((flagW f 1)), vb ((flagW f 4)),
 vb ((flagW f 64)), vb ((flagW f 128)), vb ((flagW f 2048)),
 vb ((flagW f 1024)), vd ((dblW x_0)), vd ((dblW x_1)),
 vd ((dblW x_2)), vd ((dblW x_3)),
 vd ((dblW x_4)), vd ((dblW x_5)),
 vd ((dblW x_6)), vd ((dblW x_7))])
 else none
 else none) := by kernel_rfl
theorem state_nice (r_0 r_1 r_2 r_3 r_4 r_5 r_6 r_7 x_0 x_1 x_2 x_3 x_4 x_5 x_6 x_7 f n : Int) (hg : (in32 r_0 && (in32 r_1 && (in32 r_2 && (in32 r_3 && (in32 r_4 && (in32 r_5 && (in32 r_6 && (in32 r_7 && (in64 x_0 && (in64 x_1 && (in64 x_2 && (in64 x_3 && (in64 x_4 && (in64 x_5 && (in64 x_6 && (in64 x_7 && (in8 f && (in8 n)))))))))))))))))) = true) :
    evF Try.prog ΓSth 400 17 [.agg [vw r_0, vw r_1, vw r_2, vw r_3, vw r_4, vw r_5, vw r_6, vw r_7], .agg [vd x_0, vd x_1, vd x_2, vd x_3, vd x_4, vd x_5, vd x_6, vd x_7], vy f, vy n] [] (fun x _ => some x) (fun _ _ => none) = some (.agg [.v (.int .u32 (stRV (stBit n 1) r_0)), .v (.int .u32 (stRV (stBit n 2) r_1)), .v (.int .u32 (stRV (stBit n 4) r_2)), .v (.int .u32 (stRV (stBit n 8) r_3)), .v (.int .u32 (stRV (stBit n 16) r_4)), .v (.int .u32 (stRV (stBit n 32) r_5)), .v (.int .u32 (stRV (stBit n 64) r_6)), .v (.int .u32 (stRV (stBit n 128) r_7)), vw 0, .v (.bool (flagW f 1)), .v (.bool (flagW f 4)), .v (.bool (flagW f 64)), .v (.bool (flagW f 128)), .v (.bool (flagW f 2048)), .v (.bool (flagW f 1024)), .v (.int .u64 (dblW x_0)), .v (.int .u64 (dblW x_1)), .v (.int .u64 (dblW x_2)), .v (.int .u64 (dblW x_3)), .v (.int .u64 (dblW x_4)), .v (.int .u64 (dblW x_5)), .v (.int .u64 (dblW x_6)), .v (.int .u64 (dblW x_7))]) := by
  rw [state_form]
  try simp only [bitsL_eq]
  simp only [Bool.and_eq_true] at hg
  obtain ⟨g0, g1, g2, g3, g4, g5, g6, g7, g8, g9, g10, g11, g12, g13, g14, g15, g16, g17⟩ := hg
  simp only [g0, g1, g2, g3, g4, g5, g6, g7, g8, g9, g10, g11, g12, g13, g14, g15, g16, g17, Bool.and_self, cond_true]
def stateS : Nice := fun R args kv => match args with
  | [.agg [.v (.int .u32 r_0), .v (.int .u32 r_1), .v (.int .u32 r_2), .v (.int .u32 r_3), .v (.int .u32 r_4), .v (.int .u32 r_5), .v (.int .u32 r_6), .v (.int .u32 r_7)], .agg [.v (.int .u64 x_0), .v (.int .u64 x_1), .v (.int .u64 x_2), .v (.int .u64 x_3), .v (.int .u64 x_4), .v (.int .u64 x_5), .v (.int .u64 x_6), .v (.int .u64 x_7)], .v (.int .u8 f), .v (.int .u8 n)] => bif in32 r_0 && (in32 r_1 && (in32 r_2 && (in32 r_3 && (in32 r_4 && (in32 r_5 && (in32 r_6 && (in32 r_7 && (in64 x_0 && (in64 x_1 && (in64 x_2 && (in64 x_3 && (in64 x_4 && (in64 x_5 && (in64 x_6 && (in64 x_7 && (in8 f && (in8 n))))))))))))))))) then kv (.agg [.v (.int .u32 (stRV (stBit n 1) r_0)), .v (.int .u32 (stRV (stBit n 2) r_1)), .v (.int .u32 (stRV (stBit n 4) r_2)), .v (.int .u32 (stRV (stBit n 8) r_3)), .v (.int .u32 (stRV (stBit n 16) r_4)), .v (.int .u32 (stRV (stBit n 32) r_5)), .v (.int .u32 (stRV (stBit n 64) r_6)), .v (.int .u32 (stRV (stBit n 128) r_7)), .v (.int .u32 0), .v (.bool (flagW f 1)), .v (.bool (flagW f 4)), .v (.bool (flagW f 64)), .v (.bool (flagW f 128)), .v (.bool (flagW f 2048)), .v (.bool (flagW f 1024)), .v (.int .u64 (dblW x_0)), .v (.int .u64 (dblW x_1)), .v (.int .u64 (dblW x_2)), .v (.int .u64 (dblW x_3)), .v (.int .u64 (dblW x_4)), .v (.int .u64 (dblW x_5)), .v (.int .u64 (dblW x_6)), .v (.int .u64 (dblW x_7))]) else none
  | _ => none
theorem stateS_ok : NiceOk Try.prog ΓSth 400 17 stateS := by
  intro R args kv r h
  unfold stateS at h
  split at h
  · obtain ⟨hg, h⟩ := cond_some h
    exact ⟨_, h, rfl, rfl, state_nice _ _ _ _ _ _ _ _ _ _ _ _ _ _ _ _ _ _ hg⟩
  · cases h
noncomputable def ΓSt3 : Env := (ΓSth.add 17 (pureSpec stateS))
theorem ΓSt3_ok : EnvOk Try.prog X0 ΓSt3 := (ΓSth_ok.add (by kernel_rfl) (specOk_of_nice ΓSth_ok stateS_ok))
end Go.Proofs.Ytpgdpoloipifeaa
