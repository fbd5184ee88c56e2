/- Buses: stores, loads. -/
import Derived.Test.YtpgdpoloipifeaaEvV
import Derived.Test.YtpgdpoloipifeaaCMm1
import Derived.Test.YtpgdpoloipifeaaNFr
namespace Go.Proofs.Ytpgdpoloipifeaa
open Go Go.Ev
set_option linter.unusedVariables false
set_option linter.unusedSimpArgs false
set_option maxRecDepth 100000

theorem seg_at0 {b s off n : Int} {may : Bool} (h : (segE b s off n may == 0) = true) : segA b s off n may = IntKind.wrap .u32 (b + off) := by
  unfold segA; rw [h]; rfl
theorem seg_in {b s off n k : Int} {may : Bool} : in32 (IntKind.wrap .u32 (segA b s off n may + k)) = true := in32_wr _
theorem bytesN_1 : bytesN 1 = 1 := rfl
theorem bytesN_2 : bytesN 2 = 2 := rfl
theorem bytesN_8 : bytesN 8 = 8 := rfl
theorem bytesN_4 {s : Int} (h1 : s ≠ 1) (h2 : s ≠ 2) (h8 : s ≠ 8) : bytesN s = 4 := by
  have e1 : (s == 1) = false := by simpa using h1
  have e2 : (s == 2) = false := by simpa using h2
  have e8 : (s == 8) = false := by simpa using h8
  unfold bytesN; rw [e1, e2, e8]; rfl
theorem lay1 (M : Int → Int) (a v : Int) : stB M a v 1 = updM M (IntKind.wrap .u32 (a + 0)) (IntKind.wrap .u8 (Int.fdiv v 1)) := rfl
theorem lay2 (M : Int → Int) (a v : Int) : stB M a v 2 = updM (updM M (IntKind.wrap .u32 (a + 0)) (IntKind.wrap .u8 (Int.fdiv v 1))) (IntKind.wrap .u32 (a + 1)) (IntKind.wrap .u8 (Int.fdiv v 256)) := rfl
theorem lay4 (M : Int → Int) (a v : Int) : stB M a v 4 = updM (updM (stB M a v 2) (IntKind.wrap .u32 (a + 2)) (IntKind.wrap .u8 (Int.fdiv v 65536))) (IntKind.wrap .u32 (a + 3)) (IntKind.wrap .u8 (Int.fdiv v 16777216)) := rfl
theorem lay8 (M : Int → Int) (a v : Int) : stB M a v 8 = updM (updM (updM (updM (stB M a v 4) (IntKind.wrap .u32 (a + 4)) (IntKind.wrap .u8 (Int.fdiv v 4294967296))) (IntKind.wrap .u32 (a + 5)) (IntKind.wrap .u8 (Int.fdiv v 1099511627776))) (IntKind.wrap .u32 (a + 6)) (IntKind.wrap .u8 (Int.fdiv v 281474976710656))) (IntKind.wrap .u32 (a + 7)) (IntKind.wrap .u8 (Int.fdiv v 72057594037927936)) := by
  simp only [stB]; rfl
abbrev cCMm2z0 (cb cs : Int) (cr cw cx : Bool) (db ds : Int) (dr dw dx : Bool) : List Sv := [Sv.ptr 1 0, vw cb, vw cs, vb cr, vb cw, vb cx, vw db, vw ds, vb dr, vb dw, vb dx]
abbrev cCMm2z1 (cb cs : Int) (cr cw cx : Bool) (db ds : Int) (dr dw dx : Bool) : List Sv := [.ptr 1 0, .v (.int .u32 cb), .v (.int .u32 cs), .v (.bool cr), .v (.bool cw), .v (.bool cx), .v (.int .u32 db), .v (.int .u32 ds), .v (.bool dr), .v (.bool dw), .v (.bool dx)]
theorem busStore_form (off size v cb cs db ds : Int) (cr cw cx dr dw dx : Bool) (M : Int → Int) (T : TypeId) :
    evF Try.prog ΓM1 400 100 [.ptr 0 0, .v (.int .u32 off), .v (.int .i64 size), .v (.int .u64 v)] [.cells (cCMm2z1 cb cs cr cw cx db ds dr dw dx) T, .ext 0 (M)] kSM kNo =
    (bif size == 1 then
bif in32 db && (in32 ds && in32 off) then
bif segE db ds off 1 (mayV dr dw dx 1) != 0 then
some
(vi ((segE db ds off 1 (mayV dr dw dx 1))),
[SObj.cells
(cCMm2z0 cb cs cr cw cx db ds dr dw dx)
T,
SObj.ext 0 M])
else
bif in32 (IntKind.wrap IntKind.u32 (segA db ds off 1 (mayV dr dw dx 1) + 0)) then
some
(vi 0,
[SObj.cells
(cCMm2z0 cb cs cr cw cx db ds dr dw dx)
T,
SObj.ext 0
(updM M (IntKind.wrap IntKind.u32 (segA db ds off 1 (mayV dr dw dx 1) + 0)) (IntKind.wrap IntKind.u8 (Int.fdiv v 1)))])
else none
else none
else
bif size == 2 then
bif in32 db && (in32 ds && in32 off) then
bif segE db ds off 2 (mayV dr dw dx 1) != 0 then
some
(vi ((segE db ds off 2 (mayV dr dw dx 1))),
[SObj.cells
(cCMm2z0 cb cs cr cw cx db ds dr dw dx)
T,
SObj.ext 0 M])
else
bif in32 (IntKind.wrap IntKind.u32 (segA db ds off 2 (mayV dr dw dx 1) + 0)) then
bif in32 (IntKind.wrap IntKind.u32 (segA db ds off 2 (mayV dr dw dx 1) + 1)) then
some
(vi 0,
[SObj.cells
(cCMm2z0 cb cs cr cw cx db ds dr dw dx)
T,
SObj.ext 0
(updM
(updM M (IntKind.wrap IntKind.u32 (segA db ds off 2 (mayV dr dw dx 1) + 0)) (IntKind.wrap IntKind.u8 (Int.fdiv v 1)))
(IntKind.wrap IntKind.u32 (segA db ds off 2 (mayV dr dw dx 1) + 1)) (IntKind.wrap IntKind.u8 (Int.fdiv v 256)))])
else none
else none
else none
else
bif size == 8 then
bif in32 db && (in32 ds && in32 off) then
bif segE db ds off 8 (mayV dr dw dx 1) != 0 then
some
(vi ((segE db ds off 8 (mayV dr dw dx 1))),
[SObj.cells
(cCMm2z0 cb cs cr cw cx db ds dr dw dx)
T,
SObj.ext 0 M])
else
bif in32 (IntKind.wrap IntKind.u32 (segA db ds off 8 (mayV dr dw dx 1) + 0)) then
bif in32 (IntKind.wrap IntKind.u32 (segA db ds off 8 (mayV dr dw dx 1) + 1)) then
bif in32 (IntKind.wrap IntKind.u32 (segA db ds off 8 (mayV dr dw dx 1) + 2)) then
bif in32 (IntKind.wrap IntKind.u32 (segA db ds off 8 (mayV dr dw dx 1) + 3)) then
bif in32 (IntKind.wrap IntKind.u32 (segA db ds off 8 (mayV dr dw dx 1) + 4)) then
bif in32 (IntKind.wrap IntKind.u32 (segA db ds off 8 (mayV dr dw dx 1) + 5)) then
bif in32 (IntKind.wrap IntKind.u32 (segA db ds off 8 (mayV dr dw dx 1) + 6)) then
bif in32 (IntKind.wrap IntKind.u32 (segA db ds off 8 (mayV dr dw dx 1) + 7)) then
some
(vi 0,
[SObj.cells
(cCMm2z0 cb cs cr cw cx db ds dr dw dx)
T,
SObj.ext 0
(updM
(updM
(updM
(updM
(updM
(updM
(updM
(updM M (IntKind.wrap IntKind.u32 (segA db ds off 8 (mayV dr dw dx 1) + 0)) (IntKind.wrap IntKind.u8 (Int.fdiv v 1)))
(IntKind.wrap IntKind.u32 (segA db ds off 8 (mayV dr dw dx 1) + 1)) (IntKind.wrap IntKind.u8 (Int.fdiv v 256)))
(IntKind.wrap IntKind.u32 (segA db ds off 8 (mayV dr dw dx 1) + 2)) (IntKind.wrap IntKind.u8 (Int.fdiv v 65536)))
(IntKind.wrap IntKind.u32 (segA db ds off 8 (mayV dr dw dx 1) + 3)) (IntKind.wrap IntKind.u8 (Int.fdiv v 16777216)))
(IntKind.wrap IntKind.u32 (segA db ds off 8 (mayV dr dw dx 1) + 4)) (IntKind.wrap IntKind.u8 (Int.fdiv v 4294967296)))
(IntKind.wrap IntKind.u32 (segA db ds off 8 (mayV dr dw dx 1) + 5))
(IntKind.wrap IntKind.u8 (Int.fdiv v 1099511627776)))
(IntKind.wrap IntKind.u32 (segA db ds off 8 (mayV dr dw dx 1) + 6))
(IntKind.wrap IntKind.u8 (Int.fdiv v 281474976710656)))
(IntKind.wrap IntKind.u32 (segA db ds off 8 (mayV dr dw dx 1) + 7))
(IntKind.wrap IntKind.u8 (Int.fdiv v 72057594037927936)))])
else none
else none
else none
else none
else none
else none
else none
else none
else none
else
bif in32 db && (in32 ds && in32 off) then
bif segE db ds off 4 (mayV dr dw dx 1) != 0 then
some
(vi ((segE db ds off 4 (mayV dr dw dx 1))),
[SObj.cells
(cCMm2z0 cb cs cr cw cx db ds dr dw dx)
T,
SObj.ext 0 M])
else
bif in32 (IntKind.wrap IntKind.u32 (segA db ds off 4 (mayV dr dw dx 1) + 0)) then
bif in32 (IntKind.wrap IntKind.u32 (segA db ds off 4 (mayV dr dw dx 1) + 1)) then
bif in32 (IntKind.wrap IntKind.u32 (segA db ds off 4 (mayV dr dw dx 1) + 2)) then
bif in32 (IntKind.wrap IntKind.u32 (segA db ds off 4 (mayV dr dw dx 1) + 3)) then
some
(vi 0,
[SObj.cells
(cCMm2z0 cb cs cr cw cx db ds dr dw dx)
T,
SObj.ext 0
(updM
(updM
(updM
(updM M (IntKind.wrap IntKind.u32 (segA db ds off 4 (mayV dr dw dx 1) + 0)) (IntKind.wrap IntKind.u8 (Int.fdiv v 1)))
(IntKind.wrap IntKind.u32 (segA db ds off 4 (mayV dr dw dx 1) + 1)) (IntKind.wrap IntKind.u8 (Int.fdiv v 256)))
(IntKind.wrap IntKind.u32 (segA db ds off 4 (mayV dr dw dx 1) + 2)) (IntKind.wrap IntKind.u8 (Int.fdiv v 65536)))
(IntKind.wrap IntKind.u32 (segA db ds off 4 (mayV dr dw dx 1) + 3)) (IntKind.wrap IntKind.u8 (Int.fdiv v 16777216)))])
else none
else none
else none
else none
else none) := by kernel_rfl
theorem busStore_nice (off size v cb cs db ds : Int) (cr cw cx dr dw dx : Bool) (M : Int → Int) (T : TypeId) (hb : in32 db = true) (hs : in32 ds = true) (ho : in32 off = true) :
    evF Try.prog ΓM1 400 100 [.ptr 0 0, .v (.int .u32 off), .v (.int .i64 size), .v (.int .u64 v)] [.cells (cCMm2z1 cb cs cr cw cx db ds dr dw dx) T, .ext 0 (M)] kSM kNo = some (.v (.int .i64 (segE db ds off (bytesN size) (mayV dr dw dx 1))), [.cells (cCMm2z1 cb cs cr cw cx db ds dr dw dx) T, .ext 0 (stV M db ds off size v (mayV dr dw dx 1))]) := by
  rw [busStore_form]
  simp only [hb, hs, ho, Bool.and_self, cond_true, seg_in]
  unfold stV
  have key : ∀ k : Nat, (segE db ds off k (mayV dr dw dx 1) == 0) = true → segE db ds off k (mayV dr dw dx 1) = 0 := fun k h => eq_of_beq h
  by_cases h1 : size = 1
  · subst h1
    simp only [bytesN_1]
    cases h : segE db ds off ((1 : Nat) : Int) (mayV dr dw dx 1) == 0
    · rw [show (segE db ds off 1 (mayV dr dw dx 1) != 0) = true from by rw [bne]; exact congrArg not h]; rfl
    · rw [show (segE db ds off 1 (mayV dr dw dx 1) != 0) = false from by rw [bne]; exact congrArg not h, key _ h, ← seg_at0 h]; rfl
  · by_cases h2 : size = 2
    · subst h2
      simp only [bytesN_2]
      cases h : segE db ds off ((2 : Nat) : Int) (mayV dr dw dx 1) == 0
      · rw [show (segE db ds off 2 (mayV dr dw dx 1) != 0) = true from by rw [bne]; exact congrArg not h]; rfl
      · rw [show (segE db ds off 2 (mayV dr dw dx 1) != 0) = false from by rw [bne]; exact congrArg not h, key _ h, ← seg_at0 h]; rfl
    · by_cases h8 : size = 8
      · subst h8
        simp only [bytesN_8]
        cases h : segE db ds off ((8 : Nat) : Int) (mayV dr dw dx 1) == 0
        · rw [show (segE db ds off 8 (mayV dr dw dx 1) != 0) = true from by rw [bne]; exact congrArg not h]; rfl
        · rw [show (segE db ds off 8 (mayV dr dw dx 1) != 0) = false from by rw [bne]; exact congrArg not h, key _ h, ← seg_at0 h, lay8, lay4, lay2]; rfl
      · rw [bytesN_4 h1 h2 h8]
        have e1 : (size == 1) = false := by simpa using h1
        have e2 : (size == 2) = false := by simpa using h2
        have e8 : (size == 8) = false := by simpa using h8
        rw [e1, e2, e8]
        cases h : segE db ds off ((4 : Nat) : Int) (mayV dr dw dx 1) == 0
        · rw [show (segE db ds off 4 (mayV dr dw dx 1) != 0) = true from by rw [bne]; exact congrArg not h]; rfl
        · rw [show (segE db ds off 4 (mayV dr dw dx 1) != 0) = false from by rw [bne]; exact congrArg not h, key _ h, ← seg_at0 h]; rfl
def busStoreS : Ev.Spec := fun R args m k kp => match args with
  | [.ptr b 0, .v (.int .u32 off), .v (.int .i64 size), .v (.int .u64 v)] => (match m[b]? with
    | some (.cells [.ptr g 0, .v (.int .u32 cb), .v (.int .u32 cs), .v (.bool cr), .v (.bool cw), .v (.bool cx), .v (.int .u32 db), .v (.int .u32 ds), .v (.bool dr), .v (.bool dw), .v (.bool dx)] T) => (match m[g]? with
      | some (.ext 0 M) => bif in32 db && (in32 ds && in32 off) && !(b == g) then k (.v (.int .i64 (segE db ds off (bytesN size) (mayV dr dw dx 1)))) (m.set g (.ext 0 (stV M db ds off size v (mayV dr dw dx 1)))) else none
      | _ => none)
    | _ => none)
  | _ => none
theorem busStore_ok : SpecOk Try.prog XM 100 busStoreS := by
  intro R args m k kp r h
  unfold busStoreS at h
  split at h
  · split at h
    · split at h
      · rename_i _ b off size v _ g cb cs cr cw cx db ds dr dw dx T hb _ M hg
        obtain ⟨hc, h⟩ := cond_some h
        simp only [Bool.and_eq_true, Bool.not_eq_true', beq_eq_false_iff_ne] at hc
        refine .inl ⟨_, _, h, ?_⟩
        have h0 := callR_ev ΓM1_ok (by kernel_rfl) (busStore_nice off size v cb cs db ds cr cw cx dr dw dx M T hc.1.1 hc.1.2.1 hc.1.2.2)
        exact frame2 h0 hb hg hc.2 rfl rfl rfl rfl rfl rfl rfl rfl rfl
      · cases h
    · cases h
  · cases h
def busStoreW : WSpec := fun R args m k => match args with
  | [.ptr b 0, .v (.int .u32 off), .v (.int .i64 size), .v (.int .u64 v)] => (match m[b]? with
    | some (.cells [.ptr g 0, .v (.int .u32 cb), .v (.int .u32 cs), .v (.bool cr), .v (.bool cw), .v (.bool cx), .v (.int .u32 db), .v (.int .u32 ds), .v (.bool dr), .v (.bool dw), .v (.bool dx)] T) => (match m[g]? with
      | some (.ext 0 M) => bif in32 db && (in32 ds && in32 off) && !(b == g) then k (.v (.int .i64 (segE db ds off (bytesN size) (mayV dr dw dx 1)))) g (.ext 0 (stV M db ds off size v (mayV dr dw dx 1))) else none
      | _ => none)
    | _ => none)
  | _ => none
theorem busStoreW_ok : WSpecOk Try.prog XM 100 busStoreW := by
  intro R args m k r h
  unfold busStoreW at h
  split at h
  · split at h
    · split at h
      · rename_i _ b off size v _ g cb cs cr cw cx db ds dr dw dx T hb _ M hg
        obtain ⟨hc, h⟩ := cond_some h
        simp only [Bool.and_eq_true, Bool.not_eq_true', beq_eq_false_iff_ne] at hc
        refine ⟨_, _, _, h, ?_⟩
        have h0 := callR_ev ΓM1_ok (by kernel_rfl) (busStore_nice off size v cb cs db ds cr cw cx dr dw dx M T hc.1.1 hc.1.2.1 hc.1.2.2)
        exact frame2 h0 hb hg hc.2 rfl rfl rfl rfl rfl rfl rfl rfl rfl
      · cases h
    · cases h
  · cases h
theorem busLoad_form (off size cb cs db ds : Int) (cr cw cx dr dw dx : Bool) (M : Int → Int) (T : TypeId) :
    evF Try.prog ΓM1 400 27 [.ptr 0 0, .v (.int .u32 off), .v (.int .i64 size)] [.cells (cCMm2z1 cb cs cr cw cx db ds dr dw dx) T, .ext 0 (M)] kSM kNo =
    (bif size == 1 then
bif in32 db && (in32 ds && in32 off) then
bif segE db ds off 1 (mayV dr dw dx 0) != 0 then
some
(Sv.tup [vd 0, vi ((segE db ds off 1 (mayV dr dw dx 0)))],
[SObj.cells
(cCMm2z0 cb cs cr cw cx db ds dr dw dx)
T,
SObj.ext 0 M])
else
bif in32 (IntKind.wrap IntKind.u32 (segA db ds off 1 (mayV dr dw dx 0) + 0)) then
some
(Sv.tup
[Sv.v
(Value.int IntKind.u64
(bitsL BinOp.or IntKind.u64 0
(IntKind.wrap IntKind.u64 (M (IntKind.wrap IntKind.u32 (segA db ds off 1 (mayV dr dw dx 0) + 0)))))),
vi 0],
[SObj.cells
(cCMm2z0 cb cs cr cw cx db ds dr dw dx)
T,
SObj.ext 0 M])
else none
else none
else
bif size == 2 then
bif in32 db && (in32 ds && in32 off) then
bif segE db ds off 2 (mayV dr dw dx 0) != 0 then
some
(Sv.tup [vd 0, vi ((segE db ds off 2 (mayV dr dw dx 0)))],
[SObj.cells
(cCMm2z0 cb cs cr cw cx db ds dr dw dx)
T,
SObj.ext 0 M])
else
bif in32 (IntKind.wrap IntKind.u32 (segA db ds off 2 (mayV dr dw dx 0) + 1)) then
bif in32 (IntKind.wrap IntKind.u32 (segA db ds off 2 (mayV dr dw dx 0) + 0)) then
some
(Sv.tup
[Sv.v
(Value.int IntKind.u64
(bitsL BinOp.or IntKind.u64
(IntKind.wrap IntKind.u64
(bitsL BinOp.or IntKind.u64 0
(IntKind.wrap IntKind.u64 (M (IntKind.wrap IntKind.u32 (segA db ds off 2 (mayV dr dw dx 0) + 1)))) *
256))
(IntKind.wrap IntKind.u64 (M (IntKind.wrap IntKind.u32 (segA db ds off 2 (mayV dr dw dx 0) + 0)))))),
vi 0],
[SObj.cells
(cCMm2z0 cb cs cr cw cx db ds dr dw dx)
T,
SObj.ext 0 M])
else none
else none
else none
else
bif size == 8 then
bif in32 db && (in32 ds && in32 off) then
bif segE db ds off 8 (mayV dr dw dx 0) != 0 then
some
(Sv.tup [vd 0, vi ((segE db ds off 8 (mayV dr dw dx 0)))],
[SObj.cells
(cCMm2z0 cb cs cr cw cx db ds dr dw dx)
T,
SObj.ext 0 M])
else
bif in32 (IntKind.wrap IntKind.u32 (segA db ds off 8 (mayV dr dw dx 0) + 7)) then
bif in32 (IntKind.wrap IntKind.u32 (segA db ds off 8 (mayV dr dw dx 0) + 6)) then
bif in32 (IntKind.wrap IntKind.u32 (segA db ds off 8 (mayV dr dw dx 0) + 5)) then
bif in32 (IntKind.wrap IntKind.u32 (segA db ds off 8 (mayV dr dw dx 0) + 4)) then
bif in32 (IntKind.wrap IntKind.u32 (segA db ds off 8 (mayV dr dw dx 0) + 3)) then
bif in32 (IntKind.wrap IntKind.u32 (segA db ds off 8 (mayV dr dw dx 0) + 2)) then
bif in32 (IntKind.wrap IntKind.u32 (segA db ds off 8 (mayV dr dw dx 0) + 1)) then
bif in32 (IntKind.wrap IntKind.u32 (segA db ds off 8 (mayV dr dw dx 0) + 0)) then
some
(Sv.tup
[Sv.v
(Value.int IntKind.u64
(bitsL BinOp.or IntKind.u64
(IntKind.wrap IntKind.u64
(bitsL BinOp.or IntKind.u64
(IntKind.wrap IntKind.u64
(bitsL BinOp.or IntKind.u64
(IntKind.wrap IntKind.u64
(bitsL BinOp.or IntKind.u64
(IntKind.wrap IntKind.u64
(bitsL BinOp.or IntKind.u64
(IntKind.wrap IntKind.u64
(bitsL BinOp.or IntKind.u64
(IntKind.wrap IntKind.u64
(bitsL BinOp.or IntKind.u64
(IntKind.wrap IntKind.u64
(bitsL BinOp.or IntKind.u64 0
(IntKind.wrap IntKind.u64 (M (IntKind.wrap IntKind.u32 (segA db ds off 8 (mayV dr dw dx 0) + 7)))) *
256))
(IntKind.wrap IntKind.u64 (M (IntKind.wrap IntKind.u32 (segA db ds off 8 (mayV dr dw dx 0) + 6)))) *
256))
(IntKind.wrap IntKind.u64 (M (IntKind.wrap IntKind.u32 (segA db ds off 8 (mayV dr dw dx 0) + 5)))) *
256))
(IntKind.wrap IntKind.u64 (M (IntKind.wrap IntKind.u32 (segA db ds off 8 (mayV dr dw dx 0) + 4)))) *
256))
(IntKind.wrap IntKind.u64 (M (IntKind.wrap IntKind.u32 (segA db ds off 8 (mayV dr dw dx 0) + 3)))) *
256))
(IntKind.wrap IntKind.u64 (M (IntKind.wrap IntKind.u32 (segA db ds off 8 (mayV dr dw dx 0) + 2)))) *
256))
(IntKind.wrap IntKind.u64 (M (IntKind.wrap IntKind.u32 (segA db ds off 8 (mayV dr dw dx 0) + 1)))) *
256))
(IntKind.wrap IntKind.u64 (M (IntKind.wrap IntKind.u32 (segA db ds off 8 (mayV dr dw dx 0) + 0)))))),
vi 0],
[SObj.cells
(cCMm2z0 cb cs cr cw cx db ds dr dw dx)
T,
SObj.ext 0 M])
else none
else none
else none
else none
else none
else none
else none
else none
else none
else
bif in32 db && (in32 ds && in32 off) then
bif segE db ds off 4 (mayV dr dw dx 0) != 0 then
some
(Sv.tup [vd 0, vi ((segE db ds off 4 (mayV dr dw dx 0)))],
[SObj.cells
(cCMm2z0 cb cs cr cw cx db ds dr dw dx)
T,
SObj.ext 0 M])
else
bif in32 (IntKind.wrap IntKind.u32 (segA db ds off 4 (mayV dr dw dx 0) + 3)) then
bif in32 (IntKind.wrap IntKind.u32 (segA db ds off 4 (mayV dr dw dx 0) + 2)) then
bif in32 (IntKind.wrap IntKind.u32 (segA db ds off 4 (mayV dr dw dx 0) + 1)) then
bif in32 (IntKind.wrap IntKind.u32 (segA db ds off 4 (mayV dr dw dx 0) + 0)) then
some
(Sv.tup
[Sv.v
(Value.int IntKind.u64
(bitsL BinOp.or IntKind.u64
(IntKind.wrap IntKind.u64
(bitsL BinOp.or IntKind.u64
(IntKind.wrap IntKind.u64
(bitsL BinOp.or IntKind.u64
(IntKind.wrap IntKind.u64
(bitsL BinOp.or IntKind.u64 0
(IntKind.wrap IntKind.u64 (M (IntKind.wrap IntKind.u32 (segA db ds off 4 (mayV dr dw dx 0) + 3)))) *
256))
(IntKind.wrap IntKind.u64 (M (IntKind.wrap IntKind.u32 (segA db ds off 4 (mayV dr dw dx 0) + 2)))) *
256))
(IntKind.wrap IntKind.u64 (M (IntKind.wrap IntKind.u32 (segA db ds off 4 (mayV dr dw dx 0) + 1)))) *
256))
(IntKind.wrap IntKind.u64 (M (IntKind.wrap IntKind.u32 (segA db ds off 4 (mayV dr dw dx 0) + 0)))))),
vi 0],
[SObj.cells
(cCMm2z0 cb cs cr cw cx db ds dr dw dx)
T,
SObj.ext 0 M])
else none
else none
else none
else none
else none) := by kernel_rfl
theorem busLoad_nice (off size cb cs db ds : Int) (cr cw cx dr dw dx : Bool) (M : Int → Int) (T : TypeId) (hb : in32 db = true) (hs : in32 ds = true) (ho : in32 off = true) :
    evF Try.prog ΓM1 400 27 [.ptr 0 0, .v (.int .u32 off), .v (.int .i64 size)] [.cells (cCMm2z1 cb cs cr cw cx db ds dr dw dx) T, .ext 0 (M)] kSM kNo = some (.tup [.v (.int .u64 (ldV M db ds off size (mayV dr dw dx 0))), .v (.int .i64 (segE db ds off (bytesN size) (mayV dr dw dx 0)))], [.cells (cCMm2z1 cb cs cr cw cx db ds dr dw dx) T, .ext 0 (M)]) := by
  rw [busLoad_form]
  simp only [hb, hs, ho, Bool.and_self, cond_true, seg_in]
  unfold ldV
  have key : ∀ k : Nat, (segE db ds off k (mayV dr dw dx 0) == 0) = true → segE db ds off k (mayV dr dw dx 0) = 0 := fun k h => eq_of_beq h
  by_cases h1 : size = 1
  · subst h1
    simp only [bytesN_1]
    cases h : segE db ds off ((1 : Nat) : Int) (mayV dr dw dx 0) == 0
    · rw [show (segE db ds off 1 (mayV dr dw dx 0) != 0) = true from by rw [bne]; exact congrArg not h]; rfl
    · rw [show (segE db ds off 1 (mayV dr dw dx 0) != 0) = false from by rw [bne]; exact congrArg not h, key _ h, ← seg_at0 h]; rfl
  · by_cases h2 : size = 2
    · subst h2
      simp only [bytesN_2]
      cases h : segE db ds off ((2 : Nat) : Int) (mayV dr dw dx 0) == 0
      · rw [show (segE db ds off 2 (mayV dr dw dx 0) != 0) = true from by rw [bne]; exact congrArg not h]; rfl
      · rw [show (segE db ds off 2 (mayV dr dw dx 0) != 0) = false from by rw [bne]; exact congrArg not h, key _ h, ← seg_at0 h]; rfl
    · by_cases h8 : size = 8
      · subst h8
        simp only [bytesN_8]
        cases h : segE db ds off ((8 : Nat) : Int) (mayV dr dw dx 0) == 0
        · rw [show (segE db ds off 8 (mayV dr dw dx 0) != 0) = true from by rw [bne]; exact congrArg not h]; rfl
        · rw [show (segE db ds off 8 (mayV dr dw dx 0) != 0) = false from by rw [bne]; exact congrArg not h, key _ h, ← seg_at0 h]; rfl
      · rw [bytesN_4 h1 h2 h8]
        have e1 : (size == 1) = false := by simpa using h1
        have e2 : (size == 2) = false := by simpa using h2
        have e8 : (size == 8) = false := by simpa using h8
        rw [e1, e2, e8]
        cases h : segE db ds off ((4 : Nat) : Int) (mayV dr dw dx 0) == 0
        · rw [show (segE db ds off 4 (mayV dr dw dx 0) != 0) = true from by rw [bne]; exact congrArg not h]; rfl
        · rw [show (segE db ds off 4 (mayV dr dw dx 0) != 0) = false from by rw [bne]; exact congrArg not h, key _ h, ← seg_at0 h]; rfl
def busLoadS : Ev.Spec := fun R args m k kp => match args with
  | [.ptr b 0, .v (.int .u32 off), .v (.int .i64 size)] => (match m[b]? with
    | some (.cells [.ptr g 0, .v (.int .u32 cb), .v (.int .u32 cs), .v (.bool cr), .v (.bool cw), .v (.bool cx), .v (.int .u32 db), .v (.int .u32 ds), .v (.bool dr), .v (.bool dw), .v (.bool dx)] T) => (match m[g]? with
      | some (.ext 0 M) => bif in32 db && (in32 ds && in32 off) && !(b == g) then k (.tup [.v (.int .u64 (ldV M db ds off size (mayV dr dw dx 0))), .v (.int .i64 (segE db ds off (bytesN size) (mayV dr dw dx 0)))]) m else none
      | _ => none)
    | _ => none)
  | _ => none
theorem busLoad_ok : SpecOk Try.prog XM 27 busLoadS := by
  intro R args m k kp r h
  unfold busLoadS at h
  split at h
  · split at h
    · split at h
      · rename_i _ b off size _ g cb cs cr cw cx db ds dr dw dx T hb _ M hg
        obtain ⟨hc, h⟩ := cond_some h
        simp only [Bool.and_eq_true, Bool.not_eq_true', beq_eq_false_iff_ne] at hc
        refine .inl ⟨_, _, h, ?_⟩
        have h0 := callR_ev ΓM1_ok (by kernel_rfl) (busLoad_nice off size cb cs db ds cr cw cx dr dw dx M T hc.1.1 hc.1.2.1 hc.1.2.2)
        exact frame2 h0 hb hg hc.2 rfl rfl rfl rfl rfl rfl rfl rfl (set_self hg).symm
      · cases h
    · cases h
  · cases h
theorem refStore_form (off size v cb cs db ds : Int) (cr cw cx dr dw dx : Bool) (M : Int → Int) (T T2 : TypeId) :
    evF Try.prog ΓM1 400 104 [.ptr 0 0, .v (.int .u32 off), .v (.int .i64 size), .v (.int .u64 v)] [.cells (cCMm2z1 cb cs cr cw cx db ds dr dw dx) T, .cells [.mp 2] T2, .bm .u32 .u8 (M)] kSM kNo =
    (bif size == 1 then
bif in32 db && (in32 ds && in32 off) then
bif segE db ds off 1 (mayV dr dw dx 1) != 0 then
some
(vi ((segE db ds off 1 (mayV dr dw dx 1))),
[SObj.cells
(cCMm2z0 cb cs cr cw cx db ds dr dw dx)
T,
SObj.cells [Sv.mp 2] T2, SObj.bm IntKind.u32 IntKind.u8 M])
else
some
(vi 0,
[SObj.cells
(cCMm2z0 cb cs cr cw cx db ds dr dw dx)
T,
SObj.cells [Sv.mp 2] T2,
SObj.bm IntKind.u32 IntKind.u8
(updM M (IntKind.wrap IntKind.u32 (segA db ds off 1 (mayV dr dw dx 1) + 0)) (IntKind.wrap IntKind.u8 (Int.fdiv v 1)))])
else none
else
bif size == 2 then
bif in32 db && (in32 ds && in32 off) then
bif segE db ds off 2 (mayV dr dw dx 1) != 0 then
some
(vi ((segE db ds off 2 (mayV dr dw dx 1))),
[SObj.cells
(cCMm2z0 cb cs cr cw cx db ds dr dw dx)
T,
SObj.cells [Sv.mp 2] T2, SObj.bm IntKind.u32 IntKind.u8 M])
else
some
(vi 0,
[SObj.cells
(cCMm2z0 cb cs cr cw cx db ds dr dw dx)
T,
SObj.cells [Sv.mp 2] T2,
SObj.bm IntKind.u32 IntKind.u8
(updM
(updM M (IntKind.wrap IntKind.u32 (segA db ds off 2 (mayV dr dw dx 1) + 0)) (IntKind.wrap IntKind.u8 (Int.fdiv v 1)))
(IntKind.wrap IntKind.u32 (segA db ds off 2 (mayV dr dw dx 1) + 1)) (IntKind.wrap IntKind.u8 (Int.fdiv v 256)))])
else none
else
bif size == 8 then
bif in32 db && (in32 ds && in32 off) then
bif segE db ds off 8 (mayV dr dw dx 1) != 0 then
some
(vi ((segE db ds off 8 (mayV dr dw dx 1))),
[SObj.cells
(cCMm2z0 cb cs cr cw cx db ds dr dw dx)
T,
SObj.cells [Sv.mp 2] T2, SObj.bm IntKind.u32 IntKind.u8 M])
else
some
(vi 0,
[SObj.cells
(cCMm2z0 cb cs cr cw cx db ds dr dw dx)
T,
SObj.cells [Sv.mp 2] T2,
SObj.bm IntKind.u32 IntKind.u8
(updM
(updM
(updM
(updM
(updM
(updM
(updM
(updM M (IntKind.wrap IntKind.u32 (segA db ds off 8 (mayV dr dw dx 1) + 0)) (IntKind.wrap IntKind.u8 (Int.fdiv v 1)))
(IntKind.wrap IntKind.u32 (segA db ds off 8 (mayV dr dw dx 1) + 1)) (IntKind.wrap IntKind.u8 (Int.fdiv v 256)))
(IntKind.wrap IntKind.u32 (segA db ds off 8 (mayV dr dw dx 1) + 2)) (IntKind.wrap IntKind.u8 (Int.fdiv v 65536)))
(IntKind.wrap IntKind.u32 (segA db ds off 8 (mayV dr dw dx 1) + 3)) (IntKind.wrap IntKind.u8 (Int.fdiv v 16777216)))
(IntKind.wrap IntKind.u32 (segA db ds off 8 (mayV dr dw dx 1) + 4)) (IntKind.wrap IntKind.u8 (Int.fdiv v 4294967296)))
(IntKind.wrap IntKind.u32 (segA db ds off 8 (mayV dr dw dx 1) + 5))
(IntKind.wrap IntKind.u8 (Int.fdiv v 1099511627776)))
(IntKind.wrap IntKind.u32 (segA db ds off 8 (mayV dr dw dx 1) + 6))
(IntKind.wrap IntKind.u8 (Int.fdiv v 281474976710656)))
(IntKind.wrap IntKind.u32 (segA db ds off 8 (mayV dr dw dx 1) + 7))
(IntKind.wrap IntKind.u8 (Int.fdiv v 72057594037927936)))])
else none
else
bif in32 db && (in32 ds && in32 off) then
bif segE db ds off 4 (mayV dr dw dx 1) != 0 then
some
(vi ((segE db ds off 4 (mayV dr dw dx 1))),
[SObj.cells
(cCMm2z0 cb cs cr cw cx db ds dr dw dx)
T,
SObj.cells [Sv.mp 2] T2, SObj.bm IntKind.u32 IntKind.u8 M])
else
some
(vi 0,
[SObj.cells
(cCMm2z0 cb cs cr cw cx db ds dr dw dx)
T,
SObj.cells [Sv.mp 2] T2,
SObj.bm IntKind.u32 IntKind.u8
(updM
(updM
(updM
(updM M (IntKind.wrap IntKind.u32 (segA db ds off 4 (mayV dr dw dx 1) + 0)) (IntKind.wrap IntKind.u8 (Int.fdiv v 1)))
(IntKind.wrap IntKind.u32 (segA db ds off 4 (mayV dr dw dx 1) + 1)) (IntKind.wrap IntKind.u8 (Int.fdiv v 256)))
(IntKind.wrap IntKind.u32 (segA db ds off 4 (mayV dr dw dx 1) + 2)) (IntKind.wrap IntKind.u8 (Int.fdiv v 65536)))
(IntKind.wrap IntKind.u32 (segA db ds off 4 (mayV dr dw dx 1) + 3)) (IntKind.wrap IntKind.u8 (Int.fdiv v 16777216)))])
else none) := by kernel_rfl
theorem refStore_nice (off size v cb cs db ds : Int) (cr cw cx dr dw dx : Bool) (M : Int → Int) (T T2 : TypeId) (hb : in32 db = true) (hs : in32 ds = true) (ho : in32 off = true) :
    evF Try.prog ΓM1 400 104 [.ptr 0 0, .v (.int .u32 off), .v (.int .i64 size), .v (.int .u64 v)] [.cells (cCMm2z1 cb cs cr cw cx db ds dr dw dx) T, .cells [.mp 2] T2, .bm .u32 .u8 (M)] kSM kNo = some (.v (.int .i64 (segE db ds off (bytesN size) (mayV dr dw dx 1))), [.cells (cCMm2z1 cb cs cr cw cx db ds dr dw dx) T, .cells [.mp 2] T2, .bm .u32 .u8 (stV M db ds off size v (mayV dr dw dx 1))]) := by
  rw [refStore_form]
  simp only [hb, hs, ho, Bool.and_self, cond_true, seg_in]
  unfold stV
  have key : ∀ k : Nat, (segE db ds off k (mayV dr dw dx 1) == 0) = true → segE db ds off k (mayV dr dw dx 1) = 0 := fun k h => eq_of_beq h
  by_cases h1 : size = 1
  · subst h1
    simp only [bytesN_1]
    cases h : segE db ds off ((1 : Nat) : Int) (mayV dr dw dx 1) == 0
    · rw [show (segE db ds off 1 (mayV dr dw dx 1) != 0) = true from by rw [bne]; exact congrArg not h]; rfl
    · rw [show (segE db ds off 1 (mayV dr dw dx 1) != 0) = false from by rw [bne]; exact congrArg not h, key _ h, ← seg_at0 h]; rfl
  · by_cases h2 : size = 2
    · subst h2
      simp only [bytesN_2]
      cases h : segE db ds off ((2 : Nat) : Int) (mayV dr dw dx 1) == 0
      · rw [show (segE db ds off 2 (mayV dr dw dx 1) != 0) = true from by rw [bne]; exact congrArg not h]; rfl
      · rw [show (segE db ds off 2 (mayV dr dw dx 1) != 0) = false from by rw [bne]; exact congrArg not h, key _ h, ← seg_at0 h]; rfl
    · by_cases h8 : size = 8
      · subst h8
        simp only [bytesN_8]
        cases h : segE db ds off ((8 : Nat) : Int) (mayV dr dw dx 1) == 0
        · rw [show (segE db ds off 8 (mayV dr dw dx 1) != 0) = true from by rw [bne]; exact congrArg not h]; rfl
        · rw [show (segE db ds off 8 (mayV dr dw dx 1) != 0) = false from by rw [bne]; exact congrArg not h, key _ h, ← seg_at0 h, lay8, lay4, lay2]; rfl
      · rw [bytesN_4 h1 h2 h8]
        have e1 : (size == 1) = false := by simpa using h1
        have e2 : (size == 2) = false := by simpa using h2
        have e8 : (size == 8) = false := by simpa using h8
        rw [e1, e2, e8]
        cases h : segE db ds off ((4 : Nat) : Int) (mayV dr dw dx 1) == 0
        · rw [show (segE db ds off 4 (mayV dr dw dx 1) != 0) = true from by rw [bne]; exact congrArg not h]; rfl
        · rw [show (segE db ds off 4 (mayV dr dw dx 1) != 0) = false from by rw [bne]; exact congrArg not h, key _ h, ← seg_at0 h]; rfl
def refStoreS : Ev.Spec := fun R args m k kp => match args with
  | [.ptr b 0, .v (.int .u32 off), .v (.int .i64 size), .v (.int .u64 v)] => (match m[b]? with
    | some (.cells [.ptr g 0, .v (.int .u32 cb), .v (.int .u32 cs), .v (.bool cr), .v (.bool cw), .v (.bool cx), .v (.int .u32 db), .v (.int .u32 ds), .v (.bool dr), .v (.bool dw), .v (.bool dx)] T) => (match m[g]? with
      | some (.cells [.mp j] T2) => (match m[j]? with
        | some (.bm .u32 .u8 M) => bif in32 db && (in32 ds && in32 off) && (!(b == g) && (!(b == j) && !(g == j))) then k (.v (.int .i64 (segE db ds off (bytesN size) (mayV dr dw dx 1)))) (m.set j (.bm .u32 .u8 (stV M db ds off size v (mayV dr dw dx 1)))) else none
        | _ => none)
      | _ => none)
    | _ => none)
  | _ => none
theorem refStore_ok : SpecOk Try.prog XM 104 refStoreS := by
  intro R args m k kp r h
  unfold refStoreS at h
  split at h
  · split at h
    · split at h
      · split at h
        · rename_i _ b off size v _ g cb cs cr cw cx db ds dr dw dx T hb _ j T2 hg _ M hj
          obtain ⟨hc, h⟩ := cond_some h
          simp only [Bool.and_eq_true, Bool.not_eq_true', beq_eq_false_iff_ne] at hc
          refine .inl ⟨_, _, h, ?_⟩
          have h0 := callR_ev ΓM1_ok (by kernel_rfl) (refStore_nice off size v cb cs db ds cr cw cx dr dw dx M T T2 hc.1.1 hc.1.2.1 hc.1.2.2)
          exact frame3 h0 hb hg hj hc.2.1 hc.2.2.1 hc.2.2.2 rfl rfl rfl rfl rfl rfl rfl rfl rfl rfl
        · cases h
      · cases h
    · cases h
  · cases h
def refStoreW : WSpec := fun R args m k => match args with
  | [.ptr b 0, .v (.int .u32 off), .v (.int .i64 size), .v (.int .u64 v)] => (match m[b]? with
    | some (.cells [.ptr g 0, .v (.int .u32 cb), .v (.int .u32 cs), .v (.bool cr), .v (.bool cw), .v (.bool cx), .v (.int .u32 db), .v (.int .u32 ds), .v (.bool dr), .v (.bool dw), .v (.bool dx)] T) => (match m[g]? with
      | some (.cells [.mp j] T2) => (match m[j]? with
        | some (.bm .u32 .u8 M) => bif in32 db && (in32 ds && in32 off) && (!(b == g) && (!(b == j) && !(g == j))) then k (.v (.int .i64 (segE db ds off (bytesN size) (mayV dr dw dx 1)))) j (.bm .u32 .u8 (stV M db ds off size v (mayV dr dw dx 1))) else none
        | _ => none)
      | _ => none)
    | _ => none)
  | _ => none
theorem refStoreW_ok : WSpecOk Try.prog XM 104 refStoreW := by
  intro R args m k r h
  unfold refStoreW at h
  split at h
  · split at h
    · split at h
      · split at h
        · rename_i _ b off size v _ g cb cs cr cw cx db ds dr dw dx T hb _ j T2 hg _ M hj
          obtain ⟨hc, h⟩ := cond_some h
          simp only [Bool.and_eq_true, Bool.not_eq_true', beq_eq_false_iff_ne] at hc
          refine ⟨_, _, _, h, ?_⟩
          have h0 := callR_ev ΓM1_ok (by kernel_rfl) (refStore_nice off size v cb cs db ds cr cw cx dr dw dx M T T2 hc.1.1 hc.1.2.1 hc.1.2.2)
          exact frame3 h0 hb hg hj hc.2.1 hc.2.2.1 hc.2.2.2 rfl rfl rfl rfl rfl rfl rfl rfl rfl rfl
        · cases h
      · cases h
    · cases h
  · cases h
theorem refLoad_form (off size cb cs db ds : Int) (cr cw cx dr dw dx : Bool) (M : Int → Int) (T T2 : TypeId) :
    evF Try.prog ΓM1 400 102 [.ptr 0 0, .v (.int .u32 off), .v (.int .i64 size)] [.cells (cCMm2z1 cb cs cr cw cx db ds dr dw dx) T, .cells [.mp 2] T2, .bm .u32 .u8 (M)] kSM kNo =
    (bif size == 1 then
bif in32 db && (in32 ds && in32 off) then
bif segE db ds off 1 (mayV dr dw dx 0) != 0 then
some
(Sv.tup [vd 0, vi ((segE db ds off 1 (mayV dr dw dx 0)))],
[SObj.cells
(cCMm2z0 cb cs cr cw cx db ds dr dw dx)
T,
SObj.cells [Sv.mp 2] T2, SObj.bm IntKind.u32 IntKind.u8 M])
else
some
(Sv.tup
[Sv.v
(Value.int IntKind.u64
(bitsL BinOp.or IntKind.u64 0
(IntKind.wrap IntKind.u64 (M (IntKind.wrap IntKind.u32 (segA db ds off 1 (mayV dr dw dx 0) + 0)))))),
vi 0],
[SObj.cells
(cCMm2z0 cb cs cr cw cx db ds dr dw dx)
T,
SObj.cells [Sv.mp 2] T2, SObj.bm IntKind.u32 IntKind.u8 M])
else none
else
bif size == 2 then
bif in32 db && (in32 ds && in32 off) then
bif segE db ds off 2 (mayV dr dw dx 0) != 0 then
some
(Sv.tup [vd 0, vi ((segE db ds off 2 (mayV dr dw dx 0)))],
[SObj.cells
(cCMm2z0 cb cs cr cw cx db ds dr dw dx)
T,
SObj.cells [Sv.mp 2] T2, SObj.bm IntKind.u32 IntKind.u8 M])
else
some
(Sv.tup
[Sv.v
(Value.int IntKind.u64
(bitsL BinOp.or IntKind.u64
(IntKind.wrap IntKind.u64
(bitsL BinOp.or IntKind.u64 0
(IntKind.wrap IntKind.u64 (M (IntKind.wrap IntKind.u32 (segA db ds off 2 (mayV dr dw dx 0) + 1)))) *
256))
(IntKind.wrap IntKind.u64 (M (IntKind.wrap IntKind.u32 (segA db ds off 2 (mayV dr dw dx 0) + 0)))))),
vi 0],
[SObj.cells
(cCMm2z0 cb cs cr cw cx db ds dr dw dx)
T,
SObj.cells [Sv.mp 2] T2, SObj.bm IntKind.u32 IntKind.u8 M])
else none
else
bif size == 8 then
bif in32 db && (in32 ds && in32 off) then
bif segE db ds off 8 (mayV dr dw dx 0) != 0 then
some
(Sv.tup [vd 0, vi ((segE db ds off 8 (mayV dr dw dx 0)))],
[SObj.cells
(cCMm2z0 cb cs cr cw cx db ds dr dw dx)
T,
SObj.cells [Sv.mp 2] T2, SObj.bm IntKind.u32 IntKind.u8 M])
else
some
(Sv.tup
[Sv.v
(Value.int IntKind.u64
(bitsL BinOp.or IntKind.u64
(IntKind.wrap IntKind.u64
(bitsL BinOp.or IntKind.u64
(IntKind.wrap IntKind.u64
(bitsL BinOp.or IntKind.u64
(IntKind.wrap IntKind.u64
(bitsL BinOp.or IntKind.u64
(IntKind.wrap IntKind.u64
(bitsL BinOp.or IntKind.u64
(IntKind.wrap IntKind.u64
(bitsL BinOp.or IntKind.u64
(IntKind.wrap IntKind.u64
(bitsL BinOp.or IntKind.u64
(IntKind.wrap IntKind.u64
(bitsL BinOp.or IntKind.u64 0
(IntKind.wrap IntKind.u64 (M (IntKind.wrap IntKind.u32 (segA db ds off 8 (mayV dr dw dx 0) + 7)))) *
256))
(IntKind.wrap IntKind.u64 (M (IntKind.wrap IntKind.u32 (segA db ds off 8 (mayV dr dw dx 0) + 6)))) *
256))
(IntKind.wrap IntKind.u64 (M (IntKind.wrap IntKind.u32 (segA db ds off 8 (mayV dr dw dx 0) + 5)))) *
256))
(IntKind.wrap IntKind.u64 (M (IntKind.wrap IntKind.u32 (segA db ds off 8 (mayV dr dw dx 0) + 4)))) *
256))
(IntKind.wrap IntKind.u64 (M (IntKind.wrap IntKind.u32 (segA db ds off 8 (mayV dr dw dx 0) + 3)))) *
256))
(IntKind.wrap IntKind.u64 (M (IntKind.wrap IntKind.u32 (segA db ds off 8 (mayV dr dw dx 0) + 2)))) *
256))
(IntKind.wrap IntKind.u64 (M (IntKind.wrap IntKind.u32 (segA db ds off 8 (mayV dr dw dx 0) + 1)))) *
256))
(IntKind.wrap IntKind.u64 (M (IntKind.wrap IntKind.u32 (segA db ds off 8 (mayV dr dw dx 0) + 0)))))),
vi 0],
[SObj.cells
(cCMm2z0 cb cs cr cw cx db ds dr dw dx)
T,
SObj.cells [Sv.mp 2] T2, SObj.bm IntKind.u32 IntKind.u8 M])
else none
else
bif in32 db && (in32 ds && in32 off) then
bif segE db ds off 4 (mayV dr dw dx 0) != 0 then
some
(Sv.tup [vd 0, vi ((segE db ds off 4 (mayV dr dw dx 0)))],
[SObj.cells
(cCMm2z0 cb cs cr cw cx db ds dr dw dx)
T,
SObj.cells [Sv.mp 2] T2, SObj.bm IntKind.u32 IntKind.u8 M])
else
some
(Sv.tup
[Sv.v
(Value.int IntKind.u64
(bitsL BinOp.or IntKind.u64
(IntKind.wrap IntKind.u64
(bitsL BinOp.or IntKind.u64
(IntKind.wrap IntKind.u64
(bitsL BinOp.or IntKind.u64
(IntKind.wrap IntKind.u64
(bitsL BinOp.or IntKind.u64 0
(IntKind.wrap IntKind.u64 (M (IntKind.wrap IntKind.u32 (segA db ds off 4 (mayV dr dw dx 0) + 3)))) *
256))
(IntKind.wrap IntKind.u64 (M (IntKind.wrap IntKind.u32 (segA db ds off 4 (mayV dr dw dx 0) + 2)))) *
256))
(IntKind.wrap IntKind.u64 (M (IntKind.wrap IntKind.u32 (segA db ds off 4 (mayV dr dw dx 0) + 1)))) *
256))
(IntKind.wrap IntKind.u64 (M (IntKind.wrap IntKind.u32 (segA db ds off 4 (mayV dr dw dx 0) + 0)))))),
vi 0],
[SObj.cells
(cCMm2z0 cb cs cr cw cx db ds dr dw dx)
T,
SObj.cells [Sv.mp 2] T2, SObj.bm IntKind.u32 IntKind.u8 M])
else none) := by kernel_rfl
theorem refLoad_nice (off size cb cs db ds : Int) (cr cw cx dr dw dx : Bool) (M : Int → Int) (T T2 : TypeId) (hb : in32 db = true) (hs : in32 ds = true) (ho : in32 off = true) :
    evF Try.prog ΓM1 400 102 [.ptr 0 0, .v (.int .u32 off), .v (.int .i64 size)] [.cells (cCMm2z1 cb cs cr cw cx db ds dr dw dx) T, .cells [.mp 2] T2, .bm .u32 .u8 (M)] kSM kNo = some (.tup [.v (.int .u64 (ldV M db ds off size (mayV dr dw dx 0))), .v (.int .i64 (segE db ds off (bytesN size) (mayV dr dw dx 0)))], [.cells (cCMm2z1 cb cs cr cw cx db ds dr dw dx) T, .cells [.mp 2] T2, .bm .u32 .u8 (M)]) := by
  rw [refLoad_form]
  simp only [hb, hs, ho, Bool.and_self, cond_true, seg_in]
  unfold ldV
  have key : ∀ k : Nat, (segE db ds off k (mayV dr dw dx 0) == 0) = true → segE db ds off k (mayV dr dw dx 0) = 0 := fun k h => eq_of_beq h
  by_cases h1 : size = 1
  · subst h1
    simp only [bytesN_1]
    cases h : segE db ds off ((1 : Nat) : Int) (mayV dr dw dx 0) == 0
    · rw [show (segE db ds off 1 (mayV dr dw dx 0) != 0) = true from by rw [bne]; exact congrArg not h]; rfl
    · rw [show (segE db ds off 1 (mayV dr dw dx 0) != 0) = false from by rw [bne]; exact congrArg not h, key _ h, ← seg_at0 h]; rfl
  · by_cases h2 : size = 2
    · subst h2
      simp only [bytesN_2]
      cases h : segE db ds off ((2 : Nat) : Int) (mayV dr dw dx 0) == 0
      · rw [show (segE db ds off 2 (mayV dr dw dx 0) != 0) = true from by rw [bne]; exact congrArg not h]; rfl
      · rw [show (segE db ds off 2 (mayV dr dw dx 0) != 0) = false from by rw [bne]; exact congrArg not h, key _ h, ← seg_at0 h]; rfl
    · by_cases h8 : size = 8
      · subst h8
        simp only [bytesN_8]
        cases h : segE db ds off ((8 : Nat) : Int) (mayV dr dw dx 0) == 0
        · rw [show (segE db ds off 8 (mayV dr dw dx 0) != 0) = true from by rw [bne]; exact congrArg not h]; rfl
        · rw [show (segE db ds off 8 (mayV dr dw dx 0) != 0) = false from by rw [bne]; exact congrArg not h, key _ h, ← seg_at0 h]; rfl
      · rw [bytesN_4 h1 h2 h8]
        have e1 : (size == 1) = false := by simpa using h1
        have e2 : (size == 2) = false := by simpa using h2
        have e8 : (size == 8) = false := by simpa using h8
        rw [e1, e2, e8]
        cases h : segE db ds off ((4 : Nat) : Int) (mayV dr dw dx 0) == 0
        · rw [show (segE db ds off 4 (mayV dr dw dx 0) != 0) = true from by rw [bne]; exact congrArg not h]; rfl
        · rw [show (segE db ds off 4 (mayV dr dw dx 0) != 0) = false from by rw [bne]; exact congrArg not h, key _ h, ← seg_at0 h]; rfl
def refLoadS : Ev.Spec := fun R args m k kp => match args with
  | [.ptr b 0, .v (.int .u32 off), .v (.int .i64 size)] => (match m[b]? with
    | some (.cells [.ptr g 0, .v (.int .u32 cb), .v (.int .u32 cs), .v (.bool cr), .v (.bool cw), .v (.bool cx), .v (.int .u32 db), .v (.int .u32 ds), .v (.bool dr), .v (.bool dw), .v (.bool dx)] T) => (match m[g]? with
      | some (.cells [.mp j] T2) => (match m[j]? with
        | some (.bm .u32 .u8 M) => bif in32 db && (in32 ds && in32 off) && (!(b == g) && (!(b == j) && !(g == j))) then k (.tup [.v (.int .u64 (ldV M db ds off size (mayV dr dw dx 0))), .v (.int .i64 (segE db ds off (bytesN size) (mayV dr dw dx 0)))]) m else none
        | _ => none)
      | _ => none)
    | _ => none)
  | _ => none
theorem refLoad_ok : SpecOk Try.prog XM 102 refLoadS := by
  intro R args m k kp r h
  unfold refLoadS at h
  split at h
  · split at h
    · split at h
      · split at h
        · rename_i _ b off size _ g cb cs cr cw cx db ds dr dw dx T hb _ j T2 hg _ M hj
          obtain ⟨hc, h⟩ := cond_some h
          simp only [Bool.and_eq_true, Bool.not_eq_true', beq_eq_false_iff_ne] at hc
          refine .inl ⟨_, _, h, ?_⟩
          have h0 := callR_ev ΓM1_ok (by kernel_rfl) (refLoad_nice off size cb cs db ds cr cw cx dr dw dx M T T2 hc.1.1 hc.1.2.1 hc.1.2.2)
          exact frame3 h0 hb hg hj hc.2.1 hc.2.2.1 hc.2.2.2 rfl rfl rfl rfl rfl rfl rfl rfl rfl (set_self hj).symm
        · cases h
      · cases h
    · cases h
  · cases h
def ΓM2 : Env := ((((ΓM1.add 100 busStoreS).add 27 busLoadS).add 104 refStoreS).add 102 refLoadS)
theorem ΓM2_ok : EnvOk Try.prog X0 ΓM2 := ((((ΓM1_ok.add (by kernel_rfl) busStore_ok).add (by kernel_rfl) busLoad_ok).add (by kernel_rfl) refStore_ok).add (by kernel_rfl) refLoad_ok)
end Go.Proofs.Ytpgdpoloipifeaa
