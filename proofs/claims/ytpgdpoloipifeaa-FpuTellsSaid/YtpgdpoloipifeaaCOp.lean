/- Instructions of doubles, read. -/
import Derived.Test.YtpgdpoloipifeaaEvV
import Derived.Test.YtpgdpoloipifeaaCRq
namespace Go.Proofs.Ytpgdpoloipifeaa
open Go Go.Ev
set_option linter.unusedVariables false
set_option linter.unusedSimpArgs false
set_option maxRecDepth 100000
def fpOk (A : Option (Sv × List SObj)) : Prop := ansI A 18 = 0 ∧ in32 (ansI A 8) = true ∧ in32 (ansI A 14) = true ∧ fpG (ansI A 0) (ansI A 2) (ansI A 3) = true
abbrev cCOpz1 (b1 b2 : Int) : List Sv := [vy 242, vy 15, vy 16, vy b1, vy b2, vy 0, vy 0, vy 0, vy 0, vy 0, vy 0]
noncomputable def op10T (b1 b2 : Int) (T : TypeId) : Option (Sv × List SObj) := lockI b1 (evF Try.prog ΓRq 400 14 [.sl 0 0 11 11] [.cells (cCOpz1 b1 b2) T] (kTk 1) kNo)
abbrev cCOpz0  : List Sv := [vi 0, vi 0, vi 0, vi 0, vi 0, vi 0, vi 0, vi 0, vw 0, vi 0, vi 0, vi 0, vi 0, vi 0, vw 0, vw 0, vb false, vi 0]
theorem op10_tree (b1 b2 : Int) (T : TypeId) : op10T b1 b2 T = (bif in8 b1 && (in8 b2 && true) then
bif ansI (rm11T 242 15 16 b1 b2 T) 8 != 0 then
some
(Sv.tup
[Sv.agg
(cCOpz0 ),
vi ((ansI (rm11T 242 15 16 b1 b2 T) 8))],
[SObj.cells
[vy 242, vy 15, vy 16,
vy b1, vy b2, vy 0,
vy 0, vy 0, vy 0,
vy 0, vy 0]
T])
else
bif decide (11 < IntKind.wrap IntKind.i64 (IntKind.wrap IntKind.i64 (3 + ansI (rm11T 242 15 16 b1 b2 T) 7) + 0)) then
some
(Sv.tup
[Sv.agg
(cCOpz0 ),
vi 21],
[SObj.cells
[vy 242, vy 15, vy 16,
vy b1, vy b2, vy 0,
vy 0, vy 0, vy 0,
vy 0, vy 0]
T])
else
bif
decide
(11 <
IntKind.wrap IntKind.i64
(IntKind.wrap IntKind.i64 (IntKind.wrap IntKind.i64 (3 + ansI (rm11T 242 15 16 b1 b2 T) 7) + 0) + 0)) then
some
(Sv.tup
[Sv.agg
(cCOpz0 ),
vi 21],
[SObj.cells
[vy 242, vy 15, vy 16,
vy b1, vy b2, vy 0,
vy 0, vy 0, vy 0,
vy 0, vy 0]
T])
else
bif ansI (rm11T 242 15 16 b1 b2 T) 0 == 1 then
some
(Sv.tup
[Sv.agg
[vi 51, vi 0, vi 8,
vi 5, vi ((ansI (rm11T 242 15 16 b1 b2 T) 6)),
vi ((-1)), vi ((-1)), vi 1,
vw 0, vi 5,
vi ((ansI (rm11T 242 15 16 b1 b2 T) 1)), vi ((-1)),
vi ((-1)), vi 1, vw 0,
vw 0, vb false,
Sv.v
(Value.int IntKind.i64
(IntKind.wrap IntKind.i64
(IntKind.wrap IntKind.i64 (IntKind.wrap IntKind.i64 (3 + ansI (rm11T 242 15 16 b1 b2 T) 7) + 0) + 0)))],
vi 0],
[SObj.cells
[vy 242, vy 15, vy 16,
vy b1, vy b2, vy 0,
vy 0, vy 0, vy 0,
vy 0, vy 0]
T])
else
some
(Sv.tup
[Sv.agg
[vi 51, vi 0, vi 8,
vi 5, vi ((ansI (rm11T 242 15 16 b1 b2 T) 6)),
vi ((-1)), vi ((-1)), vi 1,
vw 0, vi ((ansI (rm11T 242 15 16 b1 b2 T) 0)),
vi ((ansI (rm11T 242 15 16 b1 b2 T) 1)),
vi ((ansI (rm11T 242 15 16 b1 b2 T) 2)),
vi ((ansI (rm11T 242 15 16 b1 b2 T) 3)),
vi ((ansI (rm11T 242 15 16 b1 b2 T) 4)),
vw ((ansI (rm11T 242 15 16 b1 b2 T) 5)), vw 0,
vb false,
Sv.v
(Value.int IntKind.i64
(IntKind.wrap IntKind.i64
(IntKind.wrap IntKind.i64 (IntKind.wrap IntKind.i64 (3 + ansI (rm11T 242 15 16 b1 b2 T) 7) + 0) + 0)))],
vi 0],
[SObj.cells
[vy 242, vy 15, vy 16,
vy b1, vy b2, vy 0,
vy 0, vy 0, vy 0,
vy 0, vy 0]
T])
else none) := (lockI_eq _ _).trans (by kernel_rfl)
noncomputable def op10F (b1 b2 : Int) (T : TypeId) (X : Option (Sv × List SObj)) : Option (Sv × List SObj) := some (.tup [.agg [.v (.int .i64 (ansI (X) 0)), .v (.int .i64 (ansI (X) 1)), .v (.int .i64 (ansI (X) 2)), .v (.int .i64 (ansI (X) 3)), .v (.int .i64 (ansI (X) 4)), .v (.int .i64 (ansI (X) 5)), .v (.int .i64 (ansI (X) 6)), .v (.int .i64 (ansI (X) 7)), .v (.int .u32 (ansI (X) 8)), .v (.int .i64 (ansI (X) 9)), .v (.int .i64 (ansI (X) 10)), .v (.int .i64 (ansI (X) 11)), .v (.int .i64 (ansI (X) 12)), .v (.int .i64 (ansI (X) 13)), .v (.int .u32 (ansI (X) 14)), .v (.int .u32 (ansI (X) 15)), .v (.bool (ansB (X) 16)), .v (.int .i64 (ansI (X) 17))], .v (.int .i64 (ansI (X) 18))], [.cells (cCOpz1 b1 b2) T])
theorem op10_is (b1 b2 : Int) (T : TypeId) (hg : (in8 b1 && in8 b2) = true) : op10T b1 b2 T = op10F b1 b2 T (op10T b1 b2 T) := by
  have h := op10_tree b1 b2 T
  rw [Bool.and_eq_true] at hg
  simp only [hg.1, hg.2, Bool.and_self, Bool.and_true, Bool.true_and, cond_true] at h
  rw [h]
  repeat' (first | exact rfl | refine ans_cond (F := op10F b1 b2 T) ?_ ?_)
theorem op10_ev (b1 b2 : Int) (T : TypeId) (hg : (in8 b1 && in8 b2) = true) : evF Try.prog ΓRq 400 14 [.sl 0 0 11 11] [.cells (cCOpz1 b1 b2) T] (kTk 1) kNo = some (.tup [.agg [.v (.int .i64 (ansI (op10T b1 b2 T) 0)), .v (.int .i64 (ansI (op10T b1 b2 T) 1)), .v (.int .i64 (ansI (op10T b1 b2 T) 2)), .v (.int .i64 (ansI (op10T b1 b2 T) 3)), .v (.int .i64 (ansI (op10T b1 b2 T) 4)), .v (.int .i64 (ansI (op10T b1 b2 T) 5)), .v (.int .i64 (ansI (op10T b1 b2 T) 6)), .v (.int .i64 (ansI (op10T b1 b2 T) 7)), .v (.int .u32 (ansI (op10T b1 b2 T) 8)), .v (.int .i64 (ansI (op10T b1 b2 T) 9)), .v (.int .i64 (ansI (op10T b1 b2 T) 10)), .v (.int .i64 (ansI (op10T b1 b2 T) 11)), .v (.int .i64 (ansI (op10T b1 b2 T) 12)), .v (.int .i64 (ansI (op10T b1 b2 T) 13)), .v (.int .u32 (ansI (op10T b1 b2 T) 14)), .v (.int .u32 (ansI (op10T b1 b2 T) 15)), .v (.bool (ansB (op10T b1 b2 T) 16)), .v (.int .i64 (ansI (op10T b1 b2 T) 17))], .v (.int .i64 (ansI (op10T b1 b2 T) 18))], [.cells (cCOpz1 b1 b2) T]) := (lockI_eq _ _).symm.trans (op10_is b1 b2 T hg)
noncomputable def op10S : Ev.Spec := fun R args m k kp => match args with
  | [.sl b o n q] => (match m[b]? with
    | some (.cells cs T) => (match cs with
      | [.v (.int .u8 z0), .v (.int .u8 z1), .v (.int .u8 z2), .v (.int .u8 b1), .v (.int .u8 b2), .v (.int .u8 z5), .v (.int .u8 z6), .v (.int .u8 z7), .v (.int .u8 z8), .v (.int .u8 z9), .v (.int .u8 z10)] => bif Nat.beq o 0 && (Nat.beq n 11 && (Nat.beq q 11 && ((z0 == 242) && ((z1 == 15) && ((z2 == 16) && ((z5 == 0) && ((z6 == 0) && ((z7 == 0) && ((z8 == 0) && ((z9 == 0) && ((z10 == 0)))))))))))) then (bif in8 b1 && (in8 b2 && (true)) then k (.tup [.agg [.v (.int .i64 (ansI (op10T b1 b2 T) 0)), .v (.int .i64 (ansI (op10T b1 b2 T) 1)), .v (.int .i64 (ansI (op10T b1 b2 T) 2)), .v (.int .i64 (ansI (op10T b1 b2 T) 3)), .v (.int .i64 (ansI (op10T b1 b2 T) 4)), .v (.int .i64 (ansI (op10T b1 b2 T) 5)), .v (.int .i64 (ansI (op10T b1 b2 T) 6)), .v (.int .i64 (ansI (op10T b1 b2 T) 7)), .v (.int .u32 (ansI (op10T b1 b2 T) 8)), .v (.int .i64 (ansI (op10T b1 b2 T) 9)), .v (.int .i64 (ansI (op10T b1 b2 T) 10)), .v (.int .i64 (ansI (op10T b1 b2 T) 11)), .v (.int .i64 (ansI (op10T b1 b2 T) 12)), .v (.int .i64 (ansI (op10T b1 b2 T) 13)), .v (.int .u32 (ansI (op10T b1 b2 T) 14)), .v (.int .u32 (ansI (op10T b1 b2 T) 15)), .v (.bool (ansB (op10T b1 b2 T) 16)), .v (.int .i64 (ansI (op10T b1 b2 T) 17))], .v (.int .i64 (ansI (op10T b1 b2 T) 18))]) ((m.set b (.cells [.v (.int .u8 242), .v (.int .u8 15), .v (.int .u8 16), .v (.int .u8 b1), .v (.int .u8 b2), .v (.int .u8 0), .v (.int .u8 0), .v (.int .u8 0), .v (.int .u8 0), .v (.int .u8 0), .v (.int .u8 0)] T)) ++ []) else none) else none
      | _ => none)
    | _ => none)
  | _ => none
set_option maxHeartbeats 4000000 in
theorem op10S_ok : SpecOk Try.prog XM 14 op10S := by
  intro R args m k kp r h
  unfold op10S at h
  split at h
  · rename_i _ b o n q
    split at h
    · rename_i _ cs T hb
      split at h
      · rename_i _ z0 z1 z2 b1 b2 z5 z6 z7 z8 z9 z10
        obtain ⟨hg, h5⟩ := cond_some h
        clear h
        rename _ = some r => h
        simp only [Bool.and_eq_true, Bool.not_eq_true', beq_iff_eq] at hg
        obtain ⟨g3, g4, g5, rfl, rfl, rfl, rfl, rfl, rfl, rfl, rfl, rfl⟩ := hg
        have g3 := Nat.eq_of_beq_eq_true g3
        have g4 := Nat.eq_of_beq_eq_true g4
        have g5 := Nat.eq_of_beq_eq_true g5
        subst g3 g4 g5
        rcases cond_two h with ⟨hq, h5⟩ | ⟨hq, h5⟩ <;> clear h <;> rename _ = some r => h
        · simp only [Bool.and_eq_true, beq_iff_eq] at hq
          obtain ⟨e0, e1, _⟩ := hq
          exact .inl ⟨_, _, h, (callR_evT ΓRq_ok (by kernel_rfl) (op10_ev b1 b2 T (by rw [e0, e1]; rfl)) rfl rfl rfl rfl).frameL [b] (by simp) ⟨hb, trivial⟩ rfl rfl rfl rfl rfl rfl rfl⟩
        cases h
      · cases h
    · cases h
  · cases h
theorem op10_fp (b1 b2 : Int) (T : TypeId) (hg : (in8 b1 && in8 b2) = true) : fpOk (op10T b1 b2 T) := by
  have h := op10_tree b1 b2 T
  have hk := rm11_kind 242 15 16 b1 b2 T hg
  have hi := rm11_in 242 15 16 b1 b2 T
  rw [Bool.and_eq_true] at hg
  simp only [hg.1, hg.2, Bool.and_self, Bool.and_true, Bool.true_and, cond_true] at h
  obtain ⟨hk, he, n1, n2⟩ := hk
  rw [he] at h
  generalize ansI (rm11T 242 15 16 b1 b2 T) 7 = n at n1 n2 h
  have w1 : IntKind.wrap .i64 (3 + n) = 3 + n := wr_i64_id (by omega) (by omega)
  have w2 : IntKind.wrap .i64 (3 + n + 0) = 3 + n := by rw [Int.add_zero]; exact w1
  have w3 : decide (11 < 3 + n) = false := decide_eq_false (by omega)
  rw [w1, w2, w2, w3] at h
  generalize ansI (rm11T 242 15 16 b1 b2 T) 5 = y at hi h
  generalize ansI (rm11T 242 15 16 b1 b2 T) 0 = z at hk h
  rcases hk with rfl | rfl <;> (
    simp only [bne, beq_self_eq_true, show ((1 : Int) == 1) = true from rfl, show ((3 : Int) == 1) = false from rfl, show ((0 : Int) == 0) = true from rfl, Bool.not_true, Bool.not_false, cond_true, cond_false] at h
    rw [h]
    refine ⟨rfl, ?_, ?_, ?_⟩
    · first | exact hi | rfl
    · first | exact hi | rfl
    · rfl)
abbrev cCOpz2 (b1 b2 : Int) : List Sv := [vy 242, vy 15, vy 17, vy b1, vy b2, vy 0, vy 0, vy 0, vy 0, vy 0, vy 0]
noncomputable def op11T (b1 b2 : Int) (T : TypeId) : Option (Sv × List SObj) := lockI b1 (evF Try.prog ΓRq 400 14 [.sl 0 0 11 11] [.cells (cCOpz2 b1 b2) T] (kTk 1) kNo)
theorem op11_tree (b1 b2 : Int) (T : TypeId) : op11T b1 b2 T = (bif in8 b1 && (in8 b2 && true) then
bif ansI (rm11T 242 15 17 b1 b2 T) 8 != 0 then
some
(Sv.tup
[Sv.agg
(cCOpz0 ),
vi ((ansI (rm11T 242 15 17 b1 b2 T) 8))],
[SObj.cells
[vy 242, vy 15, vy 17,
vy b1, vy b2, vy 0,
vy 0, vy 0, vy 0,
vy 0, vy 0]
T])
else
bif decide (11 < IntKind.wrap IntKind.i64 (IntKind.wrap IntKind.i64 (3 + ansI (rm11T 242 15 17 b1 b2 T) 7) + 0)) then
some
(Sv.tup
[Sv.agg
(cCOpz0 ),
vi 21],
[SObj.cells
[vy 242, vy 15, vy 17,
vy b1, vy b2, vy 0,
vy 0, vy 0, vy 0,
vy 0, vy 0]
T])
else
bif ansI (rm11T 242 15 17 b1 b2 T) 0 == 1 then
bif
decide
(11 <
IntKind.wrap IntKind.i64
(IntKind.wrap IntKind.i64 (IntKind.wrap IntKind.i64 (3 + ansI (rm11T 242 15 17 b1 b2 T) 7) + 0) + 0)) then
some
(Sv.tup
[Sv.agg
(cCOpz0 ),
vi 21],
[SObj.cells
[vy 242, vy 15, vy 17,
vy b1, vy b2, vy 0,
vy 0, vy 0, vy 0,
vy 0, vy 0]
T])
else
some
(Sv.tup
[Sv.agg
[vi 51, vi 0, vi 8,
vi 5, vi ((ansI (rm11T 242 15 17 b1 b2 T) 1)),
vi ((-1)), vi ((-1)), vi 1,
vw 0, vi 5,
vi ((ansI (rm11T 242 15 17 b1 b2 T) 6)), vi ((-1)),
vi ((-1)), vi 1, vw 0,
vw 0, vb false,
Sv.v
(Value.int IntKind.i64
(IntKind.wrap IntKind.i64
(IntKind.wrap IntKind.i64 (IntKind.wrap IntKind.i64 (3 + ansI (rm11T 242 15 17 b1 b2 T) 7) + 0) + 0)))],
vi 0],
[SObj.cells
[vy 242, vy 15, vy 17,
vy b1, vy b2, vy 0,
vy 0, vy 0, vy 0,
vy 0, vy 0]
T])
else
bif
decide
(11 <
IntKind.wrap IntKind.i64
(IntKind.wrap IntKind.i64 (IntKind.wrap IntKind.i64 (3 + ansI (rm11T 242 15 17 b1 b2 T) 7) + 0) + 0)) then
some
(Sv.tup
[Sv.agg
(cCOpz0 ),
vi 21],
[SObj.cells
[vy 242, vy 15, vy 17,
vy b1, vy b2, vy 0,
vy 0, vy 0, vy 0,
vy 0, vy 0]
T])
else
some
(Sv.tup
[Sv.agg
[vi 51, vi 0, vi 8,
vi ((ansI (rm11T 242 15 17 b1 b2 T) 0)),
vi ((ansI (rm11T 242 15 17 b1 b2 T) 1)),
vi ((ansI (rm11T 242 15 17 b1 b2 T) 2)),
vi ((ansI (rm11T 242 15 17 b1 b2 T) 3)),
vi ((ansI (rm11T 242 15 17 b1 b2 T) 4)),
vw ((ansI (rm11T 242 15 17 b1 b2 T) 5)), vi 5,
vi ((ansI (rm11T 242 15 17 b1 b2 T) 6)), vi ((-1)),
vi ((-1)), vi 1, vw 0,
vw 0, vb false,
Sv.v
(Value.int IntKind.i64
(IntKind.wrap IntKind.i64
(IntKind.wrap IntKind.i64 (IntKind.wrap IntKind.i64 (3 + ansI (rm11T 242 15 17 b1 b2 T) 7) + 0) + 0)))],
vi 0],
[SObj.cells
[vy 242, vy 15, vy 17,
vy b1, vy b2, vy 0,
vy 0, vy 0, vy 0,
vy 0, vy 0]
T])
else none) := (lockI_eq _ _).trans (by kernel_rfl)
noncomputable def op11F (b1 b2 : Int) (T : TypeId) (X : Option (Sv × List SObj)) : Option (Sv × List SObj) := some (.tup [.agg [.v (.int .i64 (ansI (X) 0)), .v (.int .i64 (ansI (X) 1)), .v (.int .i64 (ansI (X) 2)), .v (.int .i64 (ansI (X) 3)), .v (.int .i64 (ansI (X) 4)), .v (.int .i64 (ansI (X) 5)), .v (.int .i64 (ansI (X) 6)), .v (.int .i64 (ansI (X) 7)), .v (.int .u32 (ansI (X) 8)), .v (.int .i64 (ansI (X) 9)), .v (.int .i64 (ansI (X) 10)), .v (.int .i64 (ansI (X) 11)), .v (.int .i64 (ansI (X) 12)), .v (.int .i64 (ansI (X) 13)), .v (.int .u32 (ansI (X) 14)), .v (.int .u32 (ansI (X) 15)), .v (.bool (ansB (X) 16)), .v (.int .i64 (ansI (X) 17))], .v (.int .i64 (ansI (X) 18))], [.cells (cCOpz2 b1 b2) T])
theorem op11_is (b1 b2 : Int) (T : TypeId) (hg : (in8 b1 && in8 b2) = true) : op11T b1 b2 T = op11F b1 b2 T (op11T b1 b2 T) := by
  have h := op11_tree b1 b2 T
  rw [Bool.and_eq_true] at hg
  simp only [hg.1, hg.2, Bool.and_self, Bool.and_true, Bool.true_and, cond_true] at h
  rw [h]
  repeat' (first | exact rfl | refine ans_cond (F := op11F b1 b2 T) ?_ ?_)
theorem op11_ev (b1 b2 : Int) (T : TypeId) (hg : (in8 b1 && in8 b2) = true) : evF Try.prog ΓRq 400 14 [.sl 0 0 11 11] [.cells (cCOpz2 b1 b2) T] (kTk 1) kNo = some (.tup [.agg [.v (.int .i64 (ansI (op11T b1 b2 T) 0)), .v (.int .i64 (ansI (op11T b1 b2 T) 1)), .v (.int .i64 (ansI (op11T b1 b2 T) 2)), .v (.int .i64 (ansI (op11T b1 b2 T) 3)), .v (.int .i64 (ansI (op11T b1 b2 T) 4)), .v (.int .i64 (ansI (op11T b1 b2 T) 5)), .v (.int .i64 (ansI (op11T b1 b2 T) 6)), .v (.int .i64 (ansI (op11T b1 b2 T) 7)), .v (.int .u32 (ansI (op11T b1 b2 T) 8)), .v (.int .i64 (ansI (op11T b1 b2 T) 9)), .v (.int .i64 (ansI (op11T b1 b2 T) 10)), .v (.int .i64 (ansI (op11T b1 b2 T) 11)), .v (.int .i64 (ansI (op11T b1 b2 T) 12)), .v (.int .i64 (ansI (op11T b1 b2 T) 13)), .v (.int .u32 (ansI (op11T b1 b2 T) 14)), .v (.int .u32 (ansI (op11T b1 b2 T) 15)), .v (.bool (ansB (op11T b1 b2 T) 16)), .v (.int .i64 (ansI (op11T b1 b2 T) 17))], .v (.int .i64 (ansI (op11T b1 b2 T) 18))], [.cells (cCOpz2 b1 b2) T]) := (lockI_eq _ _).symm.trans (op11_is b1 b2 T hg)
noncomputable def op11S : Ev.Spec := fun R args m k kp => match args with
  | [.sl b o n q] => (match m[b]? with
    | some (.cells cs T) => (match cs with
      | [.v (.int .u8 z0), .v (.int .u8 z1), .v (.int .u8 z2), .v (.int .u8 b1), .v (.int .u8 b2), .v (.int .u8 z5), .v (.int .u8 z6), .v (.int .u8 z7), .v (.int .u8 z8), .v (.int .u8 z9), .v (.int .u8 z10)] => bif Nat.beq o 0 && (Nat.beq n 11 && (Nat.beq q 11 && ((z0 == 242) && ((z1 == 15) && ((z2 == 17) && ((z5 == 0) && ((z6 == 0) && ((z7 == 0) && ((z8 == 0) && ((z9 == 0) && ((z10 == 0)))))))))))) then (bif in8 b1 && (in8 b2 && (true)) then k (.tup [.agg [.v (.int .i64 (ansI (op11T b1 b2 T) 0)), .v (.int .i64 (ansI (op11T b1 b2 T) 1)), .v (.int .i64 (ansI (op11T b1 b2 T) 2)), .v (.int .i64 (ansI (op11T b1 b2 T) 3)), .v (.int .i64 (ansI (op11T b1 b2 T) 4)), .v (.int .i64 (ansI (op11T b1 b2 T) 5)), .v (.int .i64 (ansI (op11T b1 b2 T) 6)), .v (.int .i64 (ansI (op11T b1 b2 T) 7)), .v (.int .u32 (ansI (op11T b1 b2 T) 8)), .v (.int .i64 (ansI (op11T b1 b2 T) 9)), .v (.int .i64 (ansI (op11T b1 b2 T) 10)), .v (.int .i64 (ansI (op11T b1 b2 T) 11)), .v (.int .i64 (ansI (op11T b1 b2 T) 12)), .v (.int .i64 (ansI (op11T b1 b2 T) 13)), .v (.int .u32 (ansI (op11T b1 b2 T) 14)), .v (.int .u32 (ansI (op11T b1 b2 T) 15)), .v (.bool (ansB (op11T b1 b2 T) 16)), .v (.int .i64 (ansI (op11T b1 b2 T) 17))], .v (.int .i64 (ansI (op11T b1 b2 T) 18))]) ((m.set b (.cells [.v (.int .u8 242), .v (.int .u8 15), .v (.int .u8 17), .v (.int .u8 b1), .v (.int .u8 b2), .v (.int .u8 0), .v (.int .u8 0), .v (.int .u8 0), .v (.int .u8 0), .v (.int .u8 0), .v (.int .u8 0)] T)) ++ []) else none) else none
      | _ => none)
    | _ => none)
  | _ => none
set_option maxHeartbeats 4000000 in
theorem op11S_ok : SpecOk Try.prog XM 14 op11S := by
  intro R args m k kp r h
  unfold op11S at h
  split at h
  · rename_i _ b o n q
    split at h
    · rename_i _ cs T hb
      split at h
      · rename_i _ z0 z1 z2 b1 b2 z5 z6 z7 z8 z9 z10
        obtain ⟨hg, h5⟩ := cond_some h
        clear h
        rename _ = some r => h
        simp only [Bool.and_eq_true, Bool.not_eq_true', beq_iff_eq] at hg
        obtain ⟨g3, g4, g5, rfl, rfl, rfl, rfl, rfl, rfl, rfl, rfl, rfl⟩ := hg
        have g3 := Nat.eq_of_beq_eq_true g3
        have g4 := Nat.eq_of_beq_eq_true g4
        have g5 := Nat.eq_of_beq_eq_true g5
        subst g3 g4 g5
        rcases cond_two h with ⟨hq, h5⟩ | ⟨hq, h5⟩ <;> clear h <;> rename _ = some r => h
        · simp only [Bool.and_eq_true, beq_iff_eq] at hq
          obtain ⟨e0, e1, _⟩ := hq
          exact .inl ⟨_, _, h, (callR_evT ΓRq_ok (by kernel_rfl) (op11_ev b1 b2 T (by rw [e0, e1]; rfl)) rfl rfl rfl rfl).frameL [b] (by simp) ⟨hb, trivial⟩ rfl rfl rfl rfl rfl rfl rfl⟩
        cases h
      · cases h
    · cases h
  · cases h
theorem op11_fp (b1 b2 : Int) (T : TypeId) (hg : (in8 b1 && in8 b2) = true) : fpOk (op11T b1 b2 T) := by
  have h := op11_tree b1 b2 T
  have hk := rm11_kind 242 15 17 b1 b2 T hg
  have hi := rm11_in 242 15 17 b1 b2 T
  rw [Bool.and_eq_true] at hg
  simp only [hg.1, hg.2, Bool.and_self, Bool.and_true, Bool.true_and, cond_true] at h
  obtain ⟨hk, he, n1, n2⟩ := hk
  rw [he] at h
  generalize ansI (rm11T 242 15 17 b1 b2 T) 7 = n at n1 n2 h
  have w1 : IntKind.wrap .i64 (3 + n) = 3 + n := wr_i64_id (by omega) (by omega)
  have w2 : IntKind.wrap .i64 (3 + n + 0) = 3 + n := by rw [Int.add_zero]; exact w1
  have w3 : decide (11 < 3 + n) = false := decide_eq_false (by omega)
  rw [w1, w2, w2, w3] at h
  generalize ansI (rm11T 242 15 17 b1 b2 T) 5 = y at hi h
  generalize ansI (rm11T 242 15 17 b1 b2 T) 0 = z at hk h
  rcases hk with rfl | rfl <;> (
    simp only [bne, beq_self_eq_true, show ((1 : Int) == 1) = true from rfl, show ((3 : Int) == 1) = false from rfl, show ((0 : Int) == 0) = true from rfl, Bool.not_true, Bool.not_false, cond_true, cond_false] at h
    rw [h]
    refine ⟨rfl, ?_, ?_, ?_⟩
    · first | exact hi | rfl
    · first | exact hi | rfl
    · rfl)
abbrev cCOpz3 (b1 b2 : Int) : List Sv := [vy 242, vy 15, vy 42, vy b1, vy b2, vy 0, vy 0, vy 0, vy 0, vy 0, vy 0]
noncomputable def op2aT (b1 b2 : Int) (T : TypeId) : Option (Sv × List SObj) := lockI b1 (evF Try.prog ΓRq 400 14 [.sl 0 0 11 11] [.cells (cCOpz3 b1 b2) T] (kTk 1) kNo)
theorem op2a_tree (b1 b2 : Int) (T : TypeId) : op2aT b1 b2 T = (bif in8 b1 && (in8 b2 && true) then
bif ansI (rm11T 242 15 42 b1 b2 T) 8 != 0 then
some
(Sv.tup
[Sv.agg
(cCOpz0 ),
vi ((ansI (rm11T 242 15 42 b1 b2 T) 8))],
[SObj.cells
[vy 242, vy 15, vy 42,
vy b1, vy b2, vy 0,
vy 0, vy 0, vy 0,
vy 0, vy 0]
T])
else
bif decide (11 < IntKind.wrap IntKind.i64 (IntKind.wrap IntKind.i64 (3 + ansI (rm11T 242 15 42 b1 b2 T) 7) + 0)) then
some
(Sv.tup
[Sv.agg
(cCOpz0 ),
vi 21],
[SObj.cells
[vy 242, vy 15, vy 42,
vy b1, vy b2, vy 0,
vy 0, vy 0, vy 0,
vy 0, vy 0]
T])
else
bif
decide
(11 <
IntKind.wrap IntKind.i64
(IntKind.wrap IntKind.i64 (IntKind.wrap IntKind.i64 (3 + ansI (rm11T 242 15 42 b1 b2 T) 7) + 0) + 0)) then
some
(Sv.tup
[Sv.agg
(cCOpz0 ),
vi 21],
[SObj.cells
[vy 242, vy 15, vy 42,
vy b1, vy b2, vy 0,
vy 0, vy 0, vy 0,
vy 0, vy 0]
T])
else
some
(Sv.tup
[Sv.agg
[vi 59, vi 0, vi 4,
vi 5, vi ((ansI (rm11T 242 15 42 b1 b2 T) 6)),
vi ((-1)), vi ((-1)), vi 1,
vw 0, vi ((ansI (rm11T 242 15 42 b1 b2 T) 0)),
vi ((ansI (rm11T 242 15 42 b1 b2 T) 1)),
vi ((ansI (rm11T 242 15 42 b1 b2 T) 2)),
vi ((ansI (rm11T 242 15 42 b1 b2 T) 3)),
vi ((ansI (rm11T 242 15 42 b1 b2 T) 4)),
vw ((ansI (rm11T 242 15 42 b1 b2 T) 5)), vw 0,
vb false,
Sv.v
(Value.int IntKind.i64
(IntKind.wrap IntKind.i64
(IntKind.wrap IntKind.i64 (IntKind.wrap IntKind.i64 (3 + ansI (rm11T 242 15 42 b1 b2 T) 7) + 0) + 0)))],
vi 0],
[SObj.cells
[vy 242, vy 15, vy 42,
vy b1, vy b2, vy 0,
vy 0, vy 0, vy 0,
vy 0, vy 0]
T])
else none) := (lockI_eq _ _).trans (by kernel_rfl)
noncomputable def op2aF (b1 b2 : Int) (T : TypeId) (X : Option (Sv × List SObj)) : Option (Sv × List SObj) := some (.tup [.agg [.v (.int .i64 (ansI (X) 0)), .v (.int .i64 (ansI (X) 1)), .v (.int .i64 (ansI (X) 2)), .v (.int .i64 (ansI (X) 3)), .v (.int .i64 (ansI (X) 4)), .v (.int .i64 (ansI (X) 5)), .v (.int .i64 (ansI (X) 6)), .v (.int .i64 (ansI (X) 7)), .v (.int .u32 (ansI (X) 8)), .v (.int .i64 (ansI (X) 9)), .v (.int .i64 (ansI (X) 10)), .v (.int .i64 (ansI (X) 11)), .v (.int .i64 (ansI (X) 12)), .v (.int .i64 (ansI (X) 13)), .v (.int .u32 (ansI (X) 14)), .v (.int .u32 (ansI (X) 15)), .v (.bool (ansB (X) 16)), .v (.int .i64 (ansI (X) 17))], .v (.int .i64 (ansI (X) 18))], [.cells (cCOpz3 b1 b2) T])
theorem op2a_is (b1 b2 : Int) (T : TypeId) (hg : (in8 b1 && in8 b2) = true) : op2aT b1 b2 T = op2aF b1 b2 T (op2aT b1 b2 T) := by
  have h := op2a_tree b1 b2 T
  rw [Bool.and_eq_true] at hg
  simp only [hg.1, hg.2, Bool.and_self, Bool.and_true, Bool.true_and, cond_true] at h
  rw [h]
  repeat' (first | exact rfl | refine ans_cond (F := op2aF b1 b2 T) ?_ ?_)
theorem op2a_ev (b1 b2 : Int) (T : TypeId) (hg : (in8 b1 && in8 b2) = true) : evF Try.prog ΓRq 400 14 [.sl 0 0 11 11] [.cells (cCOpz3 b1 b2) T] (kTk 1) kNo = some (.tup [.agg [.v (.int .i64 (ansI (op2aT b1 b2 T) 0)), .v (.int .i64 (ansI (op2aT b1 b2 T) 1)), .v (.int .i64 (ansI (op2aT b1 b2 T) 2)), .v (.int .i64 (ansI (op2aT b1 b2 T) 3)), .v (.int .i64 (ansI (op2aT b1 b2 T) 4)), .v (.int .i64 (ansI (op2aT b1 b2 T) 5)), .v (.int .i64 (ansI (op2aT b1 b2 T) 6)), .v (.int .i64 (ansI (op2aT b1 b2 T) 7)), .v (.int .u32 (ansI (op2aT b1 b2 T) 8)), .v (.int .i64 (ansI (op2aT b1 b2 T) 9)), .v (.int .i64 (ansI (op2aT b1 b2 T) 10)), .v (.int .i64 (ansI (op2aT b1 b2 T) 11)), .v (.int .i64 (ansI (op2aT b1 b2 T) 12)), .v (.int .i64 (ansI (op2aT b1 b2 T) 13)), .v (.int .u32 (ansI (op2aT b1 b2 T) 14)), .v (.int .u32 (ansI (op2aT b1 b2 T) 15)), .v (.bool (ansB (op2aT b1 b2 T) 16)), .v (.int .i64 (ansI (op2aT b1 b2 T) 17))], .v (.int .i64 (ansI (op2aT b1 b2 T) 18))], [.cells (cCOpz3 b1 b2) T]) := (lockI_eq _ _).symm.trans (op2a_is b1 b2 T hg)
noncomputable def op2aS : Ev.Spec := fun R args m k kp => match args with
  | [.sl b o n q] => (match m[b]? with
    | some (.cells cs T) => (match cs with
      | [.v (.int .u8 z0), .v (.int .u8 z1), .v (.int .u8 z2), .v (.int .u8 b1), .v (.int .u8 b2), .v (.int .u8 z5), .v (.int .u8 z6), .v (.int .u8 z7), .v (.int .u8 z8), .v (.int .u8 z9), .v (.int .u8 z10)] => bif Nat.beq o 0 && (Nat.beq n 11 && (Nat.beq q 11 && ((z0 == 242) && ((z1 == 15) && ((z2 == 42) && ((z5 == 0) && ((z6 == 0) && ((z7 == 0) && ((z8 == 0) && ((z9 == 0) && ((z10 == 0)))))))))))) then (bif in8 b1 && (in8 b2 && (true)) then k (.tup [.agg [.v (.int .i64 (ansI (op2aT b1 b2 T) 0)), .v (.int .i64 (ansI (op2aT b1 b2 T) 1)), .v (.int .i64 (ansI (op2aT b1 b2 T) 2)), .v (.int .i64 (ansI (op2aT b1 b2 T) 3)), .v (.int .i64 (ansI (op2aT b1 b2 T) 4)), .v (.int .i64 (ansI (op2aT b1 b2 T) 5)), .v (.int .i64 (ansI (op2aT b1 b2 T) 6)), .v (.int .i64 (ansI (op2aT b1 b2 T) 7)), .v (.int .u32 (ansI (op2aT b1 b2 T) 8)), .v (.int .i64 (ansI (op2aT b1 b2 T) 9)), .v (.int .i64 (ansI (op2aT b1 b2 T) 10)), .v (.int .i64 (ansI (op2aT b1 b2 T) 11)), .v (.int .i64 (ansI (op2aT b1 b2 T) 12)), .v (.int .i64 (ansI (op2aT b1 b2 T) 13)), .v (.int .u32 (ansI (op2aT b1 b2 T) 14)), .v (.int .u32 (ansI (op2aT b1 b2 T) 15)), .v (.bool (ansB (op2aT b1 b2 T) 16)), .v (.int .i64 (ansI (op2aT b1 b2 T) 17))], .v (.int .i64 (ansI (op2aT b1 b2 T) 18))]) ((m.set b (.cells [.v (.int .u8 242), .v (.int .u8 15), .v (.int .u8 42), .v (.int .u8 b1), .v (.int .u8 b2), .v (.int .u8 0), .v (.int .u8 0), .v (.int .u8 0), .v (.int .u8 0), .v (.int .u8 0), .v (.int .u8 0)] T)) ++ []) else none) else none
      | _ => none)
    | _ => none)
  | _ => none
set_option maxHeartbeats 4000000 in
theorem op2aS_ok : SpecOk Try.prog XM 14 op2aS := by
  intro R args m k kp r h
  unfold op2aS at h
  split at h
  · rename_i _ b o n q
    split at h
    · rename_i _ cs T hb
      split at h
      · rename_i _ z0 z1 z2 b1 b2 z5 z6 z7 z8 z9 z10
        obtain ⟨hg, h5⟩ := cond_some h
        clear h
        rename _ = some r => h
        simp only [Bool.and_eq_true, Bool.not_eq_true', beq_iff_eq] at hg
        obtain ⟨g3, g4, g5, rfl, rfl, rfl, rfl, rfl, rfl, rfl, rfl, rfl⟩ := hg
        have g3 := Nat.eq_of_beq_eq_true g3
        have g4 := Nat.eq_of_beq_eq_true g4
        have g5 := Nat.eq_of_beq_eq_true g5
        subst g3 g4 g5
        rcases cond_two h with ⟨hq, h5⟩ | ⟨hq, h5⟩ <;> clear h <;> rename _ = some r => h
        · simp only [Bool.and_eq_true, beq_iff_eq] at hq
          obtain ⟨e0, e1, _⟩ := hq
          exact .inl ⟨_, _, h, (callR_evT ΓRq_ok (by kernel_rfl) (op2a_ev b1 b2 T (by rw [e0, e1]; rfl)) rfl rfl rfl rfl).frameL [b] (by simp) ⟨hb, trivial⟩ rfl rfl rfl rfl rfl rfl rfl⟩
        cases h
      · cases h
    · cases h
  · cases h
theorem op2a_fp (b1 b2 : Int) (T : TypeId) (hg : (in8 b1 && in8 b2) = true) : fpOk (op2aT b1 b2 T) := by
  have h := op2a_tree b1 b2 T
  have hk := rm11_kind 242 15 42 b1 b2 T hg
  have hi := rm11_in 242 15 42 b1 b2 T
  rw [Bool.and_eq_true] at hg
  simp only [hg.1, hg.2, Bool.and_self, Bool.and_true, Bool.true_and, cond_true] at h
  obtain ⟨hk, he, n1, n2⟩ := hk
  rw [he] at h
  generalize ansI (rm11T 242 15 42 b1 b2 T) 7 = n at n1 n2 h
  have w1 : IntKind.wrap .i64 (3 + n) = 3 + n := wr_i64_id (by omega) (by omega)
  have w2 : IntKind.wrap .i64 (3 + n + 0) = 3 + n := by rw [Int.add_zero]; exact w1
  have w3 : decide (11 < 3 + n) = false := decide_eq_false (by omega)
  rw [w1, w2, w2, w3] at h
  generalize ansI (rm11T 242 15 42 b1 b2 T) 5 = y at hi h
  generalize ansI (rm11T 242 15 42 b1 b2 T) 0 = z at hk h
  rcases hk with rfl | rfl <;> (
    simp only [bne, beq_self_eq_true, show ((1 : Int) == 1) = true from rfl, show ((3 : Int) == 1) = false from rfl, show ((0 : Int) == 0) = true from rfl, Bool.not_true, Bool.not_false, cond_true, cond_false] at h
    rw [h]
    refine ⟨rfl, ?_, ?_, ?_⟩
    · first | exact hi | rfl
    · first | exact hi | rfl
    · rfl)
abbrev cCOpz4 (b1 b2 : Int) : List Sv := [vy 242, vy 15, vy 44, vy b1, vy b2, vy 0, vy 0, vy 0, vy 0, vy 0, vy 0]
noncomputable def op2cT (b1 b2 : Int) (T : TypeId) : Option (Sv × List SObj) := lockI b1 (evF Try.prog ΓRq 400 14 [.sl 0 0 11 11] [.cells (cCOpz4 b1 b2) T] (kTk 1) kNo)
theorem op2c_tree (b1 b2 : Int) (T : TypeId) : op2cT b1 b2 T = (bif in8 b1 && (in8 b2 && true) then
bif ansI (rm11T 242 15 44 b1 b2 T) 8 != 0 then
some
(Sv.tup
[Sv.agg
(cCOpz0 ),
vi ((ansI (rm11T 242 15 44 b1 b2 T) 8))],
[SObj.cells
[vy 242, vy 15, vy 44,
vy b1, vy b2, vy 0,
vy 0, vy 0, vy 0,
vy 0, vy 0]
T])
else
bif decide (11 < IntKind.wrap IntKind.i64 (IntKind.wrap IntKind.i64 (3 + ansI (rm11T 242 15 44 b1 b2 T) 7) + 0)) then
some
(Sv.tup
[Sv.agg
(cCOpz0 ),
vi 21],
[SObj.cells
[vy 242, vy 15, vy 44,
vy b1, vy b2, vy 0,
vy 0, vy 0, vy 0,
vy 0, vy 0]
T])
else
bif
decide
(11 <
IntKind.wrap IntKind.i64
(IntKind.wrap IntKind.i64 (IntKind.wrap IntKind.i64 (3 + ansI (rm11T 242 15 44 b1 b2 T) 7) + 0) + 0)) then
some
(Sv.tup
[Sv.agg
(cCOpz0 ),
vi 21],
[SObj.cells
[vy 242, vy 15, vy 44,
vy b1, vy b2, vy 0,
vy 0, vy 0, vy 0,
vy 0, vy 0]
T])
else
bif ansI (rm11T 242 15 44 b1 b2 T) 0 == 1 then
some
(Sv.tup
[Sv.agg
[vi 60, vi 0, vi 8,
vi 1, vi ((ansI (rm11T 242 15 44 b1 b2 T) 6)),
vi ((-1)), vi ((-1)), vi 1,
vw 0, vi 5,
vi ((ansI (rm11T 242 15 44 b1 b2 T) 1)), vi ((-1)),
vi ((-1)), vi 1, vw 0,
vw 0, vb false,
Sv.v
(Value.int IntKind.i64
(IntKind.wrap IntKind.i64
(IntKind.wrap IntKind.i64 (IntKind.wrap IntKind.i64 (3 + ansI (rm11T 242 15 44 b1 b2 T) 7) + 0) + 0)))],
vi 0],
[SObj.cells
[vy 242, vy 15, vy 44,
vy b1, vy b2, vy 0,
vy 0, vy 0, vy 0,
vy 0, vy 0]
T])
else
some
(Sv.tup
[Sv.agg
[vi 60, vi 0, vi 8,
vi 1, vi ((ansI (rm11T 242 15 44 b1 b2 T) 6)),
vi ((-1)), vi ((-1)), vi 1,
vw 0, vi ((ansI (rm11T 242 15 44 b1 b2 T) 0)),
vi ((ansI (rm11T 242 15 44 b1 b2 T) 1)),
vi ((ansI (rm11T 242 15 44 b1 b2 T) 2)),
vi ((ansI (rm11T 242 15 44 b1 b2 T) 3)),
vi ((ansI (rm11T 242 15 44 b1 b2 T) 4)),
vw ((ansI (rm11T 242 15 44 b1 b2 T) 5)), vw 0,
vb false,
Sv.v
(Value.int IntKind.i64
(IntKind.wrap IntKind.i64
(IntKind.wrap IntKind.i64 (IntKind.wrap IntKind.i64 (3 + ansI (rm11T 242 15 44 b1 b2 T) 7) + 0) + 0)))],
vi 0],
[SObj.cells
[vy 242, vy 15, vy 44,
vy b1, vy b2, vy 0,
vy 0, vy 0, vy 0,
vy 0, vy 0]
T])
else none) := (lockI_eq _ _).trans (by kernel_rfl)
noncomputable def op2cF (b1 b2 : Int) (T : TypeId) (X : Option (Sv × List SObj)) : Option (Sv × List SObj) := some (.tup [.agg [.v (.int .i64 (ansI (X) 0)), .v (.int .i64 (ansI (X) 1)), .v (.int .i64 (ansI (X) 2)), .v (.int .i64 (ansI (X) 3)), .v (.int .i64 (ansI (X) 4)), .v (.int .i64 (ansI (X) 5)), .v (.int .i64 (ansI (X) 6)), .v (.int .i64 (ansI (X) 7)), .v (.int .u32 (ansI (X) 8)), .v (.int .i64 (ansI (X) 9)), .v (.int .i64 (ansI (X) 10)), .v (.int .i64 (ansI (X) 11)), .v (.int .i64 (ansI (X) 12)), .v (.int .i64 (ansI (X) 13)), .v (.int .u32 (ansI (X) 14)), .v (.int .u32 (ansI (X) 15)), .v (.bool (ansB (X) 16)), .v (.int .i64 (ansI (X) 17))], .v (.int .i64 (ansI (X) 18))], [.cells (cCOpz4 b1 b2) T])
theorem op2c_is (b1 b2 : Int) (T : TypeId) (hg : (in8 b1 && in8 b2) = true) : op2cT b1 b2 T = op2cF b1 b2 T (op2cT b1 b2 T) := by
  have h := op2c_tree b1 b2 T
  rw [Bool.and_eq_true] at hg
  simp only [hg.1, hg.2, Bool.and_self, Bool.and_true, Bool.true_and, cond_true] at h
  rw [h]
  repeat' (first | exact rfl | refine ans_cond (F := op2cF b1 b2 T) ?_ ?_)
theorem op2c_ev (b1 b2 : Int) (T : TypeId) (hg : (in8 b1 && in8 b2) = true) : evF Try.prog ΓRq 400 14 [.sl 0 0 11 11] [.cells (cCOpz4 b1 b2) T] (kTk 1) kNo = some (.tup [.agg [.v (.int .i64 (ansI (op2cT b1 b2 T) 0)), .v (.int .i64 (ansI (op2cT b1 b2 T) 1)), .v (.int .i64 (ansI (op2cT b1 b2 T) 2)), .v (.int .i64 (ansI (op2cT b1 b2 T) 3)), .v (.int .i64 (ansI (op2cT b1 b2 T) 4)), .v (.int .i64 (ansI (op2cT b1 b2 T) 5)), .v (.int .i64 (ansI (op2cT b1 b2 T) 6)), .v (.int .i64 (ansI (op2cT b1 b2 T) 7)), .v (.int .u32 (ansI (op2cT b1 b2 T) 8)), .v (.int .i64 (ansI (op2cT b1 b2 T) 9)), .v (.int .i64 (ansI (op2cT b1 b2 T) 10)), .v (.int .i64 (ansI (op2cT b1 b2 T) 11)), .v (.int .i64 (ansI (op2cT b1 b2 T) 12)), .v (.int .i64 (ansI (op2cT b1 b2 T) 13)), .v (.int .u32 (ansI (op2cT b1 b2 T) 14)), .v (.int .u32 (ansI (op2cT b1 b2 T) 15)), .v (.bool (ansB (op2cT b1 b2 T) 16)), .v (.int .i64 (ansI (op2cT b1 b2 T) 17))], .v (.int .i64 (ansI (op2cT b1 b2 T) 18))], [.cells (cCOpz4 b1 b2) T]) := (lockI_eq _ _).symm.trans (op2c_is b1 b2 T hg)
noncomputable def op2cS : Ev.Spec := fun R args m k kp => match args with
  | [.sl b o n q] => (match m[b]? with
    | some (.cells cs T) => (match cs with
      | [.v (.int .u8 z0), .v (.int .u8 z1), .v (.int .u8 z2), .v (.int .u8 b1), .v (.int .u8 b2), .v (.int .u8 z5), .v (.int .u8 z6), .v (.int .u8 z7), .v (.int .u8 z8), .v (.int .u8 z9), .v (.int .u8 z10)] => bif Nat.beq o 0 && (Nat.beq n 11 && (Nat.beq q 11 && ((z0 == 242) && ((z1 == 15) && ((z2 == 44) && ((z5 == 0) && ((z6 == 0) && ((z7 == 0) && ((z8 == 0) && ((z9 == 0) && ((z10 == 0)))))))))))) then (bif in8 b1 && (in8 b2 && (true)) then k (.tup [.agg [.v (.int .i64 (ansI (op2cT b1 b2 T) 0)), .v (.int .i64 (ansI (op2cT b1 b2 T) 1)), .v (.int .i64 (ansI (op2cT b1 b2 T) 2)), .v (.int .i64 (ansI (op2cT b1 b2 T) 3)), .v (.int .i64 (ansI (op2cT b1 b2 T) 4)), .v (.int .i64 (ansI (op2cT b1 b2 T) 5)), .v (.int .i64 (ansI (op2cT b1 b2 T) 6)), .v (.int .i64 (ansI (op2cT b1 b2 T) 7)), .v (.int .u32 (ansI (op2cT b1 b2 T) 8)), .v (.int .i64 (ansI (op2cT b1 b2 T) 9)), .v (.int .i64 (ansI (op2cT b1 b2 T) 10)), .v (.int .i64 (ansI (op2cT b1 b2 T) 11)), .v (.int .i64 (ansI (op2cT b1 b2 T) 12)), .v (.int .i64 (ansI (op2cT b1 b2 T) 13)), .v (.int .u32 (ansI (op2cT b1 b2 T) 14)), .v (.int .u32 (ansI (op2cT b1 b2 T) 15)), .v (.bool (ansB (op2cT b1 b2 T) 16)), .v (.int .i64 (ansI (op2cT b1 b2 T) 17))], .v (.int .i64 (ansI (op2cT b1 b2 T) 18))]) ((m.set b (.cells [.v (.int .u8 242), .v (.int .u8 15), .v (.int .u8 44), .v (.int .u8 b1), .v (.int .u8 b2), .v (.int .u8 0), .v (.int .u8 0), .v (.int .u8 0), .v (.int .u8 0), .v (.int .u8 0), .v (.int .u8 0)] T)) ++ []) else none) else none
      | _ => none)
    | _ => none)
  | _ => none
set_option maxHeartbeats 4000000 in
theorem op2cS_ok : SpecOk Try.prog XM 14 op2cS := by
  intro R args m k kp r h
  unfold op2cS at h
  split at h
  · rename_i _ b o n q
    split at h
    · rename_i _ cs T hb
      split at h
      · rename_i _ z0 z1 z2 b1 b2 z5 z6 z7 z8 z9 z10
        obtain ⟨hg, h5⟩ := cond_some h
        clear h
        rename _ = some r => h
        simp only [Bool.and_eq_true, Bool.not_eq_true', beq_iff_eq] at hg
        obtain ⟨g3, g4, g5, rfl, rfl, rfl, rfl, rfl, rfl, rfl, rfl, rfl⟩ := hg
        have g3 := Nat.eq_of_beq_eq_true g3
        have g4 := Nat.eq_of_beq_eq_true g4
        have g5 := Nat.eq_of_beq_eq_true g5
        subst g3 g4 g5
        rcases cond_two h with ⟨hq, h5⟩ | ⟨hq, h5⟩ <;> clear h <;> rename _ = some r => h
        · simp only [Bool.and_eq_true, beq_iff_eq] at hq
          obtain ⟨e0, e1, _⟩ := hq
          exact .inl ⟨_, _, h, (callR_evT ΓRq_ok (by kernel_rfl) (op2c_ev b1 b2 T (by rw [e0, e1]; rfl)) rfl rfl rfl rfl).frameL [b] (by simp) ⟨hb, trivial⟩ rfl rfl rfl rfl rfl rfl rfl⟩
        cases h
      · cases h
    · cases h
  · cases h
theorem op2c_fp (b1 b2 : Int) (T : TypeId) (hg : (in8 b1 && in8 b2) = true) : fpOk (op2cT b1 b2 T) := by
  have h := op2c_tree b1 b2 T
  have hk := rm11_kind 242 15 44 b1 b2 T hg
  have hi := rm11_in 242 15 44 b1 b2 T
  rw [Bool.and_eq_true] at hg
  simp only [hg.1, hg.2, Bool.and_self, Bool.and_true, Bool.true_and, cond_true] at h
  obtain ⟨hk, he, n1, n2⟩ := hk
  rw [he] at h
  generalize ansI (rm11T 242 15 44 b1 b2 T) 7 = n at n1 n2 h
  have w1 : IntKind.wrap .i64 (3 + n) = 3 + n := wr_i64_id (by omega) (by omega)
  have w2 : IntKind.wrap .i64 (3 + n + 0) = 3 + n := by rw [Int.add_zero]; exact w1
  have w3 : decide (11 < 3 + n) = false := decide_eq_false (by omega)
  rw [w1, w2, w2, w3] at h
  generalize ansI (rm11T 242 15 44 b1 b2 T) 5 = y at hi h
  generalize ansI (rm11T 242 15 44 b1 b2 T) 0 = z at hk h
  rcases hk with rfl | rfl <;> (
    simp only [bne, beq_self_eq_true, show ((1 : Int) == 1) = true from rfl, show ((3 : Int) == 1) = false from rfl, show ((0 : Int) == 0) = true from rfl, Bool.not_true, Bool.not_false, cond_true, cond_false] at h
    rw [h]
    refine ⟨rfl, ?_, ?_, ?_⟩
    · first | exact hi | rfl
    · first | exact hi | rfl
    · rfl)
abbrev cCOpz5 (b1 b2 : Int) : List Sv := [vy 242, vy 15, vy 81, vy b1, vy b2, vy 0, vy 0, vy 0, vy 0, vy 0, vy 0]
noncomputable def op51T (b1 b2 : Int) (T : TypeId) : Option (Sv × List SObj) := lockI b1 (evF Try.prog ΓRq 400 14 [.sl 0 0 11 11] [.cells (cCOpz5 b1 b2) T] (kTk 1) kNo)
theorem op51_tree (b1 b2 : Int) (T : TypeId) : op51T b1 b2 T = (bif in8 b1 && (in8 b2 && true) then
bif ansI (rm11T 242 15 81 b1 b2 T) 8 != 0 then
some
(Sv.tup
[Sv.agg
(cCOpz0 ),
vi ((ansI (rm11T 242 15 81 b1 b2 T) 8))],
[SObj.cells
[vy 242, vy 15, vy 81,
vy b1, vy b2, vy 0,
vy 0, vy 0, vy 0,
vy 0, vy 0]
T])
else
bif decide (11 < IntKind.wrap IntKind.i64 (IntKind.wrap IntKind.i64 (3 + ansI (rm11T 242 15 81 b1 b2 T) 7) + 0)) then
some
(Sv.tup
[Sv.agg
(cCOpz0 ),
vi 21],
[SObj.cells
[vy 242, vy 15, vy 81,
vy b1, vy b2, vy 0,
vy 0, vy 0, vy 0,
vy 0, vy 0]
T])
else
bif
decide
(11 <
IntKind.wrap IntKind.i64
(IntKind.wrap IntKind.i64 (IntKind.wrap IntKind.i64 (3 + ansI (rm11T 242 15 81 b1 b2 T) 7) + 0) + 0)) then
some
(Sv.tup
[Sv.agg
(cCOpz0 ),
vi 21],
[SObj.cells
[vy 242, vy 15, vy 81,
vy b1, vy b2, vy 0,
vy 0, vy 0, vy 0,
vy 0, vy 0]
T])
else
bif ansI (rm11T 242 15 81 b1 b2 T) 0 == 1 then
some
(Sv.tup
[Sv.agg
[vi 58, vi 0, vi 8,
vi 5, vi ((ansI (rm11T 242 15 81 b1 b2 T) 6)),
vi ((-1)), vi ((-1)), vi 1,
vw 0, vi 5,
vi ((ansI (rm11T 242 15 81 b1 b2 T) 1)), vi ((-1)),
vi ((-1)), vi 1, vw 0,
vw 0, vb false,
Sv.v
(Value.int IntKind.i64
(IntKind.wrap IntKind.i64
(IntKind.wrap IntKind.i64 (IntKind.wrap IntKind.i64 (3 + ansI (rm11T 242 15 81 b1 b2 T) 7) + 0) + 0)))],
vi 0],
[SObj.cells
[vy 242, vy 15, vy 81,
vy b1, vy b2, vy 0,
vy 0, vy 0, vy 0,
vy 0, vy 0]
T])
else
some
(Sv.tup
[Sv.agg
[vi 58, vi 0, vi 8,
vi 5, vi ((ansI (rm11T 242 15 81 b1 b2 T) 6)),
vi ((-1)), vi ((-1)), vi 1,
vw 0, vi ((ansI (rm11T 242 15 81 b1 b2 T) 0)),
vi ((ansI (rm11T 242 15 81 b1 b2 T) 1)),
vi ((ansI (rm11T 242 15 81 b1 b2 T) 2)),
vi ((ansI (rm11T 242 15 81 b1 b2 T) 3)),
vi ((ansI (rm11T 242 15 81 b1 b2 T) 4)),
vw ((ansI (rm11T 242 15 81 b1 b2 T) 5)), vw 0,
vb false,
Sv.v
(Value.int IntKind.i64
(IntKind.wrap IntKind.i64
(IntKind.wrap IntKind.i64 (IntKind.wrap IntKind.i64 (3 + ansI (rm11T 242 15 81 b1 b2 T) 7) + 0) + 0)))],
vi 0],
[SObj.cells
[vy 242, vy 15, vy 81,
vy b1, vy b2, vy 0,
vy 0, vy 0, vy 0,
vy 0, vy 0]
T])
else none) := (lockI_eq _ _).trans (by kernel_rfl)
noncomputable def op51F (b1 b2 : Int) (T : TypeId) (X : Option (Sv × List SObj)) : Option (Sv × List SObj) := some (.tup [.agg [.v (.int .i64 (ansI (X) 0)), .v (.int .i64 (ansI (X) 1)), .v (.int .i64 (ansI (X) 2)), .v (.int .i64 (ansI (X) 3)), .v (.int .i64 (ansI (X) 4)), .v (.int .i64 (ansI (X) 5)), .v (.int .i64 (ansI (X) 6)), .v (.int .i64 (ansI (X) 7)), .v (.int .u32 (ansI (X) 8)), .v (.int .i64 (ansI (X) 9)), .v (.int .i64 (ansI (X) 10)), .v (.int .i64 (ansI (X) 11)), .v (.int .i64 (ansI (X) 12)), .v (.int .i64 (ansI (X) 13)), .v (.int .u32 (ansI (X) 14)), .v (.int .u32 (ansI (X) 15)), .v (.bool (ansB (X) 16)), .v (.int .i64 (ansI (X) 17))], .v (.int .i64 (ansI (X) 18))], [.cells (cCOpz5 b1 b2) T])
theorem op51_is (b1 b2 : Int) (T : TypeId) (hg : (in8 b1 && in8 b2) = true) : op51T b1 b2 T = op51F b1 b2 T (op51T b1 b2 T) := by
  have h := op51_tree b1 b2 T
  rw [Bool.and_eq_true] at hg
  simp only [hg.1, hg.2, Bool.and_self, Bool.and_true, Bool.true_and, cond_true] at h
  rw [h]
  repeat' (first | exact rfl | refine ans_cond (F := op51F b1 b2 T) ?_ ?_)
theorem op51_ev (b1 b2 : Int) (T : TypeId) (hg : (in8 b1 && in8 b2) = true) : evF Try.prog ΓRq 400 14 [.sl 0 0 11 11] [.cells (cCOpz5 b1 b2) T] (kTk 1) kNo = some (.tup [.agg [.v (.int .i64 (ansI (op51T b1 b2 T) 0)), .v (.int .i64 (ansI (op51T b1 b2 T) 1)), .v (.int .i64 (ansI (op51T b1 b2 T) 2)), .v (.int .i64 (ansI (op51T b1 b2 T) 3)), .v (.int .i64 (ansI (op51T b1 b2 T) 4)), .v (.int .i64 (ansI (op51T b1 b2 T) 5)), .v (.int .i64 (ansI (op51T b1 b2 T) 6)), .v (.int .i64 (ansI (op51T b1 b2 T) 7)), .v (.int .u32 (ansI (op51T b1 b2 T) 8)), .v (.int .i64 (ansI (op51T b1 b2 T) 9)), .v (.int .i64 (ansI (op51T b1 b2 T) 10)), .v (.int .i64 (ansI (op51T b1 b2 T) 11)), .v (.int .i64 (ansI (op51T b1 b2 T) 12)), .v (.int .i64 (ansI (op51T b1 b2 T) 13)), .v (.int .u32 (ansI (op51T b1 b2 T) 14)), .v (.int .u32 (ansI (op51T b1 b2 T) 15)), .v (.bool (ansB (op51T b1 b2 T) 16)), .v (.int .i64 (ansI (op51T b1 b2 T) 17))], .v (.int .i64 (ansI (op51T b1 b2 T) 18))], [.cells (cCOpz5 b1 b2) T]) := (lockI_eq _ _).symm.trans (op51_is b1 b2 T hg)
noncomputable def op51S : Ev.Spec := fun R args m k kp => match args with
  | [.sl b o n q] => (match m[b]? with
    | some (.cells cs T) => (match cs with
      | [.v (.int .u8 z0), .v (.int .u8 z1), .v (.int .u8 z2), .v (.int .u8 b1), .v (.int .u8 b2), .v (.int .u8 z5), .v (.int .u8 z6), .v (.int .u8 z7), .v (.int .u8 z8), .v (.int .u8 z9), .v (.int .u8 z10)] => bif Nat.beq o 0 && (Nat.beq n 11 && (Nat.beq q 11 && ((z0 == 242) && ((z1 == 15) && ((z2 == 81) && ((z5 == 0) && ((z6 == 0) && ((z7 == 0) && ((z8 == 0) && ((z9 == 0) && ((z10 == 0)))))))))))) then (bif in8 b1 && (in8 b2 && (true)) then k (.tup [.agg [.v (.int .i64 (ansI (op51T b1 b2 T) 0)), .v (.int .i64 (ansI (op51T b1 b2 T) 1)), .v (.int .i64 (ansI (op51T b1 b2 T) 2)), .v (.int .i64 (ansI (op51T b1 b2 T) 3)), .v (.int .i64 (ansI (op51T b1 b2 T) 4)), .v (.int .i64 (ansI (op51T b1 b2 T) 5)), .v (.int .i64 (ansI (op51T b1 b2 T) 6)), .v (.int .i64 (ansI (op51T b1 b2 T) 7)), .v (.int .u32 (ansI (op51T b1 b2 T) 8)), .v (.int .i64 (ansI (op51T b1 b2 T) 9)), .v (.int .i64 (ansI (op51T b1 b2 T) 10)), .v (.int .i64 (ansI (op51T b1 b2 T) 11)), .v (.int .i64 (ansI (op51T b1 b2 T) 12)), .v (.int .i64 (ansI (op51T b1 b2 T) 13)), .v (.int .u32 (ansI (op51T b1 b2 T) 14)), .v (.int .u32 (ansI (op51T b1 b2 T) 15)), .v (.bool (ansB (op51T b1 b2 T) 16)), .v (.int .i64 (ansI (op51T b1 b2 T) 17))], .v (.int .i64 (ansI (op51T b1 b2 T) 18))]) ((m.set b (.cells [.v (.int .u8 242), .v (.int .u8 15), .v (.int .u8 81), .v (.int .u8 b1), .v (.int .u8 b2), .v (.int .u8 0), .v (.int .u8 0), .v (.int .u8 0), .v (.int .u8 0), .v (.int .u8 0), .v (.int .u8 0)] T)) ++ []) else none) else none
      | _ => none)
    | _ => none)
  | _ => none
set_option maxHeartbeats 4000000 in
theorem op51S_ok : SpecOk Try.prog XM 14 op51S := by
  intro R args m k kp r h
  unfold op51S at h
  split at h
  · rename_i _ b o n q
    split at h
    · rename_i _ cs T hb
      split at h
      · rename_i _ z0 z1 z2 b1 b2 z5 z6 z7 z8 z9 z10
        obtain ⟨hg, h5⟩ := cond_some h
        clear h
        rename _ = some r => h
        simp only [Bool.and_eq_true, Bool.not_eq_true', beq_iff_eq] at hg
        obtain ⟨g3, g4, g5, rfl, rfl, rfl, rfl, rfl, rfl, rfl, rfl, rfl⟩ := hg
        have g3 := Nat.eq_of_beq_eq_true g3
        have g4 := Nat.eq_of_beq_eq_true g4
        have g5 := Nat.eq_of_beq_eq_true g5
        subst g3 g4 g5
        rcases cond_two h with ⟨hq, h5⟩ | ⟨hq, h5⟩ <;> clear h <;> rename _ = some r => h
        · simp only [Bool.and_eq_true, beq_iff_eq] at hq
          obtain ⟨e0, e1, _⟩ := hq
          exact .inl ⟨_, _, h, (callR_evT ΓRq_ok (by kernel_rfl) (op51_ev b1 b2 T (by rw [e0, e1]; rfl)) rfl rfl rfl rfl).frameL [b] (by simp) ⟨hb, trivial⟩ rfl rfl rfl rfl rfl rfl rfl⟩
        cases h
      · cases h
    · cases h
  · cases h
theorem op51_fp (b1 b2 : Int) (T : TypeId) (hg : (in8 b1 && in8 b2) = true) : fpOk (op51T b1 b2 T) := by
  have h := op51_tree b1 b2 T
  have hk := rm11_kind 242 15 81 b1 b2 T hg
  have hi := rm11_in 242 15 81 b1 b2 T
  rw [Bool.and_eq_true] at hg
  simp only [hg.1, hg.2, Bool.and_self, Bool.and_true, Bool.true_and, cond_true] at h
  obtain ⟨hk, he, n1, n2⟩ := hk
  rw [he] at h
  generalize ansI (rm11T 242 15 81 b1 b2 T) 7 = n at n1 n2 h
  have w1 : IntKind.wrap .i64 (3 + n) = 3 + n := wr_i64_id (by omega) (by omega)
  have w2 : IntKind.wrap .i64 (3 + n + 0) = 3 + n := by rw [Int.add_zero]; exact w1
  have w3 : decide (11 < 3 + n) = false := decide_eq_false (by omega)
  rw [w1, w2, w2, w3] at h
  generalize ansI (rm11T 242 15 81 b1 b2 T) 5 = y at hi h
  generalize ansI (rm11T 242 15 81 b1 b2 T) 0 = z at hk h
  rcases hk with rfl | rfl <;> (
    simp only [bne, beq_self_eq_true, show ((1 : Int) == 1) = true from rfl, show ((3 : Int) == 1) = false from rfl, show ((0 : Int) == 0) = true from rfl, Bool.not_true, Bool.not_false, cond_true, cond_false] at h
    rw [h]
    refine ⟨rfl, ?_, ?_, ?_⟩
    · first | exact hi | rfl
    · first | exact hi | rfl
    · rfl)
abbrev cCOpz6 (b1 b2 : Int) : List Sv := [vy 242, vy 15, vy 88, vy b1, vy b2, vy 0, vy 0, vy 0, vy 0, vy 0, vy 0]
noncomputable def op58T (b1 b2 : Int) (T : TypeId) : Option (Sv × List SObj) := lockI b1 (evF Try.prog ΓRq 400 14 [.sl 0 0 11 11] [.cells (cCOpz6 b1 b2) T] (kTk 1) kNo)
theorem op58_tree (b1 b2 : Int) (T : TypeId) : op58T b1 b2 T = (bif in8 b1 && (in8 b2 && true) then
bif ansI (rm11T 242 15 88 b1 b2 T) 8 != 0 then
some
(Sv.tup
[Sv.agg
(cCOpz0 ),
vi ((ansI (rm11T 242 15 88 b1 b2 T) 8))],
[SObj.cells
[vy 242, vy 15, vy 88,
vy b1, vy b2, vy 0,
vy 0, vy 0, vy 0,
vy 0, vy 0]
T])
else
bif decide (11 < IntKind.wrap IntKind.i64 (IntKind.wrap IntKind.i64 (3 + ansI (rm11T 242 15 88 b1 b2 T) 7) + 0)) then
some
(Sv.tup
[Sv.agg
(cCOpz0 ),
vi 21],
[SObj.cells
[vy 242, vy 15, vy 88,
vy b1, vy b2, vy 0,
vy 0, vy 0, vy 0,
vy 0, vy 0]
T])
else
bif
decide
(11 <
IntKind.wrap IntKind.i64
(IntKind.wrap IntKind.i64 (IntKind.wrap IntKind.i64 (3 + ansI (rm11T 242 15 88 b1 b2 T) 7) + 0) + 0)) then
some
(Sv.tup
[Sv.agg
(cCOpz0 ),
vi 21],
[SObj.cells
[vy 242, vy 15, vy 88,
vy b1, vy b2, vy 0,
vy 0, vy 0, vy 0,
vy 0, vy 0]
T])
else
bif ansI (rm11T 242 15 88 b1 b2 T) 0 == 1 then
some
(Sv.tup
[Sv.agg
[vi 52, vi 0, vi 8,
vi 5, vi ((ansI (rm11T 242 15 88 b1 b2 T) 6)),
vi ((-1)), vi ((-1)), vi 1,
vw 0, vi 5,
vi ((ansI (rm11T 242 15 88 b1 b2 T) 1)), vi ((-1)),
vi ((-1)), vi 1, vw 0,
vw 0, vb false,
Sv.v
(Value.int IntKind.i64
(IntKind.wrap IntKind.i64
(IntKind.wrap IntKind.i64 (IntKind.wrap IntKind.i64 (3 + ansI (rm11T 242 15 88 b1 b2 T) 7) + 0) + 0)))],
vi 0],
[SObj.cells
[vy 242, vy 15, vy 88,
vy b1, vy b2, vy 0,
vy 0, vy 0, vy 0,
vy 0, vy 0]
T])
else
some
(Sv.tup
[Sv.agg
[vi 52, vi 0, vi 8,
vi 5, vi ((ansI (rm11T 242 15 88 b1 b2 T) 6)),
vi ((-1)), vi ((-1)), vi 1,
vw 0, vi ((ansI (rm11T 242 15 88 b1 b2 T) 0)),
vi ((ansI (rm11T 242 15 88 b1 b2 T) 1)),
vi ((ansI (rm11T 242 15 88 b1 b2 T) 2)),
vi ((ansI (rm11T 242 15 88 b1 b2 T) 3)),
vi ((ansI (rm11T 242 15 88 b1 b2 T) 4)),
vw ((ansI (rm11T 242 15 88 b1 b2 T) 5)), vw 0,
vb false,
Sv.v
(Value.int IntKind.i64
(IntKind.wrap IntKind.i64
(IntKind.wrap IntKind.i64 (IntKind.wrap IntKind.i64 (3 + ansI (rm11T 242 15 88 b1 b2 T) 7) + 0) + 0)))],
vi 0],
[SObj.cells
[vy 242, vy 15, vy 88,
vy b1, vy b2, vy 0,
vy 0, vy 0, vy 0,
vy 0, vy 0]
T])
else none) := (lockI_eq _ _).trans (by kernel_rfl)
noncomputable def op58F (b1 b2 : Int) (T : TypeId) (X : Option (Sv × List SObj)) : Option (Sv × List SObj) := some (.tup [.agg [.v (.int .i64 (ansI (X) 0)), .v (.int .i64 (ansI (X) 1)), .v (.int .i64 (ansI (X) 2)), .v (.int .i64 (ansI (X) 3)), .v (.int .i64 (ansI (X) 4)), .v (.int .i64 (ansI (X) 5)), .v (.int .i64 (ansI (X) 6)), .v (.int .i64 (ansI (X) 7)), .v (.int .u32 (ansI (X) 8)), .v (.int .i64 (ansI (X) 9)), .v (.int .i64 (ansI (X) 10)), .v (.int .i64 (ansI (X) 11)), .v (.int .i64 (ansI (X) 12)), .v (.int .i64 (ansI (X) 13)), .v (.int .u32 (ansI (X) 14)), .v (.int .u32 (ansI (X) 15)), .v (.bool (ansB (X) 16)), .v (.int .i64 (ansI (X) 17))], .v (.int .i64 (ansI (X) 18))], [.cells (cCOpz6 b1 b2) T])
theorem op58_is (b1 b2 : Int) (T : TypeId) (hg : (in8 b1 && in8 b2) = true) : op58T b1 b2 T = op58F b1 b2 T (op58T b1 b2 T) := by
  have h := op58_tree b1 b2 T
  rw [Bool.and_eq_true] at hg
  simp only [hg.1, hg.2, Bool.and_self, Bool.and_true, Bool.true_and, cond_true] at h
  rw [h]
  repeat' (first | exact rfl | refine ans_cond (F := op58F b1 b2 T) ?_ ?_)
theorem op58_ev (b1 b2 : Int) (T : TypeId) (hg : (in8 b1 && in8 b2) = true) : evF Try.prog ΓRq 400 14 [.sl 0 0 11 11] [.cells (cCOpz6 b1 b2) T] (kTk 1) kNo = some (.tup [.agg [.v (.int .i64 (ansI (op58T b1 b2 T) 0)), .v (.int .i64 (ansI (op58T b1 b2 T) 1)), .v (.int .i64 (ansI (op58T b1 b2 T) 2)), .v (.int .i64 (ansI (op58T b1 b2 T) 3)), .v (.int .i64 (ansI (op58T b1 b2 T) 4)), .v (.int .i64 (ansI (op58T b1 b2 T) 5)), .v (.int .i64 (ansI (op58T b1 b2 T) 6)), .v (.int .i64 (ansI (op58T b1 b2 T) 7)), .v (.int .u32 (ansI (op58T b1 b2 T) 8)), .v (.int .i64 (ansI (op58T b1 b2 T) 9)), .v (.int .i64 (ansI (op58T b1 b2 T) 10)), .v (.int .i64 (ansI (op58T b1 b2 T) 11)), .v (.int .i64 (ansI (op58T b1 b2 T) 12)), .v (.int .i64 (ansI (op58T b1 b2 T) 13)), .v (.int .u32 (ansI (op58T b1 b2 T) 14)), .v (.int .u32 (ansI (op58T b1 b2 T) 15)), .v (.bool (ansB (op58T b1 b2 T) 16)), .v (.int .i64 (ansI (op58T b1 b2 T) 17))], .v (.int .i64 (ansI (op58T b1 b2 T) 18))], [.cells (cCOpz6 b1 b2) T]) := (lockI_eq _ _).symm.trans (op58_is b1 b2 T hg)
noncomputable def op58S : Ev.Spec := fun R args m k kp => match args with
  | [.sl b o n q] => (match m[b]? with
    | some (.cells cs T) => (match cs with
      | [.v (.int .u8 z0), .v (.int .u8 z1), .v (.int .u8 z2), .v (.int .u8 b1), .v (.int .u8 b2), .v (.int .u8 z5), .v (.int .u8 z6), .v (.int .u8 z7), .v (.int .u8 z8), .v (.int .u8 z9), .v (.int .u8 z10)] => bif Nat.beq o 0 && (Nat.beq n 11 && (Nat.beq q 11 && ((z0 == 242) && ((z1 == 15) && ((z2 == 88) && ((z5 == 0) && ((z6 == 0) && ((z7 == 0) && ((z8 == 0) && ((z9 == 0) && ((z10 == 0)))))))))))) then (bif in8 b1 && (in8 b2 && (true)) then k (.tup [.agg [.v (.int .i64 (ansI (op58T b1 b2 T) 0)), .v (.int .i64 (ansI (op58T b1 b2 T) 1)), .v (.int .i64 (ansI (op58T b1 b2 T) 2)), .v (.int .i64 (ansI (op58T b1 b2 T) 3)), .v (.int .i64 (ansI (op58T b1 b2 T) 4)), .v (.int .i64 (ansI (op58T b1 b2 T) 5)), .v (.int .i64 (ansI (op58T b1 b2 T) 6)), .v (.int .i64 (ansI (op58T b1 b2 T) 7)), .v (.int .u32 (ansI (op58T b1 b2 T) 8)), .v (.int .i64 (ansI (op58T b1 b2 T) 9)), .v (.int .i64 (ansI (op58T b1 b2 T) 10)), .v (.int .i64 (ansI (op58T b1 b2 T) 11)), .v (.int .i64 (ansI (op58T b1 b2 T) 12)), .v (.int .i64 (ansI (op58T b1 b2 T) 13)), .v (.int .u32 (ansI (op58T b1 b2 T) 14)), .v (.int .u32 (ansI (op58T b1 b2 T) 15)), .v (.bool (ansB (op58T b1 b2 T) 16)), .v (.int .i64 (ansI (op58T b1 b2 T) 17))], .v (.int .i64 (ansI (op58T b1 b2 T) 18))]) ((m.set b (.cells [.v (.int .u8 242), .v (.int .u8 15), .v (.int .u8 88), .v (.int .u8 b1), .v (.int .u8 b2), .v (.int .u8 0), .v (.int .u8 0), .v (.int .u8 0), .v (.int .u8 0), .v (.int .u8 0), .v (.int .u8 0)] T)) ++ []) else none) else none
      | _ => none)
    | _ => none)
  | _ => none
set_option maxHeartbeats 4000000 in
theorem op58S_ok : SpecOk Try.prog XM 14 op58S := by
  intro R args m k kp r h
  unfold op58S at h
  split at h
  · rename_i _ b o n q
    split at h
    · rename_i _ cs T hb
      split at h
      · rename_i _ z0 z1 z2 b1 b2 z5 z6 z7 z8 z9 z10
        obtain ⟨hg, h5⟩ := cond_some h
        clear h
        rename _ = some r => h
        simp only [Bool.and_eq_true, Bool.not_eq_true', beq_iff_eq] at hg
        obtain ⟨g3, g4, g5, rfl, rfl, rfl, rfl, rfl, rfl, rfl, rfl, rfl⟩ := hg
        have g3 := Nat.eq_of_beq_eq_true g3
        have g4 := Nat.eq_of_beq_eq_true g4
        have g5 := Nat.eq_of_beq_eq_true g5
        subst g3 g4 g5
        rcases cond_two h with ⟨hq, h5⟩ | ⟨hq, h5⟩ <;> clear h <;> rename _ = some r => h
        · simp only [Bool.and_eq_true, beq_iff_eq] at hq
          obtain ⟨e0, e1, _⟩ := hq
          exact .inl ⟨_, _, h, (callR_evT ΓRq_ok (by kernel_rfl) (op58_ev b1 b2 T (by rw [e0, e1]; rfl)) rfl rfl rfl rfl).frameL [b] (by simp) ⟨hb, trivial⟩ rfl rfl rfl rfl rfl rfl rfl⟩
        cases h
      · cases h
    · cases h
  · cases h
theorem op58_fp (b1 b2 : Int) (T : TypeId) (hg : (in8 b1 && in8 b2) = true) : fpOk (op58T b1 b2 T) := by
  have h := op58_tree b1 b2 T
  have hk := rm11_kind 242 15 88 b1 b2 T hg
  have hi := rm11_in 242 15 88 b1 b2 T
  rw [Bool.and_eq_true] at hg
  simp only [hg.1, hg.2, Bool.and_self, Bool.and_true, Bool.true_and, cond_true] at h
  obtain ⟨hk, he, n1, n2⟩ := hk
  rw [he] at h
  generalize ansI (rm11T 242 15 88 b1 b2 T) 7 = n at n1 n2 h
  have w1 : IntKind.wrap .i64 (3 + n) = 3 + n := wr_i64_id (by omega) (by omega)
  have w2 : IntKind.wrap .i64 (3 + n + 0) = 3 + n := by rw [Int.add_zero]; exact w1
  have w3 : decide (11 < 3 + n) = false := decide_eq_false (by omega)
  rw [w1, w2, w2, w3] at h
  generalize ansI (rm11T 242 15 88 b1 b2 T) 5 = y at hi h
  generalize ansI (rm11T 242 15 88 b1 b2 T) 0 = z at hk h
  rcases hk with rfl | rfl <;> (
    simp only [bne, beq_self_eq_true, show ((1 : Int) == 1) = true from rfl, show ((3 : Int) == 1) = false from rfl, show ((0 : Int) == 0) = true from rfl, Bool.not_true, Bool.not_false, cond_true, cond_false] at h
    rw [h]
    refine ⟨rfl, ?_, ?_, ?_⟩
    · first | exact hi | rfl
    · first | exact hi | rfl
    · rfl)
abbrev cCOpz7 (b1 b2 : Int) : List Sv := [vy 242, vy 15, vy 89, vy b1, vy b2, vy 0, vy 0, vy 0, vy 0, vy 0, vy 0]
noncomputable def op59T (b1 b2 : Int) (T : TypeId) : Option (Sv × List SObj) := lockI b1 (evF Try.prog ΓRq 400 14 [.sl 0 0 11 11] [.cells (cCOpz7 b1 b2) T] (kTk 1) kNo)
theorem op59_tree (b1 b2 : Int) (T : TypeId) : op59T b1 b2 T = (bif in8 b1 && (in8 b2 && true) then
bif ansI (rm11T 242 15 89 b1 b2 T) 8 != 0 then
some
(Sv.tup
[Sv.agg
(cCOpz0 ),
vi ((ansI (rm11T 242 15 89 b1 b2 T) 8))],
[SObj.cells
[vy 242, vy 15, vy 89,
vy b1, vy b2, vy 0,
vy 0, vy 0, vy 0,
vy 0, vy 0]
T])
else
bif decide (11 < IntKind.wrap IntKind.i64 (IntKind.wrap IntKind.i64 (3 + ansI (rm11T 242 15 89 b1 b2 T) 7) + 0)) then
some
(Sv.tup
[Sv.agg
(cCOpz0 ),
vi 21],
[SObj.cells
[vy 242, vy 15, vy 89,
vy b1, vy b2, vy 0,
vy 0, vy 0, vy 0,
vy 0, vy 0]
T])
else
bif
decide
(11 <
IntKind.wrap IntKind.i64
(IntKind.wrap IntKind.i64 (IntKind.wrap IntKind.i64 (3 + ansI (rm11T 242 15 89 b1 b2 T) 7) + 0) + 0)) then
some
(Sv.tup
[Sv.agg
(cCOpz0 ),
vi 21],
[SObj.cells
[vy 242, vy 15, vy 89,
vy b1, vy b2, vy 0,
vy 0, vy 0, vy 0,
vy 0, vy 0]
T])
else
bif ansI (rm11T 242 15 89 b1 b2 T) 0 == 1 then
some
(Sv.tup
[Sv.agg
[vi 53, vi 0, vi 8,
vi 5, vi ((ansI (rm11T 242 15 89 b1 b2 T) 6)),
vi ((-1)), vi ((-1)), vi 1,
vw 0, vi 5,
vi ((ansI (rm11T 242 15 89 b1 b2 T) 1)), vi ((-1)),
vi ((-1)), vi 1, vw 0,
vw 0, vb false,
Sv.v
(Value.int IntKind.i64
(IntKind.wrap IntKind.i64
(IntKind.wrap IntKind.i64 (IntKind.wrap IntKind.i64 (3 + ansI (rm11T 242 15 89 b1 b2 T) 7) + 0) + 0)))],
vi 0],
[SObj.cells
[vy 242, vy 15, vy 89,
vy b1, vy b2, vy 0,
vy 0, vy 0, vy 0,
vy 0, vy 0]
T])
else
some
(Sv.tup
[Sv.agg
[vi 53, vi 0, vi 8,
vi 5, vi ((ansI (rm11T 242 15 89 b1 b2 T) 6)),
vi ((-1)), vi ((-1)), vi 1,
vw 0, vi ((ansI (rm11T 242 15 89 b1 b2 T) 0)),
vi ((ansI (rm11T 242 15 89 b1 b2 T) 1)),
vi ((ansI (rm11T 242 15 89 b1 b2 T) 2)),
vi ((ansI (rm11T 242 15 89 b1 b2 T) 3)),
vi ((ansI (rm11T 242 15 89 b1 b2 T) 4)),
vw ((ansI (rm11T 242 15 89 b1 b2 T) 5)), vw 0,
vb false,
Sv.v
(Value.int IntKind.i64
(IntKind.wrap IntKind.i64
(IntKind.wrap IntKind.i64 (IntKind.wrap IntKind.i64 (3 + ansI (rm11T 242 15 89 b1 b2 T) 7) + 0) + 0)))],
vi 0],
[SObj.cells
[vy 242, vy 15, vy 89,
vy b1, vy b2, vy 0,
vy 0, vy 0, vy 0,
vy 0, vy 0]
T])
else none) := (lockI_eq _ _).trans (by kernel_rfl)
noncomputable def op59F (b1 b2 : Int) (T : TypeId) (X : Option (Sv × List SObj)) : Option (Sv × List SObj) := some (.tup [.agg [.v (.int .i64 (ansI (X) 0)), .v (.int .i64 (ansI (X) 1)), .v (.int .i64 (ansI (X) 2)), .v (.int .i64 (ansI (X) 3)), .v (.int .i64 (ansI (X) 4)), .v (.int .i64 (ansI (X) 5)), .v (.int .i64 (ansI (X) 6)), .v (.int .i64 (ansI (X) 7)), .v (.int .u32 (ansI (X) 8)), .v (.int .i64 (ansI (X) 9)), .v (.int .i64 (ansI (X) 10)), .v (.int .i64 (ansI (X) 11)), .v (.int .i64 (ansI (X) 12)), .v (.int .i64 (ansI (X) 13)), .v (.int .u32 (ansI (X) 14)), .v (.int .u32 (ansI (X) 15)), .v (.bool (ansB (X) 16)), .v (.int .i64 (ansI (X) 17))], .v (.int .i64 (ansI (X) 18))], [.cells (cCOpz7 b1 b2) T])
theorem op59_is (b1 b2 : Int) (T : TypeId) (hg : (in8 b1 && in8 b2) = true) : op59T b1 b2 T = op59F b1 b2 T (op59T b1 b2 T) := by
  have h := op59_tree b1 b2 T
  rw [Bool.and_eq_true] at hg
  simp only [hg.1, hg.2, Bool.and_self, Bool.and_true, Bool.true_and, cond_true] at h
  rw [h]
  repeat' (first | exact rfl | refine ans_cond (F := op59F b1 b2 T) ?_ ?_)
theorem op59_ev (b1 b2 : Int) (T : TypeId) (hg : (in8 b1 && in8 b2) = true) : evF Try.prog ΓRq 400 14 [.sl 0 0 11 11] [.cells (cCOpz7 b1 b2) T] (kTk 1) kNo = some (.tup [.agg [.v (.int .i64 (ansI (op59T b1 b2 T) 0)), .v (.int .i64 (ansI (op59T b1 b2 T) 1)), .v (.int .i64 (ansI (op59T b1 b2 T) 2)), .v (.int .i64 (ansI (op59T b1 b2 T) 3)), .v (.int .i64 (ansI (op59T b1 b2 T) 4)), .v (.int .i64 (ansI (op59T b1 b2 T) 5)), .v (.int .i64 (ansI (op59T b1 b2 T) 6)), .v (.int .i64 (ansI (op59T b1 b2 T) 7)), .v (.int .u32 (ansI (op59T b1 b2 T) 8)), .v (.int .i64 (ansI (op59T b1 b2 T) 9)), .v (.int .i64 (ansI (op59T b1 b2 T) 10)), .v (.int .i64 (ansI (op59T b1 b2 T) 11)), .v (.int .i64 (ansI (op59T b1 b2 T) 12)), .v (.int .i64 (ansI (op59T b1 b2 T) 13)), .v (.int .u32 (ansI (op59T b1 b2 T) 14)), .v (.int .u32 (ansI (op59T b1 b2 T) 15)), .v (.bool (ansB (op59T b1 b2 T) 16)), .v (.int .i64 (ansI (op59T b1 b2 T) 17))], .v (.int .i64 (ansI (op59T b1 b2 T) 18))], [.cells (cCOpz7 b1 b2) T]) := (lockI_eq _ _).symm.trans (op59_is b1 b2 T hg)
noncomputable def op59S : Ev.Spec := fun R args m k kp => match args with
  | [.sl b o n q] => (match m[b]? with
    | some (.cells cs T) => (match cs with
      | [.v (.int .u8 z0), .v (.int .u8 z1), .v (.int .u8 z2), .v (.int .u8 b1), .v (.int .u8 b2), .v (.int .u8 z5), .v (.int .u8 z6), .v (.int .u8 z7), .v (.int .u8 z8), .v (.int .u8 z9), .v (.int .u8 z10)] => bif Nat.beq o 0 && (Nat.beq n 11 && (Nat.beq q 11 && ((z0 == 242) && ((z1 == 15) && ((z2 == 89) && ((z5 == 0) && ((z6 == 0) && ((z7 == 0) && ((z8 == 0) && ((z9 == 0) && ((z10 == 0)))))))))))) then (bif in8 b1 && (in8 b2 && (true)) then k (.tup [.agg [.v (.int .i64 (ansI (op59T b1 b2 T) 0)), .v (.int .i64 (ansI (op59T b1 b2 T) 1)), .v (.int .i64 (ansI (op59T b1 b2 T) 2)), .v (.int .i64 (ansI (op59T b1 b2 T) 3)), .v (.int .i64 (ansI (op59T b1 b2 T) 4)), .v (.int .i64 (ansI (op59T b1 b2 T) 5)), .v (.int .i64 (ansI (op59T b1 b2 T) 6)), .v (.int .i64 (ansI (op59T b1 b2 T) 7)), .v (.int .u32 (ansI (op59T b1 b2 T) 8)), .v (.int .i64 (ansI (op59T b1 b2 T) 9)), .v (.int .i64 (ansI (op59T b1 b2 T) 10)), .v (.int .i64 (ansI (op59T b1 b2 T) 11)), .v (.int .i64 (ansI (op59T b1 b2 T) 12)), .v (.int .i64 (ansI (op59T b1 b2 T) 13)), .v (.int .u32 (ansI (op59T b1 b2 T) 14)), .v (.int .u32 (ansI (op59T b1 b2 T) 15)), .v (.bool (ansB (op59T b1 b2 T) 16)), .v (.int .i64 (ansI (op59T b1 b2 T) 17))], .v (.int .i64 (ansI (op59T b1 b2 T) 18))]) ((m.set b (.cells [.v (.int .u8 242), .v (.int .u8 15), .v (.int .u8 89), .v (.int .u8 b1), .v (.int .u8 b2), .v (.int .u8 0), .v (.int .u8 0), .v (.int .u8 0), .v (.int .u8 0), .v (.int .u8 0), .v (.int .u8 0)] T)) ++ []) else none) else none
      | _ => none)
    | _ => none)
  | _ => none
set_option maxHeartbeats 4000000 in
theorem op59S_ok : SpecOk Try.prog XM 14 op59S := by
  intro R args m k kp r h
  unfold op59S at h
  split at h
  · rename_i _ b o n q
    split at h
    · rename_i _ cs T hb
      split at h
      · rename_i _ z0 z1 z2 b1 b2 z5 z6 z7 z8 z9 z10
        obtain ⟨hg, h5⟩ := cond_some h
        clear h
        rename _ = some r => h
        simp only [Bool.and_eq_true, Bool.not_eq_true', beq_iff_eq] at hg
        obtain ⟨g3, g4, g5, rfl, rfl, rfl, rfl, rfl, rfl, rfl, rfl, rfl⟩ := hg
        have g3 := Nat.eq_of_beq_eq_true g3
        have g4 := Nat.eq_of_beq_eq_true g4
        have g5 := Nat.eq_of_beq_eq_true g5
        subst g3 g4 g5
        rcases cond_two h with ⟨hq, h5⟩ | ⟨hq, h5⟩ <;> clear h <;> rename _ = some r => h
        · simp only [Bool.and_eq_true, beq_iff_eq] at hq
          obtain ⟨e0, e1, _⟩ := hq
          exact .inl ⟨_, _, h, (callR_evT ΓRq_ok (by kernel_rfl) (op59_ev b1 b2 T (by rw [e0, e1]; rfl)) rfl rfl rfl rfl).frameL [b] (by simp) ⟨hb, trivial⟩ rfl rfl rfl rfl rfl rfl rfl⟩
        cases h
      · cases h
    · cases h
  · cases h
theorem op59_fp (b1 b2 : Int) (T : TypeId) (hg : (in8 b1 && in8 b2) = true) : fpOk (op59T b1 b2 T) := by
  have h := op59_tree b1 b2 T
  have hk := rm11_kind 242 15 89 b1 b2 T hg
  have hi := rm11_in 242 15 89 b1 b2 T
  rw [Bool.and_eq_true] at hg
  simp only [hg.1, hg.2, Bool.and_self, Bool.and_true, Bool.true_and, cond_true] at h
  obtain ⟨hk, he, n1, n2⟩ := hk
  rw [he] at h
  generalize ansI (rm11T 242 15 89 b1 b2 T) 7 = n at n1 n2 h
  have w1 : IntKind.wrap .i64 (3 + n) = 3 + n := wr_i64_id (by omega) (by omega)
  have w2 : IntKind.wrap .i64 (3 + n + 0) = 3 + n := by rw [Int.add_zero]; exact w1
  have w3 : decide (11 < 3 + n) = false := decide_eq_false (by omega)
  rw [w1, w2, w2, w3] at h
  generalize ansI (rm11T 242 15 89 b1 b2 T) 5 = y at hi h
  generalize ansI (rm11T 242 15 89 b1 b2 T) 0 = z at hk h
  rcases hk with rfl | rfl <;> (
    simp only [bne, beq_self_eq_true, show ((1 : Int) == 1) = true from rfl, show ((3 : Int) == 1) = false from rfl, show ((0 : Int) == 0) = true from rfl, Bool.not_true, Bool.not_false, cond_true, cond_false] at h
    rw [h]
    refine ⟨rfl, ?_, ?_, ?_⟩
    · first | exact hi | rfl
    · first | exact hi | rfl
    · rfl)
abbrev cCOpz8 (b1 b2 : Int) : List Sv := [vy 242, vy 15, vy 92, vy b1, vy b2, vy 0, vy 0, vy 0, vy 0, vy 0, vy 0]
noncomputable def op5cT (b1 b2 : Int) (T : TypeId) : Option (Sv × List SObj) := lockI b1 (evF Try.prog ΓRq 400 14 [.sl 0 0 11 11] [.cells (cCOpz8 b1 b2) T] (kTk 1) kNo)
theorem op5c_tree (b1 b2 : Int) (T : TypeId) : op5cT b1 b2 T = (bif in8 b1 && (in8 b2 && true) then
bif ansI (rm11T 242 15 92 b1 b2 T) 8 != 0 then
some
(Sv.tup
[Sv.agg
(cCOpz0 ),
vi ((ansI (rm11T 242 15 92 b1 b2 T) 8))],
[SObj.cells
[vy 242, vy 15, vy 92,
vy b1, vy b2, vy 0,
vy 0, vy 0, vy 0,
vy 0, vy 0]
T])
else
bif decide (11 < IntKind.wrap IntKind.i64 (IntKind.wrap IntKind.i64 (3 + ansI (rm11T 242 15 92 b1 b2 T) 7) + 0)) then
some
(Sv.tup
[Sv.agg
(cCOpz0 ),
vi 21],
[SObj.cells
[vy 242, vy 15, vy 92,
vy b1, vy b2, vy 0,
vy 0, vy 0, vy 0,
vy 0, vy 0]
T])
else
bif
decide
(11 <
IntKind.wrap IntKind.i64
(IntKind.wrap IntKind.i64 (IntKind.wrap IntKind.i64 (3 + ansI (rm11T 242 15 92 b1 b2 T) 7) + 0) + 0)) then
some
(Sv.tup
[Sv.agg
(cCOpz0 ),
vi 21],
[SObj.cells
[vy 242, vy 15, vy 92,
vy b1, vy b2, vy 0,
vy 0, vy 0, vy 0,
vy 0, vy 0]
T])
else
bif ansI (rm11T 242 15 92 b1 b2 T) 0 == 1 then
some
(Sv.tup
[Sv.agg
[vi 54, vi 0, vi 8,
vi 5, vi ((ansI (rm11T 242 15 92 b1 b2 T) 6)),
vi ((-1)), vi ((-1)), vi 1,
vw 0, vi 5,
vi ((ansI (rm11T 242 15 92 b1 b2 T) 1)), vi ((-1)),
vi ((-1)), vi 1, vw 0,
vw 0, vb false,
Sv.v
(Value.int IntKind.i64
(IntKind.wrap IntKind.i64
(IntKind.wrap IntKind.i64 (IntKind.wrap IntKind.i64 (3 + ansI (rm11T 242 15 92 b1 b2 T) 7) + 0) + 0)))],
vi 0],
[SObj.cells
[vy 242, vy 15, vy 92,
vy b1, vy b2, vy 0,
vy 0, vy 0, vy 0,
vy 0, vy 0]
T])
else
some
(Sv.tup
[Sv.agg
[vi 54, vi 0, vi 8,
vi 5, vi ((ansI (rm11T 242 15 92 b1 b2 T) 6)),
vi ((-1)), vi ((-1)), vi 1,
vw 0, vi ((ansI (rm11T 242 15 92 b1 b2 T) 0)),
vi ((ansI (rm11T 242 15 92 b1 b2 T) 1)),
vi ((ansI (rm11T 242 15 92 b1 b2 T) 2)),
vi ((ansI (rm11T 242 15 92 b1 b2 T) 3)),
vi ((ansI (rm11T 242 15 92 b1 b2 T) 4)),
vw ((ansI (rm11T 242 15 92 b1 b2 T) 5)), vw 0,
vb false,
Sv.v
(Value.int IntKind.i64
(IntKind.wrap IntKind.i64
(IntKind.wrap IntKind.i64 (IntKind.wrap IntKind.i64 (3 + ansI (rm11T 242 15 92 b1 b2 T) 7) + 0) + 0)))],
vi 0],
[SObj.cells
[vy 242, vy 15, vy 92,
vy b1, vy b2, vy 0,
vy 0, vy 0, vy 0,
vy 0, vy 0]
T])
else none) := (lockI_eq _ _).trans (by kernel_rfl)
noncomputable def op5cF (b1 b2 : Int) (T : TypeId) (X : Option (Sv × List SObj)) : Option (Sv × List SObj) := some (.tup [.agg [.v (.int .i64 (ansI (X) 0)), .v (.int .i64 (ansI (X) 1)), .v (.int .i64 (ansI (X) 2)), .v (.int .i64 (ansI (X) 3)), .v (.int .i64 (ansI (X) 4)), .v (.int .i64 (ansI (X) 5)), .v (.int .i64 (ansI (X) 6)), .v (.int .i64 (ansI (X) 7)), .v (.int .u32 (ansI (X) 8)), .v (.int .i64 (ansI (X) 9)), .v (.int .i64 (ansI (X) 10)), .v (.int .i64 (ansI (X) 11)), .v (.int .i64 (ansI (X) 12)), .v (.int .i64 (ansI (X) 13)), .v (.int .u32 (ansI (X) 14)), .v (.int .u32 (ansI (X) 15)), .v (.bool (ansB (X) 16)), .v (.int .i64 (ansI (X) 17))], .v (.int .i64 (ansI (X) 18))], [.cells (cCOpz8 b1 b2) T])
theorem op5c_is (b1 b2 : Int) (T : TypeId) (hg : (in8 b1 && in8 b2) = true) : op5cT b1 b2 T = op5cF b1 b2 T (op5cT b1 b2 T) := by
  have h := op5c_tree b1 b2 T
  rw [Bool.and_eq_true] at hg
  simp only [hg.1, hg.2, Bool.and_self, Bool.and_true, Bool.true_and, cond_true] at h
  rw [h]
  repeat' (first | exact rfl | refine ans_cond (F := op5cF b1 b2 T) ?_ ?_)
theorem op5c_ev (b1 b2 : Int) (T : TypeId) (hg : (in8 b1 && in8 b2) = true) : evF Try.prog ΓRq 400 14 [.sl 0 0 11 11] [.cells (cCOpz8 b1 b2) T] (kTk 1) kNo = some (.tup [.agg [.v (.int .i64 (ansI (op5cT b1 b2 T) 0)), .v (.int .i64 (ansI (op5cT b1 b2 T) 1)), .v (.int .i64 (ansI (op5cT b1 b2 T) 2)), .v (.int .i64 (ansI (op5cT b1 b2 T) 3)), .v (.int .i64 (ansI (op5cT b1 b2 T) 4)), .v (.int .i64 (ansI (op5cT b1 b2 T) 5)), .v (.int .i64 (ansI (op5cT b1 b2 T) 6)), .v (.int .i64 (ansI (op5cT b1 b2 T) 7)), .v (.int .u32 (ansI (op5cT b1 b2 T) 8)), .v (.int .i64 (ansI (op5cT b1 b2 T) 9)), .v (.int .i64 (ansI (op5cT b1 b2 T) 10)), .v (.int .i64 (ansI (op5cT b1 b2 T) 11)), .v (.int .i64 (ansI (op5cT b1 b2 T) 12)), .v (.int .i64 (ansI (op5cT b1 b2 T) 13)), .v (.int .u32 (ansI (op5cT b1 b2 T) 14)), .v (.int .u32 (ansI (op5cT b1 b2 T) 15)), .v (.bool (ansB (op5cT b1 b2 T) 16)), .v (.int .i64 (ansI (op5cT b1 b2 T) 17))], .v (.int .i64 (ansI (op5cT b1 b2 T) 18))], [.cells (cCOpz8 b1 b2) T]) := (lockI_eq _ _).symm.trans (op5c_is b1 b2 T hg)
noncomputable def op5cS : Ev.Spec := fun R args m k kp => match args with
  | [.sl b o n q] => (match m[b]? with
    | some (.cells cs T) => (match cs with
      | [.v (.int .u8 z0), .v (.int .u8 z1), .v (.int .u8 z2), .v (.int .u8 b1), .v (.int .u8 b2), .v (.int .u8 z5), .v (.int .u8 z6), .v (.int .u8 z7), .v (.int .u8 z8), .v (.int .u8 z9), .v (.int .u8 z10)] => bif Nat.beq o 0 && (Nat.beq n 11 && (Nat.beq q 11 && ((z0 == 242) && ((z1 == 15) && ((z2 == 92) && ((z5 == 0) && ((z6 == 0) && ((z7 == 0) && ((z8 == 0) && ((z9 == 0) && ((z10 == 0)))))))))))) then (bif in8 b1 && (in8 b2 && (true)) then k (.tup [.agg [.v (.int .i64 (ansI (op5cT b1 b2 T) 0)), .v (.int .i64 (ansI (op5cT b1 b2 T) 1)), .v (.int .i64 (ansI (op5cT b1 b2 T) 2)), .v (.int .i64 (ansI (op5cT b1 b2 T) 3)), .v (.int .i64 (ansI (op5cT b1 b2 T) 4)), .v (.int .i64 (ansI (op5cT b1 b2 T) 5)), .v (.int .i64 (ansI (op5cT b1 b2 T) 6)), .v (.int .i64 (ansI (op5cT b1 b2 T) 7)), .v (.int .u32 (ansI (op5cT b1 b2 T) 8)), .v (.int .i64 (ansI (op5cT b1 b2 T) 9)), .v (.int .i64 (ansI (op5cT b1 b2 T) 10)), .v (.int .i64 (ansI (op5cT b1 b2 T) 11)), .v (.int .i64 (ansI (op5cT b1 b2 T) 12)), .v (.int .i64 (ansI (op5cT b1 b2 T) 13)), .v (.int .u32 (ansI (op5cT b1 b2 T) 14)), .v (.int .u32 (ansI (op5cT b1 b2 T) 15)), .v (.bool (ansB (op5cT b1 b2 T) 16)), .v (.int .i64 (ansI (op5cT b1 b2 T) 17))], .v (.int .i64 (ansI (op5cT b1 b2 T) 18))]) ((m.set b (.cells [.v (.int .u8 242), .v (.int .u8 15), .v (.int .u8 92), .v (.int .u8 b1), .v (.int .u8 b2), .v (.int .u8 0), .v (.int .u8 0), .v (.int .u8 0), .v (.int .u8 0), .v (.int .u8 0), .v (.int .u8 0)] T)) ++ []) else none) else none
      | _ => none)
    | _ => none)
  | _ => none
set_option maxHeartbeats 4000000 in
theorem op5cS_ok : SpecOk Try.prog XM 14 op5cS := by
  intro R args m k kp r h
  unfold op5cS at h
  split at h
  · rename_i _ b o n q
    split at h
    · rename_i _ cs T hb
      split at h
      · rename_i _ z0 z1 z2 b1 b2 z5 z6 z7 z8 z9 z10
        obtain ⟨hg, h5⟩ := cond_some h
        clear h
        rename _ = some r => h
        simp only [Bool.and_eq_true, Bool.not_eq_true', beq_iff_eq] at hg
        obtain ⟨g3, g4, g5, rfl, rfl, rfl, rfl, rfl, rfl, rfl, rfl, rfl⟩ := hg
        have g3 := Nat.eq_of_beq_eq_true g3
        have g4 := Nat.eq_of_beq_eq_true g4
        have g5 := Nat.eq_of_beq_eq_true g5
        subst g3 g4 g5
        rcases cond_two h with ⟨hq, h5⟩ | ⟨hq, h5⟩ <;> clear h <;> rename _ = some r => h
        · simp only [Bool.and_eq_true, beq_iff_eq] at hq
          obtain ⟨e0, e1, _⟩ := hq
          exact .inl ⟨_, _, h, (callR_evT ΓRq_ok (by kernel_rfl) (op5c_ev b1 b2 T (by rw [e0, e1]; rfl)) rfl rfl rfl rfl).frameL [b] (by simp) ⟨hb, trivial⟩ rfl rfl rfl rfl rfl rfl rfl⟩
        cases h
      · cases h
    · cases h
  · cases h
theorem op5c_fp (b1 b2 : Int) (T : TypeId) (hg : (in8 b1 && in8 b2) = true) : fpOk (op5cT b1 b2 T) := by
  have h := op5c_tree b1 b2 T
  have hk := rm11_kind 242 15 92 b1 b2 T hg
  have hi := rm11_in 242 15 92 b1 b2 T
  rw [Bool.and_eq_true] at hg
  simp only [hg.1, hg.2, Bool.and_self, Bool.and_true, Bool.true_and, cond_true] at h
  obtain ⟨hk, he, n1, n2⟩ := hk
  rw [he] at h
  generalize ansI (rm11T 242 15 92 b1 b2 T) 7 = n at n1 n2 h
  have w1 : IntKind.wrap .i64 (3 + n) = 3 + n := wr_i64_id (by omega) (by omega)
  have w2 : IntKind.wrap .i64 (3 + n + 0) = 3 + n := by rw [Int.add_zero]; exact w1
  have w3 : decide (11 < 3 + n) = false := decide_eq_false (by omega)
  rw [w1, w2, w2, w3] at h
  generalize ansI (rm11T 242 15 92 b1 b2 T) 5 = y at hi h
  generalize ansI (rm11T 242 15 92 b1 b2 T) 0 = z at hk h
  rcases hk with rfl | rfl <;> (
    simp only [bne, beq_self_eq_true, show ((1 : Int) == 1) = true from rfl, show ((3 : Int) == 1) = false from rfl, show ((0 : Int) == 0) = true from rfl, Bool.not_true, Bool.not_false, cond_true, cond_false] at h
    rw [h]
    refine ⟨rfl, ?_, ?_, ?_⟩
    · first | exact hi | rfl
    · first | exact hi | rfl
    · rfl)
abbrev cCOpz9 (b1 b2 : Int) : List Sv := [vy 242, vy 15, vy 93, vy b1, vy b2, vy 0, vy 0, vy 0, vy 0, vy 0, vy 0]
noncomputable def op5dT (b1 b2 : Int) (T : TypeId) : Option (Sv × List SObj) := lockI b1 (evF Try.prog ΓRq 400 14 [.sl 0 0 11 11] [.cells (cCOpz9 b1 b2) T] (kTk 1) kNo)
theorem op5d_tree (b1 b2 : Int) (T : TypeId) : op5dT b1 b2 T = (bif in8 b1 && (in8 b2 && true) then
bif ansI (rm11T 242 15 93 b1 b2 T) 8 != 0 then
some
(Sv.tup
[Sv.agg
(cCOpz0 ),
vi ((ansI (rm11T 242 15 93 b1 b2 T) 8))],
[SObj.cells
[vy 242, vy 15, vy 93,
vy b1, vy b2, vy 0,
vy 0, vy 0, vy 0,
vy 0, vy 0]
T])
else
bif decide (11 < IntKind.wrap IntKind.i64 (IntKind.wrap IntKind.i64 (3 + ansI (rm11T 242 15 93 b1 b2 T) 7) + 0)) then
some
(Sv.tup
[Sv.agg
(cCOpz0 ),
vi 21],
[SObj.cells
[vy 242, vy 15, vy 93,
vy b1, vy b2, vy 0,
vy 0, vy 0, vy 0,
vy 0, vy 0]
T])
else
bif
decide
(11 <
IntKind.wrap IntKind.i64
(IntKind.wrap IntKind.i64 (IntKind.wrap IntKind.i64 (3 + ansI (rm11T 242 15 93 b1 b2 T) 7) + 0) + 0)) then
some
(Sv.tup
[Sv.agg
(cCOpz0 ),
vi 21],
[SObj.cells
[vy 242, vy 15, vy 93,
vy b1, vy b2, vy 0,
vy 0, vy 0, vy 0,
vy 0, vy 0]
T])
else
bif ansI (rm11T 242 15 93 b1 b2 T) 0 == 1 then
some
(Sv.tup
[Sv.agg
[vi 55, vi 0, vi 8,
vi 5, vi ((ansI (rm11T 242 15 93 b1 b2 T) 6)),
vi ((-1)), vi ((-1)), vi 1,
vw 0, vi 5,
vi ((ansI (rm11T 242 15 93 b1 b2 T) 1)), vi ((-1)),
vi ((-1)), vi 1, vw 0,
vw 0, vb false,
Sv.v
(Value.int IntKind.i64
(IntKind.wrap IntKind.i64
(IntKind.wrap IntKind.i64 (IntKind.wrap IntKind.i64 (3 + ansI (rm11T 242 15 93 b1 b2 T) 7) + 0) + 0)))],
vi 0],
[SObj.cells
[vy 242, vy 15, vy 93,
vy b1, vy b2, vy 0,
vy 0, vy 0, vy 0,
vy 0, vy 0]
T])
else
some
(Sv.tup
[Sv.agg
[vi 55, vi 0, vi 8,
vi 5, vi ((ansI (rm11T 242 15 93 b1 b2 T) 6)),
vi ((-1)), vi ((-1)), vi 1,
vw 0, vi ((ansI (rm11T 242 15 93 b1 b2 T) 0)),
vi ((ansI (rm11T 242 15 93 b1 b2 T) 1)),
vi ((ansI (rm11T 242 15 93 b1 b2 T) 2)),
vi ((ansI (rm11T 242 15 93 b1 b2 T) 3)),
vi ((ansI (rm11T 242 15 93 b1 b2 T) 4)),
vw ((ansI (rm11T 242 15 93 b1 b2 T) 5)), vw 0,
vb false,
Sv.v
(Value.int IntKind.i64
(IntKind.wrap IntKind.i64
(IntKind.wrap IntKind.i64 (IntKind.wrap IntKind.i64 (3 + ansI (rm11T 242 15 93 b1 b2 T) 7) + 0) + 0)))],
vi 0],
[SObj.cells
[vy 242, vy 15, vy 93,
vy b1, vy b2, vy 0,
vy 0, vy 0, vy 0,
vy 0, vy 0]
T])
else none) := (lockI_eq _ _).trans (by kernel_rfl)
noncomputable def op5dF (b1 b2 : Int) (T : TypeId) (X : Option (Sv × List SObj)) : Option (Sv × List SObj) := some (.tup [.agg [.v (.int .i64 (ansI (X) 0)), .v (.int .i64 (ansI (X) 1)), .v (.int .i64 (ansI (X) 2)), .v (.int .i64 (ansI (X) 3)), .v (.int .i64 (ansI (X) 4)), .v (.int .i64 (ansI (X) 5)), .v (.int .i64 (ansI (X) 6)), .v (.int .i64 (ansI (X) 7)), .v (.int .u32 (ansI (X) 8)), .v (.int .i64 (ansI (X) 9)), .v (.int .i64 (ansI (X) 10)), .v (.int .i64 (ansI (X) 11)), .v (.int .i64 (ansI (X) 12)), .v (.int .i64 (ansI (X) 13)), .v (.int .u32 (ansI (X) 14)), .v (.int .u32 (ansI (X) 15)), .v (.bool (ansB (X) 16)), .v (.int .i64 (ansI (X) 17))], .v (.int .i64 (ansI (X) 18))], [.cells (cCOpz9 b1 b2) T])
theorem op5d_is (b1 b2 : Int) (T : TypeId) (hg : (in8 b1 && in8 b2) = true) : op5dT b1 b2 T = op5dF b1 b2 T (op5dT b1 b2 T) := by
  have h := op5d_tree b1 b2 T
  rw [Bool.and_eq_true] at hg
  simp only [hg.1, hg.2, Bool.and_self, Bool.and_true, Bool.true_and, cond_true] at h
  rw [h]
  repeat' (first | exact rfl | refine ans_cond (F := op5dF b1 b2 T) ?_ ?_)
theorem op5d_ev (b1 b2 : Int) (T : TypeId) (hg : (in8 b1 && in8 b2) = true) : evF Try.prog ΓRq 400 14 [.sl 0 0 11 11] [.cells (cCOpz9 b1 b2) T] (kTk 1) kNo = some (.tup [.agg [.v (.int .i64 (ansI (op5dT b1 b2 T) 0)), .v (.int .i64 (ansI (op5dT b1 b2 T) 1)), .v (.int .i64 (ansI (op5dT b1 b2 T) 2)), .v (.int .i64 (ansI (op5dT b1 b2 T) 3)), .v (.int .i64 (ansI (op5dT b1 b2 T) 4)), .v (.int .i64 (ansI (op5dT b1 b2 T) 5)), .v (.int .i64 (ansI (op5dT b1 b2 T) 6)), .v (.int .i64 (ansI (op5dT b1 b2 T) 7)), .v (.int .u32 (ansI (op5dT b1 b2 T) 8)), .v (.int .i64 (ansI (op5dT b1 b2 T) 9)), .v (.int .i64 (ansI (op5dT b1 b2 T) 10)), .v (.int .i64 (ansI (op5dT b1 b2 T) 11)), .v (.int .i64 (ansI (op5dT b1 b2 T) 12)), .v (.int .i64 (ansI (op5dT b1 b2 T) 13)), .v (.int .u32 (ansI (op5dT b1 b2 T) 14)), .v (.int .u32 (ansI (op5dT b1 b2 T) 15)), .v (.bool (ansB (op5dT b1 b2 T) 16)), .v (.int .i64 (ansI (op5dT b1 b2 T) 17))], .v (.int .i64 (ansI (op5dT b1 b2 T) 18))], [.cells (cCOpz9 b1 b2) T]) := (lockI_eq _ _).symm.trans (op5d_is b1 b2 T hg)
noncomputable def op5dS : Ev.Spec := fun R args m k kp => match args with
  | [.sl b o n q] => (match m[b]? with
    | some (.cells cs T) => (match cs with
      | [.v (.int .u8 z0), .v (.int .u8 z1), .v (.int .u8 z2), .v (.int .u8 b1), .v (.int .u8 b2), .v (.int .u8 z5), .v (.int .u8 z6), .v (.int .u8 z7), .v (.int .u8 z8), .v (.int .u8 z9), .v (.int .u8 z10)] => bif Nat.beq o 0 && (Nat.beq n 11 && (Nat.beq q 11 && ((z0 == 242) && ((z1 == 15) && ((z2 == 93) && ((z5 == 0) && ((z6 == 0) && ((z7 == 0) && ((z8 == 0) && ((z9 == 0) && ((z10 == 0)))))))))))) then (bif in8 b1 && (in8 b2 && (true)) then k (.tup [.agg [.v (.int .i64 (ansI (op5dT b1 b2 T) 0)), .v (.int .i64 (ansI (op5dT b1 b2 T) 1)), .v (.int .i64 (ansI (op5dT b1 b2 T) 2)), .v (.int .i64 (ansI (op5dT b1 b2 T) 3)), .v (.int .i64 (ansI (op5dT b1 b2 T) 4)), .v (.int .i64 (ansI (op5dT b1 b2 T) 5)), .v (.int .i64 (ansI (op5dT b1 b2 T) 6)), .v (.int .i64 (ansI (op5dT b1 b2 T) 7)), .v (.int .u32 (ansI (op5dT b1 b2 T) 8)), .v (.int .i64 (ansI (op5dT b1 b2 T) 9)), .v (.int .i64 (ansI (op5dT b1 b2 T) 10)), .v (.int .i64 (ansI (op5dT b1 b2 T) 11)), .v (.int .i64 (ansI (op5dT b1 b2 T) 12)), .v (.int .i64 (ansI (op5dT b1 b2 T) 13)), .v (.int .u32 (ansI (op5dT b1 b2 T) 14)), .v (.int .u32 (ansI (op5dT b1 b2 T) 15)), .v (.bool (ansB (op5dT b1 b2 T) 16)), .v (.int .i64 (ansI (op5dT b1 b2 T) 17))], .v (.int .i64 (ansI (op5dT b1 b2 T) 18))]) ((m.set b (.cells [.v (.int .u8 242), .v (.int .u8 15), .v (.int .u8 93), .v (.int .u8 b1), .v (.int .u8 b2), .v (.int .u8 0), .v (.int .u8 0), .v (.int .u8 0), .v (.int .u8 0), .v (.int .u8 0), .v (.int .u8 0)] T)) ++ []) else none) else none
      | _ => none)
    | _ => none)
  | _ => none
set_option maxHeartbeats 4000000 in
theorem op5dS_ok : SpecOk Try.prog XM 14 op5dS := by
  intro R args m k kp r h
  unfold op5dS at h
  split at h
  · rename_i _ b o n q
    split at h
    · rename_i _ cs T hb
      split at h
      · rename_i _ z0 z1 z2 b1 b2 z5 z6 z7 z8 z9 z10
        obtain ⟨hg, h5⟩ := cond_some h
        clear h
        rename _ = some r => h
        simp only [Bool.and_eq_true, Bool.not_eq_true', beq_iff_eq] at hg
        obtain ⟨g3, g4, g5, rfl, rfl, rfl, rfl, rfl, rfl, rfl, rfl, rfl⟩ := hg
        have g3 := Nat.eq_of_beq_eq_true g3
        have g4 := Nat.eq_of_beq_eq_true g4
        have g5 := Nat.eq_of_beq_eq_true g5
        subst g3 g4 g5
        rcases cond_two h with ⟨hq, h5⟩ | ⟨hq, h5⟩ <;> clear h <;> rename _ = some r => h
        · simp only [Bool.and_eq_true, beq_iff_eq] at hq
          obtain ⟨e0, e1, _⟩ := hq
          exact .inl ⟨_, _, h, (callR_evT ΓRq_ok (by kernel_rfl) (op5d_ev b1 b2 T (by rw [e0, e1]; rfl)) rfl rfl rfl rfl).frameL [b] (by simp) ⟨hb, trivial⟩ rfl rfl rfl rfl rfl rfl rfl⟩
        cases h
      · cases h
    · cases h
  · cases h
theorem op5d_fp (b1 b2 : Int) (T : TypeId) (hg : (in8 b1 && in8 b2) = true) : fpOk (op5dT b1 b2 T) := by
  have h := op5d_tree b1 b2 T
  have hk := rm11_kind 242 15 93 b1 b2 T hg
  have hi := rm11_in 242 15 93 b1 b2 T
  rw [Bool.and_eq_true] at hg
  simp only [hg.1, hg.2, Bool.and_self, Bool.and_true, Bool.true_and, cond_true] at h
  obtain ⟨hk, he, n1, n2⟩ := hk
  rw [he] at h
  generalize ansI (rm11T 242 15 93 b1 b2 T) 7 = n at n1 n2 h
  have w1 : IntKind.wrap .i64 (3 + n) = 3 + n := wr_i64_id (by omega) (by omega)
  have w2 : IntKind.wrap .i64 (3 + n + 0) = 3 + n := by rw [Int.add_zero]; exact w1
  have w3 : decide (11 < 3 + n) = false := decide_eq_false (by omega)
  rw [w1, w2, w2, w3] at h
  generalize ansI (rm11T 242 15 93 b1 b2 T) 5 = y at hi h
  generalize ansI (rm11T 242 15 93 b1 b2 T) 0 = z at hk h
  rcases hk with rfl | rfl <;> (
    simp only [bne, beq_self_eq_true, show ((1 : Int) == 1) = true from rfl, show ((3 : Int) == 1) = false from rfl, show ((0 : Int) == 0) = true from rfl, Bool.not_true, Bool.not_false, cond_true, cond_false] at h
    rw [h]
    refine ⟨rfl, ?_, ?_, ?_⟩
    · first | exact hi | rfl
    · first | exact hi | rfl
    · rfl)
abbrev cCOpz10 (b1 b2 : Int) : List Sv := [vy 242, vy 15, vy 94, vy b1, vy b2, vy 0, vy 0, vy 0, vy 0, vy 0, vy 0]
noncomputable def op5eT (b1 b2 : Int) (T : TypeId) : Option (Sv × List SObj) := lockI b1 (evF Try.prog ΓRq 400 14 [.sl 0 0 11 11] [.cells (cCOpz10 b1 b2) T] (kTk 1) kNo)
theorem op5e_tree (b1 b2 : Int) (T : TypeId) : op5eT b1 b2 T = (bif in8 b1 && (in8 b2 && true) then
bif ansI (rm11T 242 15 94 b1 b2 T) 8 != 0 then
some
(Sv.tup
[Sv.agg
(cCOpz0 ),
vi ((ansI (rm11T 242 15 94 b1 b2 T) 8))],
[SObj.cells
[vy 242, vy 15, vy 94,
vy b1, vy b2, vy 0,
vy 0, vy 0, vy 0,
vy 0, vy 0]
T])
else
bif decide (11 < IntKind.wrap IntKind.i64 (IntKind.wrap IntKind.i64 (3 + ansI (rm11T 242 15 94 b1 b2 T) 7) + 0)) then
some
(Sv.tup
[Sv.agg
(cCOpz0 ),
vi 21],
[SObj.cells
[vy 242, vy 15, vy 94,
vy b1, vy b2, vy 0,
vy 0, vy 0, vy 0,
vy 0, vy 0]
T])
else
bif
decide
(11 <
IntKind.wrap IntKind.i64
(IntKind.wrap IntKind.i64 (IntKind.wrap IntKind.i64 (3 + ansI (rm11T 242 15 94 b1 b2 T) 7) + 0) + 0)) then
some
(Sv.tup
[Sv.agg
(cCOpz0 ),
vi 21],
[SObj.cells
[vy 242, vy 15, vy 94,
vy b1, vy b2, vy 0,
vy 0, vy 0, vy 0,
vy 0, vy 0]
T])
else
bif ansI (rm11T 242 15 94 b1 b2 T) 0 == 1 then
some
(Sv.tup
[Sv.agg
[vi 56, vi 0, vi 8,
vi 5, vi ((ansI (rm11T 242 15 94 b1 b2 T) 6)),
vi ((-1)), vi ((-1)), vi 1,
vw 0, vi 5,
vi ((ansI (rm11T 242 15 94 b1 b2 T) 1)), vi ((-1)),
vi ((-1)), vi 1, vw 0,
vw 0, vb false,
Sv.v
(Value.int IntKind.i64
(IntKind.wrap IntKind.i64
(IntKind.wrap IntKind.i64 (IntKind.wrap IntKind.i64 (3 + ansI (rm11T 242 15 94 b1 b2 T) 7) + 0) + 0)))],
vi 0],
[SObj.cells
[vy 242, vy 15, vy 94,
vy b1, vy b2, vy 0,
vy 0, vy 0, vy 0,
vy 0, vy 0]
T])
else
some
(Sv.tup
[Sv.agg
[vi 56, vi 0, vi 8,
vi 5, vi ((ansI (rm11T 242 15 94 b1 b2 T) 6)),
vi ((-1)), vi ((-1)), vi 1,
vw 0, vi ((ansI (rm11T 242 15 94 b1 b2 T) 0)),
vi ((ansI (rm11T 242 15 94 b1 b2 T) 1)),
vi ((ansI (rm11T 242 15 94 b1 b2 T) 2)),
vi ((ansI (rm11T 242 15 94 b1 b2 T) 3)),
vi ((ansI (rm11T 242 15 94 b1 b2 T) 4)),
vw ((ansI (rm11T 242 15 94 b1 b2 T) 5)), vw 0,
vb false,
Sv.v
(Value.int IntKind.i64
(IntKind.wrap IntKind.i64
(IntKind.wrap IntKind.i64 (IntKind.wrap IntKind.i64 (3 + ansI (rm11T 242 15 94 b1 b2 T) 7) + 0) + 0)))],
vi 0],
[SObj.cells
[vy 242, vy 15, vy 94,
vy b1, vy b2, vy 0,
vy 0, vy 0, vy 0,
vy 0, vy 0]
T])
else none) := (lockI_eq _ _).trans (by kernel_rfl)
noncomputable def op5eF (b1 b2 : Int) (T : TypeId) (X : Option (Sv × List SObj)) : Option (Sv × List SObj) := some (.tup [.agg [.v (.int .i64 (ansI (X) 0)), .v (.int .i64 (ansI (X) 1)), .v (.int .i64 (ansI (X) 2)), .v (.int .i64 (ansI (X) 3)), .v (.int .i64 (ansI (X) 4)), .v (.int .i64 (ansI (X) 5)), .v (.int .i64 (ansI (X) 6)), .v (.int .i64 (ansI (X) 7)), .v (.int .u32 (ansI (X) 8)), .v (.int .i64 (ansI (X) 9)), .v (.int .i64 (ansI (X) 10)), .v (.int .i64 (ansI (X) 11)), .v (.int .i64 (ansI (X) 12)), .v (.int .i64 (ansI (X) 13)), .v (.int .u32 (ansI (X) 14)), .v (.int .u32 (ansI (X) 15)), .v (.bool (ansB (X) 16)), .v (.int .i64 (ansI (X) 17))], .v (.int .i64 (ansI (X) 18))], [.cells (cCOpz10 b1 b2) T])
theorem op5e_is (b1 b2 : Int) (T : TypeId) (hg : (in8 b1 && in8 b2) = true) : op5eT b1 b2 T = op5eF b1 b2 T (op5eT b1 b2 T) := by
  have h := op5e_tree b1 b2 T
  rw [Bool.and_eq_true] at hg
  simp only [hg.1, hg.2, Bool.and_self, Bool.and_true, Bool.true_and, cond_true] at h
  rw [h]
  repeat' (first | exact rfl | refine ans_cond (F := op5eF b1 b2 T) ?_ ?_)
theorem op5e_ev (b1 b2 : Int) (T : TypeId) (hg : (in8 b1 && in8 b2) = true) : evF Try.prog ΓRq 400 14 [.sl 0 0 11 11] [.cells (cCOpz10 b1 b2) T] (kTk 1) kNo = some (.tup [.agg [.v (.int .i64 (ansI (op5eT b1 b2 T) 0)), .v (.int .i64 (ansI (op5eT b1 b2 T) 1)), .v (.int .i64 (ansI (op5eT b1 b2 T) 2)), .v (.int .i64 (ansI (op5eT b1 b2 T) 3)), .v (.int .i64 (ansI (op5eT b1 b2 T) 4)), .v (.int .i64 (ansI (op5eT b1 b2 T) 5)), .v (.int .i64 (ansI (op5eT b1 b2 T) 6)), .v (.int .i64 (ansI (op5eT b1 b2 T) 7)), .v (.int .u32 (ansI (op5eT b1 b2 T) 8)), .v (.int .i64 (ansI (op5eT b1 b2 T) 9)), .v (.int .i64 (ansI (op5eT b1 b2 T) 10)), .v (.int .i64 (ansI (op5eT b1 b2 T) 11)), .v (.int .i64 (ansI (op5eT b1 b2 T) 12)), .v (.int .i64 (ansI (op5eT b1 b2 T) 13)), .v (.int .u32 (ansI (op5eT b1 b2 T) 14)), .v (.int .u32 (ansI (op5eT b1 b2 T) 15)), .v (.bool (ansB (op5eT b1 b2 T) 16)), .v (.int .i64 (ansI (op5eT b1 b2 T) 17))], .v (.int .i64 (ansI (op5eT b1 b2 T) 18))], [.cells (cCOpz10 b1 b2) T]) := (lockI_eq _ _).symm.trans (op5e_is b1 b2 T hg)
noncomputable def op5eS : Ev.Spec := fun R args m k kp => match args with
  | [.sl b o n q] => (match m[b]? with
    | some (.cells cs T) => (match cs with
      | [.v (.int .u8 z0), .v (.int .u8 z1), .v (.int .u8 z2), .v (.int .u8 b1), .v (.int .u8 b2), .v (.int .u8 z5), .v (.int .u8 z6), .v (.int .u8 z7), .v (.int .u8 z8), .v (.int .u8 z9), .v (.int .u8 z10)] => bif Nat.beq o 0 && (Nat.beq n 11 && (Nat.beq q 11 && ((z0 == 242) && ((z1 == 15) && ((z2 == 94) && ((z5 == 0) && ((z6 == 0) && ((z7 == 0) && ((z8 == 0) && ((z9 == 0) && ((z10 == 0)))))))))))) then (bif in8 b1 && (in8 b2 && (true)) then k (.tup [.agg [.v (.int .i64 (ansI (op5eT b1 b2 T) 0)), .v (.int .i64 (ansI (op5eT b1 b2 T) 1)), .v (.int .i64 (ansI (op5eT b1 b2 T) 2)), .v (.int .i64 (ansI (op5eT b1 b2 T) 3)), .v (.int .i64 (ansI (op5eT b1 b2 T) 4)), .v (.int .i64 (ansI (op5eT b1 b2 T) 5)), .v (.int .i64 (ansI (op5eT b1 b2 T) 6)), .v (.int .i64 (ansI (op5eT b1 b2 T) 7)), .v (.int .u32 (ansI (op5eT b1 b2 T) 8)), .v (.int .i64 (ansI (op5eT b1 b2 T) 9)), .v (.int .i64 (ansI (op5eT b1 b2 T) 10)), .v (.int .i64 (ansI (op5eT b1 b2 T) 11)), .v (.int .i64 (ansI (op5eT b1 b2 T) 12)), .v (.int .i64 (ansI (op5eT b1 b2 T) 13)), .v (.int .u32 (ansI (op5eT b1 b2 T) 14)), .v (.int .u32 (ansI (op5eT b1 b2 T) 15)), .v (.bool (ansB (op5eT b1 b2 T) 16)), .v (.int .i64 (ansI (op5eT b1 b2 T) 17))], .v (.int .i64 (ansI (op5eT b1 b2 T) 18))]) ((m.set b (.cells [.v (.int .u8 242), .v (.int .u8 15), .v (.int .u8 94), .v (.int .u8 b1), .v (.int .u8 b2), .v (.int .u8 0), .v (.int .u8 0), .v (.int .u8 0), .v (.int .u8 0), .v (.int .u8 0), .v (.int .u8 0)] T)) ++ []) else none) else none
      | _ => none)
    | _ => none)
  | _ => none
set_option maxHeartbeats 4000000 in
theorem op5eS_ok : SpecOk Try.prog XM 14 op5eS := by
  intro R args m k kp r h
  unfold op5eS at h
  split at h
  · rename_i _ b o n q
    split at h
    · rename_i _ cs T hb
      split at h
      · rename_i _ z0 z1 z2 b1 b2 z5 z6 z7 z8 z9 z10
        obtain ⟨hg, h5⟩ := cond_some h
        clear h
        rename _ = some r => h
        simp only [Bool.and_eq_true, Bool.not_eq_true', beq_iff_eq] at hg
        obtain ⟨g3, g4, g5, rfl, rfl, rfl, rfl, rfl, rfl, rfl, rfl, rfl⟩ := hg
        have g3 := Nat.eq_of_beq_eq_true g3
        have g4 := Nat.eq_of_beq_eq_true g4
        have g5 := Nat.eq_of_beq_eq_true g5
        subst g3 g4 g5
        rcases cond_two h with ⟨hq, h5⟩ | ⟨hq, h5⟩ <;> clear h <;> rename _ = some r => h
        · simp only [Bool.and_eq_true, beq_iff_eq] at hq
          obtain ⟨e0, e1, _⟩ := hq
          exact .inl ⟨_, _, h, (callR_evT ΓRq_ok (by kernel_rfl) (op5e_ev b1 b2 T (by rw [e0, e1]; rfl)) rfl rfl rfl rfl).frameL [b] (by simp) ⟨hb, trivial⟩ rfl rfl rfl rfl rfl rfl rfl⟩
        cases h
      · cases h
    · cases h
  · cases h
theorem op5e_fp (b1 b2 : Int) (T : TypeId) (hg : (in8 b1 && in8 b2) = true) : fpOk (op5eT b1 b2 T) := by
  have h := op5e_tree b1 b2 T
  have hk := rm11_kind 242 15 94 b1 b2 T hg
  have hi := rm11_in 242 15 94 b1 b2 T
  rw [Bool.and_eq_true] at hg
  simp only [hg.1, hg.2, Bool.and_self, Bool.and_true, Bool.true_and, cond_true] at h
  obtain ⟨hk, he, n1, n2⟩ := hk
  rw [he] at h
  generalize ansI (rm11T 242 15 94 b1 b2 T) 7 = n at n1 n2 h
  have w1 : IntKind.wrap .i64 (3 + n) = 3 + n := wr_i64_id (by omega) (by omega)
  have w2 : IntKind.wrap .i64 (3 + n + 0) = 3 + n := by rw [Int.add_zero]; exact w1
  have w3 : decide (11 < 3 + n) = false := decide_eq_false (by omega)
  rw [w1, w2, w2, w3] at h
  generalize ansI (rm11T 242 15 94 b1 b2 T) 5 = y at hi h
  generalize ansI (rm11T 242 15 94 b1 b2 T) 0 = z at hk h
  rcases hk with rfl | rfl <;> (
    simp only [bne, beq_self_eq_true, show ((1 : Int) == 1) = true from rfl, show ((3 : Int) == 1) = false from rfl, show ((0 : Int) == 0) = true from rfl, Bool.not_true, Bool.not_false, cond_true, cond_false] at h
    rw [h]
    refine ⟨rfl, ?_, ?_, ?_⟩
    · first | exact hi | rfl
    · first | exact hi | rfl
    · rfl)
abbrev cCOpz11 (b1 b2 : Int) : List Sv := [vy 242, vy 15, vy 95, vy b1, vy b2, vy 0, vy 0, vy 0, vy 0, vy 0, vy 0]
noncomputable def op5fT (b1 b2 : Int) (T : TypeId) : Option (Sv × List SObj) := lockI b1 (evF Try.prog ΓRq 400 14 [.sl 0 0 11 11] [.cells (cCOpz11 b1 b2) T] (kTk 1) kNo)
theorem op5f_tree (b1 b2 : Int) (T : TypeId) : op5fT b1 b2 T = (bif in8 b1 && (in8 b2 && true) then
bif ansI (rm11T 242 15 95 b1 b2 T) 8 != 0 then
some
(Sv.tup
[Sv.agg
(cCOpz0 ),
vi ((ansI (rm11T 242 15 95 b1 b2 T) 8))],
[SObj.cells
[vy 242, vy 15, vy 95,
vy b1, vy b2, vy 0,
vy 0, vy 0, vy 0,
vy 0, vy 0]
T])
else
bif decide (11 < IntKind.wrap IntKind.i64 (IntKind.wrap IntKind.i64 (3 + ansI (rm11T 242 15 95 b1 b2 T) 7) + 0)) then
some
(Sv.tup
[Sv.agg
(cCOpz0 ),
vi 21],
[SObj.cells
[vy 242, vy 15, vy 95,
vy b1, vy b2, vy 0,
vy 0, vy 0, vy 0,
vy 0, vy 0]
T])
else
bif
decide
(11 <
IntKind.wrap IntKind.i64
(IntKind.wrap IntKind.i64 (IntKind.wrap IntKind.i64 (3 + ansI (rm11T 242 15 95 b1 b2 T) 7) + 0) + 0)) then
some
(Sv.tup
[Sv.agg
(cCOpz0 ),
vi 21],
[SObj.cells
[vy 242, vy 15, vy 95,
vy b1, vy b2, vy 0,
vy 0, vy 0, vy 0,
vy 0, vy 0]
T])
else
bif ansI (rm11T 242 15 95 b1 b2 T) 0 == 1 then
some
(Sv.tup
[Sv.agg
[vi 57, vi 0, vi 8,
vi 5, vi ((ansI (rm11T 242 15 95 b1 b2 T) 6)),
vi ((-1)), vi ((-1)), vi 1,
vw 0, vi 5,
vi ((ansI (rm11T 242 15 95 b1 b2 T) 1)), vi ((-1)),
vi ((-1)), vi 1, vw 0,
vw 0, vb false,
Sv.v
(Value.int IntKind.i64
(IntKind.wrap IntKind.i64
(IntKind.wrap IntKind.i64 (IntKind.wrap IntKind.i64 (3 + ansI (rm11T 242 15 95 b1 b2 T) 7) + 0) + 0)))],
vi 0],
[SObj.cells
[vy 242, vy 15, vy 95,
vy b1, vy b2, vy 0,
vy 0, vy 0, vy 0,
vy 0, vy 0]
T])
else
some
(Sv.tup
[Sv.agg
[vi 57, vi 0, vi 8,
vi 5, vi ((ansI (rm11T 242 15 95 b1 b2 T) 6)),
vi ((-1)), vi ((-1)), vi 1,
vw 0, vi ((ansI (rm11T 242 15 95 b1 b2 T) 0)),
vi ((ansI (rm11T 242 15 95 b1 b2 T) 1)),
vi ((ansI (rm11T 242 15 95 b1 b2 T) 2)),
vi ((ansI (rm11T 242 15 95 b1 b2 T) 3)),
vi ((ansI (rm11T 242 15 95 b1 b2 T) 4)),
vw ((ansI (rm11T 242 15 95 b1 b2 T) 5)), vw 0,
vb false,
Sv.v
(Value.int IntKind.i64
(IntKind.wrap IntKind.i64
(IntKind.wrap IntKind.i64 (IntKind.wrap IntKind.i64 (3 + ansI (rm11T 242 15 95 b1 b2 T) 7) + 0) + 0)))],
vi 0],
[SObj.cells
[vy 242, vy 15, vy 95,
vy b1, vy b2, vy 0,
vy 0, vy 0, vy 0,
vy 0, vy 0]
T])
else none) := (lockI_eq _ _).trans (by kernel_rfl)
noncomputable def op5fF (b1 b2 : Int) (T : TypeId) (X : Option (Sv × List SObj)) : Option (Sv × List SObj) := some (.tup [.agg [.v (.int .i64 (ansI (X) 0)), .v (.int .i64 (ansI (X) 1)), .v (.int .i64 (ansI (X) 2)), .v (.int .i64 (ansI (X) 3)), .v (.int .i64 (ansI (X) 4)), .v (.int .i64 (ansI (X) 5)), .v (.int .i64 (ansI (X) 6)), .v (.int .i64 (ansI (X) 7)), .v (.int .u32 (ansI (X) 8)), .v (.int .i64 (ansI (X) 9)), .v (.int .i64 (ansI (X) 10)), .v (.int .i64 (ansI (X) 11)), .v (.int .i64 (ansI (X) 12)), .v (.int .i64 (ansI (X) 13)), .v (.int .u32 (ansI (X) 14)), .v (.int .u32 (ansI (X) 15)), .v (.bool (ansB (X) 16)), .v (.int .i64 (ansI (X) 17))], .v (.int .i64 (ansI (X) 18))], [.cells (cCOpz11 b1 b2) T])
theorem op5f_is (b1 b2 : Int) (T : TypeId) (hg : (in8 b1 && in8 b2) = true) : op5fT b1 b2 T = op5fF b1 b2 T (op5fT b1 b2 T) := by
  have h := op5f_tree b1 b2 T
  rw [Bool.and_eq_true] at hg
  simp only [hg.1, hg.2, Bool.and_self, Bool.and_true, Bool.true_and, cond_true] at h
  rw [h]
  repeat' (first | exact rfl | refine ans_cond (F := op5fF b1 b2 T) ?_ ?_)
theorem op5f_ev (b1 b2 : Int) (T : TypeId) (hg : (in8 b1 && in8 b2) = true) : evF Try.prog ΓRq 400 14 [.sl 0 0 11 11] [.cells (cCOpz11 b1 b2) T] (kTk 1) kNo = some (.tup [.agg [.v (.int .i64 (ansI (op5fT b1 b2 T) 0)), .v (.int .i64 (ansI (op5fT b1 b2 T) 1)), .v (.int .i64 (ansI (op5fT b1 b2 T) 2)), .v (.int .i64 (ansI (op5fT b1 b2 T) 3)), .v (.int .i64 (ansI (op5fT b1 b2 T) 4)), .v (.int .i64 (ansI (op5fT b1 b2 T) 5)), .v (.int .i64 (ansI (op5fT b1 b2 T) 6)), .v (.int .i64 (ansI (op5fT b1 b2 T) 7)), .v (.int .u32 (ansI (op5fT b1 b2 T) 8)), .v (.int .i64 (ansI (op5fT b1 b2 T) 9)), .v (.int .i64 (ansI (op5fT b1 b2 T) 10)), .v (.int .i64 (ansI (op5fT b1 b2 T) 11)), .v (.int .i64 (ansI (op5fT b1 b2 T) 12)), .v (.int .i64 (ansI (op5fT b1 b2 T) 13)), .v (.int .u32 (ansI (op5fT b1 b2 T) 14)), .v (.int .u32 (ansI (op5fT b1 b2 T) 15)), .v (.bool (ansB (op5fT b1 b2 T) 16)), .v (.int .i64 (ansI (op5fT b1 b2 T) 17))], .v (.int .i64 (ansI (op5fT b1 b2 T) 18))], [.cells (cCOpz11 b1 b2) T]) := (lockI_eq _ _).symm.trans (op5f_is b1 b2 T hg)
noncomputable def op5fS : Ev.Spec := fun R args m k kp => match args with
  | [.sl b o n q] => (match m[b]? with
    | some (.cells cs T) => (match cs with
      | [.v (.int .u8 z0), .v (.int .u8 z1), .v (.int .u8 z2), .v (.int .u8 b1), .v (.int .u8 b2), .v (.int .u8 z5), .v (.int .u8 z6), .v (.int .u8 z7), .v (.int .u8 z8), .v (.int .u8 z9), .v (.int .u8 z10)] => bif Nat.beq o 0 && (Nat.beq n 11 && (Nat.beq q 11 && ((z0 == 242) && ((z1 == 15) && ((z2 == 95) && ((z5 == 0) && ((z6 == 0) && ((z7 == 0) && ((z8 == 0) && ((z9 == 0) && ((z10 == 0)))))))))))) then (bif in8 b1 && (in8 b2 && (true)) then k (.tup [.agg [.v (.int .i64 (ansI (op5fT b1 b2 T) 0)), .v (.int .i64 (ansI (op5fT b1 b2 T) 1)), .v (.int .i64 (ansI (op5fT b1 b2 T) 2)), .v (.int .i64 (ansI (op5fT b1 b2 T) 3)), .v (.int .i64 (ansI (op5fT b1 b2 T) 4)), .v (.int .i64 (ansI (op5fT b1 b2 T) 5)), .v (.int .i64 (ansI (op5fT b1 b2 T) 6)), .v (.int .i64 (ansI (op5fT b1 b2 T) 7)), .v (.int .u32 (ansI (op5fT b1 b2 T) 8)), .v (.int .i64 (ansI (op5fT b1 b2 T) 9)), .v (.int .i64 (ansI (op5fT b1 b2 T) 10)), .v (.int .i64 (ansI (op5fT b1 b2 T) 11)), .v (.int .i64 (ansI (op5fT b1 b2 T) 12)), .v (.int .i64 (ansI (op5fT b1 b2 T) 13)), .v (.int .u32 (ansI (op5fT b1 b2 T) 14)), .v (.int .u32 (ansI (op5fT b1 b2 T) 15)), .v (.bool (ansB (op5fT b1 b2 T) 16)), .v (.int .i64 (ansI (op5fT b1 b2 T) 17))], .v (.int .i64 (ansI (op5fT b1 b2 T) 18))]) ((m.set b (.cells [.v (.int .u8 242), .v (.int .u8 15), .v (.int .u8 95), .v (.int .u8 b1), .v (.int .u8 b2), .v (.int .u8 0), .v (.int .u8 0), .v (.int .u8 0), .v (.int .u8 0), .v (.int .u8 0), .v (.int .u8 0)] T)) ++ []) else none) else none
      | _ => none)
    | _ => none)
  | _ => none
set_option maxHeartbeats 4000000 in
theorem op5fS_ok : SpecOk Try.prog XM 14 op5fS := by
  intro R args m k kp r h
  unfold op5fS at h
  split at h
  · rename_i _ b o n q
    split at h
    · rename_i _ cs T hb
      split at h
      · rename_i _ z0 z1 z2 b1 b2 z5 z6 z7 z8 z9 z10
        obtain ⟨hg, h5⟩ := cond_some h
        clear h
        rename _ = some r => h
        simp only [Bool.and_eq_true, Bool.not_eq_true', beq_iff_eq] at hg
        obtain ⟨g3, g4, g5, rfl, rfl, rfl, rfl, rfl, rfl, rfl, rfl, rfl⟩ := hg
        have g3 := Nat.eq_of_beq_eq_true g3
        have g4 := Nat.eq_of_beq_eq_true g4
        have g5 := Nat.eq_of_beq_eq_true g5
        subst g3 g4 g5
        rcases cond_two h with ⟨hq, h5⟩ | ⟨hq, h5⟩ <;> clear h <;> rename _ = some r => h
        · simp only [Bool.and_eq_true, beq_iff_eq] at hq
          obtain ⟨e0, e1, _⟩ := hq
          exact .inl ⟨_, _, h, (callR_evT ΓRq_ok (by kernel_rfl) (op5f_ev b1 b2 T (by rw [e0, e1]; rfl)) rfl rfl rfl rfl).frameL [b] (by simp) ⟨hb, trivial⟩ rfl rfl rfl rfl rfl rfl rfl⟩
        cases h
      · cases h
    · cases h
  · cases h
theorem op5f_fp (b1 b2 : Int) (T : TypeId) (hg : (in8 b1 && in8 b2) = true) : fpOk (op5fT b1 b2 T) := by
  have h := op5f_tree b1 b2 T
  have hk := rm11_kind 242 15 95 b1 b2 T hg
  have hi := rm11_in 242 15 95 b1 b2 T
  rw [Bool.and_eq_true] at hg
  simp only [hg.1, hg.2, Bool.and_self, Bool.and_true, Bool.true_and, cond_true] at h
  obtain ⟨hk, he, n1, n2⟩ := hk
  rw [he] at h
  generalize ansI (rm11T 242 15 95 b1 b2 T) 7 = n at n1 n2 h
  have w1 : IntKind.wrap .i64 (3 + n) = 3 + n := wr_i64_id (by omega) (by omega)
  have w2 : IntKind.wrap .i64 (3 + n + 0) = 3 + n := by rw [Int.add_zero]; exact w1
  have w3 : decide (11 < 3 + n) = false := decide_eq_false (by omega)
  rw [w1, w2, w2, w3] at h
  generalize ansI (rm11T 242 15 95 b1 b2 T) 5 = y at hi h
  generalize ansI (rm11T 242 15 95 b1 b2 T) 0 = z at hk h
  rcases hk with rfl | rfl <;> (
    simp only [bne, beq_self_eq_true, show ((1 : Int) == 1) = true from rfl, show ((3 : Int) == 1) = false from rfl, show ((0 : Int) == 0) = true from rfl, Bool.not_true, Bool.not_false, cond_true, cond_false] at h
    rw [h]
    refine ⟨rfl, ?_, ?_, ?_⟩
    · first | exact hi | rfl
    · first | exact hi | rfl
    · rfl)
abbrev cCOpz12 (b1 b2 : Int) : List Sv := [vy 102, vy 15, vy 46, vy b1, vy b2, vy 0, vy 0, vy 0, vy 0, vy 0, vy 0]
noncomputable def op2eT (b1 b2 : Int) (T : TypeId) : Option (Sv × List SObj) := lockI b1 (evF Try.prog ΓRq 400 14 [.sl 0 0 11 11] [.cells (cCOpz12 b1 b2) T] (kTk 1) kNo)
theorem op2e_tree (b1 b2 : Int) (T : TypeId) : op2eT b1 b2 T = (bif in8 b1 && (in8 b2 && true) then
bif ansI (rm11T 102 15 46 b1 b2 T) 8 != 0 then
some
(Sv.tup
[Sv.agg
(cCOpz0 ),
vi ((ansI (rm11T 102 15 46 b1 b2 T) 8))],
[SObj.cells
[vy 102, vy 15, vy 46,
vy b1, vy b2, vy 0,
vy 0, vy 0, vy 0,
vy 0, vy 0]
T])
else
bif decide (11 < IntKind.wrap IntKind.i64 (IntKind.wrap IntKind.i64 (3 + ansI (rm11T 102 15 46 b1 b2 T) 7) + 0)) then
some
(Sv.tup
[Sv.agg
(cCOpz0 ),
vi 21],
[SObj.cells
[vy 102, vy 15, vy 46,
vy b1, vy b2, vy 0,
vy 0, vy 0, vy 0,
vy 0, vy 0]
T])
else
bif
decide
(11 <
IntKind.wrap IntKind.i64
(IntKind.wrap IntKind.i64 (IntKind.wrap IntKind.i64 (3 + ansI (rm11T 102 15 46 b1 b2 T) 7) + 0) + 0)) then
some
(Sv.tup
[Sv.agg
(cCOpz0 ),
vi 21],
[SObj.cells
[vy 102, vy 15, vy 46,
vy b1, vy b2, vy 0,
vy 0, vy 0, vy 0,
vy 0, vy 0]
T])
else
bif ansI (rm11T 102 15 46 b1 b2 T) 0 == 1 then
some
(Sv.tup
[Sv.agg
[vi 61, vi 0, vi 8,
vi 5, vi ((ansI (rm11T 102 15 46 b1 b2 T) 6)),
vi ((-1)), vi ((-1)), vi 1,
vw 0, vi 5,
vi ((ansI (rm11T 102 15 46 b1 b2 T) 1)), vi ((-1)),
vi ((-1)), vi 1, vw 0,
vw 0, vb false,
Sv.v
(Value.int IntKind.i64
(IntKind.wrap IntKind.i64
(IntKind.wrap IntKind.i64 (IntKind.wrap IntKind.i64 (3 + ansI (rm11T 102 15 46 b1 b2 T) 7) + 0) + 0)))],
vi 0],
[SObj.cells
[vy 102, vy 15, vy 46,
vy b1, vy b2, vy 0,
vy 0, vy 0, vy 0,
vy 0, vy 0]
T])
else
some
(Sv.tup
[Sv.agg
[vi 61, vi 0, vi 8,
vi 5, vi ((ansI (rm11T 102 15 46 b1 b2 T) 6)),
vi ((-1)), vi ((-1)), vi 1,
vw 0, vi ((ansI (rm11T 102 15 46 b1 b2 T) 0)),
vi ((ansI (rm11T 102 15 46 b1 b2 T) 1)),
vi ((ansI (rm11T 102 15 46 b1 b2 T) 2)),
vi ((ansI (rm11T 102 15 46 b1 b2 T) 3)),
vi ((ansI (rm11T 102 15 46 b1 b2 T) 4)),
vw ((ansI (rm11T 102 15 46 b1 b2 T) 5)), vw 0,
vb false,
Sv.v
(Value.int IntKind.i64
(IntKind.wrap IntKind.i64
(IntKind.wrap IntKind.i64 (IntKind.wrap IntKind.i64 (3 + ansI (rm11T 102 15 46 b1 b2 T) 7) + 0) + 0)))],
vi 0],
[SObj.cells
[vy 102, vy 15, vy 46,
vy b1, vy b2, vy 0,
vy 0, vy 0, vy 0,
vy 0, vy 0]
T])
else none) := (lockI_eq _ _).trans (by kernel_rfl)
noncomputable def op2eF (b1 b2 : Int) (T : TypeId) (X : Option (Sv × List SObj)) : Option (Sv × List SObj) := some (.tup [.agg [.v (.int .i64 (ansI (X) 0)), .v (.int .i64 (ansI (X) 1)), .v (.int .i64 (ansI (X) 2)), .v (.int .i64 (ansI (X) 3)), .v (.int .i64 (ansI (X) 4)), .v (.int .i64 (ansI (X) 5)), .v (.int .i64 (ansI (X) 6)), .v (.int .i64 (ansI (X) 7)), .v (.int .u32 (ansI (X) 8)), .v (.int .i64 (ansI (X) 9)), .v (.int .i64 (ansI (X) 10)), .v (.int .i64 (ansI (X) 11)), .v (.int .i64 (ansI (X) 12)), .v (.int .i64 (ansI (X) 13)), .v (.int .u32 (ansI (X) 14)), .v (.int .u32 (ansI (X) 15)), .v (.bool (ansB (X) 16)), .v (.int .i64 (ansI (X) 17))], .v (.int .i64 (ansI (X) 18))], [.cells (cCOpz12 b1 b2) T])
theorem op2e_is (b1 b2 : Int) (T : TypeId) (hg : (in8 b1 && in8 b2) = true) : op2eT b1 b2 T = op2eF b1 b2 T (op2eT b1 b2 T) := by
  have h := op2e_tree b1 b2 T
  rw [Bool.and_eq_true] at hg
  simp only [hg.1, hg.2, Bool.and_self, Bool.and_true, Bool.true_and, cond_true] at h
  rw [h]
  repeat' (first | exact rfl | refine ans_cond (F := op2eF b1 b2 T) ?_ ?_)
theorem op2e_ev (b1 b2 : Int) (T : TypeId) (hg : (in8 b1 && in8 b2) = true) : evF Try.prog ΓRq 400 14 [.sl 0 0 11 11] [.cells (cCOpz12 b1 b2) T] (kTk 1) kNo = some (.tup [.agg [.v (.int .i64 (ansI (op2eT b1 b2 T) 0)), .v (.int .i64 (ansI (op2eT b1 b2 T) 1)), .v (.int .i64 (ansI (op2eT b1 b2 T) 2)), .v (.int .i64 (ansI (op2eT b1 b2 T) 3)), .v (.int .i64 (ansI (op2eT b1 b2 T) 4)), .v (.int .i64 (ansI (op2eT b1 b2 T) 5)), .v (.int .i64 (ansI (op2eT b1 b2 T) 6)), .v (.int .i64 (ansI (op2eT b1 b2 T) 7)), .v (.int .u32 (ansI (op2eT b1 b2 T) 8)), .v (.int .i64 (ansI (op2eT b1 b2 T) 9)), .v (.int .i64 (ansI (op2eT b1 b2 T) 10)), .v (.int .i64 (ansI (op2eT b1 b2 T) 11)), .v (.int .i64 (ansI (op2eT b1 b2 T) 12)), .v (.int .i64 (ansI (op2eT b1 b2 T) 13)), .v (.int .u32 (ansI (op2eT b1 b2 T) 14)), .v (.int .u32 (ansI (op2eT b1 b2 T) 15)), .v (.bool (ansB (op2eT b1 b2 T) 16)), .v (.int .i64 (ansI (op2eT b1 b2 T) 17))], .v (.int .i64 (ansI (op2eT b1 b2 T) 18))], [.cells (cCOpz12 b1 b2) T]) := (lockI_eq _ _).symm.trans (op2e_is b1 b2 T hg)
noncomputable def op2eS : Ev.Spec := fun R args m k kp => match args with
  | [.sl b o n q] => (match m[b]? with
    | some (.cells cs T) => (match cs with
      | [.v (.int .u8 z0), .v (.int .u8 z1), .v (.int .u8 z2), .v (.int .u8 b1), .v (.int .u8 b2), .v (.int .u8 z5), .v (.int .u8 z6), .v (.int .u8 z7), .v (.int .u8 z8), .v (.int .u8 z9), .v (.int .u8 z10)] => bif Nat.beq o 0 && (Nat.beq n 11 && (Nat.beq q 11 && ((z0 == 102) && ((z1 == 15) && ((z2 == 46) && ((z5 == 0) && ((z6 == 0) && ((z7 == 0) && ((z8 == 0) && ((z9 == 0) && ((z10 == 0)))))))))))) then (bif in8 b1 && (in8 b2 && (true)) then k (.tup [.agg [.v (.int .i64 (ansI (op2eT b1 b2 T) 0)), .v (.int .i64 (ansI (op2eT b1 b2 T) 1)), .v (.int .i64 (ansI (op2eT b1 b2 T) 2)), .v (.int .i64 (ansI (op2eT b1 b2 T) 3)), .v (.int .i64 (ansI (op2eT b1 b2 T) 4)), .v (.int .i64 (ansI (op2eT b1 b2 T) 5)), .v (.int .i64 (ansI (op2eT b1 b2 T) 6)), .v (.int .i64 (ansI (op2eT b1 b2 T) 7)), .v (.int .u32 (ansI (op2eT b1 b2 T) 8)), .v (.int .i64 (ansI (op2eT b1 b2 T) 9)), .v (.int .i64 (ansI (op2eT b1 b2 T) 10)), .v (.int .i64 (ansI (op2eT b1 b2 T) 11)), .v (.int .i64 (ansI (op2eT b1 b2 T) 12)), .v (.int .i64 (ansI (op2eT b1 b2 T) 13)), .v (.int .u32 (ansI (op2eT b1 b2 T) 14)), .v (.int .u32 (ansI (op2eT b1 b2 T) 15)), .v (.bool (ansB (op2eT b1 b2 T) 16)), .v (.int .i64 (ansI (op2eT b1 b2 T) 17))], .v (.int .i64 (ansI (op2eT b1 b2 T) 18))]) ((m.set b (.cells [.v (.int .u8 102), .v (.int .u8 15), .v (.int .u8 46), .v (.int .u8 b1), .v (.int .u8 b2), .v (.int .u8 0), .v (.int .u8 0), .v (.int .u8 0), .v (.int .u8 0), .v (.int .u8 0), .v (.int .u8 0)] T)) ++ []) else none) else none
      | _ => none)
    | _ => none)
  | _ => none
set_option maxHeartbeats 4000000 in
theorem op2eS_ok : SpecOk Try.prog XM 14 op2eS := by
  intro R args m k kp r h
  unfold op2eS at h
  split at h
  · rename_i _ b o n q
    split at h
    · rename_i _ cs T hb
      split at h
      · rename_i _ z0 z1 z2 b1 b2 z5 z6 z7 z8 z9 z10
        obtain ⟨hg, h5⟩ := cond_some h
        clear h
        rename _ = some r => h
        simp only [Bool.and_eq_true, Bool.not_eq_true', beq_iff_eq] at hg
        obtain ⟨g3, g4, g5, rfl, rfl, rfl, rfl, rfl, rfl, rfl, rfl, rfl⟩ := hg
        have g3 := Nat.eq_of_beq_eq_true g3
        have g4 := Nat.eq_of_beq_eq_true g4
        have g5 := Nat.eq_of_beq_eq_true g5
        subst g3 g4 g5
        rcases cond_two h with ⟨hq, h5⟩ | ⟨hq, h5⟩ <;> clear h <;> rename _ = some r => h
        · simp only [Bool.and_eq_true, beq_iff_eq] at hq
          obtain ⟨e0, e1, _⟩ := hq
          exact .inl ⟨_, _, h, (callR_evT ΓRq_ok (by kernel_rfl) (op2e_ev b1 b2 T (by rw [e0, e1]; rfl)) rfl rfl rfl rfl).frameL [b] (by simp) ⟨hb, trivial⟩ rfl rfl rfl rfl rfl rfl rfl⟩
        cases h
      · cases h
    · cases h
  · cases h
theorem op2e_fp (b1 b2 : Int) (T : TypeId) (hg : (in8 b1 && in8 b2) = true) : fpOk (op2eT b1 b2 T) := by
  have h := op2e_tree b1 b2 T
  have hk := rm11_kind 102 15 46 b1 b2 T hg
  have hi := rm11_in 102 15 46 b1 b2 T
  rw [Bool.and_eq_true] at hg
  simp only [hg.1, hg.2, Bool.and_self, Bool.and_true, Bool.true_and, cond_true] at h
  obtain ⟨hk, he, n1, n2⟩ := hk
  rw [he] at h
  generalize ansI (rm11T 102 15 46 b1 b2 T) 7 = n at n1 n2 h
  have w1 : IntKind.wrap .i64 (3 + n) = 3 + n := wr_i64_id (by omega) (by omega)
  have w2 : IntKind.wrap .i64 (3 + n + 0) = 3 + n := by rw [Int.add_zero]; exact w1
  have w3 : decide (11 < 3 + n) = false := decide_eq_false (by omega)
  rw [w1, w2, w2, w3] at h
  generalize ansI (rm11T 102 15 46 b1 b2 T) 5 = y at hi h
  generalize ansI (rm11T 102 15 46 b1 b2 T) 0 = z at hk h
  rcases hk with rfl | rfl <;> (
    simp only [bne, beq_self_eq_true, show ((1 : Int) == 1) = true from rfl, show ((3 : Int) == 1) = false from rfl, show ((0 : Int) == 0) = true from rfl, Bool.not_true, Bool.not_false, cond_true, cond_false] at h
    rw [h]
    refine ⟨rfl, ?_, ?_, ?_⟩
    · first | exact hi | rfl
    · first | exact hi | rfl
    · rfl)
end Go.Proofs.Ytpgdpoloipifeaa
