/- Jumps, read, over bytes of which most are not told. -/
import Derived.Test.YtpgdpoloipifeaaEvV
import Derived.Test.YtpgdpoloipifeaaCRm
namespace Go.Proofs.Ytpgdpoloipifeaa
open Go Go.Ev
set_option linter.unusedVariables false
set_option linter.unusedSimpArgs false
set_option maxRecDepth 100000
theorem of70_form (b1 b2 b3 b4 b5 : Int) (T : TypeId) :
    evF Try.prog ΓRm 400 14 [.sa 0 1 0 8] [.buf 1 [.v (.int .u8 112), .v (.int .u8 b1), .v (.int .u8 b2), .v (.int .u8 b3), .v (.int .u8 b4), .v (.int .u8 b5), .v (.int .u8 0), .v (.int .u8 0)] T, .dead] (kTk 2) kNo =
    (some
(Sv.tup
[Sv.agg
[vi 31,
vi ((IntKind.wrap IntKind.i64 (bitsL BinOp.and IntKind.u8 112 15))),
vi 0, vi 4, vi 0,
vi ((-1)), vi ((-1)), vi 1,
vw ((IntKind.wrap IntKind.u32 (IntKind.wrap IntKind.i32 (IntKind.wrap IntKind.i8 b1)))),
vi 0, vi 0, vi ((-1)),
vi ((-1)), vi 1, vw 0,
vw 0, vb false, vi 2],
vi 0],
[SObj.buf 1
[vy 112, vy b1, vy b2,
vy b3, vy b4, vy b5,
vy 0, vy 0]
T,
SObj.dead])) := by kernel_rfl
theorem of70_ev (b1 b2 b3 b4 b5 : Int) (T : TypeId) : evF Try.prog ΓRm 400 14 [.sa 0 1 0 8] [.buf 1 [.v (.int .u8 112), .v (.int .u8 b1), .v (.int .u8 b2), .v (.int .u8 b3), .v (.int .u8 b4), .v (.int .u8 b5), .v (.int .u8 0), .v (.int .u8 0)] T, .dead] (kTk 2) kNo = some ((Sv.tup [Sv.agg [vi 31, vi ((IntKind.wrap IntKind.i64 (bitsL BinOp.and IntKind.u8 112 15))), vi 0, vi 4, vi 0, vi ((-1)), vi ((-1)), vi 1, vw ((IntKind.wrap IntKind.u32 (IntKind.wrap IntKind.i32 (IntKind.wrap IntKind.i8 b1)))), vi 0, vi 0, vi ((-1)), vi ((-1)), vi 1, vw 0, vw 0, vb false, vi 2], vi 0]), [.buf 1 [.v (.int .u8 112), .v (.int .u8 b1), .v (.int .u8 b2), .v (.int .u8 b3), .v (.int .u8 b4), .v (.int .u8 b5), .v (.int .u8 0), .v (.int .u8 0)] T, .dead]) := of70_form b1 b2 b3 b4 b5 T
noncomputable def of70S : Ev.Spec := fun R args m k kp => match args with
  | [.sa b c o n] => (match m[b]? with
    | some (.buf c2 cs T) => (match m[c]? with
      | some .dead => (match cs with
        | [.v (.int .u8 z0), .v (.int .u8 b1), .v (.int .u8 b2), .v (.int .u8 b3), .v (.int .u8 b4), .v (.int .u8 b5), .v (.int .u8 z6), .v (.int .u8 z7)] => bif Nat.beq o 0 && (Nat.beq n 8 && (Nat.beq c2 c && (!Nat.beq b c && ((z0 == 112) && ((z6 == 0) && ((z7 == 0))))))) then (bif true then k ((Sv.tup [Sv.agg [vi 31, vi ((IntKind.wrap IntKind.i64 (bitsL BinOp.and IntKind.u8 112 15))), vi 0, vi 4, vi 0, vi ((-1)), vi ((-1)), vi 1, vw ((IntKind.wrap IntKind.u32 (IntKind.wrap IntKind.i32 (IntKind.wrap IntKind.i8 b1)))), vi 0, vi 0, vi ((-1)), vi ((-1)), vi 1, vw 0, vw 0, vb false, vi 2], vi 0])) (((m.set b (.buf c [.v (.int .u8 112), .v (.int .u8 b1), .v (.int .u8 b2), .v (.int .u8 b3), .v (.int .u8 b4), .v (.int .u8 b5), .v (.int .u8 0), .v (.int .u8 0)] T)).set c .dead) ++ []) else none) else none
        | _ => none)
      | _ => none)
    | _ => none)
  | _ => none
set_option maxHeartbeats 4000000 in
theorem of70S_ok : SpecOk Try.prog XM 14 of70S := by
  intro R args m k kp r h
  unfold of70S at h
  split at h
  · rename_i _ b c o n
    split at h
    · rename_i _ c2 cs T hb
      split at h
      · rename_i _ hc
        split at h
        · rename_i _ z0 b1 b2 b3 b4 b5 z6 z7
          obtain ⟨hg, h5⟩ := cond_some h
          clear h
          rename _ = some r => h
          simp only [Bool.and_eq_true, Bool.not_eq_true', beq_iff_eq] at hg
          obtain ⟨g3, g4, g5, g6, rfl, rfl, rfl⟩ := hg
          have g3 := Nat.eq_of_beq_eq_true g3
          have g4 := Nat.eq_of_beq_eq_true g4
          have g5 := Nat.eq_of_beq_eq_true g5
          subst g3 g4 g5
          have hbc : ¬ b = c2 := fun e => by rw [e] at g6; simp at g6
          rcases cond_two h with ⟨hq, h5⟩ | ⟨hq, h5⟩ <;> clear h <;> rename _ = some r => h
          · simp only [Bool.and_eq_true, beq_iff_eq] at hq
            obtain ⟨_⟩ := hq
            exact .inl ⟨_, _, h, (callR_evT ΓRm_ok (by kernel_rfl) (of70_ev b1 b2 b3 b4 b5 T) rfl rfl rfl rfl).frameL [b, c2] (by simpa using hbc) ⟨hb, hc, trivial⟩ rfl rfl rfl rfl rfl rfl rfl⟩
          cases h
        · cases h
      · cases h
    · cases h
  · cases h
theorem of74_form (b1 b2 b3 b4 b5 : Int) (T : TypeId) :
    evF Try.prog ΓRm 400 14 [.sa 0 1 0 8] [.buf 1 [.v (.int .u8 116), .v (.int .u8 b1), .v (.int .u8 b2), .v (.int .u8 b3), .v (.int .u8 b4), .v (.int .u8 b5), .v (.int .u8 0), .v (.int .u8 0)] T, .dead] (kTk 2) kNo =
    (some
(Sv.tup
[Sv.agg
[vi 31,
vi ((IntKind.wrap IntKind.i64 (bitsL BinOp.and IntKind.u8 116 15))),
vi 0, vi 4, vi 0,
vi ((-1)), vi ((-1)), vi 1,
vw ((IntKind.wrap IntKind.u32 (IntKind.wrap IntKind.i32 (IntKind.wrap IntKind.i8 b1)))),
vi 0, vi 0, vi ((-1)),
vi ((-1)), vi 1, vw 0,
vw 0, vb false, vi 2],
vi 0],
[SObj.buf 1
[vy 116, vy b1, vy b2,
vy b3, vy b4, vy b5,
vy 0, vy 0]
T,
SObj.dead])) := by kernel_rfl
theorem of74_ev (b1 b2 b3 b4 b5 : Int) (T : TypeId) : evF Try.prog ΓRm 400 14 [.sa 0 1 0 8] [.buf 1 [.v (.int .u8 116), .v (.int .u8 b1), .v (.int .u8 b2), .v (.int .u8 b3), .v (.int .u8 b4), .v (.int .u8 b5), .v (.int .u8 0), .v (.int .u8 0)] T, .dead] (kTk 2) kNo = some ((Sv.tup [Sv.agg [vi 31, vi ((IntKind.wrap IntKind.i64 (bitsL BinOp.and IntKind.u8 116 15))), vi 0, vi 4, vi 0, vi ((-1)), vi ((-1)), vi 1, vw ((IntKind.wrap IntKind.u32 (IntKind.wrap IntKind.i32 (IntKind.wrap IntKind.i8 b1)))), vi 0, vi 0, vi ((-1)), vi ((-1)), vi 1, vw 0, vw 0, vb false, vi 2], vi 0]), [.buf 1 [.v (.int .u8 116), .v (.int .u8 b1), .v (.int .u8 b2), .v (.int .u8 b3), .v (.int .u8 b4), .v (.int .u8 b5), .v (.int .u8 0), .v (.int .u8 0)] T, .dead]) := of74_form b1 b2 b3 b4 b5 T
noncomputable def of74S : Ev.Spec := fun R args m k kp => match args with
  | [.sa b c o n] => (match m[b]? with
    | some (.buf c2 cs T) => (match m[c]? with
      | some .dead => (match cs with
        | [.v (.int .u8 z0), .v (.int .u8 b1), .v (.int .u8 b2), .v (.int .u8 b3), .v (.int .u8 b4), .v (.int .u8 b5), .v (.int .u8 z6), .v (.int .u8 z7)] => bif Nat.beq o 0 && (Nat.beq n 8 && (Nat.beq c2 c && (!Nat.beq b c && ((z0 == 116) && ((z6 == 0) && ((z7 == 0))))))) then (bif true then k ((Sv.tup [Sv.agg [vi 31, vi ((IntKind.wrap IntKind.i64 (bitsL BinOp.and IntKind.u8 116 15))), vi 0, vi 4, vi 0, vi ((-1)), vi ((-1)), vi 1, vw ((IntKind.wrap IntKind.u32 (IntKind.wrap IntKind.i32 (IntKind.wrap IntKind.i8 b1)))), vi 0, vi 0, vi ((-1)), vi ((-1)), vi 1, vw 0, vw 0, vb false, vi 2], vi 0])) (((m.set b (.buf c [.v (.int .u8 116), .v (.int .u8 b1), .v (.int .u8 b2), .v (.int .u8 b3), .v (.int .u8 b4), .v (.int .u8 b5), .v (.int .u8 0), .v (.int .u8 0)] T)).set c .dead) ++ []) else none) else none
        | _ => none)
      | _ => none)
    | _ => none)
  | _ => none
set_option maxHeartbeats 4000000 in
theorem of74S_ok : SpecOk Try.prog XM 14 of74S := by
  intro R args m k kp r h
  unfold of74S at h
  split at h
  · rename_i _ b c o n
    split at h
    · rename_i _ c2 cs T hb
      split at h
      · rename_i _ hc
        split at h
        · rename_i _ z0 b1 b2 b3 b4 b5 z6 z7
          obtain ⟨hg, h5⟩ := cond_some h
          clear h
          rename _ = some r => h
          simp only [Bool.and_eq_true, Bool.not_eq_true', beq_iff_eq] at hg
          obtain ⟨g3, g4, g5, g6, rfl, rfl, rfl⟩ := hg
          have g3 := Nat.eq_of_beq_eq_true g3
          have g4 := Nat.eq_of_beq_eq_true g4
          have g5 := Nat.eq_of_beq_eq_true g5
          subst g3 g4 g5
          have hbc : ¬ b = c2 := fun e => by rw [e] at g6; simp at g6
          rcases cond_two h with ⟨hq, h5⟩ | ⟨hq, h5⟩ <;> clear h <;> rename _ = some r => h
          · simp only [Bool.and_eq_true, beq_iff_eq] at hq
            obtain ⟨_⟩ := hq
            exact .inl ⟨_, _, h, (callR_evT ΓRm_ok (by kernel_rfl) (of74_ev b1 b2 b3 b4 b5 T) rfl rfl rfl rfl).frameL [b, c2] (by simpa using hbc) ⟨hb, hc, trivial⟩ rfl rfl rfl rfl rfl rfl rfl⟩
          cases h
        · cases h
      · cases h
    · cases h
  · cases h
theorem of7f_form (b1 b2 b3 b4 b5 : Int) (T : TypeId) :
    evF Try.prog ΓRm 400 14 [.sa 0 1 0 8] [.buf 1 [.v (.int .u8 127), .v (.int .u8 b1), .v (.int .u8 b2), .v (.int .u8 b3), .v (.int .u8 b4), .v (.int .u8 b5), .v (.int .u8 0), .v (.int .u8 0)] T, .dead] (kTk 2) kNo =
    (some
(Sv.tup
[Sv.agg
[vi 31,
vi ((IntKind.wrap IntKind.i64 (bitsL BinOp.and IntKind.u8 127 15))),
vi 0, vi 4, vi 0,
vi ((-1)), vi ((-1)), vi 1,
vw ((IntKind.wrap IntKind.u32 (IntKind.wrap IntKind.i32 (IntKind.wrap IntKind.i8 b1)))),
vi 0, vi 0, vi ((-1)),
vi ((-1)), vi 1, vw 0,
vw 0, vb false, vi 2],
vi 0],
[SObj.buf 1
[vy 127, vy b1, vy b2,
vy b3, vy b4, vy b5,
vy 0, vy 0]
T,
SObj.dead])) := by kernel_rfl
theorem of7f_ev (b1 b2 b3 b4 b5 : Int) (T : TypeId) : evF Try.prog ΓRm 400 14 [.sa 0 1 0 8] [.buf 1 [.v (.int .u8 127), .v (.int .u8 b1), .v (.int .u8 b2), .v (.int .u8 b3), .v (.int .u8 b4), .v (.int .u8 b5), .v (.int .u8 0), .v (.int .u8 0)] T, .dead] (kTk 2) kNo = some ((Sv.tup [Sv.agg [vi 31, vi ((IntKind.wrap IntKind.i64 (bitsL BinOp.and IntKind.u8 127 15))), vi 0, vi 4, vi 0, vi ((-1)), vi ((-1)), vi 1, vw ((IntKind.wrap IntKind.u32 (IntKind.wrap IntKind.i32 (IntKind.wrap IntKind.i8 b1)))), vi 0, vi 0, vi ((-1)), vi ((-1)), vi 1, vw 0, vw 0, vb false, vi 2], vi 0]), [.buf 1 [.v (.int .u8 127), .v (.int .u8 b1), .v (.int .u8 b2), .v (.int .u8 b3), .v (.int .u8 b4), .v (.int .u8 b5), .v (.int .u8 0), .v (.int .u8 0)] T, .dead]) := of7f_form b1 b2 b3 b4 b5 T
noncomputable def of7fS : Ev.Spec := fun R args m k kp => match args with
  | [.sa b c o n] => (match m[b]? with
    | some (.buf c2 cs T) => (match m[c]? with
      | some .dead => (match cs with
        | [.v (.int .u8 z0), .v (.int .u8 b1), .v (.int .u8 b2), .v (.int .u8 b3), .v (.int .u8 b4), .v (.int .u8 b5), .v (.int .u8 z6), .v (.int .u8 z7)] => bif Nat.beq o 0 && (Nat.beq n 8 && (Nat.beq c2 c && (!Nat.beq b c && ((z0 == 127) && ((z6 == 0) && ((z7 == 0))))))) then (bif true then k ((Sv.tup [Sv.agg [vi 31, vi ((IntKind.wrap IntKind.i64 (bitsL BinOp.and IntKind.u8 127 15))), vi 0, vi 4, vi 0, vi ((-1)), vi ((-1)), vi 1, vw ((IntKind.wrap IntKind.u32 (IntKind.wrap IntKind.i32 (IntKind.wrap IntKind.i8 b1)))), vi 0, vi 0, vi ((-1)), vi ((-1)), vi 1, vw 0, vw 0, vb false, vi 2], vi 0])) (((m.set b (.buf c [.v (.int .u8 127), .v (.int .u8 b1), .v (.int .u8 b2), .v (.int .u8 b3), .v (.int .u8 b4), .v (.int .u8 b5), .v (.int .u8 0), .v (.int .u8 0)] T)).set c .dead) ++ []) else none) else none
        | _ => none)
      | _ => none)
    | _ => none)
  | _ => none
set_option maxHeartbeats 4000000 in
theorem of7fS_ok : SpecOk Try.prog XM 14 of7fS := by
  intro R args m k kp r h
  unfold of7fS at h
  split at h
  · rename_i _ b c o n
    split at h
    · rename_i _ c2 cs T hb
      split at h
      · rename_i _ hc
        split at h
        · rename_i _ z0 b1 b2 b3 b4 b5 z6 z7
          obtain ⟨hg, h5⟩ := cond_some h
          clear h
          rename _ = some r => h
          simp only [Bool.and_eq_true, Bool.not_eq_true', beq_iff_eq] at hg
          obtain ⟨g3, g4, g5, g6, rfl, rfl, rfl⟩ := hg
          have g3 := Nat.eq_of_beq_eq_true g3
          have g4 := Nat.eq_of_beq_eq_true g4
          have g5 := Nat.eq_of_beq_eq_true g5
          subst g3 g4 g5
          have hbc : ¬ b = c2 := fun e => by rw [e] at g6; simp at g6
          rcases cond_two h with ⟨hq, h5⟩ | ⟨hq, h5⟩ <;> clear h <;> rename _ = some r => h
          · simp only [Bool.and_eq_true, beq_iff_eq] at hq
            obtain ⟨_⟩ := hq
            exact .inl ⟨_, _, h, (callR_evT ΓRm_ok (by kernel_rfl) (of7f_ev b1 b2 b3 b4 b5 T) rfl rfl rfl rfl).frameL [b, c2] (by simpa using hbc) ⟨hb, hc, trivial⟩ rfl rfl rfl rfl rfl rfl rfl⟩
          cases h
        · cases h
      · cases h
    · cases h
  · cases h
theorem ofe8_form (b1 b2 b3 b4 b5 : Int) (T : TypeId) :
    evF Try.prog ΓRm 400 14 [.sa 0 1 0 8] [.buf 1 [.v (.int .u8 232), .v (.int .u8 b1), .v (.int .u8 b2), .v (.int .u8 b3), .v (.int .u8 b4), .v (.int .u8 b5), .v (.int .u8 0), .v (.int .u8 0)] T, .dead] (kTk 2) kNo =
    (some
(Sv.tup
[Sv.agg
[vi 33, vi 0, vi 0,
vi 4, vi 0, vi ((-1)),
vi ((-1)), vi 1,
Sv.v
(Value.int IntKind.u32
(bitsL BinOp.or IntKind.u32
(bitsL BinOp.or IntKind.u32
(bitsL BinOp.or IntKind.u32 (IntKind.wrap IntKind.u32 b1)
(IntKind.wrap IntKind.u32 (IntKind.wrap IntKind.u32 b2 * 256)))
(IntKind.wrap IntKind.u32 (IntKind.wrap IntKind.u32 b3 * 65536)))
(IntKind.wrap IntKind.u32 (IntKind.wrap IntKind.u32 b4 * 16777216)))),
vi 0, vi 0, vi ((-1)),
vi ((-1)), vi 1, vw 0,
vw 0, vb false, vi 5],
vi 0],
[SObj.buf 1
[vy 232, vy b1, vy b2,
vy b3, vy b4, vy b5,
vy 0, vy 0]
T,
SObj.dead])) := by kernel_rfl
theorem ofe8_ev (b1 b2 b3 b4 b5 : Int) (T : TypeId) : evF Try.prog ΓRm 400 14 [.sa 0 1 0 8] [.buf 1 [.v (.int .u8 232), .v (.int .u8 b1), .v (.int .u8 b2), .v (.int .u8 b3), .v (.int .u8 b4), .v (.int .u8 b5), .v (.int .u8 0), .v (.int .u8 0)] T, .dead] (kTk 2) kNo = some ((Sv.tup [Sv.agg [vi 33, vi 0, vi 0, vi 4, vi 0, vi ((-1)), vi ((-1)), vi 1, vw ((bitsL BinOp.or IntKind.u32 (bitsL BinOp.or IntKind.u32 (bitsL BinOp.or IntKind.u32 (IntKind.wrap IntKind.u32 b1) (IntKind.wrap IntKind.u32 (IntKind.wrap IntKind.u32 b2 * 256))) (IntKind.wrap IntKind.u32 (IntKind.wrap IntKind.u32 b3 * 65536))) (IntKind.wrap IntKind.u32 (IntKind.wrap IntKind.u32 b4 * 16777216)))), vi 0, vi 0, vi ((-1)), vi ((-1)), vi 1, vw 0, vw 0, vb false, vi 5], vi 0]), [.buf 1 [.v (.int .u8 232), .v (.int .u8 b1), .v (.int .u8 b2), .v (.int .u8 b3), .v (.int .u8 b4), .v (.int .u8 b5), .v (.int .u8 0), .v (.int .u8 0)] T, .dead]) := ofe8_form b1 b2 b3 b4 b5 T
noncomputable def ofe8S : Ev.Spec := fun R args m k kp => match args with
  | [.sa b c o n] => (match m[b]? with
    | some (.buf c2 cs T) => (match m[c]? with
      | some .dead => (match cs with
        | [.v (.int .u8 z0), .v (.int .u8 b1), .v (.int .u8 b2), .v (.int .u8 b3), .v (.int .u8 b4), .v (.int .u8 b5), .v (.int .u8 z6), .v (.int .u8 z7)] => bif Nat.beq o 0 && (Nat.beq n 8 && (Nat.beq c2 c && (!Nat.beq b c && ((z0 == 232) && ((z6 == 0) && ((z7 == 0))))))) then (bif true then k ((Sv.tup [Sv.agg [vi 33, vi 0, vi 0, vi 4, vi 0, vi ((-1)), vi ((-1)), vi 1, vw ((bitsL BinOp.or IntKind.u32 (bitsL BinOp.or IntKind.u32 (bitsL BinOp.or IntKind.u32 (IntKind.wrap IntKind.u32 b1) (IntKind.wrap IntKind.u32 (IntKind.wrap IntKind.u32 b2 * 256))) (IntKind.wrap IntKind.u32 (IntKind.wrap IntKind.u32 b3 * 65536))) (IntKind.wrap IntKind.u32 (IntKind.wrap IntKind.u32 b4 * 16777216)))), vi 0, vi 0, vi ((-1)), vi ((-1)), vi 1, vw 0, vw 0, vb false, vi 5], vi 0])) (((m.set b (.buf c [.v (.int .u8 232), .v (.int .u8 b1), .v (.int .u8 b2), .v (.int .u8 b3), .v (.int .u8 b4), .v (.int .u8 b5), .v (.int .u8 0), .v (.int .u8 0)] T)).set c .dead) ++ []) else none) else none
        | _ => none)
      | _ => none)
    | _ => none)
  | _ => none
set_option maxHeartbeats 4000000 in
theorem ofe8S_ok : SpecOk Try.prog XM 14 ofe8S := by
  intro R args m k kp r h
  unfold ofe8S at h
  split at h
  · rename_i _ b c o n
    split at h
    · rename_i _ c2 cs T hb
      split at h
      · rename_i _ hc
        split at h
        · rename_i _ z0 b1 b2 b3 b4 b5 z6 z7
          obtain ⟨hg, h5⟩ := cond_some h
          clear h
          rename _ = some r => h
          simp only [Bool.and_eq_true, Bool.not_eq_true', beq_iff_eq] at hg
          obtain ⟨g3, g4, g5, g6, rfl, rfl, rfl⟩ := hg
          have g3 := Nat.eq_of_beq_eq_true g3
          have g4 := Nat.eq_of_beq_eq_true g4
          have g5 := Nat.eq_of_beq_eq_true g5
          subst g3 g4 g5
          have hbc : ¬ b = c2 := fun e => by rw [e] at g6; simp at g6
          rcases cond_two h with ⟨hq, h5⟩ | ⟨hq, h5⟩ <;> clear h <;> rename _ = some r => h
          · simp only [Bool.and_eq_true, beq_iff_eq] at hq
            obtain ⟨_⟩ := hq
            exact .inl ⟨_, _, h, (callR_evT ΓRm_ok (by kernel_rfl) (ofe8_ev b1 b2 b3 b4 b5 T) rfl rfl rfl rfl).frameL [b, c2] (by simpa using hbc) ⟨hb, hc, trivial⟩ rfl rfl rfl rfl rfl rfl rfl⟩
          cases h
        · cases h
      · cases h
    · cases h
  · cases h
theorem ofe9_form (b1 b2 b3 b4 b5 : Int) (T : TypeId) :
    evF Try.prog ΓRm 400 14 [.sa 0 1 0 8] [.buf 1 [.v (.int .u8 233), .v (.int .u8 b1), .v (.int .u8 b2), .v (.int .u8 b3), .v (.int .u8 b4), .v (.int .u8 b5), .v (.int .u8 0), .v (.int .u8 0)] T, .dead] (kTk 2) kNo =
    (some
(Sv.tup
[Sv.agg
[vi 32, vi 0, vi 0,
vi 4, vi 0, vi ((-1)),
vi ((-1)), vi 1,
Sv.v
(Value.int IntKind.u32
(bitsL BinOp.or IntKind.u32
(bitsL BinOp.or IntKind.u32
(bitsL BinOp.or IntKind.u32 (IntKind.wrap IntKind.u32 b1)
(IntKind.wrap IntKind.u32 (IntKind.wrap IntKind.u32 b2 * 256)))
(IntKind.wrap IntKind.u32 (IntKind.wrap IntKind.u32 b3 * 65536)))
(IntKind.wrap IntKind.u32 (IntKind.wrap IntKind.u32 b4 * 16777216)))),
vi 0, vi 0, vi ((-1)),
vi ((-1)), vi 1, vw 0,
vw 0, vb false, vi 5],
vi 0],
[SObj.buf 1
[vy 233, vy b1, vy b2,
vy b3, vy b4, vy b5,
vy 0, vy 0]
T,
SObj.dead])) := by kernel_rfl
theorem ofe9_ev (b1 b2 b3 b4 b5 : Int) (T : TypeId) : evF Try.prog ΓRm 400 14 [.sa 0 1 0 8] [.buf 1 [.v (.int .u8 233), .v (.int .u8 b1), .v (.int .u8 b2), .v (.int .u8 b3), .v (.int .u8 b4), .v (.int .u8 b5), .v (.int .u8 0), .v (.int .u8 0)] T, .dead] (kTk 2) kNo = some ((Sv.tup [Sv.agg [vi 32, vi 0, vi 0, vi 4, vi 0, vi ((-1)), vi ((-1)), vi 1, vw ((bitsL BinOp.or IntKind.u32 (bitsL BinOp.or IntKind.u32 (bitsL BinOp.or IntKind.u32 (IntKind.wrap IntKind.u32 b1) (IntKind.wrap IntKind.u32 (IntKind.wrap IntKind.u32 b2 * 256))) (IntKind.wrap IntKind.u32 (IntKind.wrap IntKind.u32 b3 * 65536))) (IntKind.wrap IntKind.u32 (IntKind.wrap IntKind.u32 b4 * 16777216)))), vi 0, vi 0, vi ((-1)), vi ((-1)), vi 1, vw 0, vw 0, vb false, vi 5], vi 0]), [.buf 1 [.v (.int .u8 233), .v (.int .u8 b1), .v (.int .u8 b2), .v (.int .u8 b3), .v (.int .u8 b4), .v (.int .u8 b5), .v (.int .u8 0), .v (.int .u8 0)] T, .dead]) := ofe9_form b1 b2 b3 b4 b5 T
noncomputable def ofe9S : Ev.Spec := fun R args m k kp => match args with
  | [.sa b c o n] => (match m[b]? with
    | some (.buf c2 cs T) => (match m[c]? with
      | some .dead => (match cs with
        | [.v (.int .u8 z0), .v (.int .u8 b1), .v (.int .u8 b2), .v (.int .u8 b3), .v (.int .u8 b4), .v (.int .u8 b5), .v (.int .u8 z6), .v (.int .u8 z7)] => bif Nat.beq o 0 && (Nat.beq n 8 && (Nat.beq c2 c && (!Nat.beq b c && ((z0 == 233) && ((z6 == 0) && ((z7 == 0))))))) then (bif true then k ((Sv.tup [Sv.agg [vi 32, vi 0, vi 0, vi 4, vi 0, vi ((-1)), vi ((-1)), vi 1, vw ((bitsL BinOp.or IntKind.u32 (bitsL BinOp.or IntKind.u32 (bitsL BinOp.or IntKind.u32 (IntKind.wrap IntKind.u32 b1) (IntKind.wrap IntKind.u32 (IntKind.wrap IntKind.u32 b2 * 256))) (IntKind.wrap IntKind.u32 (IntKind.wrap IntKind.u32 b3 * 65536))) (IntKind.wrap IntKind.u32 (IntKind.wrap IntKind.u32 b4 * 16777216)))), vi 0, vi 0, vi ((-1)), vi ((-1)), vi 1, vw 0, vw 0, vb false, vi 5], vi 0])) (((m.set b (.buf c [.v (.int .u8 233), .v (.int .u8 b1), .v (.int .u8 b2), .v (.int .u8 b3), .v (.int .u8 b4), .v (.int .u8 b5), .v (.int .u8 0), .v (.int .u8 0)] T)).set c .dead) ++ []) else none) else none
        | _ => none)
      | _ => none)
    | _ => none)
  | _ => none
set_option maxHeartbeats 4000000 in
theorem ofe9S_ok : SpecOk Try.prog XM 14 ofe9S := by
  intro R args m k kp r h
  unfold ofe9S at h
  split at h
  · rename_i _ b c o n
    split at h
    · rename_i _ c2 cs T hb
      split at h
      · rename_i _ hc
        split at h
        · rename_i _ z0 b1 b2 b3 b4 b5 z6 z7
          obtain ⟨hg, h5⟩ := cond_some h
          clear h
          rename _ = some r => h
          simp only [Bool.and_eq_true, Bool.not_eq_true', beq_iff_eq] at hg
          obtain ⟨g3, g4, g5, g6, rfl, rfl, rfl⟩ := hg
          have g3 := Nat.eq_of_beq_eq_true g3
          have g4 := Nat.eq_of_beq_eq_true g4
          have g5 := Nat.eq_of_beq_eq_true g5
          subst g3 g4 g5
          have hbc : ¬ b = c2 := fun e => by rw [e] at g6; simp at g6
          rcases cond_two h with ⟨hq, h5⟩ | ⟨hq, h5⟩ <;> clear h <;> rename _ = some r => h
          · simp only [Bool.and_eq_true, beq_iff_eq] at hq
            obtain ⟨_⟩ := hq
            exact .inl ⟨_, _, h, (callR_evT ΓRm_ok (by kernel_rfl) (ofe9_ev b1 b2 b3 b4 b5 T) rfl rfl rfl rfl).frameL [b, c2] (by simpa using hbc) ⟨hb, hc, trivial⟩ rfl rfl rfl rfl rfl rfl rfl⟩
          cases h
        · cases h
      · cases h
    · cases h
  · cases h
theorem ofeb_form (b1 b2 b3 b4 b5 : Int) (T : TypeId) :
    evF Try.prog ΓRm 400 14 [.sa 0 1 0 8] [.buf 1 [.v (.int .u8 235), .v (.int .u8 b1), .v (.int .u8 b2), .v (.int .u8 b3), .v (.int .u8 b4), .v (.int .u8 b5), .v (.int .u8 0), .v (.int .u8 0)] T, .dead] (kTk 2) kNo =
    (some
(Sv.tup
[Sv.agg
[vi 32, vi 0, vi 0,
vi 4, vi 0, vi ((-1)),
vi ((-1)), vi 1,
vw ((IntKind.wrap IntKind.u32 (IntKind.wrap IntKind.i32 (IntKind.wrap IntKind.i8 b1)))),
vi 0, vi 0, vi ((-1)),
vi ((-1)), vi 1, vw 0,
vw 0, vb false, vi 2],
vi 0],
[SObj.buf 1
[vy 235, vy b1, vy b2,
vy b3, vy b4, vy b5,
vy 0, vy 0]
T,
SObj.dead])) := by kernel_rfl
theorem ofeb_ev (b1 b2 b3 b4 b5 : Int) (T : TypeId) : evF Try.prog ΓRm 400 14 [.sa 0 1 0 8] [.buf 1 [.v (.int .u8 235), .v (.int .u8 b1), .v (.int .u8 b2), .v (.int .u8 b3), .v (.int .u8 b4), .v (.int .u8 b5), .v (.int .u8 0), .v (.int .u8 0)] T, .dead] (kTk 2) kNo = some ((Sv.tup [Sv.agg [vi 32, vi 0, vi 0, vi 4, vi 0, vi ((-1)), vi ((-1)), vi 1, vw ((IntKind.wrap IntKind.u32 (IntKind.wrap IntKind.i32 (IntKind.wrap IntKind.i8 b1)))), vi 0, vi 0, vi ((-1)), vi ((-1)), vi 1, vw 0, vw 0, vb false, vi 2], vi 0]), [.buf 1 [.v (.int .u8 235), .v (.int .u8 b1), .v (.int .u8 b2), .v (.int .u8 b3), .v (.int .u8 b4), .v (.int .u8 b5), .v (.int .u8 0), .v (.int .u8 0)] T, .dead]) := ofeb_form b1 b2 b3 b4 b5 T
noncomputable def ofebS : Ev.Spec := fun R args m k kp => match args with
  | [.sa b c o n] => (match m[b]? with
    | some (.buf c2 cs T) => (match m[c]? with
      | some .dead => (match cs with
        | [.v (.int .u8 z0), .v (.int .u8 b1), .v (.int .u8 b2), .v (.int .u8 b3), .v (.int .u8 b4), .v (.int .u8 b5), .v (.int .u8 z6), .v (.int .u8 z7)] => bif Nat.beq o 0 && (Nat.beq n 8 && (Nat.beq c2 c && (!Nat.beq b c && ((z0 == 235) && ((z6 == 0) && ((z7 == 0))))))) then (bif true then k ((Sv.tup [Sv.agg [vi 32, vi 0, vi 0, vi 4, vi 0, vi ((-1)), vi ((-1)), vi 1, vw ((IntKind.wrap IntKind.u32 (IntKind.wrap IntKind.i32 (IntKind.wrap IntKind.i8 b1)))), vi 0, vi 0, vi ((-1)), vi ((-1)), vi 1, vw 0, vw 0, vb false, vi 2], vi 0])) (((m.set b (.buf c [.v (.int .u8 235), .v (.int .u8 b1), .v (.int .u8 b2), .v (.int .u8 b3), .v (.int .u8 b4), .v (.int .u8 b5), .v (.int .u8 0), .v (.int .u8 0)] T)).set c .dead) ++ []) else none) else none
        | _ => none)
      | _ => none)
    | _ => none)
  | _ => none
set_option maxHeartbeats 4000000 in
theorem ofebS_ok : SpecOk Try.prog XM 14 ofebS := by
  intro R args m k kp r h
  unfold ofebS at h
  split at h
  · rename_i _ b c o n
    split at h
    · rename_i _ c2 cs T hb
      split at h
      · rename_i _ hc
        split at h
        · rename_i _ z0 b1 b2 b3 b4 b5 z6 z7
          obtain ⟨hg, h5⟩ := cond_some h
          clear h
          rename _ = some r => h
          simp only [Bool.and_eq_true, Bool.not_eq_true', beq_iff_eq] at hg
          obtain ⟨g3, g4, g5, g6, rfl, rfl, rfl⟩ := hg
          have g3 := Nat.eq_of_beq_eq_true g3
          have g4 := Nat.eq_of_beq_eq_true g4
          have g5 := Nat.eq_of_beq_eq_true g5
          subst g3 g4 g5
          have hbc : ¬ b = c2 := fun e => by rw [e] at g6; simp at g6
          rcases cond_two h with ⟨hq, h5⟩ | ⟨hq, h5⟩ <;> clear h <;> rename _ = some r => h
          · simp only [Bool.and_eq_true, beq_iff_eq] at hq
            obtain ⟨_⟩ := hq
            exact .inl ⟨_, _, h, (callR_evT ΓRm_ok (by kernel_rfl) (ofeb_ev b1 b2 b3 b4 b5 T) rfl rfl rfl rfl).frameL [b, c2] (by simpa using hbc) ⟨hb, hc, trivial⟩ rfl rfl rfl rfl rfl rfl rfl⟩
          cases h
        · cases h
      · cases h
    · cases h
  · cases h
theorem ofc2_form (b1 b2 b3 b4 b5 : Int) (T : TypeId) :
    evF Try.prog ΓRm 400 14 [.sa 0 1 0 8] [.buf 1 [.v (.int .u8 194), .v (.int .u8 b1), .v (.int .u8 b2), .v (.int .u8 b3), .v (.int .u8 b4), .v (.int .u8 b5), .v (.int .u8 0), .v (.int .u8 0)] T, .dead] (kTk 2) kNo =
    (some
(Sv.tup
[Sv.agg
[vi 34, vi 0, vi 0,
vi 4, vi 0, vi ((-1)),
vi ((-1)), vi 1,
Sv.v
(Value.int IntKind.u32
(bitsL BinOp.or IntKind.u32 (IntKind.wrap IntKind.u32 b1)
(IntKind.wrap IntKind.u32 (IntKind.wrap IntKind.u32 b2 * 256)))),
vi 0, vi 0, vi ((-1)),
vi ((-1)), vi 1, vw 0,
vw 0, vb false, vi 3],
vi 0],
[SObj.buf 1
[vy 194, vy b1, vy b2,
vy b3, vy b4, vy b5,
vy 0, vy 0]
T,
SObj.dead])) := by kernel_rfl
theorem ofc2_ev (b1 b2 b3 b4 b5 : Int) (T : TypeId) : evF Try.prog ΓRm 400 14 [.sa 0 1 0 8] [.buf 1 [.v (.int .u8 194), .v (.int .u8 b1), .v (.int .u8 b2), .v (.int .u8 b3), .v (.int .u8 b4), .v (.int .u8 b5), .v (.int .u8 0), .v (.int .u8 0)] T, .dead] (kTk 2) kNo = some ((Sv.tup [Sv.agg [vi 34, vi 0, vi 0, vi 4, vi 0, vi ((-1)), vi ((-1)), vi 1, vw ((bitsL BinOp.or IntKind.u32 (IntKind.wrap IntKind.u32 b1) (IntKind.wrap IntKind.u32 (IntKind.wrap IntKind.u32 b2 * 256)))), vi 0, vi 0, vi ((-1)), vi ((-1)), vi 1, vw 0, vw 0, vb false, vi 3], vi 0]), [.buf 1 [.v (.int .u8 194), .v (.int .u8 b1), .v (.int .u8 b2), .v (.int .u8 b3), .v (.int .u8 b4), .v (.int .u8 b5), .v (.int .u8 0), .v (.int .u8 0)] T, .dead]) := ofc2_form b1 b2 b3 b4 b5 T
noncomputable def ofc2S : Ev.Spec := fun R args m k kp => match args with
  | [.sa b c o n] => (match m[b]? with
    | some (.buf c2 cs T) => (match m[c]? with
      | some .dead => (match cs with
        | [.v (.int .u8 z0), .v (.int .u8 b1), .v (.int .u8 b2), .v (.int .u8 b3), .v (.int .u8 b4), .v (.int .u8 b5), .v (.int .u8 z6), .v (.int .u8 z7)] => bif Nat.beq o 0 && (Nat.beq n 8 && (Nat.beq c2 c && (!Nat.beq b c && ((z0 == 194) && ((z6 == 0) && ((z7 == 0))))))) then (bif true then k ((Sv.tup [Sv.agg [vi 34, vi 0, vi 0, vi 4, vi 0, vi ((-1)), vi ((-1)), vi 1, vw ((bitsL BinOp.or IntKind.u32 (IntKind.wrap IntKind.u32 b1) (IntKind.wrap IntKind.u32 (IntKind.wrap IntKind.u32 b2 * 256)))), vi 0, vi 0, vi ((-1)), vi ((-1)), vi 1, vw 0, vw 0, vb false, vi 3], vi 0])) (((m.set b (.buf c [.v (.int .u8 194), .v (.int .u8 b1), .v (.int .u8 b2), .v (.int .u8 b3), .v (.int .u8 b4), .v (.int .u8 b5), .v (.int .u8 0), .v (.int .u8 0)] T)).set c .dead) ++ []) else none) else none
        | _ => none)
      | _ => none)
    | _ => none)
  | _ => none
set_option maxHeartbeats 4000000 in
theorem ofc2S_ok : SpecOk Try.prog XM 14 ofc2S := by
  intro R args m k kp r h
  unfold ofc2S at h
  split at h
  · rename_i _ b c o n
    split at h
    · rename_i _ c2 cs T hb
      split at h
      · rename_i _ hc
        split at h
        · rename_i _ z0 b1 b2 b3 b4 b5 z6 z7
          obtain ⟨hg, h5⟩ := cond_some h
          clear h
          rename _ = some r => h
          simp only [Bool.and_eq_true, Bool.not_eq_true', beq_iff_eq] at hg
          obtain ⟨g3, g4, g5, g6, rfl, rfl, rfl⟩ := hg
          have g3 := Nat.eq_of_beq_eq_true g3
          have g4 := Nat.eq_of_beq_eq_true g4
          have g5 := Nat.eq_of_beq_eq_true g5
          subst g3 g4 g5
          have hbc : ¬ b = c2 := fun e => by rw [e] at g6; simp at g6
          rcases cond_two h with ⟨hq, h5⟩ | ⟨hq, h5⟩ <;> clear h <;> rename _ = some r => h
          · simp only [Bool.and_eq_true, beq_iff_eq] at hq
            obtain ⟨_⟩ := hq
            exact .inl ⟨_, _, h, (callR_evT ΓRm_ok (by kernel_rfl) (ofc2_ev b1 b2 b3 b4 b5 T) rfl rfl rfl rfl).frameL [b, c2] (by simpa using hbc) ⟨hb, hc, trivial⟩ rfl rfl rfl rfl rfl rfl rfl⟩
          cases h
        · cases h
      · cases h
    · cases h
  · cases h
theorem ofc3_form (b1 b2 b3 b4 b5 : Int) (T : TypeId) :
    evF Try.prog ΓRm 400 14 [.sa 0 1 0 8] [.buf 1 [.v (.int .u8 195), .v (.int .u8 b1), .v (.int .u8 b2), .v (.int .u8 b3), .v (.int .u8 b4), .v (.int .u8 b5), .v (.int .u8 0), .v (.int .u8 0)] T, .dead] (kTk 2) kNo =
    (some
(Sv.tup
[Sv.agg
[vi 34, vi 0, vi 0,
vi 0, vi 0, vi ((-1)),
vi ((-1)), vi 1, vw 0,
vi 0, vi 0, vi ((-1)),
vi ((-1)), vi 1, vw 0,
vw 0, vb false, vi 1],
vi 0],
[SObj.buf 1
[vy 195, vy b1, vy b2,
vy b3, vy b4, vy b5,
vy 0, vy 0]
T,
SObj.dead])) := by kernel_rfl
theorem ofc3_ev (b1 b2 b3 b4 b5 : Int) (T : TypeId) : evF Try.prog ΓRm 400 14 [.sa 0 1 0 8] [.buf 1 [.v (.int .u8 195), .v (.int .u8 b1), .v (.int .u8 b2), .v (.int .u8 b3), .v (.int .u8 b4), .v (.int .u8 b5), .v (.int .u8 0), .v (.int .u8 0)] T, .dead] (kTk 2) kNo = some ((Sv.tup [Sv.agg [vi 34, vi 0, vi 0, vi 0, vi 0, vi ((-1)), vi ((-1)), vi 1, vw 0, vi 0, vi 0, vi ((-1)), vi ((-1)), vi 1, vw 0, vw 0, vb false, vi 1], vi 0]), [.buf 1 [.v (.int .u8 195), .v (.int .u8 b1), .v (.int .u8 b2), .v (.int .u8 b3), .v (.int .u8 b4), .v (.int .u8 b5), .v (.int .u8 0), .v (.int .u8 0)] T, .dead]) := ofc3_form b1 b2 b3 b4 b5 T
noncomputable def ofc3S : Ev.Spec := fun R args m k kp => match args with
  | [.sa b c o n] => (match m[b]? with
    | some (.buf c2 cs T) => (match m[c]? with
      | some .dead => (match cs with
        | [.v (.int .u8 z0), .v (.int .u8 b1), .v (.int .u8 b2), .v (.int .u8 b3), .v (.int .u8 b4), .v (.int .u8 b5), .v (.int .u8 z6), .v (.int .u8 z7)] => bif Nat.beq o 0 && (Nat.beq n 8 && (Nat.beq c2 c && (!Nat.beq b c && ((z0 == 195) && ((z6 == 0) && ((z7 == 0))))))) then (bif true then k ((Sv.tup [Sv.agg [vi 34, vi 0, vi 0, vi 0, vi 0, vi ((-1)), vi ((-1)), vi 1, vw 0, vi 0, vi 0, vi ((-1)), vi ((-1)), vi 1, vw 0, vw 0, vb false, vi 1], vi 0])) (((m.set b (.buf c [.v (.int .u8 195), .v (.int .u8 b1), .v (.int .u8 b2), .v (.int .u8 b3), .v (.int .u8 b4), .v (.int .u8 b5), .v (.int .u8 0), .v (.int .u8 0)] T)).set c .dead) ++ []) else none) else none
        | _ => none)
      | _ => none)
    | _ => none)
  | _ => none
set_option maxHeartbeats 4000000 in
theorem ofc3S_ok : SpecOk Try.prog XM 14 ofc3S := by
  intro R args m k kp r h
  unfold ofc3S at h
  split at h
  · rename_i _ b c o n
    split at h
    · rename_i _ c2 cs T hb
      split at h
      · rename_i _ hc
        split at h
        · rename_i _ z0 b1 b2 b3 b4 b5 z6 z7
          obtain ⟨hg, h5⟩ := cond_some h
          clear h
          rename _ = some r => h
          simp only [Bool.and_eq_true, Bool.not_eq_true', beq_iff_eq] at hg
          obtain ⟨g3, g4, g5, g6, rfl, rfl, rfl⟩ := hg
          have g3 := Nat.eq_of_beq_eq_true g3
          have g4 := Nat.eq_of_beq_eq_true g4
          have g5 := Nat.eq_of_beq_eq_true g5
          subst g3 g4 g5
          have hbc : ¬ b = c2 := fun e => by rw [e] at g6; simp at g6
          rcases cond_two h with ⟨hq, h5⟩ | ⟨hq, h5⟩ <;> clear h <;> rename _ = some r => h
          · simp only [Bool.and_eq_true, beq_iff_eq] at hq
            obtain ⟨_⟩ := hq
            exact .inl ⟨_, _, h, (callR_evT ΓRm_ok (by kernel_rfl) (ofc3_ev b1 b2 b3 b4 b5 T) rfl rfl rfl rfl).frameL [b, c2] (by simpa using hbc) ⟨hb, hc, trivial⟩ rfl rfl rfl rfl rfl rfl rfl⟩
          cases h
        · cases h
      · cases h
    · cases h
  · cases h
noncomputable def offfT (b1 b2 b3 b4 b5 : Int) (T : TypeId) : Option (Sv × List SObj) := lockI b1 (evF Try.prog ΓRm 400 14 [.sa 0 1 0 8] [.buf 1 [.v (.int .u8 255), .v (.int .u8 b1), .v (.int .u8 b2), .v (.int .u8 b3), .v (.int .u8 b4), .v (.int .u8 b5), .v (.int .u8 0), .v (.int .u8 0)] T, .dead] (kTk 2) kNo)
theorem offf_tree (b1 b2 b3 b4 b5 : Int) (T : TypeId) : offfT b1 b2 b3 b4 b5 T = (bif decide (IntKind.wrap IntKind.i64 (bitsL BinOp.and IntKind.u8 (Int.fdiv b1 8) 7) < 0) then
some
(Sv.tup
[Sv.agg
[vi 0, vi 0, vi 0,
vi 0, vi 0, vi 0,
vi 0, vi 0, vw 0,
vi 0, vi 0, vi 0,
vi 0, vi 0, vw 0,
vw 0, vb false, vi 0],
vi 21],
[SObj.buf 1
[vy 255, vy b1, vy b2,
vy b3, vy b4, vy b5,
vy 0, vy 0]
T,
SObj.dead])
else
bif decide (IntKind.wrap IntKind.i64 (bitsL BinOp.and IntKind.u8 (Int.fdiv b1 8) 7) < 7) then
bif
decide (0 ≤ IntKind.wrap IntKind.i64 (bitsL BinOp.and IntKind.u8 (Int.fdiv b1 8) 7)) &&
decide (IntKind.wrap IntKind.i64 (bitsL BinOp.and IntKind.u8 (Int.fdiv b1 8) 7) < 7) then
bif
!selL (IntKind.wrap IntKind.i64 (bitsL BinOp.and IntKind.u8 (Int.fdiv b1 8) 7)) 0 [16, 17, 33, 0, 32, 0, 23] != 0 then
some
(Sv.tup
[Sv.agg
[vi 0, vi 0, vi 0,
vi 0, vi 0, vi 0,
vi 0, vi 0, vw 0,
vi 0, vi 0, vi 0,
vi 0, vi 0, vw 0,
vw 0, vb false, vi 0],
vi 22],
[SObj.buf 1
[vy 255, vy b1, vy b2,
vy b3, vy b4, vy b5,
vy 0, vy 0]
T,
SObj.dead])
else
bif in8 b1 && (in8 b2 && true) then
bif ansI (rm8T 255 b1 b2 b3 b4 b5 T) 8 != 0 then
some
(Sv.tup
[Sv.agg
[vi 0, vi 0, vi 0,
vi 0, vi 0, vi 0,
vi 0, vi 0, vw 0,
vi 0, vi 0, vi 0,
vi 0, vi 0, vw 0,
vw 0, vb false, vi 0],
vi ((ansI (rm8T 255 b1 b2 b3 b4 b5 T) 8))],
[SObj.buf 1
[vy 255, vy b1, vy b2,
vy b3, vy b4, vy b5,
vy 0, vy 0]
T,
SObj.dead])
else
bif decide (8 < IntKind.wrap IntKind.i64 (IntKind.wrap IntKind.i64 (1 + ansI (rm8T 255 b1 b2 b3 b4 b5 T) 7) + 0)) then
some
(Sv.tup
[Sv.agg
[vi 0, vi 0, vi 0,
vi 0, vi 0, vi 0,
vi 0, vi 0, vw 0,
vi 0, vi 0, vi 0,
vi 0, vi 0, vw 0,
vw 0, vb false, vi 0],
vi 21],
[SObj.buf 1
[vy 255, vy b1, vy b2,
vy b3, vy b4, vy b5,
vy 0, vy 0]
T,
SObj.dead])
else
some
(Sv.tup
[Sv.agg
[Sv.v
(Value.int IntKind.i64
(selL (IntKind.wrap IntKind.i64 (bitsL BinOp.and IntKind.u8 (Int.fdiv b1 8) 7)) 0 [16, 17, 33, 0, 32, 0, 23])),
vi 0, vi 4,
vi ((ansI (rm8T 255 b1 b2 b3 b4 b5 T) 0)),
vi ((ansI (rm8T 255 b1 b2 b3 b4 b5 T) 1)),
vi ((ansI (rm8T 255 b1 b2 b3 b4 b5 T) 2)),
vi ((ansI (rm8T 255 b1 b2 b3 b4 b5 T) 3)),
vi ((ansI (rm8T 255 b1 b2 b3 b4 b5 T) 4)),
vw ((ansI (rm8T 255 b1 b2 b3 b4 b5 T) 5)), vi 0,
vi 0, vi ((-1)), vi ((-1)),
vi 1, vw 0, vw 0, vb false,
Sv.v
(Value.int IntKind.i64
(IntKind.wrap IntKind.i64 (IntKind.wrap IntKind.i64 (1 + ansI (rm8T 255 b1 b2 b3 b4 b5 T) 7) + 0)))],
vi 0],
[SObj.buf 1
[vy 255, vy b1, vy b2,
vy b3, vy b4, vy b5,
vy 0, vy 0]
T,
SObj.dead])
else none
else none
else
some
(Sv.tup
[Sv.agg
[vi 0, vi 0, vi 0,
vi 0, vi 0, vi 0,
vi 0, vi 0, vw 0,
vi 0, vi 0, vi 0,
vi 0, vi 0, vw 0,
vw 0, vb false, vi 0],
vi 22],
[SObj.buf 1
[vy 255, vy b1, vy b2,
vy b3, vy b4, vy b5,
vy 0, vy 0]
T,
SObj.dead])) := (lockI_eq _ _).trans (by kernel_rfl)
noncomputable def offfF (b1 b2 b3 b4 b5 : Int) (T : TypeId) (X : Option (Sv × List SObj)) : Option (Sv × List SObj) := some (.tup [.agg [.v (.int .i64 (ansI (X) 0)), .v (.int .i64 (ansI (X) 1)), .v (.int .i64 (ansI (X) 2)), .v (.int .i64 (ansI (X) 3)), .v (.int .i64 (ansI (X) 4)), .v (.int .i64 (ansI (X) 5)), .v (.int .i64 (ansI (X) 6)), .v (.int .i64 (ansI (X) 7)), .v (.int .u32 (ansI (X) 8)), .v (.int .i64 (ansI (X) 9)), .v (.int .i64 (ansI (X) 10)), .v (.int .i64 (ansI (X) 11)), .v (.int .i64 (ansI (X) 12)), .v (.int .i64 (ansI (X) 13)), .v (.int .u32 (ansI (X) 14)), .v (.int .u32 (ansI (X) 15)), .v (.bool (ansB (X) 16)), .v (.int .i64 (ansI (X) 17))], .v (.int .i64 (ansI (X) 18))], [.buf 1 [.v (.int .u8 255), .v (.int .u8 b1), .v (.int .u8 b2), .v (.int .u8 b3), .v (.int .u8 b4), .v (.int .u8 b5), .v (.int .u8 0), .v (.int .u8 0)] T, .dead])
theorem offf_is (b1 b2 b3 b4 b5 : Int) (T : TypeId) (hg : (in8 b1 && in8 b2) = true) : offfT b1 b2 b3 b4 b5 T = offfF b1 b2 b3 b4 b5 T (offfT b1 b2 b3 b4 b5 T) := by
  have h := offf_tree b1 b2 b3 b4 b5 T
  rw [Bool.and_eq_true] at hg
  simp only [hg.1, hg.2, Bool.and_self, Bool.and_true, Bool.true_and, cond_true] at h
  generalize IntKind.wrap .i64 (bitsL .and .u8 (Int.fdiv b1 8) 7) = r at h
  by_cases q0 : r < 0
  · rw [show decide (r < 0) = true from decide_eq_true q0] at h
    simp only [cond_true] at h
    rw [h]
    rfl
  · rw [show decide (r < 0) = false from decide_eq_false q0] at h
    simp only [show decide (0 ≤ r) = true from decide_eq_true (by omega), Bool.true_and, cond_false] at h
    cases hc : decide (r < 7) <;> rw [hc] at h <;> simp only [cond_true, cond_false] at h <;> rw [h] <;> repeat' (first | exact rfl | refine ans_cond (F := offfF b1 b2 b3 b4 b5 T) ?_ ?_)
theorem offf_ev (b1 b2 b3 b4 b5 : Int) (T : TypeId) (hg : (in8 b1 && in8 b2) = true) : evF Try.prog ΓRm 400 14 [.sa 0 1 0 8] [.buf 1 [.v (.int .u8 255), .v (.int .u8 b1), .v (.int .u8 b2), .v (.int .u8 b3), .v (.int .u8 b4), .v (.int .u8 b5), .v (.int .u8 0), .v (.int .u8 0)] T, .dead] (kTk 2) kNo = some (.tup [.agg [.v (.int .i64 (ansI (offfT b1 b2 b3 b4 b5 T) 0)), .v (.int .i64 (ansI (offfT b1 b2 b3 b4 b5 T) 1)), .v (.int .i64 (ansI (offfT b1 b2 b3 b4 b5 T) 2)), .v (.int .i64 (ansI (offfT b1 b2 b3 b4 b5 T) 3)), .v (.int .i64 (ansI (offfT b1 b2 b3 b4 b5 T) 4)), .v (.int .i64 (ansI (offfT b1 b2 b3 b4 b5 T) 5)), .v (.int .i64 (ansI (offfT b1 b2 b3 b4 b5 T) 6)), .v (.int .i64 (ansI (offfT b1 b2 b3 b4 b5 T) 7)), .v (.int .u32 (ansI (offfT b1 b2 b3 b4 b5 T) 8)), .v (.int .i64 (ansI (offfT b1 b2 b3 b4 b5 T) 9)), .v (.int .i64 (ansI (offfT b1 b2 b3 b4 b5 T) 10)), .v (.int .i64 (ansI (offfT b1 b2 b3 b4 b5 T) 11)), .v (.int .i64 (ansI (offfT b1 b2 b3 b4 b5 T) 12)), .v (.int .i64 (ansI (offfT b1 b2 b3 b4 b5 T) 13)), .v (.int .u32 (ansI (offfT b1 b2 b3 b4 b5 T) 14)), .v (.int .u32 (ansI (offfT b1 b2 b3 b4 b5 T) 15)), .v (.bool (ansB (offfT b1 b2 b3 b4 b5 T) 16)), .v (.int .i64 (ansI (offfT b1 b2 b3 b4 b5 T) 17))], .v (.int .i64 (ansI (offfT b1 b2 b3 b4 b5 T) 18))], [.buf 1 [.v (.int .u8 255), .v (.int .u8 b1), .v (.int .u8 b2), .v (.int .u8 b3), .v (.int .u8 b4), .v (.int .u8 b5), .v (.int .u8 0), .v (.int .u8 0)] T, .dead]) := (lockI_eq _ _).symm.trans (offf_is b1 b2 b3 b4 b5 T hg)
noncomputable def offfS : Ev.Spec := fun R args m k kp => match args with
  | [.sa b c o n] => (match m[b]? with
    | some (.buf c2 cs T) => (match m[c]? with
      | some .dead => (match cs with
        | [.v (.int .u8 z0), .v (.int .u8 b1), .v (.int .u8 b2), .v (.int .u8 b3), .v (.int .u8 b4), .v (.int .u8 b5), .v (.int .u8 z6), .v (.int .u8 z7)] => bif Nat.beq o 0 && (Nat.beq n 8 && (Nat.beq c2 c && (!Nat.beq b c && ((z0 == 255) && ((z6 == 0) && ((z7 == 0))))))) then (bif in8 b1 && (in8 b2 && (true)) then k (.tup [.agg [.v (.int .i64 (ansI (offfT b1 b2 b3 b4 b5 T) 0)), .v (.int .i64 (ansI (offfT b1 b2 b3 b4 b5 T) 1)), .v (.int .i64 (ansI (offfT b1 b2 b3 b4 b5 T) 2)), .v (.int .i64 (ansI (offfT b1 b2 b3 b4 b5 T) 3)), .v (.int .i64 (ansI (offfT b1 b2 b3 b4 b5 T) 4)), .v (.int .i64 (ansI (offfT b1 b2 b3 b4 b5 T) 5)), .v (.int .i64 (ansI (offfT b1 b2 b3 b4 b5 T) 6)), .v (.int .i64 (ansI (offfT b1 b2 b3 b4 b5 T) 7)), .v (.int .u32 (ansI (offfT b1 b2 b3 b4 b5 T) 8)), .v (.int .i64 (ansI (offfT b1 b2 b3 b4 b5 T) 9)), .v (.int .i64 (ansI (offfT b1 b2 b3 b4 b5 T) 10)), .v (.int .i64 (ansI (offfT b1 b2 b3 b4 b5 T) 11)), .v (.int .i64 (ansI (offfT b1 b2 b3 b4 b5 T) 12)), .v (.int .i64 (ansI (offfT b1 b2 b3 b4 b5 T) 13)), .v (.int .u32 (ansI (offfT b1 b2 b3 b4 b5 T) 14)), .v (.int .u32 (ansI (offfT b1 b2 b3 b4 b5 T) 15)), .v (.bool (ansB (offfT b1 b2 b3 b4 b5 T) 16)), .v (.int .i64 (ansI (offfT b1 b2 b3 b4 b5 T) 17))], .v (.int .i64 (ansI (offfT b1 b2 b3 b4 b5 T) 18))]) (((m.set b (.buf c [.v (.int .u8 255), .v (.int .u8 b1), .v (.int .u8 b2), .v (.int .u8 b3), .v (.int .u8 b4), .v (.int .u8 b5), .v (.int .u8 0), .v (.int .u8 0)] T)).set c .dead) ++ []) else none) else none
        | _ => none)
      | _ => none)
    | _ => none)
  | _ => none
set_option maxHeartbeats 4000000 in
theorem offfS_ok : SpecOk Try.prog XM 14 offfS := by
  intro R args m k kp r h
  unfold offfS at h
  split at h
  · rename_i _ b c o n
    split at h
    · rename_i _ c2 cs T hb
      split at h
      · rename_i _ hc
        split at h
        · rename_i _ z0 b1 b2 b3 b4 b5 z6 z7
          obtain ⟨hg, h5⟩ := cond_some h
          clear h
          rename _ = some r => h
          simp only [Bool.and_eq_true, Bool.not_eq_true', beq_iff_eq] at hg
          obtain ⟨g3, g4, g5, g6, rfl, rfl, rfl⟩ := hg
          have g3 := Nat.eq_of_beq_eq_true g3
          have g4 := Nat.eq_of_beq_eq_true g4
          have g5 := Nat.eq_of_beq_eq_true g5
          subst g3 g4 g5
          have hbc : ¬ b = c2 := fun e => by rw [e] at g6; simp at g6
          rcases cond_two h with ⟨hq, h5⟩ | ⟨hq, h5⟩ <;> clear h <;> rename _ = some r => h
          · simp only [Bool.and_eq_true, beq_iff_eq] at hq
            obtain ⟨e0, e1, _⟩ := hq
            exact .inl ⟨_, _, h, (callR_evT ΓRm_ok (by kernel_rfl) (offf_ev b1 b2 b3 b4 b5 T (by rw [e0, e1]; rfl)) rfl rfl rfl rfl).frameL [b, c2] (by simpa using hbc) ⟨hb, hc, trivial⟩ rfl rfl rfl rfl rfl rfl rfl⟩
          cases h
        · cases h
      · cases h
    · cases h
  · cases h
theorem offf_in (b1 b2 b3 b4 b5 : Int) (T : TypeId) : in32 (ansI (offfT b1 b2 b3 b4 b5 T) 8) = true := by
  rw [offf_tree]
  have hr := rm8_in 255 b1 b2 b3 b4 b5 T
  generalize ansI (rm8T 255 b1 b2 b3 b4 b5 T) 5 = y at hr ⊢
  repeat' refine in_cond ?_ ?_
  all_goals (simp only [vw, vi, vb, ansI, flatS, flatL, List.cons_append, List.nil_append, List.getElem?_cons_succ, List.getElem?_cons_zero]; first | with_reducible exact hr | rfl | with_reducible exact in_none)
theorem of0f82_form (b1 b2 b3 b4 b5 : Int) (T : TypeId) :
    evF Try.prog ΓRm 400 14 [.sa 0 1 0 9] [.buf 1 [.v (.int .u8 15), .v (.int .u8 130), .v (.int .u8 b1), .v (.int .u8 b2), .v (.int .u8 b3), .v (.int .u8 b4), .v (.int .u8 b5), .v (.int .u8 0), .v (.int .u8 0)] T, .dead] (kTk 2) kNo =
    (some
(Sv.tup
[Sv.agg
[vi 31,
vi ((IntKind.wrap IntKind.i64 (bitsL BinOp.and IntKind.u8 130 15))),
vi 0, vi 4, vi 0,
vi ((-1)), vi ((-1)), vi 1,
Sv.v
(Value.int IntKind.u32
(bitsL BinOp.or IntKind.u32
(bitsL BinOp.or IntKind.u32
(bitsL BinOp.or IntKind.u32 (IntKind.wrap IntKind.u32 b1)
(IntKind.wrap IntKind.u32 (IntKind.wrap IntKind.u32 b2 * 256)))
(IntKind.wrap IntKind.u32 (IntKind.wrap IntKind.u32 b3 * 65536)))
(IntKind.wrap IntKind.u32 (IntKind.wrap IntKind.u32 b4 * 16777216)))),
vi 0, vi 0, vi ((-1)),
vi ((-1)), vi 1, vw 0,
vw 0, vb false, vi 6],
vi 0],
[SObj.buf 1
[vy 15, vy 130, vy b1,
vy b2, vy b3, vy b4,
vy b5, vy 0, vy 0]
T,
SObj.dead])) := by kernel_rfl
theorem of0f82_ev (b1 b2 b3 b4 b5 : Int) (T : TypeId) : evF Try.prog ΓRm 400 14 [.sa 0 1 0 9] [.buf 1 [.v (.int .u8 15), .v (.int .u8 130), .v (.int .u8 b1), .v (.int .u8 b2), .v (.int .u8 b3), .v (.int .u8 b4), .v (.int .u8 b5), .v (.int .u8 0), .v (.int .u8 0)] T, .dead] (kTk 2) kNo = some ((Sv.tup [Sv.agg [vi 31, vi ((IntKind.wrap IntKind.i64 (bitsL BinOp.and IntKind.u8 130 15))), vi 0, vi 4, vi 0, vi ((-1)), vi ((-1)), vi 1, vw ((bitsL BinOp.or IntKind.u32 (bitsL BinOp.or IntKind.u32 (bitsL BinOp.or IntKind.u32 (IntKind.wrap IntKind.u32 b1) (IntKind.wrap IntKind.u32 (IntKind.wrap IntKind.u32 b2 * 256))) (IntKind.wrap IntKind.u32 (IntKind.wrap IntKind.u32 b3 * 65536))) (IntKind.wrap IntKind.u32 (IntKind.wrap IntKind.u32 b4 * 16777216)))), vi 0, vi 0, vi ((-1)), vi ((-1)), vi 1, vw 0, vw 0, vb false, vi 6], vi 0]), [.buf 1 [.v (.int .u8 15), .v (.int .u8 130), .v (.int .u8 b1), .v (.int .u8 b2), .v (.int .u8 b3), .v (.int .u8 b4), .v (.int .u8 b5), .v (.int .u8 0), .v (.int .u8 0)] T, .dead]) := of0f82_form b1 b2 b3 b4 b5 T
noncomputable def of0f82S : Ev.Spec := fun R args m k kp => match args with
  | [.sa b c o n] => (match m[b]? with
    | some (.buf c2 cs T) => (match m[c]? with
      | some .dead => (match cs with
        | [.v (.int .u8 z0), .v (.int .u8 z1), .v (.int .u8 b1), .v (.int .u8 b2), .v (.int .u8 b3), .v (.int .u8 b4), .v (.int .u8 b5), .v (.int .u8 z7), .v (.int .u8 z8)] => bif Nat.beq o 0 && (Nat.beq n 9 && (Nat.beq c2 c && (!Nat.beq b c && ((z0 == 15) && ((z1 == 130) && ((z7 == 0) && ((z8 == 0)))))))) then (bif true then k ((Sv.tup [Sv.agg [vi 31, vi ((IntKind.wrap IntKind.i64 (bitsL BinOp.and IntKind.u8 130 15))), vi 0, vi 4, vi 0, vi ((-1)), vi ((-1)), vi 1, vw ((bitsL BinOp.or IntKind.u32 (bitsL BinOp.or IntKind.u32 (bitsL BinOp.or IntKind.u32 (IntKind.wrap IntKind.u32 b1) (IntKind.wrap IntKind.u32 (IntKind.wrap IntKind.u32 b2 * 256))) (IntKind.wrap IntKind.u32 (IntKind.wrap IntKind.u32 b3 * 65536))) (IntKind.wrap IntKind.u32 (IntKind.wrap IntKind.u32 b4 * 16777216)))), vi 0, vi 0, vi ((-1)), vi ((-1)), vi 1, vw 0, vw 0, vb false, vi 6], vi 0])) (((m.set b (.buf c [.v (.int .u8 15), .v (.int .u8 130), .v (.int .u8 b1), .v (.int .u8 b2), .v (.int .u8 b3), .v (.int .u8 b4), .v (.int .u8 b5), .v (.int .u8 0), .v (.int .u8 0)] T)).set c .dead) ++ []) else none) else none
        | _ => none)
      | _ => none)
    | _ => none)
  | _ => none
set_option maxHeartbeats 4000000 in
theorem of0f82S_ok : SpecOk Try.prog XM 14 of0f82S := by
  intro R args m k kp r h
  unfold of0f82S at h
  split at h
  · rename_i _ b c o n
    split at h
    · rename_i _ c2 cs T hb
      split at h
      · rename_i _ hc
        split at h
        · rename_i _ z0 z1 b1 b2 b3 b4 b5 z7 z8
          obtain ⟨hg, h5⟩ := cond_some h
          clear h
          rename _ = some r => h
          simp only [Bool.and_eq_true, Bool.not_eq_true', beq_iff_eq] at hg
          obtain ⟨g3, g4, g5, g6, rfl, rfl, rfl, rfl⟩ := hg
          have g3 := Nat.eq_of_beq_eq_true g3
          have g4 := Nat.eq_of_beq_eq_true g4
          have g5 := Nat.eq_of_beq_eq_true g5
          subst g3 g4 g5
          have hbc : ¬ b = c2 := fun e => by rw [e] at g6; simp at g6
          rcases cond_two h with ⟨hq, h5⟩ | ⟨hq, h5⟩ <;> clear h <;> rename _ = some r => h
          · simp only [Bool.and_eq_true, beq_iff_eq] at hq
            obtain ⟨_⟩ := hq
            exact .inl ⟨_, _, h, (callR_evT ΓRm_ok (by kernel_rfl) (of0f82_ev b1 b2 b3 b4 b5 T) rfl rfl rfl rfl).frameL [b, c2] (by simpa using hbc) ⟨hb, hc, trivial⟩ rfl rfl rfl rfl rfl rfl rfl⟩
          cases h
        · cases h
      · cases h
    · cases h
  · cases h
theorem of0f8d_form (b1 b2 b3 b4 b5 : Int) (T : TypeId) :
    evF Try.prog ΓRm 400 14 [.sa 0 1 0 9] [.buf 1 [.v (.int .u8 15), .v (.int .u8 141), .v (.int .u8 b1), .v (.int .u8 b2), .v (.int .u8 b3), .v (.int .u8 b4), .v (.int .u8 b5), .v (.int .u8 0), .v (.int .u8 0)] T, .dead] (kTk 2) kNo =
    (some
(Sv.tup
[Sv.agg
[vi 31,
vi ((IntKind.wrap IntKind.i64 (bitsL BinOp.and IntKind.u8 141 15))),
vi 0, vi 4, vi 0,
vi ((-1)), vi ((-1)), vi 1,
Sv.v
(Value.int IntKind.u32
(bitsL BinOp.or IntKind.u32
(bitsL BinOp.or IntKind.u32
(bitsL BinOp.or IntKind.u32 (IntKind.wrap IntKind.u32 b1)
(IntKind.wrap IntKind.u32 (IntKind.wrap IntKind.u32 b2 * 256)))
(IntKind.wrap IntKind.u32 (IntKind.wrap IntKind.u32 b3 * 65536)))
(IntKind.wrap IntKind.u32 (IntKind.wrap IntKind.u32 b4 * 16777216)))),
vi 0, vi 0, vi ((-1)),
vi ((-1)), vi 1, vw 0,
vw 0, vb false, vi 6],
vi 0],
[SObj.buf 1
[vy 15, vy 141, vy b1,
vy b2, vy b3, vy b4,
vy b5, vy 0, vy 0]
T,
SObj.dead])) := by kernel_rfl
theorem of0f8d_ev (b1 b2 b3 b4 b5 : Int) (T : TypeId) : evF Try.prog ΓRm 400 14 [.sa 0 1 0 9] [.buf 1 [.v (.int .u8 15), .v (.int .u8 141), .v (.int .u8 b1), .v (.int .u8 b2), .v (.int .u8 b3), .v (.int .u8 b4), .v (.int .u8 b5), .v (.int .u8 0), .v (.int .u8 0)] T, .dead] (kTk 2) kNo = some ((Sv.tup [Sv.agg [vi 31, vi ((IntKind.wrap IntKind.i64 (bitsL BinOp.and IntKind.u8 141 15))), vi 0, vi 4, vi 0, vi ((-1)), vi ((-1)), vi 1, vw ((bitsL BinOp.or IntKind.u32 (bitsL BinOp.or IntKind.u32 (bitsL BinOp.or IntKind.u32 (IntKind.wrap IntKind.u32 b1) (IntKind.wrap IntKind.u32 (IntKind.wrap IntKind.u32 b2 * 256))) (IntKind.wrap IntKind.u32 (IntKind.wrap IntKind.u32 b3 * 65536))) (IntKind.wrap IntKind.u32 (IntKind.wrap IntKind.u32 b4 * 16777216)))), vi 0, vi 0, vi ((-1)), vi ((-1)), vi 1, vw 0, vw 0, vb false, vi 6], vi 0]), [.buf 1 [.v (.int .u8 15), .v (.int .u8 141), .v (.int .u8 b1), .v (.int .u8 b2), .v (.int .u8 b3), .v (.int .u8 b4), .v (.int .u8 b5), .v (.int .u8 0), .v (.int .u8 0)] T, .dead]) := of0f8d_form b1 b2 b3 b4 b5 T
noncomputable def of0f8dS : Ev.Spec := fun R args m k kp => match args with
  | [.sa b c o n] => (match m[b]? with
    | some (.buf c2 cs T) => (match m[c]? with
      | some .dead => (match cs with
        | [.v (.int .u8 z0), .v (.int .u8 z1), .v (.int .u8 b1), .v (.int .u8 b2), .v (.int .u8 b3), .v (.int .u8 b4), .v (.int .u8 b5), .v (.int .u8 z7), .v (.int .u8 z8)] => bif Nat.beq o 0 && (Nat.beq n 9 && (Nat.beq c2 c && (!Nat.beq b c && ((z0 == 15) && ((z1 == 141) && ((z7 == 0) && ((z8 == 0)))))))) then (bif true then k ((Sv.tup [Sv.agg [vi 31, vi ((IntKind.wrap IntKind.i64 (bitsL BinOp.and IntKind.u8 141 15))), vi 0, vi 4, vi 0, vi ((-1)), vi ((-1)), vi 1, vw ((bitsL BinOp.or IntKind.u32 (bitsL BinOp.or IntKind.u32 (bitsL BinOp.or IntKind.u32 (IntKind.wrap IntKind.u32 b1) (IntKind.wrap IntKind.u32 (IntKind.wrap IntKind.u32 b2 * 256))) (IntKind.wrap IntKind.u32 (IntKind.wrap IntKind.u32 b3 * 65536))) (IntKind.wrap IntKind.u32 (IntKind.wrap IntKind.u32 b4 * 16777216)))), vi 0, vi 0, vi ((-1)), vi ((-1)), vi 1, vw 0, vw 0, vb false, vi 6], vi 0])) (((m.set b (.buf c [.v (.int .u8 15), .v (.int .u8 141), .v (.int .u8 b1), .v (.int .u8 b2), .v (.int .u8 b3), .v (.int .u8 b4), .v (.int .u8 b5), .v (.int .u8 0), .v (.int .u8 0)] T)).set c .dead) ++ []) else none) else none
        | _ => none)
      | _ => none)
    | _ => none)
  | _ => none
set_option maxHeartbeats 4000000 in
theorem of0f8dS_ok : SpecOk Try.prog XM 14 of0f8dS := by
  intro R args m k kp r h
  unfold of0f8dS at h
  split at h
  · rename_i _ b c o n
    split at h
    · rename_i _ c2 cs T hb
      split at h
      · rename_i _ hc
        split at h
        · rename_i _ z0 z1 b1 b2 b3 b4 b5 z7 z8
          obtain ⟨hg, h5⟩ := cond_some h
          clear h
          rename _ = some r => h
          simp only [Bool.and_eq_true, Bool.not_eq_true', beq_iff_eq] at hg
          obtain ⟨g3, g4, g5, g6, rfl, rfl, rfl, rfl⟩ := hg
          have g3 := Nat.eq_of_beq_eq_true g3
          have g4 := Nat.eq_of_beq_eq_true g4
          have g5 := Nat.eq_of_beq_eq_true g5
          subst g3 g4 g5
          have hbc : ¬ b = c2 := fun e => by rw [e] at g6; simp at g6
          rcases cond_two h with ⟨hq, h5⟩ | ⟨hq, h5⟩ <;> clear h <;> rename _ = some r => h
          · simp only [Bool.and_eq_true, beq_iff_eq] at hq
            obtain ⟨_⟩ := hq
            exact .inl ⟨_, _, h, (callR_evT ΓRm_ok (by kernel_rfl) (of0f8d_ev b1 b2 b3 b4 b5 T) rfl rfl rfl rfl).frameL [b, c2] (by simpa using hbc) ⟨hb, hc, trivial⟩ rfl rfl rfl rfl rfl rfl rfl⟩
          cases h
        · cases h
      · cases h
    · cases h
  · cases h
end Go.Proofs.Ytpgdpoloipifeaa
