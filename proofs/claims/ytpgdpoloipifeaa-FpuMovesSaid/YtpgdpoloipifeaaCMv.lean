/- Doubles moved, read. -/
import Derived.Test.YtpgdpoloipifeaaEvV
import Derived.Test.YtpgdpoloipifeaaCKn19
import Derived.Test.YtpgdpoloipifeaaNHold
namespace Go.Proofs.Ytpgdpoloipifeaa
open Go Go.Ev
set_option linter.unusedVariables false
set_option linter.unusedSimpArgs false
set_option maxRecDepth 100000
theorem mv11_5 (b1 : Int) (T : TypeId) : evF Try.prog ΓFp 400 14 [.sl 0 0 8 8] [.cells [.v (.int .u8 242), .v (.int .u8 15), .v (.int .u8 17), .v (.int .u8 5), .v (.int .u8 b1), .v (.int .u8 0), .v (.int .u8 0), .v (.int .u8 0)] T] (kTk 1) kNo = some ((Sv.tup [Sv.agg [vi 51, vi 0, vi 8, vi 3, vi 0, vi ((-1)), vi ((-1)), vi 1, vw ((bitsL BinOp.or IntKind.u32 (bitsL BinOp.or IntKind.u32 (bitsL BinOp.or IntKind.u32 (IntKind.wrap IntKind.u32 b1) (IntKind.wrap IntKind.u32 (IntKind.wrap IntKind.u32 0 * 256))) (IntKind.wrap IntKind.u32 (IntKind.wrap IntKind.u32 0 * 65536))) (IntKind.wrap IntKind.u32 (IntKind.wrap IntKind.u32 0 * 16777216)))), vi 5, vi ((IntKind.wrap IntKind.i64 (bitsL BinOp.and IntKind.u8 (Int.fdiv 5 8) 7))), vi ((-1)), vi ((-1)), vi 1, vw 0, vw 0, vb false, vi 8], vi 0]), [.cells [.v (.int .u8 242), .v (.int .u8 15), .v (.int .u8 17), .v (.int .u8 5), .v (.int .u8 b1), .v (.int .u8 0), .v (.int .u8 0), .v (.int .u8 0)] T]) := by kernel_rfl
theorem mv11_13 (b1 : Int) (T : TypeId) : evF Try.prog ΓFp 400 14 [.sl 0 0 8 8] [.cells [.v (.int .u8 242), .v (.int .u8 15), .v (.int .u8 17), .v (.int .u8 13), .v (.int .u8 b1), .v (.int .u8 0), .v (.int .u8 0), .v (.int .u8 0)] T] (kTk 1) kNo = some ((Sv.tup [Sv.agg [vi 51, vi 0, vi 8, vi 3, vi 0, vi ((-1)), vi ((-1)), vi 1, vw ((bitsL BinOp.or IntKind.u32 (bitsL BinOp.or IntKind.u32 (bitsL BinOp.or IntKind.u32 (IntKind.wrap IntKind.u32 b1) (IntKind.wrap IntKind.u32 (IntKind.wrap IntKind.u32 0 * 256))) (IntKind.wrap IntKind.u32 (IntKind.wrap IntKind.u32 0 * 65536))) (IntKind.wrap IntKind.u32 (IntKind.wrap IntKind.u32 0 * 16777216)))), vi 5, vi ((IntKind.wrap IntKind.i64 (bitsL BinOp.and IntKind.u8 (Int.fdiv 13 8) 7))), vi ((-1)), vi ((-1)), vi 1, vw 0, vw 0, vb false, vi 8], vi 0]), [.cells [.v (.int .u8 242), .v (.int .u8 15), .v (.int .u8 17), .v (.int .u8 13), .v (.int .u8 b1), .v (.int .u8 0), .v (.int .u8 0), .v (.int .u8 0)] T]) := by kernel_rfl
theorem mv11_21 (b1 : Int) (T : TypeId) : evF Try.prog ΓFp 400 14 [.sl 0 0 8 8] [.cells [.v (.int .u8 242), .v (.int .u8 15), .v (.int .u8 17), .v (.int .u8 21), .v (.int .u8 b1), .v (.int .u8 0), .v (.int .u8 0), .v (.int .u8 0)] T] (kTk 1) kNo = some ((Sv.tup [Sv.agg [vi 51, vi 0, vi 8, vi 3, vi 0, vi ((-1)), vi ((-1)), vi 1, vw ((bitsL BinOp.or IntKind.u32 (bitsL BinOp.or IntKind.u32 (bitsL BinOp.or IntKind.u32 (IntKind.wrap IntKind.u32 b1) (IntKind.wrap IntKind.u32 (IntKind.wrap IntKind.u32 0 * 256))) (IntKind.wrap IntKind.u32 (IntKind.wrap IntKind.u32 0 * 65536))) (IntKind.wrap IntKind.u32 (IntKind.wrap IntKind.u32 0 * 16777216)))), vi 5, vi ((IntKind.wrap IntKind.i64 (bitsL BinOp.and IntKind.u8 (Int.fdiv 21 8) 7))), vi ((-1)), vi ((-1)), vi 1, vw 0, vw 0, vb false, vi 8], vi 0]), [.cells [.v (.int .u8 242), .v (.int .u8 15), .v (.int .u8 17), .v (.int .u8 21), .v (.int .u8 b1), .v (.int .u8 0), .v (.int .u8 0), .v (.int .u8 0)] T]) := by kernel_rfl
theorem mv11_29 (b1 : Int) (T : TypeId) : evF Try.prog ΓFp 400 14 [.sl 0 0 8 8] [.cells [.v (.int .u8 242), .v (.int .u8 15), .v (.int .u8 17), .v (.int .u8 29), .v (.int .u8 b1), .v (.int .u8 0), .v (.int .u8 0), .v (.int .u8 0)] T] (kTk 1) kNo = some ((Sv.tup [Sv.agg [vi 51, vi 0, vi 8, vi 3, vi 0, vi ((-1)), vi ((-1)), vi 1, vw ((bitsL BinOp.or IntKind.u32 (bitsL BinOp.or IntKind.u32 (bitsL BinOp.or IntKind.u32 (IntKind.wrap IntKind.u32 b1) (IntKind.wrap IntKind.u32 (IntKind.wrap IntKind.u32 0 * 256))) (IntKind.wrap IntKind.u32 (IntKind.wrap IntKind.u32 0 * 65536))) (IntKind.wrap IntKind.u32 (IntKind.wrap IntKind.u32 0 * 16777216)))), vi 5, vi ((IntKind.wrap IntKind.i64 (bitsL BinOp.and IntKind.u8 (Int.fdiv 29 8) 7))), vi ((-1)), vi ((-1)), vi 1, vw 0, vw 0, vb false, vi 8], vi 0]), [.cells [.v (.int .u8 242), .v (.int .u8 15), .v (.int .u8 17), .v (.int .u8 29), .v (.int .u8 b1), .v (.int .u8 0), .v (.int .u8 0), .v (.int .u8 0)] T]) := by kernel_rfl
theorem mv11_37 (b1 : Int) (T : TypeId) : evF Try.prog ΓFp 400 14 [.sl 0 0 8 8] [.cells [.v (.int .u8 242), .v (.int .u8 15), .v (.int .u8 17), .v (.int .u8 37), .v (.int .u8 b1), .v (.int .u8 0), .v (.int .u8 0), .v (.int .u8 0)] T] (kTk 1) kNo = some ((Sv.tup [Sv.agg [vi 51, vi 0, vi 8, vi 3, vi 0, vi ((-1)), vi ((-1)), vi 1, vw ((bitsL BinOp.or IntKind.u32 (bitsL BinOp.or IntKind.u32 (bitsL BinOp.or IntKind.u32 (IntKind.wrap IntKind.u32 b1) (IntKind.wrap IntKind.u32 (IntKind.wrap IntKind.u32 0 * 256))) (IntKind.wrap IntKind.u32 (IntKind.wrap IntKind.u32 0 * 65536))) (IntKind.wrap IntKind.u32 (IntKind.wrap IntKind.u32 0 * 16777216)))), vi 5, vi ((IntKind.wrap IntKind.i64 (bitsL BinOp.and IntKind.u8 (Int.fdiv 37 8) 7))), vi ((-1)), vi ((-1)), vi 1, vw 0, vw 0, vb false, vi 8], vi 0]), [.cells [.v (.int .u8 242), .v (.int .u8 15), .v (.int .u8 17), .v (.int .u8 37), .v (.int .u8 b1), .v (.int .u8 0), .v (.int .u8 0), .v (.int .u8 0)] T]) := by kernel_rfl
theorem mv11_45 (b1 : Int) (T : TypeId) : evF Try.prog ΓFp 400 14 [.sl 0 0 8 8] [.cells [.v (.int .u8 242), .v (.int .u8 15), .v (.int .u8 17), .v (.int .u8 45), .v (.int .u8 b1), .v (.int .u8 0), .v (.int .u8 0), .v (.int .u8 0)] T] (kTk 1) kNo = some ((Sv.tup [Sv.agg [vi 51, vi 0, vi 8, vi 3, vi 0, vi ((-1)), vi ((-1)), vi 1, vw ((bitsL BinOp.or IntKind.u32 (bitsL BinOp.or IntKind.u32 (bitsL BinOp.or IntKind.u32 (IntKind.wrap IntKind.u32 b1) (IntKind.wrap IntKind.u32 (IntKind.wrap IntKind.u32 0 * 256))) (IntKind.wrap IntKind.u32 (IntKind.wrap IntKind.u32 0 * 65536))) (IntKind.wrap IntKind.u32 (IntKind.wrap IntKind.u32 0 * 16777216)))), vi 5, vi ((IntKind.wrap IntKind.i64 (bitsL BinOp.and IntKind.u8 (Int.fdiv 45 8) 7))), vi ((-1)), vi ((-1)), vi 1, vw 0, vw 0, vb false, vi 8], vi 0]), [.cells [.v (.int .u8 242), .v (.int .u8 15), .v (.int .u8 17), .v (.int .u8 45), .v (.int .u8 b1), .v (.int .u8 0), .v (.int .u8 0), .v (.int .u8 0)] T]) := by kernel_rfl
theorem mv11_53 (b1 : Int) (T : TypeId) : evF Try.prog ΓFp 400 14 [.sl 0 0 8 8] [.cells [.v (.int .u8 242), .v (.int .u8 15), .v (.int .u8 17), .v (.int .u8 53), .v (.int .u8 b1), .v (.int .u8 0), .v (.int .u8 0), .v (.int .u8 0)] T] (kTk 1) kNo = some ((Sv.tup [Sv.agg [vi 51, vi 0, vi 8, vi 3, vi 0, vi ((-1)), vi ((-1)), vi 1, vw ((bitsL BinOp.or IntKind.u32 (bitsL BinOp.or IntKind.u32 (bitsL BinOp.or IntKind.u32 (IntKind.wrap IntKind.u32 b1) (IntKind.wrap IntKind.u32 (IntKind.wrap IntKind.u32 0 * 256))) (IntKind.wrap IntKind.u32 (IntKind.wrap IntKind.u32 0 * 65536))) (IntKind.wrap IntKind.u32 (IntKind.wrap IntKind.u32 0 * 16777216)))), vi 5, vi ((IntKind.wrap IntKind.i64 (bitsL BinOp.and IntKind.u8 (Int.fdiv 53 8) 7))), vi ((-1)), vi ((-1)), vi 1, vw 0, vw 0, vb false, vi 8], vi 0]), [.cells [.v (.int .u8 242), .v (.int .u8 15), .v (.int .u8 17), .v (.int .u8 53), .v (.int .u8 b1), .v (.int .u8 0), .v (.int .u8 0), .v (.int .u8 0)] T]) := by kernel_rfl
theorem mv11_61 (b1 : Int) (T : TypeId) : evF Try.prog ΓFp 400 14 [.sl 0 0 8 8] [.cells [.v (.int .u8 242), .v (.int .u8 15), .v (.int .u8 17), .v (.int .u8 61), .v (.int .u8 b1), .v (.int .u8 0), .v (.int .u8 0), .v (.int .u8 0)] T] (kTk 1) kNo = some ((Sv.tup [Sv.agg [vi 51, vi 0, vi 8, vi 3, vi 0, vi ((-1)), vi ((-1)), vi 1, vw ((bitsL BinOp.or IntKind.u32 (bitsL BinOp.or IntKind.u32 (bitsL BinOp.or IntKind.u32 (IntKind.wrap IntKind.u32 b1) (IntKind.wrap IntKind.u32 (IntKind.wrap IntKind.u32 0 * 256))) (IntKind.wrap IntKind.u32 (IntKind.wrap IntKind.u32 0 * 65536))) (IntKind.wrap IntKind.u32 (IntKind.wrap IntKind.u32 0 * 16777216)))), vi 5, vi ((IntKind.wrap IntKind.i64 (bitsL BinOp.and IntKind.u8 (Int.fdiv 61 8) 7))), vi ((-1)), vi ((-1)), vi 1, vw 0, vw 0, vb false, vi 8], vi 0]), [.cells [.v (.int .u8 242), .v (.int .u8 15), .v (.int .u8 17), .v (.int .u8 61), .v (.int .u8 b1), .v (.int .u8 0), .v (.int .u8 0), .v (.int .u8 0)] T]) := by kernel_rfl
theorem mv11_ev (b0 b1 : Int) (T : TypeId) (hg : (b0 == 5 || b0 == 13 || b0 == 21 || b0 == 29 || b0 == 37 || b0 == 45 || b0 == 53 || b0 == 61) = true) : evF Try.prog ΓFp 400 14 [.sl 0 0 8 8] [.cells [.v (.int .u8 242), .v (.int .u8 15), .v (.int .u8 17), .v (.int .u8 b0), .v (.int .u8 b1), .v (.int .u8 0), .v (.int .u8 0), .v (.int .u8 0)] T] (kTk 1) kNo = some ((Sv.tup [Sv.agg [vi 51, vi 0, vi 8, vi 3, vi 0, vi ((-1)), vi ((-1)), vi 1, vw ((bitsL BinOp.or IntKind.u32 (bitsL BinOp.or IntKind.u32 (bitsL BinOp.or IntKind.u32 (IntKind.wrap IntKind.u32 b1) (IntKind.wrap IntKind.u32 (IntKind.wrap IntKind.u32 0 * 256))) (IntKind.wrap IntKind.u32 (IntKind.wrap IntKind.u32 0 * 65536))) (IntKind.wrap IntKind.u32 (IntKind.wrap IntKind.u32 0 * 16777216)))), vi 5, vi ((IntKind.wrap IntKind.i64 (bitsL BinOp.and IntKind.u8 (Int.fdiv b0 8) 7))), vi ((-1)), vi ((-1)), vi 1, vw 0, vw 0, vb false, vi 8], vi 0]), [.cells [.v (.int .u8 242), .v (.int .u8 15), .v (.int .u8 17), .v (.int .u8 b0), .v (.int .u8 b1), .v (.int .u8 0), .v (.int .u8 0), .v (.int .u8 0)] T]) := by
  simp only [Bool.or_eq_true, beq_iff_eq] at hg
  rcases hg with ((((((rfl | rfl) | rfl) | rfl) | rfl) | rfl) | rfl) | rfl
  · exact mv11_5 b1 T
  · exact mv11_13 b1 T
  · exact mv11_21 b1 T
  · exact mv11_29 b1 T
  · exact mv11_37 b1 T
  · exact mv11_45 b1 T
  · exact mv11_53 b1 T
  · exact mv11_61 b1 T
noncomputable def mv11S : Ev.Spec := fun R args m k kp => match args with
  | [.sl b o n q] => (match m[b]? with
    | some (.cells cs T) => (match cs with
      | [.v (.int .u8 z0), .v (.int .u8 z1), .v (.int .u8 z2), .v (.int .u8 b0), .v (.int .u8 b1), .v (.int .u8 z5), .v (.int .u8 z6), .v (.int .u8 z7)] => bif Nat.beq o 0 && (Nat.beq n 8 && (Nat.beq q 8 && ((z0 == 242) && ((z1 == 15) && ((z2 == 17) && ((z5 == 0) && ((z6 == 0) && ((z7 == 0))))))))) then (bif (b0 == 5 || b0 == 13 || b0 == 21 || b0 == 29 || b0 == 37 || b0 == 45 || b0 == 53 || b0 == 61) && (true) then k ((Sv.tup [Sv.agg [vi 51, vi 0, vi 8, vi 3, vi 0, vi ((-1)), vi ((-1)), vi 1, vw ((bitsL BinOp.or IntKind.u32 (bitsL BinOp.or IntKind.u32 (bitsL BinOp.or IntKind.u32 (IntKind.wrap IntKind.u32 b1) (IntKind.wrap IntKind.u32 (IntKind.wrap IntKind.u32 0 * 256))) (IntKind.wrap IntKind.u32 (IntKind.wrap IntKind.u32 0 * 65536))) (IntKind.wrap IntKind.u32 (IntKind.wrap IntKind.u32 0 * 16777216)))), vi 5, vi ((IntKind.wrap IntKind.i64 (bitsL BinOp.and IntKind.u8 (Int.fdiv b0 8) 7))), vi ((-1)), vi ((-1)), vi 1, vw 0, vw 0, vb false, vi 8], vi 0])) ((m.set b (.cells [.v (.int .u8 242), .v (.int .u8 15), .v (.int .u8 17), .v (.int .u8 b0), .v (.int .u8 b1), .v (.int .u8 0), .v (.int .u8 0), .v (.int .u8 0)] T)) ++ []) else none) else none
      | _ => none)
    | _ => none)
  | _ => none
set_option maxHeartbeats 4000000 in
theorem mv11S_ok : SpecOk Try.prog XM 14 mv11S := by
  intro R args m k kp r h
  unfold mv11S at h
  split at h
  · rename_i _ b o n q
    split at h
    · rename_i _ cs T hb
      split at h
      · rename_i _ z0 z1 z2 b0 b1 z5 z6 z7
        obtain ⟨hg, h5⟩ := cond_some h
        clear h
        rename _ = some r => h
        simp only [Bool.and_eq_true, Bool.not_eq_true', beq_iff_eq] at hg
        obtain ⟨g3, g4, g5, rfl, rfl, rfl, rfl, rfl, rfl⟩ := hg
        have g3 := Nat.eq_of_beq_eq_true g3
        have g4 := Nat.eq_of_beq_eq_true g4
        have g5 := Nat.eq_of_beq_eq_true g5
        subst g3 g4 g5
        rcases cond_two h with ⟨hq, h5⟩ | ⟨hq, h5⟩ <;> clear h <;> rename _ = some r => h
        · simp only [Bool.and_eq_true] at hq
          obtain ⟨e0, _⟩ := hq
          exact .inl ⟨_, _, h, (callR_evT ΓFp_ok (by kernel_rfl) (mv11_ev b0 b1 T e0) rfl rfl rfl rfl).frameL [b] (by simp) ⟨hb, trivial⟩ rfl rfl rfl rfl rfl rfl rfl⟩
        cases h
      · cases h
    · cases h
  · cases h
theorem mv10_5 (b1 : Int) (T : TypeId) : evF Try.prog ΓFp 400 14 [.sl 0 0 8 8] [.cells [.v (.int .u8 242), .v (.int .u8 15), .v (.int .u8 16), .v (.int .u8 5), .v (.int .u8 b1), .v (.int .u8 0), .v (.int .u8 0), .v (.int .u8 0)] T] (kTk 1) kNo = some ((Sv.tup [Sv.agg [vi 51, vi 0, vi 8, vi 5, vi ((IntKind.wrap IntKind.i64 (bitsL BinOp.and IntKind.u8 (Int.fdiv 5 8) 7))), vi ((-1)), vi ((-1)), vi 1, vw 0, vi 3, vi 0, vi ((-1)), vi ((-1)), vi 1, vw ((bitsL BinOp.or IntKind.u32 (bitsL BinOp.or IntKind.u32 (bitsL BinOp.or IntKind.u32 (IntKind.wrap IntKind.u32 b1) (IntKind.wrap IntKind.u32 (IntKind.wrap IntKind.u32 0 * 256))) (IntKind.wrap IntKind.u32 (IntKind.wrap IntKind.u32 0 * 65536))) (IntKind.wrap IntKind.u32 (IntKind.wrap IntKind.u32 0 * 16777216)))), vw 0, vb false, vi 8], vi 0]), [.cells [.v (.int .u8 242), .v (.int .u8 15), .v (.int .u8 16), .v (.int .u8 5), .v (.int .u8 b1), .v (.int .u8 0), .v (.int .u8 0), .v (.int .u8 0)] T]) := by kernel_rfl
theorem mv10_13 (b1 : Int) (T : TypeId) : evF Try.prog ΓFp 400 14 [.sl 0 0 8 8] [.cells [.v (.int .u8 242), .v (.int .u8 15), .v (.int .u8 16), .v (.int .u8 13), .v (.int .u8 b1), .v (.int .u8 0), .v (.int .u8 0), .v (.int .u8 0)] T] (kTk 1) kNo = some ((Sv.tup [Sv.agg [vi 51, vi 0, vi 8, vi 5, vi ((IntKind.wrap IntKind.i64 (bitsL BinOp.and IntKind.u8 (Int.fdiv 13 8) 7))), vi ((-1)), vi ((-1)), vi 1, vw 0, vi 3, vi 0, vi ((-1)), vi ((-1)), vi 1, vw ((bitsL BinOp.or IntKind.u32 (bitsL BinOp.or IntKind.u32 (bitsL BinOp.or IntKind.u32 (IntKind.wrap IntKind.u32 b1) (IntKind.wrap IntKind.u32 (IntKind.wrap IntKind.u32 0 * 256))) (IntKind.wrap IntKind.u32 (IntKind.wrap IntKind.u32 0 * 65536))) (IntKind.wrap IntKind.u32 (IntKind.wrap IntKind.u32 0 * 16777216)))), vw 0, vb false, vi 8], vi 0]), [.cells [.v (.int .u8 242), .v (.int .u8 15), .v (.int .u8 16), .v (.int .u8 13), .v (.int .u8 b1), .v (.int .u8 0), .v (.int .u8 0), .v (.int .u8 0)] T]) := by kernel_rfl
theorem mv10_21 (b1 : Int) (T : TypeId) : evF Try.prog ΓFp 400 14 [.sl 0 0 8 8] [.cells [.v (.int .u8 242), .v (.int .u8 15), .v (.int .u8 16), .v (.int .u8 21), .v (.int .u8 b1), .v (.int .u8 0), .v (.int .u8 0), .v (.int .u8 0)] T] (kTk 1) kNo = some ((Sv.tup [Sv.agg [vi 51, vi 0, vi 8, vi 5, vi ((IntKind.wrap IntKind.i64 (bitsL BinOp.and IntKind.u8 (Int.fdiv 21 8) 7))), vi ((-1)), vi ((-1)), vi 1, vw 0, vi 3, vi 0, vi ((-1)), vi ((-1)), vi 1, vw ((bitsL BinOp.or IntKind.u32 (bitsL BinOp.or IntKind.u32 (bitsL BinOp.or IntKind.u32 (IntKind.wrap IntKind.u32 b1) (IntKind.wrap IntKind.u32 (IntKind.wrap IntKind.u32 0 * 256))) (IntKind.wrap IntKind.u32 (IntKind.wrap IntKind.u32 0 * 65536))) (IntKind.wrap IntKind.u32 (IntKind.wrap IntKind.u32 0 * 16777216)))), vw 0, vb false, vi 8], vi 0]), [.cells [.v (.int .u8 242), .v (.int .u8 15), .v (.int .u8 16), .v (.int .u8 21), .v (.int .u8 b1), .v (.int .u8 0), .v (.int .u8 0), .v (.int .u8 0)] T]) := by kernel_rfl
theorem mv10_29 (b1 : Int) (T : TypeId) : evF Try.prog ΓFp 400 14 [.sl 0 0 8 8] [.cells [.v (.int .u8 242), .v (.int .u8 15), .v (.int .u8 16), .v (.int .u8 29), .v (.int .u8 b1), .v (.int .u8 0), .v (.int .u8 0), .v (.int .u8 0)] T] (kTk 1) kNo = some ((Sv.tup [Sv.agg [vi 51, vi 0, vi 8, vi 5, vi ((IntKind.wrap IntKind.i64 (bitsL BinOp.and IntKind.u8 (Int.fdiv 29 8) 7))), vi ((-1)), vi ((-1)), vi 1, vw 0, vi 3, vi 0, vi ((-1)), vi ((-1)), vi 1, vw ((bitsL BinOp.or IntKind.u32 (bitsL BinOp.or IntKind.u32 (bitsL BinOp.or IntKind.u32 (IntKind.wrap IntKind.u32 b1) (IntKind.wrap IntKind.u32 (IntKind.wrap IntKind.u32 0 * 256))) (IntKind.wrap IntKind.u32 (IntKind.wrap IntKind.u32 0 * 65536))) (IntKind.wrap IntKind.u32 (IntKind.wrap IntKind.u32 0 * 16777216)))), vw 0, vb false, vi 8], vi 0]), [.cells [.v (.int .u8 242), .v (.int .u8 15), .v (.int .u8 16), .v (.int .u8 29), .v (.int .u8 b1), .v (.int .u8 0), .v (.int .u8 0), .v (.int .u8 0)] T]) := by kernel_rfl
theorem mv10_37 (b1 : Int) (T : TypeId) : evF Try.prog ΓFp 400 14 [.sl 0 0 8 8] [.cells [.v (.int .u8 242), .v (.int .u8 15), .v (.int .u8 16), .v (.int .u8 37), .v (.int .u8 b1), .v (.int .u8 0), .v (.int .u8 0), .v (.int .u8 0)] T] (kTk 1) kNo = some ((Sv.tup [Sv.agg [vi 51, vi 0, vi 8, vi 5, vi ((IntKind.wrap IntKind.i64 (bitsL BinOp.and IntKind.u8 (Int.fdiv 37 8) 7))), vi ((-1)), vi ((-1)), vi 1, vw 0, vi 3, vi 0, vi ((-1)), vi ((-1)), vi 1, vw ((bitsL BinOp.or IntKind.u32 (bitsL BinOp.or IntKind.u32 (bitsL BinOp.or IntKind.u32 (IntKind.wrap IntKind.u32 b1) (IntKind.wrap IntKind.u32 (IntKind.wrap IntKind.u32 0 * 256))) (IntKind.wrap IntKind.u32 (IntKind.wrap IntKind.u32 0 * 65536))) (IntKind.wrap IntKind.u32 (IntKind.wrap IntKind.u32 0 * 16777216)))), vw 0, vb false, vi 8], vi 0]), [.cells [.v (.int .u8 242), .v (.int .u8 15), .v (.int .u8 16), .v (.int .u8 37), .v (.int .u8 b1), .v (.int .u8 0), .v (.int .u8 0), .v (.int .u8 0)] T]) := by kernel_rfl
theorem mv10_45 (b1 : Int) (T : TypeId) : evF Try.prog ΓFp 400 14 [.sl 0 0 8 8] [.cells [.v (.int .u8 242), .v (.int .u8 15), .v (.int .u8 16), .v (.int .u8 45), .v (.int .u8 b1), .v (.int .u8 0), .v (.int .u8 0), .v (.int .u8 0)] T] (kTk 1) kNo = some ((Sv.tup [Sv.agg [vi 51, vi 0, vi 8, vi 5, vi ((IntKind.wrap IntKind.i64 (bitsL BinOp.and IntKind.u8 (Int.fdiv 45 8) 7))), vi ((-1)), vi ((-1)), vi 1, vw 0, vi 3, vi 0, vi ((-1)), vi ((-1)), vi 1, vw ((bitsL BinOp.or IntKind.u32 (bitsL BinOp.or IntKind.u32 (bitsL BinOp.or IntKind.u32 (IntKind.wrap IntKind.u32 b1) (IntKind.wrap IntKind.u32 (IntKind.wrap IntKind.u32 0 * 256))) (IntKind.wrap IntKind.u32 (IntKind.wrap IntKind.u32 0 * 65536))) (IntKind.wrap IntKind.u32 (IntKind.wrap IntKind.u32 0 * 16777216)))), vw 0, vb false, vi 8], vi 0]), [.cells [.v (.int .u8 242), .v (.int .u8 15), .v (.int .u8 16), .v (.int .u8 45), .v (.int .u8 b1), .v (.int .u8 0), .v (.int .u8 0), .v (.int .u8 0)] T]) := by kernel_rfl
theorem mv10_53 (b1 : Int) (T : TypeId) : evF Try.prog ΓFp 400 14 [.sl 0 0 8 8] [.cells [.v (.int .u8 242), .v (.int .u8 15), .v (.int .u8 16), .v (.int .u8 53), .v (.int .u8 b1), .v (.int .u8 0), .v (.int .u8 0), .v (.int .u8 0)] T] (kTk 1) kNo = some ((Sv.tup [Sv.agg [vi 51, vi 0, vi 8, vi 5, vi ((IntKind.wrap IntKind.i64 (bitsL BinOp.and IntKind.u8 (Int.fdiv 53 8) 7))), vi ((-1)), vi ((-1)), vi 1, vw 0, vi 3, vi 0, vi ((-1)), vi ((-1)), vi 1, vw ((bitsL BinOp.or IntKind.u32 (bitsL BinOp.or IntKind.u32 (bitsL BinOp.or IntKind.u32 (IntKind.wrap IntKind.u32 b1) (IntKind.wrap IntKind.u32 (IntKind.wrap IntKind.u32 0 * 256))) (IntKind.wrap IntKind.u32 (IntKind.wrap IntKind.u32 0 * 65536))) (IntKind.wrap IntKind.u32 (IntKind.wrap IntKind.u32 0 * 16777216)))), vw 0, vb false, vi 8], vi 0]), [.cells [.v (.int .u8 242), .v (.int .u8 15), .v (.int .u8 16), .v (.int .u8 53), .v (.int .u8 b1), .v (.int .u8 0), .v (.int .u8 0), .v (.int .u8 0)] T]) := by kernel_rfl
theorem mv10_61 (b1 : Int) (T : TypeId) : evF Try.prog ΓFp 400 14 [.sl 0 0 8 8] [.cells [.v (.int .u8 242), .v (.int .u8 15), .v (.int .u8 16), .v (.int .u8 61), .v (.int .u8 b1), .v (.int .u8 0), .v (.int .u8 0), .v (.int .u8 0)] T] (kTk 1) kNo = some ((Sv.tup [Sv.agg [vi 51, vi 0, vi 8, vi 5, vi ((IntKind.wrap IntKind.i64 (bitsL BinOp.and IntKind.u8 (Int.fdiv 61 8) 7))), vi ((-1)), vi ((-1)), vi 1, vw 0, vi 3, vi 0, vi ((-1)), vi ((-1)), vi 1, vw ((bitsL BinOp.or IntKind.u32 (bitsL BinOp.or IntKind.u32 (bitsL BinOp.or IntKind.u32 (IntKind.wrap IntKind.u32 b1) (IntKind.wrap IntKind.u32 (IntKind.wrap IntKind.u32 0 * 256))) (IntKind.wrap IntKind.u32 (IntKind.wrap IntKind.u32 0 * 65536))) (IntKind.wrap IntKind.u32 (IntKind.wrap IntKind.u32 0 * 16777216)))), vw 0, vb false, vi 8], vi 0]), [.cells [.v (.int .u8 242), .v (.int .u8 15), .v (.int .u8 16), .v (.int .u8 61), .v (.int .u8 b1), .v (.int .u8 0), .v (.int .u8 0), .v (.int .u8 0)] T]) := by kernel_rfl
theorem mv10_ev (b0 b1 : Int) (T : TypeId) (hg : (b0 == 5 || b0 == 13 || b0 == 21 || b0 == 29 || b0 == 37 || b0 == 45 || b0 == 53 || b0 == 61) = true) : evF Try.prog ΓFp 400 14 [.sl 0 0 8 8] [.cells [.v (.int .u8 242), .v (.int .u8 15), .v (.int .u8 16), .v (.int .u8 b0), .v (.int .u8 b1), .v (.int .u8 0), .v (.int .u8 0), .v (.int .u8 0)] T] (kTk 1) kNo = some ((Sv.tup [Sv.agg [vi 51, vi 0, vi 8, vi 5, vi ((IntKind.wrap IntKind.i64 (bitsL BinOp.and IntKind.u8 (Int.fdiv b0 8) 7))), vi ((-1)), vi ((-1)), vi 1, vw 0, vi 3, vi 0, vi ((-1)), vi ((-1)), vi 1, vw ((bitsL BinOp.or IntKind.u32 (bitsL BinOp.or IntKind.u32 (bitsL BinOp.or IntKind.u32 (IntKind.wrap IntKind.u32 b1) (IntKind.wrap IntKind.u32 (IntKind.wrap IntKind.u32 0 * 256))) (IntKind.wrap IntKind.u32 (IntKind.wrap IntKind.u32 0 * 65536))) (IntKind.wrap IntKind.u32 (IntKind.wrap IntKind.u32 0 * 16777216)))), vw 0, vb false, vi 8], vi 0]), [.cells [.v (.int .u8 242), .v (.int .u8 15), .v (.int .u8 16), .v (.int .u8 b0), .v (.int .u8 b1), .v (.int .u8 0), .v (.int .u8 0), .v (.int .u8 0)] T]) := by
  simp only [Bool.or_eq_true, beq_iff_eq] at hg
  rcases hg with ((((((rfl | rfl) | rfl) | rfl) | rfl) | rfl) | rfl) | rfl
  · exact mv10_5 b1 T
  · exact mv10_13 b1 T
  · exact mv10_21 b1 T
  · exact mv10_29 b1 T
  · exact mv10_37 b1 T
  · exact mv10_45 b1 T
  · exact mv10_53 b1 T
  · exact mv10_61 b1 T
noncomputable def mv10S : Ev.Spec := fun R args m k kp => match args with
  | [.sl b o n q] => (match m[b]? with
    | some (.cells cs T) => (match cs with
      | [.v (.int .u8 z0), .v (.int .u8 z1), .v (.int .u8 z2), .v (.int .u8 b0), .v (.int .u8 b1), .v (.int .u8 z5), .v (.int .u8 z6), .v (.int .u8 z7)] => bif Nat.beq o 0 && (Nat.beq n 8 && (Nat.beq q 8 && ((z0 == 242) && ((z1 == 15) && ((z2 == 16) && ((z5 == 0) && ((z6 == 0) && ((z7 == 0))))))))) then (bif (b0 == 5 || b0 == 13 || b0 == 21 || b0 == 29 || b0 == 37 || b0 == 45 || b0 == 53 || b0 == 61) && (true) then k ((Sv.tup [Sv.agg [vi 51, vi 0, vi 8, vi 5, vi ((IntKind.wrap IntKind.i64 (bitsL BinOp.and IntKind.u8 (Int.fdiv b0 8) 7))), vi ((-1)), vi ((-1)), vi 1, vw 0, vi 3, vi 0, vi ((-1)), vi ((-1)), vi 1, vw ((bitsL BinOp.or IntKind.u32 (bitsL BinOp.or IntKind.u32 (bitsL BinOp.or IntKind.u32 (IntKind.wrap IntKind.u32 b1) (IntKind.wrap IntKind.u32 (IntKind.wrap IntKind.u32 0 * 256))) (IntKind.wrap IntKind.u32 (IntKind.wrap IntKind.u32 0 * 65536))) (IntKind.wrap IntKind.u32 (IntKind.wrap IntKind.u32 0 * 16777216)))), vw 0, vb false, vi 8], vi 0])) ((m.set b (.cells [.v (.int .u8 242), .v (.int .u8 15), .v (.int .u8 16), .v (.int .u8 b0), .v (.int .u8 b1), .v (.int .u8 0), .v (.int .u8 0), .v (.int .u8 0)] T)) ++ []) else none) else none
      | _ => none)
    | _ => none)
  | _ => none
set_option maxHeartbeats 4000000 in
theorem mv10S_ok : SpecOk Try.prog XM 14 mv10S := by
  intro R args m k kp r h
  unfold mv10S at h
  split at h
  · rename_i _ b o n q
    split at h
    · rename_i _ cs T hb
      split at h
      · rename_i _ z0 z1 z2 b0 b1 z5 z6 z7
        obtain ⟨hg, h5⟩ := cond_some h
        clear h
        rename _ = some r => h
        simp only [Bool.and_eq_true, Bool.not_eq_true', beq_iff_eq] at hg
        obtain ⟨g3, g4, g5, rfl, rfl, rfl, rfl, rfl, rfl⟩ := hg
        have g3 := Nat.eq_of_beq_eq_true g3
        have g4 := Nat.eq_of_beq_eq_true g4
        have g5 := Nat.eq_of_beq_eq_true g5
        subst g3 g4 g5
        rcases cond_two h with ⟨hq, h5⟩ | ⟨hq, h5⟩ <;> clear h <;> rename _ = some r => h
        · simp only [Bool.and_eq_true] at hq
          obtain ⟨e0, _⟩ := hq
          exact .inl ⟨_, _, h, (callR_evT ΓFp_ok (by kernel_rfl) (mv10_ev b0 b1 T e0) rfl rfl rfl rfl).frameL [b] (by simp) ⟨hb, trivial⟩ rfl rfl rfl rfl rfl rfl rfl⟩
        cases h
      · cases h
    · cases h
  · cases h
def third (h : Int) : List Sv → List SObj → Bool := fun args m => match args with
  | [.sl b _ _ _] => (match m[b]? with
    | some (.cells (_ :: _ :: .v (.int _ x) :: _) _) => x == h
    | _ => false)
  | _ => false
noncomputable def ΓMv : Env := ΓK19.add 14 (orSpec (third 17) mv11S mv10S)
theorem ΓMv_ok : EnvOk Try.prog X0 ΓMv := ΓK19_ok.add (by kernel_rfl) (orSpec_ok mv11S_ok mv10S_ok)
end Go.Proofs.Ytpgdpoloipifeaa
