/- A jump of a condition, read. -/
import Derived.Test.YtpgdpoloipifeaaEvV
import Derived.Test.YtpgdpoloipifeaaCFw
import Derived.Test.YtpgdpoloipifeaaCKn18
namespace Go.Proofs.Ytpgdpoloipifeaa
open Go Go.Ev
set_option linter.unusedVariables false
set_option linter.unusedSimpArgs false
set_option maxRecDepth 100000
theorem onj0 (b1 : Int) (T : TypeId) : evF Try.prog ΓFw 400 14 [.sl 0 0 2 2] [.cells [.v (.int .u8 112), .v (.int .u8 b1)] T] (kTk 1) kNo = some ((Sv.tup [Sv.agg [vi 31, vi ((IntKind.wrap IntKind.i64 (bitsL BinOp.and IntKind.u8 112 15))), vi 0, vi 4, vi 0, vi ((-1)), vi ((-1)), vi 1, vw ((IntKind.wrap IntKind.u32 (IntKind.wrap IntKind.i32 (IntKind.wrap IntKind.i8 b1)))), vi 0, vi 0, vi ((-1)), vi ((-1)), vi 1, vw 0, vw 0, vb false, vi 2], vi 0]), [.cells [.v (.int .u8 112), .v (.int .u8 b1)] T]) := by kernel_rfl
theorem onj1 (b1 : Int) (T : TypeId) : evF Try.prog ΓFw 400 14 [.sl 0 0 2 2] [.cells [.v (.int .u8 113), .v (.int .u8 b1)] T] (kTk 1) kNo = some ((Sv.tup [Sv.agg [vi 31, vi ((IntKind.wrap IntKind.i64 (bitsL BinOp.and IntKind.u8 113 15))), vi 0, vi 4, vi 0, vi ((-1)), vi ((-1)), vi 1, vw ((IntKind.wrap IntKind.u32 (IntKind.wrap IntKind.i32 (IntKind.wrap IntKind.i8 b1)))), vi 0, vi 0, vi ((-1)), vi ((-1)), vi 1, vw 0, vw 0, vb false, vi 2], vi 0]), [.cells [.v (.int .u8 113), .v (.int .u8 b1)] T]) := by kernel_rfl
theorem onj2 (b1 : Int) (T : TypeId) : evF Try.prog ΓFw 400 14 [.sl 0 0 2 2] [.cells [.v (.int .u8 114), .v (.int .u8 b1)] T] (kTk 1) kNo = some ((Sv.tup [Sv.agg [vi 31, vi ((IntKind.wrap IntKind.i64 (bitsL BinOp.and IntKind.u8 114 15))), vi 0, vi 4, vi 0, vi ((-1)), vi ((-1)), vi 1, vw ((IntKind.wrap IntKind.u32 (IntKind.wrap IntKind.i32 (IntKind.wrap IntKind.i8 b1)))), vi 0, vi 0, vi ((-1)), vi ((-1)), vi 1, vw 0, vw 0, vb false, vi 2], vi 0]), [.cells [.v (.int .u8 114), .v (.int .u8 b1)] T]) := by kernel_rfl
theorem onj3 (b1 : Int) (T : TypeId) : evF Try.prog ΓFw 400 14 [.sl 0 0 2 2] [.cells [.v (.int .u8 115), .v (.int .u8 b1)] T] (kTk 1) kNo = some ((Sv.tup [Sv.agg [vi 31, vi ((IntKind.wrap IntKind.i64 (bitsL BinOp.and IntKind.u8 115 15))), vi 0, vi 4, vi 0, vi ((-1)), vi ((-1)), vi 1, vw ((IntKind.wrap IntKind.u32 (IntKind.wrap IntKind.i32 (IntKind.wrap IntKind.i8 b1)))), vi 0, vi 0, vi ((-1)), vi ((-1)), vi 1, vw 0, vw 0, vb false, vi 2], vi 0]), [.cells [.v (.int .u8 115), .v (.int .u8 b1)] T]) := by kernel_rfl
theorem onj4 (b1 : Int) (T : TypeId) : evF Try.prog ΓFw 400 14 [.sl 0 0 2 2] [.cells [.v (.int .u8 116), .v (.int .u8 b1)] T] (kTk 1) kNo = some ((Sv.tup [Sv.agg [vi 31, vi ((IntKind.wrap IntKind.i64 (bitsL BinOp.and IntKind.u8 116 15))), vi 0, vi 4, vi 0, vi ((-1)), vi ((-1)), vi 1, vw ((IntKind.wrap IntKind.u32 (IntKind.wrap IntKind.i32 (IntKind.wrap IntKind.i8 b1)))), vi 0, vi 0, vi ((-1)), vi ((-1)), vi 1, vw 0, vw 0, vb false, vi 2], vi 0]), [.cells [.v (.int .u8 116), .v (.int .u8 b1)] T]) := by kernel_rfl
theorem onj5 (b1 : Int) (T : TypeId) : evF Try.prog ΓFw 400 14 [.sl 0 0 2 2] [.cells [.v (.int .u8 117), .v (.int .u8 b1)] T] (kTk 1) kNo = some ((Sv.tup [Sv.agg [vi 31, vi ((IntKind.wrap IntKind.i64 (bitsL BinOp.and IntKind.u8 117 15))), vi 0, vi 4, vi 0, vi ((-1)), vi ((-1)), vi 1, vw ((IntKind.wrap IntKind.u32 (IntKind.wrap IntKind.i32 (IntKind.wrap IntKind.i8 b1)))), vi 0, vi 0, vi ((-1)), vi ((-1)), vi 1, vw 0, vw 0, vb false, vi 2], vi 0]), [.cells [.v (.int .u8 117), .v (.int .u8 b1)] T]) := by kernel_rfl
theorem onj6 (b1 : Int) (T : TypeId) : evF Try.prog ΓFw 400 14 [.sl 0 0 2 2] [.cells [.v (.int .u8 118), .v (.int .u8 b1)] T] (kTk 1) kNo = some ((Sv.tup [Sv.agg [vi 31, vi ((IntKind.wrap IntKind.i64 (bitsL BinOp.and IntKind.u8 118 15))), vi 0, vi 4, vi 0, vi ((-1)), vi ((-1)), vi 1, vw ((IntKind.wrap IntKind.u32 (IntKind.wrap IntKind.i32 (IntKind.wrap IntKind.i8 b1)))), vi 0, vi 0, vi ((-1)), vi ((-1)), vi 1, vw 0, vw 0, vb false, vi 2], vi 0]), [.cells [.v (.int .u8 118), .v (.int .u8 b1)] T]) := by kernel_rfl
theorem onj7 (b1 : Int) (T : TypeId) : evF Try.prog ΓFw 400 14 [.sl 0 0 2 2] [.cells [.v (.int .u8 119), .v (.int .u8 b1)] T] (kTk 1) kNo = some ((Sv.tup [Sv.agg [vi 31, vi ((IntKind.wrap IntKind.i64 (bitsL BinOp.and IntKind.u8 119 15))), vi 0, vi 4, vi 0, vi ((-1)), vi ((-1)), vi 1, vw ((IntKind.wrap IntKind.u32 (IntKind.wrap IntKind.i32 (IntKind.wrap IntKind.i8 b1)))), vi 0, vi 0, vi ((-1)), vi ((-1)), vi 1, vw 0, vw 0, vb false, vi 2], vi 0]), [.cells [.v (.int .u8 119), .v (.int .u8 b1)] T]) := by kernel_rfl
theorem onj8 (b1 : Int) (T : TypeId) : evF Try.prog ΓFw 400 14 [.sl 0 0 2 2] [.cells [.v (.int .u8 120), .v (.int .u8 b1)] T] (kTk 1) kNo = some ((Sv.tup [Sv.agg [vi 31, vi ((IntKind.wrap IntKind.i64 (bitsL BinOp.and IntKind.u8 120 15))), vi 0, vi 4, vi 0, vi ((-1)), vi ((-1)), vi 1, vw ((IntKind.wrap IntKind.u32 (IntKind.wrap IntKind.i32 (IntKind.wrap IntKind.i8 b1)))), vi 0, vi 0, vi ((-1)), vi ((-1)), vi 1, vw 0, vw 0, vb false, vi 2], vi 0]), [.cells [.v (.int .u8 120), .v (.int .u8 b1)] T]) := by kernel_rfl
theorem onj9 (b1 : Int) (T : TypeId) : evF Try.prog ΓFw 400 14 [.sl 0 0 2 2] [.cells [.v (.int .u8 121), .v (.int .u8 b1)] T] (kTk 1) kNo = some ((Sv.tup [Sv.agg [vi 31, vi ((IntKind.wrap IntKind.i64 (bitsL BinOp.and IntKind.u8 121 15))), vi 0, vi 4, vi 0, vi ((-1)), vi ((-1)), vi 1, vw ((IntKind.wrap IntKind.u32 (IntKind.wrap IntKind.i32 (IntKind.wrap IntKind.i8 b1)))), vi 0, vi 0, vi ((-1)), vi ((-1)), vi 1, vw 0, vw 0, vb false, vi 2], vi 0]), [.cells [.v (.int .u8 121), .v (.int .u8 b1)] T]) := by kernel_rfl
theorem onj10 (b1 : Int) (T : TypeId) : evF Try.prog ΓFw 400 14 [.sl 0 0 2 2] [.cells [.v (.int .u8 122), .v (.int .u8 b1)] T] (kTk 1) kNo = some ((Sv.tup [Sv.agg [vi 31, vi ((IntKind.wrap IntKind.i64 (bitsL BinOp.and IntKind.u8 122 15))), vi 0, vi 4, vi 0, vi ((-1)), vi ((-1)), vi 1, vw ((IntKind.wrap IntKind.u32 (IntKind.wrap IntKind.i32 (IntKind.wrap IntKind.i8 b1)))), vi 0, vi 0, vi ((-1)), vi ((-1)), vi 1, vw 0, vw 0, vb false, vi 2], vi 0]), [.cells [.v (.int .u8 122), .v (.int .u8 b1)] T]) := by kernel_rfl
theorem onj11 (b1 : Int) (T : TypeId) : evF Try.prog ΓFw 400 14 [.sl 0 0 2 2] [.cells [.v (.int .u8 123), .v (.int .u8 b1)] T] (kTk 1) kNo = some ((Sv.tup [Sv.agg [vi 31, vi ((IntKind.wrap IntKind.i64 (bitsL BinOp.and IntKind.u8 123 15))), vi 0, vi 4, vi 0, vi ((-1)), vi ((-1)), vi 1, vw ((IntKind.wrap IntKind.u32 (IntKind.wrap IntKind.i32 (IntKind.wrap IntKind.i8 b1)))), vi 0, vi 0, vi ((-1)), vi ((-1)), vi 1, vw 0, vw 0, vb false, vi 2], vi 0]), [.cells [.v (.int .u8 123), .v (.int .u8 b1)] T]) := by kernel_rfl
theorem onj12 (b1 : Int) (T : TypeId) : evF Try.prog ΓFw 400 14 [.sl 0 0 2 2] [.cells [.v (.int .u8 124), .v (.int .u8 b1)] T] (kTk 1) kNo = some ((Sv.tup [Sv.agg [vi 31, vi ((IntKind.wrap IntKind.i64 (bitsL BinOp.and IntKind.u8 124 15))), vi 0, vi 4, vi 0, vi ((-1)), vi ((-1)), vi 1, vw ((IntKind.wrap IntKind.u32 (IntKind.wrap IntKind.i32 (IntKind.wrap IntKind.i8 b1)))), vi 0, vi 0, vi ((-1)), vi ((-1)), vi 1, vw 0, vw 0, vb false, vi 2], vi 0]), [.cells [.v (.int .u8 124), .v (.int .u8 b1)] T]) := by kernel_rfl
theorem onj13 (b1 : Int) (T : TypeId) : evF Try.prog ΓFw 400 14 [.sl 0 0 2 2] [.cells [.v (.int .u8 125), .v (.int .u8 b1)] T] (kTk 1) kNo = some ((Sv.tup [Sv.agg [vi 31, vi ((IntKind.wrap IntKind.i64 (bitsL BinOp.and IntKind.u8 125 15))), vi 0, vi 4, vi 0, vi ((-1)), vi ((-1)), vi 1, vw ((IntKind.wrap IntKind.u32 (IntKind.wrap IntKind.i32 (IntKind.wrap IntKind.i8 b1)))), vi 0, vi 0, vi ((-1)), vi ((-1)), vi 1, vw 0, vw 0, vb false, vi 2], vi 0]), [.cells [.v (.int .u8 125), .v (.int .u8 b1)] T]) := by kernel_rfl
theorem onj14 (b1 : Int) (T : TypeId) : evF Try.prog ΓFw 400 14 [.sl 0 0 2 2] [.cells [.v (.int .u8 126), .v (.int .u8 b1)] T] (kTk 1) kNo = some ((Sv.tup [Sv.agg [vi 31, vi ((IntKind.wrap IntKind.i64 (bitsL BinOp.and IntKind.u8 126 15))), vi 0, vi 4, vi 0, vi ((-1)), vi ((-1)), vi 1, vw ((IntKind.wrap IntKind.u32 (IntKind.wrap IntKind.i32 (IntKind.wrap IntKind.i8 b1)))), vi 0, vi 0, vi ((-1)), vi ((-1)), vi 1, vw 0, vw 0, vb false, vi 2], vi 0]), [.cells [.v (.int .u8 126), .v (.int .u8 b1)] T]) := by kernel_rfl
theorem onj15 (b1 : Int) (T : TypeId) : evF Try.prog ΓFw 400 14 [.sl 0 0 2 2] [.cells [.v (.int .u8 127), .v (.int .u8 b1)] T] (kTk 1) kNo = some ((Sv.tup [Sv.agg [vi 31, vi ((IntKind.wrap IntKind.i64 (bitsL BinOp.and IntKind.u8 127 15))), vi 0, vi 4, vi 0, vi ((-1)), vi ((-1)), vi 1, vw ((IntKind.wrap IntKind.u32 (IntKind.wrap IntKind.i32 (IntKind.wrap IntKind.i8 b1)))), vi 0, vi 0, vi ((-1)), vi ((-1)), vi 1, vw 0, vw 0, vb false, vi 2], vi 0]), [.cells [.v (.int .u8 127), .v (.int .u8 b1)] T]) := by kernel_rfl
theorem onj_ev (b0 b1 : Int) (T : TypeId) (hg : (decide (112 ≤ b0) && decide (b0 < 128)) = true) : evF Try.prog ΓFw 400 14 [.sl 0 0 2 2] [.cells [.v (.int .u8 b0), .v (.int .u8 b1)] T] (kTk 1) kNo = some ((Sv.tup [Sv.agg [vi 31, vi ((IntKind.wrap IntKind.i64 (bitsL BinOp.and IntKind.u8 b0 15))), vi 0, vi 4, vi 0, vi ((-1)), vi ((-1)), vi 1, vw ((IntKind.wrap IntKind.u32 (IntKind.wrap IntKind.i32 (IntKind.wrap IntKind.i8 b1)))), vi 0, vi 0, vi ((-1)), vi ((-1)), vi 1, vw 0, vw 0, vb false, vi 2], vi 0]), [.cells [.v (.int .u8 b0), .v (.int .u8 b1)] T]) := by
  rw [Bool.and_eq_true, decide_eq_true_iff, decide_eq_true_iff] at hg
  have h0 := hg.1
  have h1 := hg.2
  have hc : b0 = 112 ∨ b0 = 113 ∨ b0 = 114 ∨ b0 = 115 ∨ b0 = 116 ∨ b0 = 117 ∨ b0 = 118 ∨ b0 = 119 ∨ b0 = 120 ∨ b0 = 121 ∨ b0 = 122 ∨ b0 = 123 ∨ b0 = 124 ∨ b0 = 125 ∨ b0 = 126 ∨ b0 = 127 := by omega
  rcases hc with rfl | rfl | rfl | rfl | rfl | rfl | rfl | rfl | rfl | rfl | rfl | rfl | rfl | rfl | rfl | rfl
  · exact onj0 b1 T
  · exact onj1 b1 T
  · exact onj2 b1 T
  · exact onj3 b1 T
  · exact onj4 b1 T
  · exact onj5 b1 T
  · exact onj6 b1 T
  · exact onj7 b1 T
  · exact onj8 b1 T
  · exact onj9 b1 T
  · exact onj10 b1 T
  · exact onj11 b1 T
  · exact onj12 b1 T
  · exact onj13 b1 T
  · exact onj14 b1 T
  · exact onj15 b1 T
noncomputable def onjS : Ev.Spec := fun R args m k kp => match args with
  | [.sl b o n q] => (match m[b]? with
    | some (.cells cs T) => (match cs with
      | [.v (.int .u8 b0), .v (.int .u8 b1)] => bif Nat.beq o 0 && (Nat.beq n 2 && (Nat.beq q 2 && (decide (112 ≤ b0) && (decide (b0 < 128))))) then k ((Sv.tup [Sv.agg [vi 31, vi ((IntKind.wrap IntKind.i64 (bitsL BinOp.and IntKind.u8 b0 15))), vi 0, vi 4, vi 0, vi ((-1)), vi ((-1)), vi 1, vw ((IntKind.wrap IntKind.u32 (IntKind.wrap IntKind.i32 (IntKind.wrap IntKind.i8 b1)))), vi 0, vi 0, vi ((-1)), vi ((-1)), vi 1, vw 0, vw 0, vb false, vi 2], vi 0])) ((m.set b (.cells cs T)) ++ []) else none
      | _ => none)
    | _ => none)
  | _ => none
set_option maxHeartbeats 4000000 in
theorem onjS_ok : SpecOk Try.prog XM 14 onjS := by
  intro R args m k kp r h
  unfold onjS at h
  split at h
  · rename_i _ b o n q
    split at h
    · rename_i _ cs T hb
      split at h
      · rename_i _ b0 b1
        obtain ⟨hg, h5⟩ := cond_some h
        clear h
        rename _ = some r => h
        simp only [Bool.and_eq_true] at hg
        obtain ⟨g1, g2, g3, hg⟩ := hg
        have g1 := Nat.eq_of_beq_eq_true g1
        have g2 := Nat.eq_of_beq_eq_true g2
        have g3 := Nat.eq_of_beq_eq_true g3
        subst g1 g2 g3
        exact .inl ⟨_, _, h, (callR_evT ΓFw_ok (by kernel_rfl) (onj_ev _ _ T (by rw [Bool.and_eq_true]; exact hg)) rfl rfl rfl rfl).frameL [b] (by simp) ⟨hb, trivial⟩ rfl rfl rfl rfl rfl rfl rfl⟩
      cases h
    · cases h
  · cases h
noncomputable def ΓOj : Env := ΓK18.add 14 onjS
theorem ΓOj_ok : EnvOk Try.prog X0 ΓOj := ΓK18_ok.add (by kernel_rfl) onjS_ok
end Go.Proofs.Ytpgdpoloipifeaa
