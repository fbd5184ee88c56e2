/- Instructions of bytes that are all told. -/
import Derived.Test.YtjcbgjakomalaaaEvV
import Derived.Test.YtjcbgjakomalaaaCSr
namespace Go.Proofs.Ytjcbgjakomalaaa
open Go Go.Ev
set_option linter.unusedVariables false
set_option linter.unusedSimpArgs false
set_option maxRecDepth 100000
def eqB : List Sv → List Int → Bool
  | [], [] => true
  | .v (.int .u8 x) :: cs, y :: ys => x == y && eqB cs ys
  | _, _ => false
theorem eqB_eq : ∀ {cs : List Sv} {ys : List Int}, eqB cs ys = true → cs = ys.map fun y => .v (.int .u8 y)
  | [], [], _ => rfl
  | [], y :: ys, h => by cases h
  | c :: cs, [], h => by unfold eqB at h; split at h <;> simp_all
  | c :: cs, y :: ys, h => by
    unfold eqB at h
    split at h
    · simp_all
    · rename_i h1 h2
      simp only [List.cons.injEq] at h1 h2
      obtain ⟨rfl, rfl⟩ := h1; obtain ⟨rfl, rfl⟩ := h2
      rw [Bool.and_eq_true, beq_iff_eq] at h
      rw [h.1, eqB_eq h.2]; rfl
    · cases h
theorem one_0 (T : TypeId) : evF Try.prog ΓSo 400 41 [.sa 0 1 0 1] [.buf 1 [.v (.int .u8 164)] T, .dead] (kTk 2) kNo = some ((Sv.tup [Sv.agg [vi 46, vi 0, vi 1, vi 0, vi 0, vi ((-1)), vi ((-1)), vi 1, vw 0, vi 0, vi 0, vi ((-1)), vi ((-1)), vi 1, vw 0, vw 0, vb false, vi 1], vi 0]), [.buf 1 [.v (.int .u8 164)] T, .dead]) := by kernel_rfl
theorem one_1 (T : TypeId) : evF Try.prog ΓSo 400 41 [.sa 0 1 0 1] [.buf 1 [.v (.int .u8 165)] T, .dead] (kTk 2) kNo = some ((Sv.tup [Sv.agg [vi 46, vi 0, vi 4, vi 0, vi 0, vi ((-1)), vi ((-1)), vi 1, vw 0, vi 0, vi 0, vi ((-1)), vi ((-1)), vi 1, vw 0, vw 0, vb false, vi 1], vi 0]), [.buf 1 [.v (.int .u8 165)] T, .dead]) := by kernel_rfl
theorem one_2 (T : TypeId) : evF Try.prog ΓSo 400 41 [.sa 0 1 0 1] [.buf 1 [.v (.int .u8 170)] T, .dead] (kTk 2) kNo = some ((Sv.tup [Sv.agg [vi 47, vi 0, vi 1, vi 0, vi 0, vi ((-1)), vi ((-1)), vi 1, vw 0, vi 0, vi 0, vi ((-1)), vi ((-1)), vi 1, vw 0, vw 0, vb false, vi 1], vi 0]), [.buf 1 [.v (.int .u8 170)] T, .dead]) := by kernel_rfl
theorem one_3 (T : TypeId) : evF Try.prog ΓSo 400 41 [.sa 0 1 0 1] [.buf 1 [.v (.int .u8 171)] T, .dead] (kTk 2) kNo = some ((Sv.tup [Sv.agg [vi 47, vi 0, vi 4, vi 0, vi 0, vi ((-1)), vi ((-1)), vi 1, vw 0, vi 0, vi 0, vi ((-1)), vi ((-1)), vi 1, vw 0, vw 0, vb false, vi 1], vi 0]), [.buf 1 [.v (.int .u8 171)] T, .dead]) := by kernel_rfl
theorem one_4 (T : TypeId) : evF Try.prog ΓSo 400 41 [.sa 0 1 0 1] [.buf 1 [.v (.int .u8 172)] T, .dead] (kTk 2) kNo = some ((Sv.tup [Sv.agg [vi 48, vi 0, vi 1, vi 0, vi 0, vi ((-1)), vi ((-1)), vi 1, vw 0, vi 0, vi 0, vi ((-1)), vi ((-1)), vi 1, vw 0, vw 0, vb false, vi 1], vi 0]), [.buf 1 [.v (.int .u8 172)] T, .dead]) := by kernel_rfl
theorem one_5 (T : TypeId) : evF Try.prog ΓSo 400 41 [.sa 0 1 0 1] [.buf 1 [.v (.int .u8 173)] T, .dead] (kTk 2) kNo = some ((Sv.tup [Sv.agg [vi 48, vi 0, vi 4, vi 0, vi 0, vi ((-1)), vi ((-1)), vi 1, vw 0, vi 0, vi 0, vi ((-1)), vi ((-1)), vi 1, vw 0, vw 0, vb false, vi 1], vi 0]), [.buf 1 [.v (.int .u8 173)] T, .dead]) := by kernel_rfl
theorem one_6 (T : TypeId) : evF Try.prog ΓSo 400 41 [.sa 0 1 0 2] [.buf 1 [.v (.int .u8 243), .v (.int .u8 164)] T, .dead] (kTk 2) kNo = some ((Sv.tup [Sv.agg [vi 46, vi 0, vi 1, vi 0, vi 0, vi ((-1)), vi ((-1)), vi 1, vw 0, vi 0, vi 0, vi ((-1)), vi ((-1)), vi 1, vw 0, vw 0, vb true, vi 2], vi 0]), [.buf 1 [.v (.int .u8 243), .v (.int .u8 164)] T, .dead]) := by kernel_rfl
theorem one_7 (T : TypeId) : evF Try.prog ΓSo 400 41 [.sa 0 1 0 2] [.buf 1 [.v (.int .u8 243), .v (.int .u8 165)] T, .dead] (kTk 2) kNo = some ((Sv.tup [Sv.agg [vi 46, vi 0, vi 4, vi 0, vi 0, vi ((-1)), vi ((-1)), vi 1, vw 0, vi 0, vi 0, vi ((-1)), vi ((-1)), vi 1, vw 0, vw 0, vb true, vi 2], vi 0]), [.buf 1 [.v (.int .u8 243), .v (.int .u8 165)] T, .dead]) := by kernel_rfl
theorem one_8 (T : TypeId) : evF Try.prog ΓSo 400 41 [.sa 0 1 0 2] [.buf 1 [.v (.int .u8 243), .v (.int .u8 170)] T, .dead] (kTk 2) kNo = some ((Sv.tup [Sv.agg [vi 47, vi 0, vi 1, vi 0, vi 0, vi ((-1)), vi ((-1)), vi 1, vw 0, vi 0, vi 0, vi ((-1)), vi ((-1)), vi 1, vw 0, vw 0, vb true, vi 2], vi 0]), [.buf 1 [.v (.int .u8 243), .v (.int .u8 170)] T, .dead]) := by kernel_rfl
theorem one_9 (T : TypeId) : evF Try.prog ΓSo 400 41 [.sa 0 1 0 2] [.buf 1 [.v (.int .u8 243), .v (.int .u8 171)] T, .dead] (kTk 2) kNo = some ((Sv.tup [Sv.agg [vi 47, vi 0, vi 4, vi 0, vi 0, vi ((-1)), vi ((-1)), vi 1, vw 0, vi 0, vi 0, vi ((-1)), vi ((-1)), vi 1, vw 0, vw 0, vb true, vi 2], vi 0]), [.buf 1 [.v (.int .u8 243), .v (.int .u8 171)] T, .dead]) := by kernel_rfl
theorem one_10 (T : TypeId) : evF Try.prog ΓSo 400 41 [.sl 0 0 2 2] [.cells [.v (.int .u8 243), .v (.int .u8 164)] T] (kTk 1) kNo = some ((Sv.tup [Sv.agg [vi 46, vi 0, vi 1, vi 0, vi 0, vi ((-1)), vi ((-1)), vi 1, vw 0, vi 0, vi 0, vi ((-1)), vi ((-1)), vi 1, vw 0, vw 0, vb true, vi 2], vi 0]), [.cells [.v (.int .u8 243), .v (.int .u8 164)] T]) := by kernel_rfl
theorem one_11 (T : TypeId) : evF Try.prog ΓSo 400 41 [.sl 0 0 2 2] [.cells [.v (.int .u8 243), .v (.int .u8 170)] T] (kTk 1) kNo = some ((Sv.tup [Sv.agg [vi 47, vi 0, vi 1, vi 0, vi 0, vi ((-1)), vi ((-1)), vi 1, vw 0, vi 0, vi 0, vi ((-1)), vi ((-1)), vi 1, vw 0, vw 0, vb true, vi 2], vi 0]), [.cells [.v (.int .u8 243), .v (.int .u8 170)] T]) := by kernel_rfl
theorem one_12 (T : TypeId) : evF Try.prog ΓSo 400 41 [.sl 0 0 2 2] [.cells [.v (.int .u8 243), .v (.int .u8 171)] T] (kTk 1) kNo = some ((Sv.tup [Sv.agg [vi 47, vi 0, vi 4, vi 0, vi 0, vi ((-1)), vi ((-1)), vi 1, vw 0, vi 0, vi 0, vi ((-1)), vi ((-1)), vi 1, vw 0, vw 0, vb true, vi 2], vi 0]), [.cells [.v (.int .u8 243), .v (.int .u8 171)] T]) := by kernel_rfl
noncomputable def oneS : Ev.Spec := fun R args m k kp => match args with
  | [.sa b c o n] => (match m[b]? with
    | some (.buf c2 cs T) => (match m[c]? with
      | some .dead => bif Nat.beq o 0 && (Nat.beq c2 c && !Nat.beq b c) then (bif eqB cs [164] && Nat.beq n 1 then k (Sv.tup [Sv.agg [vi 46, vi 0, vi 1, vi 0, vi 0, vi ((-1)), vi ((-1)), vi 1, vw 0, vi 0, vi 0, vi ((-1)), vi ((-1)), vi 1, vw 0, vw 0, vb false, vi 1], vi 0]) (((m.set b (.buf c cs T)).set c .dead) ++ []) else bif eqB cs [165] && Nat.beq n 1 then k (Sv.tup [Sv.agg [vi 46, vi 0, vi 4, vi 0, vi 0, vi ((-1)), vi ((-1)), vi 1, vw 0, vi 0, vi 0, vi ((-1)), vi ((-1)), vi 1, vw 0, vw 0, vb false, vi 1], vi 0]) (((m.set b (.buf c cs T)).set c .dead) ++ []) else bif eqB cs [170] && Nat.beq n 1 then k (Sv.tup [Sv.agg [vi 47, vi 0, vi 1, vi 0, vi 0, vi ((-1)), vi ((-1)), vi 1, vw 0, vi 0, vi 0, vi ((-1)), vi ((-1)), vi 1, vw 0, vw 0, vb false, vi 1], vi 0]) (((m.set b (.buf c cs T)).set c .dead) ++ []) else bif eqB cs [171] && Nat.beq n 1 then k (Sv.tup [Sv.agg [vi 47, vi 0, vi 4, vi 0, vi 0, vi ((-1)), vi ((-1)), vi 1, vw 0, vi 0, vi 0, vi ((-1)), vi ((-1)), vi 1, vw 0, vw 0, vb false, vi 1], vi 0]) (((m.set b (.buf c cs T)).set c .dead) ++ []) else bif eqB cs [172] && Nat.beq n 1 then k (Sv.tup [Sv.agg [vi 48, vi 0, vi 1, vi 0, vi 0, vi ((-1)), vi ((-1)), vi 1, vw 0, vi 0, vi 0, vi ((-1)), vi ((-1)), vi 1, vw 0, vw 0, vb false, vi 1], vi 0]) (((m.set b (.buf c cs T)).set c .dead) ++ []) else bif eqB cs [173] && Nat.beq n 1 then k (Sv.tup [Sv.agg [vi 48, vi 0, vi 4, vi 0, vi 0, vi ((-1)), vi ((-1)), vi 1, vw 0, vi 0, vi 0, vi ((-1)), vi ((-1)), vi 1, vw 0, vw 0, vb false, vi 1], vi 0]) (((m.set b (.buf c cs T)).set c .dead) ++ []) else bif eqB cs [243, 164] && Nat.beq n 2 then k (Sv.tup [Sv.agg [vi 46, vi 0, vi 1, vi 0, vi 0, vi ((-1)), vi ((-1)), vi 1, vw 0, vi 0, vi 0, vi ((-1)), vi ((-1)), vi 1, vw 0, vw 0, vb true, vi 2], vi 0]) (((m.set b (.buf c cs T)).set c .dead) ++ []) else bif eqB cs [243, 165] && Nat.beq n 2 then k (Sv.tup [Sv.agg [vi 46, vi 0, vi 4, vi 0, vi 0, vi ((-1)), vi ((-1)), vi 1, vw 0, vi 0, vi 0, vi ((-1)), vi ((-1)), vi 1, vw 0, vw 0, vb true, vi 2], vi 0]) (((m.set b (.buf c cs T)).set c .dead) ++ []) else bif eqB cs [243, 170] && Nat.beq n 2 then k (Sv.tup [Sv.agg [vi 47, vi 0, vi 1, vi 0, vi 0, vi ((-1)), vi ((-1)), vi 1, vw 0, vi 0, vi 0, vi ((-1)), vi ((-1)), vi 1, vw 0, vw 0, vb true, vi 2], vi 0]) (((m.set b (.buf c cs T)).set c .dead) ++ []) else bif eqB cs [243, 171] && Nat.beq n 2 then k (Sv.tup [Sv.agg [vi 47, vi 0, vi 4, vi 0, vi 0, vi ((-1)), vi ((-1)), vi 1, vw 0, vi 0, vi 0, vi ((-1)), vi ((-1)), vi 1, vw 0, vw 0, vb true, vi 2], vi 0]) (((m.set b (.buf c cs T)).set c .dead) ++ []) else none) else none
      | _ => none)
    | _ => none)
  | [.sl b o n q] => (match m[b]? with
    | some (.cells cs T) => bif Nat.beq o 0 && Nat.beq n q then (bif eqB cs [243, 164] && Nat.beq n 2 then k (Sv.tup [Sv.agg [vi 46, vi 0, vi 1, vi 0, vi 0, vi ((-1)), vi ((-1)), vi 1, vw 0, vi 0, vi 0, vi ((-1)), vi ((-1)), vi 1, vw 0, vw 0, vb true, vi 2], vi 0]) ((m.set b (.cells cs T)) ++ []) else bif eqB cs [243, 170] && Nat.beq n 2 then k (Sv.tup [Sv.agg [vi 47, vi 0, vi 1, vi 0, vi 0, vi ((-1)), vi ((-1)), vi 1, vw 0, vi 0, vi 0, vi ((-1)), vi ((-1)), vi 1, vw 0, vw 0, vb true, vi 2], vi 0]) ((m.set b (.cells cs T)) ++ []) else bif eqB cs [243, 171] && Nat.beq n 2 then k (Sv.tup [Sv.agg [vi 47, vi 0, vi 4, vi 0, vi 0, vi ((-1)), vi ((-1)), vi 1, vw 0, vi 0, vi 0, vi ((-1)), vi ((-1)), vi 1, vw 0, vw 0, vb true, vi 2], vi 0]) ((m.set b (.cells cs T)) ++ []) else none) else none
    | _ => none)
  | _ => none
set_option maxHeartbeats 4000000 in
theorem oneS_ok : SpecOk Try.prog XM 41 oneS := by
  intro R args m k kp r h
  unfold oneS at h
  split at h
  · rename_i _ b c o n
    split at h
    · rename_i _ c2 cs T hb
      split at h
      · rename_i _ hc
        obtain ⟨hg, h5⟩ := cond_some h
        clear h
        rename _ = some r => h
        simp only [Bool.and_eq_true, Bool.not_eq_true'] at hg
        obtain ⟨h0, h1, h2⟩ := hg
        have h0 := Nat.eq_of_beq_eq_true h0
        have h1 := Nat.eq_of_beq_eq_true h1
        subst h0 h1
        have hbc : ¬ b = c2 := fun e => by rw [e] at h2; simp at h2
        rcases cond_two h with ⟨hq, h5⟩ | ⟨hq, h5⟩ <;> clear h <;> rename _ = some r => h
        · rw [Bool.and_eq_true] at hq
          have hn := Nat.eq_of_beq_eq_true hq.2
          subst hn
          have hcs := eqB_eq hq.1
          simp only [List.map_cons, List.map_nil] at hcs
          subst hcs
          exact .inl ⟨_, _, h, (callR_evT ΓSo_ok (by kernel_rfl) (one_0 T) rfl rfl rfl rfl).frameL [b, c2] (by simpa using hbc) ⟨hb, hc, trivial⟩ rfl rfl rfl rfl rfl rfl rfl⟩
        rcases cond_two h with ⟨hq, h5⟩ | ⟨hq, h5⟩ <;> clear h <;> rename _ = some r => h
        · rw [Bool.and_eq_true] at hq
          have hn := Nat.eq_of_beq_eq_true hq.2
          subst hn
          have hcs := eqB_eq hq.1
          simp only [List.map_cons, List.map_nil] at hcs
          subst hcs
          exact .inl ⟨_, _, h, (callR_evT ΓSo_ok (by kernel_rfl) (one_1 T) rfl rfl rfl rfl).frameL [b, c2] (by simpa using hbc) ⟨hb, hc, trivial⟩ rfl rfl rfl rfl rfl rfl rfl⟩
        rcases cond_two h with ⟨hq, h5⟩ | ⟨hq, h5⟩ <;> clear h <;> rename _ = some r => h
        · rw [Bool.and_eq_true] at hq
          have hn := Nat.eq_of_beq_eq_true hq.2
          subst hn
          have hcs := eqB_eq hq.1
          simp only [List.map_cons, List.map_nil] at hcs
          subst hcs
          exact .inl ⟨_, _, h, (callR_evT ΓSo_ok (by kernel_rfl) (one_2 T) rfl rfl rfl rfl).frameL [b, c2] (by simpa using hbc) ⟨hb, hc, trivial⟩ rfl rfl rfl rfl rfl rfl rfl⟩
        rcases cond_two h with ⟨hq, h5⟩ | ⟨hq, h5⟩ <;> clear h <;> rename _ = some r => h
        · rw [Bool.and_eq_true] at hq
          have hn := Nat.eq_of_beq_eq_true hq.2
          subst hn
          have hcs := eqB_eq hq.1
          simp only [List.map_cons, List.map_nil] at hcs
          subst hcs
          exact .inl ⟨_, _, h, (callR_evT ΓSo_ok (by kernel_rfl) (one_3 T) rfl rfl rfl rfl).frameL [b, c2] (by simpa using hbc) ⟨hb, hc, trivial⟩ rfl rfl rfl rfl rfl rfl rfl⟩
        rcases cond_two h with ⟨hq, h5⟩ | ⟨hq, h5⟩ <;> clear h <;> rename _ = some r => h
        · rw [Bool.and_eq_true] at hq
          have hn := Nat.eq_of_beq_eq_true hq.2
          subst hn
          have hcs := eqB_eq hq.1
          simp only [List.map_cons, List.map_nil] at hcs
          subst hcs
          exact .inl ⟨_, _, h, (callR_evT ΓSo_ok (by kernel_rfl) (one_4 T) rfl rfl rfl rfl).frameL [b, c2] (by simpa using hbc) ⟨hb, hc, trivial⟩ rfl rfl rfl rfl rfl rfl rfl⟩
        rcases cond_two h with ⟨hq, h5⟩ | ⟨hq, h5⟩ <;> clear h <;> rename _ = some r => h
        · rw [Bool.and_eq_true] at hq
          have hn := Nat.eq_of_beq_eq_true hq.2
          subst hn
          have hcs := eqB_eq hq.1
          simp only [List.map_cons, List.map_nil] at hcs
          subst hcs
          exact .inl ⟨_, _, h, (callR_evT ΓSo_ok (by kernel_rfl) (one_5 T) rfl rfl rfl rfl).frameL [b, c2] (by simpa using hbc) ⟨hb, hc, trivial⟩ rfl rfl rfl rfl rfl rfl rfl⟩
        rcases cond_two h with ⟨hq, h5⟩ | ⟨hq, h5⟩ <;> clear h <;> rename _ = some r => h
        · rw [Bool.and_eq_true] at hq
          have hn := Nat.eq_of_beq_eq_true hq.2
          subst hn
          have hcs := eqB_eq hq.1
          simp only [List.map_cons, List.map_nil] at hcs
          subst hcs
          exact .inl ⟨_, _, h, (callR_evT ΓSo_ok (by kernel_rfl) (one_6 T) rfl rfl rfl rfl).frameL [b, c2] (by simpa using hbc) ⟨hb, hc, trivial⟩ rfl rfl rfl rfl rfl rfl rfl⟩
        rcases cond_two h with ⟨hq, h5⟩ | ⟨hq, h5⟩ <;> clear h <;> rename _ = some r => h
        · rw [Bool.and_eq_true] at hq
          have hn := Nat.eq_of_beq_eq_true hq.2
          subst hn
          have hcs := eqB_eq hq.1
          simp only [List.map_cons, List.map_nil] at hcs
          subst hcs
          exact .inl ⟨_, _, h, (callR_evT ΓSo_ok (by kernel_rfl) (one_7 T) rfl rfl rfl rfl).frameL [b, c2] (by simpa using hbc) ⟨hb, hc, trivial⟩ rfl rfl rfl rfl rfl rfl rfl⟩
        rcases cond_two h with ⟨hq, h5⟩ | ⟨hq, h5⟩ <;> clear h <;> rename _ = some r => h
        · rw [Bool.and_eq_true] at hq
          have hn := Nat.eq_of_beq_eq_true hq.2
          subst hn
          have hcs := eqB_eq hq.1
          simp only [List.map_cons, List.map_nil] at hcs
          subst hcs
          exact .inl ⟨_, _, h, (callR_evT ΓSo_ok (by kernel_rfl) (one_8 T) rfl rfl rfl rfl).frameL [b, c2] (by simpa using hbc) ⟨hb, hc, trivial⟩ rfl rfl rfl rfl rfl rfl rfl⟩
        rcases cond_two h with ⟨hq, h5⟩ | ⟨hq, h5⟩ <;> clear h <;> rename _ = some r => h
        · rw [Bool.and_eq_true] at hq
          have hn := Nat.eq_of_beq_eq_true hq.2
          subst hn
          have hcs := eqB_eq hq.1
          simp only [List.map_cons, List.map_nil] at hcs
          subst hcs
          exact .inl ⟨_, _, h, (callR_evT ΓSo_ok (by kernel_rfl) (one_9 T) rfl rfl rfl rfl).frameL [b, c2] (by simpa using hbc) ⟨hb, hc, trivial⟩ rfl rfl rfl rfl rfl rfl rfl⟩
        cases h
      · cases h
    · cases h
  · rename_i _ b o n q
    split at h
    · rename_i _ cs T hb
      obtain ⟨hg, h5⟩ := cond_some h
      clear h
      rename _ = some r => h
      simp only [Bool.and_eq_true] at hg
      obtain ⟨h0, h1⟩ := hg
      have h0 := Nat.eq_of_beq_eq_true h0
      have h1 := Nat.eq_of_beq_eq_true h1
      subst h0 h1
      rcases cond_two h with ⟨hq, h5⟩ | ⟨hq, h5⟩ <;> clear h <;> rename _ = some r => h
      · rw [Bool.and_eq_true] at hq
        have hn := Nat.eq_of_beq_eq_true hq.2
        subst hn
        have hcs := eqB_eq hq.1
        simp only [List.map_cons, List.map_nil] at hcs
        subst hcs
        exact .inl ⟨_, _, h, (callR_evT ΓSo_ok (by kernel_rfl) (one_10 T) rfl rfl rfl rfl).frameL [b] (by simp) ⟨hb, trivial⟩ rfl rfl rfl rfl rfl rfl rfl⟩
      rcases cond_two h with ⟨hq, h5⟩ | ⟨hq, h5⟩ <;> clear h <;> rename _ = some r => h
      · rw [Bool.and_eq_true] at hq
        have hn := Nat.eq_of_beq_eq_true hq.2
        subst hn
        have hcs := eqB_eq hq.1
        simp only [List.map_cons, List.map_nil] at hcs
        subst hcs
        exact .inl ⟨_, _, h, (callR_evT ΓSo_ok (by kernel_rfl) (one_11 T) rfl rfl rfl rfl).frameL [b] (by simp) ⟨hb, trivial⟩ rfl rfl rfl rfl rfl rfl rfl⟩
      rcases cond_two h with ⟨hq, h5⟩ | ⟨hq, h5⟩ <;> clear h <;> rename _ = some r => h
      · rw [Bool.and_eq_true] at hq
        have hn := Nat.eq_of_beq_eq_true hq.2
        subst hn
        have hcs := eqB_eq hq.1
        simp only [List.map_cons, List.map_nil] at hcs
        subst hcs
        exact .inl ⟨_, _, h, (callR_evT ΓSo_ok (by kernel_rfl) (one_12 T) rfl rfl rfl rfl).frameL [b] (by simp) ⟨hb, trivial⟩ rfl rfl rfl rfl rfl rfl rfl⟩
      cases h
    · cases h
  · cases h
noncomputable def ΓSn : Env := (ΓSr.add 41 oneS)
theorem ΓSn_ok : EnvOk Try.prog X0 ΓSn := (ΓSr_ok.add (by kernel_rfl) oneS_ok)
end Go.Proofs.Ytjcbgjakomalaaa
