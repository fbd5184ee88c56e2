/- Instructions of bytes that are all told. -/
import Derived.Test.YtjcbgjakomalaaaEvV
import Derived.Test.YtjcbgjakomalaaaCSk2
import Derived.Test.YtjcbgjakomalaaaCKn16
namespace Go.Proofs.Ytjcbgjakomalaaa
open Go Go.Ev
set_option linter.unusedVariables false
set_option linter.unusedSimpArgs false
set_option maxRecDepth 100000
def eqB : List Sv → List Int → Bool
  | [], [] => true
  | .v (.int .u8 x) :: cs, y :: ys => x == y && eqB cs ys
  | _, _ => false
theorem eqB_eq : ∀ {cs : List Sv} {ys : List Int}, eqB cs ys = true → cs = ys.map fun y => .v (.int .u8 y)
  | [], [], _ => rfl
  | [], y :: ys, h => by cases h
  | c :: cs, [], h => by unfold eqB at h; split at h <;> simp_all
  | c :: cs, y :: ys, h => by
    unfold eqB at h
    split at h
    · simp_all
    · rename_i h1 h2
      simp only [List.cons.injEq] at h1 h2
      obtain ⟨rfl, rfl⟩ := h1; obtain ⟨rfl, rfl⟩ := h2
      rw [Bool.and_eq_true, beq_iff_eq] at h
      rw [h.1, eqB_eq h.2]; rfl
    · cases h
theorem one_0 (T : TypeId) : evF Try.prog ΓM6 400 41 [.sl 0 0 1 1] [.cells [.v (.int .u8 84)] T] (kTk 1) kNo = some ((Sv.tup [Sv.agg [vi 23, vi 0, vi 4, vi 1, vi 4, vi ((-1)), vi ((-1)), vi 1, vw 0, vi 0, vi 0, vi ((-1)), vi ((-1)), vi 1, vw 0, vw 0, vb false, vi 1], vi 0]), [.cells [.v (.int .u8 84)] T]) := by kernel_rfl
theorem one_1 (T : TypeId) : evF Try.prog ΓM6 400 41 [.sl 0 0 1 1] [.cells [.v (.int .u8 92)] T] (kTk 1) kNo = some ((Sv.tup [Sv.agg [vi 24, vi 0, vi 4, vi 1, vi 4, vi ((-1)), vi ((-1)), vi 1, vw 0, vi 0, vi 0, vi ((-1)), vi ((-1)), vi 1, vw 0, vw 0, vb false, vi 1], vi 0]), [.cells [.v (.int .u8 92)] T]) := by kernel_rfl
noncomputable def oneS : Ev.Spec := fun R args m k kp => match args with
  | [.sa b c o n] => none
  | [.sl b o n q] => (match m[b]? with
    | some (.cells cs T) => bif Nat.beq o 0 && Nat.beq n q then (bif eqB cs [84] && Nat.beq n 1 then k (Sv.tup [Sv.agg [vi 23, vi 0, vi 4, vi 1, vi 4, vi ((-1)), vi ((-1)), vi 1, vw 0, vi 0, vi 0, vi ((-1)), vi ((-1)), vi 1, vw 0, vw 0, vb false, vi 1], vi 0]) ((m.set b (.cells cs T)) ++ []) else bif eqB cs [92] && Nat.beq n 1 then k (Sv.tup [Sv.agg [vi 24, vi 0, vi 4, vi 1, vi 4, vi ((-1)), vi ((-1)), vi 1, vw 0, vi 0, vi 0, vi ((-1)), vi ((-1)), vi 1, vw 0, vw 0, vb false, vi 1], vi 0]) ((m.set b (.cells cs T)) ++ []) else none) else none
    | _ => none)
  | _ => none
set_option maxHeartbeats 4000000 in
theorem oneS_ok : SpecOk Try.prog XM 41 oneS := by
  intro R args m k kp r h
  unfold oneS at h
  split at h
  · cases h
  · rename_i _ b o n q
    split at h
    · rename_i _ cs T hb
      obtain ⟨hg, h5⟩ := cond_some h
      clear h
      rename _ = some r => h
      simp only [Bool.and_eq_true] at hg
      obtain ⟨h0, h1⟩ := hg
      have h0 := Nat.eq_of_beq_eq_true h0
      have h1 := Nat.eq_of_beq_eq_true h1
      subst h0 h1
      rcases cond_two h with ⟨hq, h5⟩ | ⟨hq, h5⟩ <;> clear h <;> rename _ = some r => h
      · rw [Bool.and_eq_true] at hq
        have hn := Nat.eq_of_beq_eq_true hq.2
        subst hn
        have hcs := eqB_eq hq.1
        simp only [List.map_cons, List.map_nil] at hcs
        subst hcs
        exact .inl ⟨_, _, h, (callR_evT ΓM6_ok (by kernel_rfl) (one_0 T) rfl rfl rfl rfl).frameL [b] (by simp) ⟨hb, trivial⟩ rfl rfl rfl rfl rfl rfl rfl⟩
      rcases cond_two h with ⟨hq, h5⟩ | ⟨hq, h5⟩ <;> clear h <;> rename _ = some r => h
      · rw [Bool.and_eq_true] at hq
        have hn := Nat.eq_of_beq_eq_true hq.2
        subst hn
        have hcs := eqB_eq hq.1
        simp only [List.map_cons, List.map_nil] at hcs
        subst hcs
        exact .inl ⟨_, _, h, (callR_evT ΓM6_ok (by kernel_rfl) (one_1 T) rfl rfl rfl rfl).frameL [b] (by simp) ⟨hb, trivial⟩ rfl rfl rfl rfl rfl rfl rfl⟩
      cases h
    · cases h
  · cases h
noncomputable def ΓSk4 : Env := ((ΓSk2.add 23 (pureSpec known16S)).add 41 oneS)
theorem ΓSk4_ok : EnvOk Try.prog X0 ΓSk4 := ((ΓSk2_ok.add (by kernel_rfl) (specOk_of_nice ΓM6_ok known16S_ok)).add (by kernel_rfl) oneS_ok)
end Go.Proofs.Ytjcbgjakomalaaa
