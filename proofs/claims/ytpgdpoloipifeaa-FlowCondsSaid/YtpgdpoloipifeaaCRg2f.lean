/- Contracts: registers. -/
import Derived.Test.YtpgdpoloipifeaaEvV
import Derived.Test.YtpgdpoloipifeaaCRg2
namespace Go.Proofs.Ytpgdpoloipifeaa
open Go Go.Ev
set_option linter.unusedVariables false
set_option linter.unusedSimpArgs false
set_option maxRecDepth 100000
theorem isF_form (n : Int) :
    evF Try.prog ΓRg2 400 137 [.v (.int .i64 n)] [] (fun x _ => some x) (fun _ _ => none) =
    (bif decide (n ≥ 0) then some (vb ((decide (n ≤ 7)))) else some (vb false)) := by kernel_rfl
theorem isF_nice (n : Int) (h : isV n = false) : evF Try.prog ΓRg2 400 137 [.v (.int .i64 n)] [] (fun x _ => some x) (fun _ _ => none) = some (.v (.bool false)) := by
  rw [isF_form]
  unfold isV at h
  by_cases h0 : 0 ≤ n
  · have h7 : ¬ n ≤ 7 := fun h7 => by simp [h0, h7] at h
    simp [h0, h7]
  · simp [h0]
def isFS : Nice := fun R args kv => match args with
  | [.v (.int .i64 n)] => bif !isV n then kv (.v (.bool false)) else none
  | _ => none
theorem isFS_ok : NiceOk Try.prog ΓRg2 400 137 isFS := by
  intro R args kv r h
  unfold isFS at h
  split at h
  · obtain ⟨hg, h2⟩ := cond_some h
    clear h
    exact ⟨_, h2, rfl, rfl, isF_nice _ (by simpa using hg)⟩
  · cases h
theorem inF_form (n : Int) :
    evF Try.prog ΓRg2 400 64 [.v (.int .i64 n), .v (.int .i64 0), .v (.int .i64 7)] [] (fun x _ => some x) (fun _ _ => none) =
    (bif decide (n ≥ 0) then some (vb ((decide (n ≤ 7)))) else some (vb false)) := by kernel_rfl
theorem inF_nice (n : Int) (h : isV n = false) : evF Try.prog ΓRg2 400 64 [.v (.int .i64 n), .v (.int .i64 0), .v (.int .i64 7)] [] (fun x _ => some x) (fun _ _ => none) = some (.v (.bool false)) := by
  rw [inF_form]
  unfold isV at h
  by_cases h0 : 0 ≤ n
  · have h7 : ¬ n ≤ 7 := fun h7 => by simp [h0, h7] at h
    simp [h0, h7]
  · simp [h0]
def inFS : Nice := fun R args kv => match args with
  | [.v (.int .i64 n), .v (.int .i64 lo), .v (.int .i64 hi)] => bif !isV n && (lo == 0 && hi == 7) then kv (.v (.bool false)) else none
  | _ => none
theorem inFS_ok : NiceOk Try.prog ΓRg2 400 64 inFS := by
  intro R args kv r h
  unfold inFS at h
  split at h
  · obtain ⟨hg, h2⟩ := cond_some h
    clear h
    simp only [Bool.and_eq_true, Bool.not_eq_true', beq_iff_eq] at hg
    obtain ⟨hn, rfl, rfl⟩ := hg
    exact ⟨_, h2, rfl, rfl, inF_nice _ hn⟩
  · cases h
def ΓRgF : Env := (ΓRg2.add 137 (pureSpec isFS)).add 64 (pureSpec inFS)
theorem ΓRgF_ok : EnvOk Try.prog X0 ΓRgF := (ΓRg2_ok.add (by kernel_rfl) (specOk_of_nice ΓRg2_ok isFS_ok)).add (by kernel_rfl) (specOk_of_nice ΓRg2_ok inFS_ok)
end Go.Proofs.Ytpgdpoloipifeaa
