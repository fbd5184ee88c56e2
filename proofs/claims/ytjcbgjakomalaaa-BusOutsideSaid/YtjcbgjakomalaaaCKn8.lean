/- What is known of chapter 8 at the start is so. -/
import Derived.Test.YtjcbgjakomalaaaCMm6
namespace Go.Proofs.Ytjcbgjakomalaaa
open Go Go.Ev
set_option linter.unusedVariables false
set_option maxRecDepth 100000
theorem known8_ev : evF (R := Sv) Try.prog ΓM6 400 15 [] [] (fun x _ => some x) (fun _ _ => none) = some (.v (.bool true)) := by kernel_rfl
def known8S : Nice := fun R args kv => match args with
  | [] => kv (.v (.bool true))
  | _ => none
theorem known8S_ok : NiceOk Try.prog ΓM6 400 15 known8S := by
  intro R args kv r h
  unfold known8S at h
  split at h
  · exact ⟨_, h, rfl, rfl, known8_ev⟩
  · cases h
noncomputable def ΓK8 : Env := ΓM6.add 15 (pureSpec known8S)
theorem ΓK8_ok : EnvOk Try.prog X0 ΓK8 := ΓM6_ok.add (by kernel_rfl) (specOk_of_nice ΓM6_ok known8S_ok)
end Go.Proofs.Ytjcbgjakomalaaa
