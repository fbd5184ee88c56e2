/- What is known of chapter 17 at the start is so. -/
import Derived.Test.YtjcbgjakomalaaaCMm6
namespace Go.Proofs.Ytjcbgjakomalaaa
open Go Go.Ev
set_option linter.unusedVariables false
set_option maxRecDepth 100000
theorem known17_ev : evF (R := Sv) Try.prog ΓM6 400 38 [] [] (fun x _ => some x) (fun _ _ => none) = some (.v (.bool true)) := by kernel_rfl
def known17S : Nice := fun R args kv => match args with
  | [] => kv (.v (.bool true))
  | _ => none
theorem known17S_ok : NiceOk Try.prog ΓM6 400 38 known17S := by
  intro R args kv r h
  unfold known17S at h
  split at h
  · exact ⟨_, h, rfl, rfl, known17_ev⟩
  · cases h
noncomputable def ΓK17 : Env := ΓM6.add 38 (pureSpec known17S)
theorem ΓK17_ok : EnvOk Try.prog X0 ΓK17 := ΓM6_ok.add (by kernel_rfl) (specOk_of_nice ΓM6_ok known17S_ok)
end Go.Proofs.Ytjcbgjakomalaaa
