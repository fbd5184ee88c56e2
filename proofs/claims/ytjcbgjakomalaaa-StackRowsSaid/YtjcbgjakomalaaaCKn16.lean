/- What is known of chapter 16 at the start is so. -/
import Derived.Test.YtjcbgjakomalaaaCMm6
namespace Go.Proofs.Ytjcbgjakomalaaa
open Go Go.Ev
set_option linter.unusedVariables false
set_option maxRecDepth 100000
theorem known16_ev : evF (R := Sv) Try.prog ΓM6 400 23 [] [] (fun x _ => some x) (fun _ _ => none) = some (.v (.bool true)) := by kernel_rfl
def known16S : Nice := fun R args kv => match args with
  | [] => kv (.v (.bool true))
  | _ => none
theorem known16S_ok : NiceOk Try.prog ΓM6 400 23 known16S := by
  intro R args kv r h
  unfold known16S at h
  split at h
  · exact ⟨_, h, rfl, rfl, known16_ev⟩
  · cases h
noncomputable def ΓK16 : Env := ΓM6.add 23 (pureSpec known16S)
theorem ΓK16_ok : EnvOk Try.prog X0 ΓK16 := ΓM6_ok.add (by kernel_rfl) (specOk_of_nice ΓM6_ok known16S_ok)
end Go.Proofs.Ytjcbgjakomalaaa
