/- What is known of chapter 18 at the start is so. -/
import Derived.Test.YtpgdpoloipifeaaCFw
namespace Go.Proofs.Ytpgdpoloipifeaa
open Go Go.Ev
set_option linter.unusedVariables false
set_option maxRecDepth 100000
theorem known18_ev : evF (R := Sv) Try.prog ΓFw 400 12 [] [] (fun x _ => some x) (fun _ _ => none) = some (.v (.bool true)) := by kernel_rfl
def known18S : Nice := fun R args kv => match args with
  | [] => kv (.v (.bool true))
  | _ => none
theorem known18S_ok : NiceOk Try.prog ΓFw 400 12 known18S := by
  intro R args kv r h
  unfold known18S at h
  split at h
  · exact ⟨_, h, rfl, rfl, known18_ev⟩
  · cases h
noncomputable def ΓK18 : Env := ΓFw.add 12 (pureSpec known18S)
theorem ΓK18_ok : EnvOk Try.prog X0 ΓK18 := ΓFw_ok.add (by kernel_rfl) (specOk_of_nice ΓFw_ok known18S_ok)
end Go.Proofs.Ytpgdpoloipifeaa
