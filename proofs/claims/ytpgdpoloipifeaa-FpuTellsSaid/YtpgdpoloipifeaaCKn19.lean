/- What is known of chapter 19 at the start is so. -/
import Derived.Test.YtpgdpoloipifeaaCFp
namespace Go.Proofs.Ytpgdpoloipifeaa
open Go Go.Ev
set_option linter.unusedVariables false
set_option maxRecDepth 100000
theorem known19_ev : evF (R := Sv) Try.prog ΓFp 400 22 [] [] (fun x _ => some x) (fun _ _ => none) = some (.v (.bool true)) := by kernel_rfl
def known19S : Nice := fun R args kv => match args with
  | [] => kv (.v (.bool true))
  | _ => none
theorem known19S_ok : NiceOk Try.prog ΓFp 400 22 known19S := by
  intro R args kv r h
  unfold known19S at h
  split at h
  · exact ⟨_, h, rfl, rfl, known19_ev⟩
  · cases h
noncomputable def ΓK19 : Env := ΓFp.add 22 (pureSpec known19S)
theorem ΓK19_ok : EnvOk Try.prog X0 ΓK19 := ΓFp_ok.add (by kernel_rfl) (specOk_of_nice ΓFp_ok known19S_ok)
end Go.Proofs.Ytpgdpoloipifeaa
