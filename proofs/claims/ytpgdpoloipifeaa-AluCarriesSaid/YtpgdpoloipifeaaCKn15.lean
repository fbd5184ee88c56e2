/- What is known of chapter 15 at the start is so. -/
import Derived.Test.YtpgdpoloipifeaaCAp
namespace Go.Proofs.Ytpgdpoloipifeaa
open Go Go.Ev
set_option linter.unusedVariables false
set_option maxRecDepth 100000
theorem known15_ev : evF (R := Sv) Try.prog ΓAp 400 30 [] [] (fun x _ => some x) (fun _ _ => none) = some (.v (.bool true)) := by kernel_rfl
def known15S : Nice := fun R args kv => match args with
  | [] => kv (.v (.bool true))
  | _ => none
theorem known15S_ok : NiceOk Try.prog ΓAp 400 30 known15S := by
  intro R args kv r h
  unfold known15S at h
  split at h
  · exact ⟨_, h, rfl, rfl, known15_ev⟩
  · cases h
noncomputable def ΓK15 : Env := ΓAp.add 30 (pureSpec known15S)
theorem ΓK15_ok : EnvOk Try.prog X0 ΓK15 := ΓAp_ok.add (by kernel_rfl) (specOk_of_nice ΓAp_ok known15S_ok)
end Go.Proofs.Ytpgdpoloipifeaa
