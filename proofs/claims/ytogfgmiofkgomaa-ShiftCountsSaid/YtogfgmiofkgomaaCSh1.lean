/- Contracts: which operations shift. -/
import Derived.Test.YtogfgmiofkgomaaCAr6
import Derived.Test.YtogfgmiofkgomaaNShift
namespace Go.Proofs.Ytogfgmiofkgomaa
open Go Go.Ev
set_option linter.unusedVariables false
set_option linter.unusedSimpArgs false
set_option maxRecDepth 100000
theorem known_form (op : Int) :
    evF Try.prog ΓAr6 400 32 [.v (.int .i64 op)] [] (fun x _ => some x) (fun _ _ => none) =
    (bif decide (op ≥ 26) then some (Sv.v (Value.bool (decide (op ≤ 30)))) else some (Sv.v (Value.bool false))) := by kernel_rfl
theorem known_nice (op : Int) (hg : (true) = true) :
    evF Try.prog ΓAr6 400 32 [.v (.int .i64 op)] [] (fun x _ => some x) (fun _ _ => none) = some (.v (.bool (knownV op))) := by
  rw [known_form]
  try simp only [bitsL_eq]
  unfold knownV
  by_cases h : 26 ≤ op <;> simp [h]
def knownS : Nice := fun R args kv => match args with
  | [.v (.int .i64 op)] => bif true then kv (.v (.bool (knownV op))) else none
  | _ => none
theorem knownS_ok : NiceOk Try.prog ΓAr6 400 32 knownS := by
  intro R args kv r h
  unfold knownS at h
  split at h
  · obtain ⟨hg, h⟩ := cond_some h
    exact ⟨_, h, rfl, rfl, known_nice _ hg⟩
  · cases h
theorem rknown_form (op : Int) :
    evF Try.prog ΓAr6 400 33 [.v (.int .i64 op)] [] (fun x _ => some x) (fun _ _ => none) =
    (bif op == 26 then some (Sv.v (Value.bool true))
    else
    bif op == 27 then some (Sv.v (Value.bool true))
    else
    bif op == 28 then some (Sv.v (Value.bool true))
    else bif op == 29 then some (Sv.v (Value.bool true)) else some (Sv.v (Value.bool (op == 30)))) := by kernel_rfl
theorem rknown_nice (op : Int) (hg : (true) = true) :
    evF Try.prog ΓAr6 400 33 [.v (.int .i64 op)] [] (fun x _ => some x) (fun _ _ => none) = some (.v (.bool (knownV op))) := by
  rw [rknown_form]
  try simp only [bitsL_eq]
  unfold knownV
  by_cases h0 : op = 26
  · subst h0; rfl
  by_cases h1 : op = 27
  · subst h1; rfl
  by_cases h2 : op = 28
  · subst h2; rfl
  by_cases h3 : op = 29
  · subst h3; rfl
  by_cases h4 : op = 30
  · subst h4; rfl
  have e0 : (op == 26) = false := by simpa using h0
  have e1 : (op == 27) = false := by simpa using h1
  have e2 : (op == 28) = false := by simpa using h2
  have e3 : (op == 29) = false := by simpa using h3
  have e4 : (op == 30) = false := by simpa using h4
  have e : (decide (26 ≤ op) && decide (op ≤ 30)) = false := by
    rw [Bool.and_eq_false_iff, decide_eq_false_iff_not, decide_eq_false_iff_not]; omega
  simp [e0, e1, e2, e3, e4, e]
def rknownS : Nice := fun R args kv => match args with
  | [.v (.int .i64 op)] => bif true then kv (.v (.bool (knownV op))) else none
  | _ => none
theorem rknownS_ok : NiceOk Try.prog ΓAr6 400 33 rknownS := by
  intro R args kv r h
  unfold rknownS at h
  split at h
  · obtain ⟨hg, h⟩ := cond_some h
    exact ⟨_, h, rfl, rfl, rknown_nice _ hg⟩
  · cases h
def ΓSh1 : Env := ((ΓAr6.add 32 (pureSpec knownS)).add 33 (pureSpec rknownS))
theorem ΓSh1_ok : EnvOk Try.prog X0 ΓSh1 := ((ΓAr6_ok.add (by kernel_rfl) (specOk_of_nice ΓAr6_ok knownS_ok)).add (by kernel_rfl) (specOk_of_nice ΓAr6_ok rknownS_ok))
end Go.Proofs.Ytogfgmiofkgomaa
