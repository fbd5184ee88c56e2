/- Contracts: which operations reckon. -/
import Derived.Test.YtpgdpoloipifeaaEvV
import Derived.Test.YtpgdpoloipifeaaCKn15
import Derived.Test.YtpgdpoloipifeaaNHold
namespace Go.Proofs.Ytpgdpoloipifeaa
open Go Go.Ev
set_option linter.unusedVariables false
set_option linter.unusedSimpArgs false
set_option maxRecDepth 100000
theorem isP_form (op : Int) :
    evF Try.prog ΓAp 400 31 [.v (.int .i64 op)] [] (fun x _ => some x) (fun _ _ => none) =
    (bif op == 23 then
    bif op == 23 then some (vb false)
    else
    bif op == 35 then
    bif op == 35 then some (vb true)
    else bif decide (op ≥ 1) then some (vb ((decide (op ≤ 30)))) else some (vb false)
    else
    bif op == 36 then
    bif op == 36 then some (vb true)
    else bif decide (op ≥ 1) then some (vb ((decide (op ≤ 30)))) else some (vb false)
    else
    bif op == 37 then
    bif op == 37 then some (vb true)
    else bif decide (op ≥ 1) then some (vb ((decide (op ≤ 30)))) else some (vb false)
    else
    bif op == 38 then
    bif op == 38 then some (vb true)
    else bif decide (op ≥ 1) then some (vb ((decide (op ≤ 30)))) else some (vb false)
    else
    bif op == 41 then
    bif op == 41 then some (vb true)
    else bif decide (op ≥ 1) then some (vb ((decide (op ≤ 30)))) else some (vb false)
    else
    bif op == 42 then
    bif op == 42 then some (vb true)
    else bif decide (op ≥ 1) then some (vb ((decide (op ≤ 30)))) else some (vb false)
    else
    bif op == 43 then
    bif op == 43 then some (vb true)
    else bif decide (op ≥ 1) then some (vb ((decide (op ≤ 30)))) else some (vb false)
    else
    bif op == 44 then
    bif op == 44 then some (vb true)
    else bif decide (op ≥ 1) then some (vb ((decide (op ≤ 30)))) else some (vb false)
    else
    bif op == 45 then
    bif op == 45 then some (vb true)
    else bif decide (op ≥ 1) then some (vb ((decide (op ≤ 30)))) else some (vb false)
    else
    bif op == 50 then some (vb true)
    else bif decide (op ≥ 1) then some (vb ((decide (op ≤ 30)))) else some (vb false)
    else
    bif op == 24 then some (vb false)
    else
    bif op == 35 then
    bif op == 35 then some (vb true)
    else bif decide (op ≥ 1) then some (vb ((decide (op ≤ 30)))) else some (vb false)
    else
    bif op == 36 then
    bif op == 36 then some (vb true)
    else bif decide (op ≥ 1) then some (vb ((decide (op ≤ 30)))) else some (vb false)
    else
    bif op == 37 then
    bif op == 37 then some (vb true)
    else bif decide (op ≥ 1) then some (vb ((decide (op ≤ 30)))) else some (vb false)
    else
    bif op == 38 then
    bif op == 38 then some (vb true)
    else bif decide (op ≥ 1) then some (vb ((decide (op ≤ 30)))) else some (vb false)
    else
    bif op == 41 then
    bif op == 41 then some (vb true)
    else bif decide (op ≥ 1) then some (vb ((decide (op ≤ 30)))) else some (vb false)
    else
    bif op == 42 then
    bif op == 42 then some (vb true)
    else bif decide (op ≥ 1) then some (vb ((decide (op ≤ 30)))) else some (vb false)
    else
    bif op == 43 then
    bif op == 43 then some (vb true)
    else bif decide (op ≥ 1) then some (vb ((decide (op ≤ 30)))) else some (vb false)
    else
    bif op == 44 then
    bif op == 44 then some (vb true)
    else bif decide (op ≥ 1) then some (vb ((decide (op ≤ 30)))) else some (vb false)
    else
    bif op == 45 then
    bif op == 45 then some (vb true)
    else bif decide (op ≥ 1) then some (vb ((decide (op ≤ 30)))) else some (vb false)
    else
    bif op == 50 then some (vb true)
    else bif decide (op ≥ 1) then some (vb ((decide (op ≤ 30)))) else some (vb false)) := by kernel_rfl
theorem isP_nice (op : Int) (hg : (true) = true) :
    evF Try.prog ΓAp 400 31 [.v (.int .i64 op)] [] (fun x _ => some x) (fun _ _ => none) = some (.v (.bool (isAluV op))) := by
  rw [isP_form]
  try simp only [bitsL_eq]
  unfold isAluV
  cases (op == 23)
  rotate_left
  · first | rfl | (simp only [cond_true, cond_false]; done)
  cases (op == 24)
  rotate_left
  · first | rfl | (simp only [cond_true, cond_false]; done)
  cases (op == 35)
  rotate_left
  · first | rfl | (simp only [cond_true, cond_false]; done)
  cases (op == 36)
  rotate_left
  · first | rfl | (simp only [cond_true, cond_false]; done)
  cases (op == 37)
  rotate_left
  · first | rfl | (simp only [cond_true, cond_false]; done)
  cases (op == 38)
  rotate_left
  · first | rfl | (simp only [cond_true, cond_false]; done)
  cases (op == 41)
  rotate_left
  · first | rfl | (simp only [cond_true, cond_false]; done)
  cases (op == 42)
  rotate_left
  · first | rfl | (simp only [cond_true, cond_false]; done)
  cases (op == 43)
  rotate_left
  · first | rfl | (simp only [cond_true, cond_false]; done)
  cases (op == 44)
  rotate_left
  · first | rfl | (simp only [cond_true, cond_false]; done)
  cases (op == 45)
  rotate_left
  · first | rfl | (simp only [cond_true, cond_false]; done)
  cases (op == 50)
  rotate_left
  · first | rfl | (simp only [cond_true, cond_false]; done)
  by_cases h0 : 1 ≤ op <;> by_cases h1 : op ≤ 30 <;> simp only [ge_iff_le, h0, h1, decide_true, decide_false, cond_true, cond_false, Bool.and_self, Bool.and_true, Bool.true_and, Bool.and_false, Bool.false_and]
def isPS : Nice := fun R args kv => match args with
  | [.v (.int .i64 op)] => bif true then kv (.v (.bool (isAluV op))) else none
  | _ => none
theorem isPS_ok : NiceOk Try.prog ΓAp 400 31 isPS := by
  intro R args kv r h
  unfold isPS at h
  split at h
  · obtain ⟨hg, h⟩ := cond_some h
    exact ⟨_, h, rfl, rfl, isP_nice _ hg⟩
  · cases h
theorem isR_form (op : Int) :
    evF Try.prog ΓAp 400 32 [.v (.int .i64 op)] [] (fun x _ => some x) (fun _ _ => none) =
    (bif op == 23 then
    bif op == 23 then some (vb false)
    else
    bif op == 35 then
    bif op == 35 then some (vb true)
    else bif decide (op ≥ 1) then some (vb ((decide (op ≤ 30)))) else some (vb false)
    else
    bif op == 36 then
    bif op == 36 then some (vb true)
    else bif decide (op ≥ 1) then some (vb ((decide (op ≤ 30)))) else some (vb false)
    else
    bif op == 37 then
    bif op == 37 then some (vb true)
    else bif decide (op ≥ 1) then some (vb ((decide (op ≤ 30)))) else some (vb false)
    else
    bif op == 38 then
    bif op == 38 then some (vb true)
    else bif decide (op ≥ 1) then some (vb ((decide (op ≤ 30)))) else some (vb false)
    else
    bif op == 41 then
    bif op == 41 then some (vb true)
    else bif decide (op ≥ 1) then some (vb ((decide (op ≤ 30)))) else some (vb false)
    else
    bif op == 42 then
    bif op == 42 then some (vb true)
    else bif decide (op ≥ 1) then some (vb ((decide (op ≤ 30)))) else some (vb false)
    else
    bif op == 43 then
    bif op == 43 then some (vb true)
    else bif decide (op ≥ 1) then some (vb ((decide (op ≤ 30)))) else some (vb false)
    else
    bif op == 44 then
    bif op == 44 then some (vb true)
    else bif decide (op ≥ 1) then some (vb ((decide (op ≤ 30)))) else some (vb false)
    else
    bif op == 45 then
    bif op == 45 then some (vb true)
    else bif decide (op ≥ 1) then some (vb ((decide (op ≤ 30)))) else some (vb false)
    else
    bif op == 50 then some (vb true)
    else bif decide (op ≥ 1) then some (vb ((decide (op ≤ 30)))) else some (vb false)
    else
    bif op == 24 then some (vb false)
    else
    bif op == 35 then
    bif op == 35 then some (vb true)
    else bif decide (op ≥ 1) then some (vb ((decide (op ≤ 30)))) else some (vb false)
    else
    bif op == 36 then
    bif op == 36 then some (vb true)
    else bif decide (op ≥ 1) then some (vb ((decide (op ≤ 30)))) else some (vb false)
    else
    bif op == 37 then
    bif op == 37 then some (vb true)
    else bif decide (op ≥ 1) then some (vb ((decide (op ≤ 30)))) else some (vb false)
    else
    bif op == 38 then
    bif op == 38 then some (vb true)
    else bif decide (op ≥ 1) then some (vb ((decide (op ≤ 30)))) else some (vb false)
    else
    bif op == 41 then
    bif op == 41 then some (vb true)
    else bif decide (op ≥ 1) then some (vb ((decide (op ≤ 30)))) else some (vb false)
    else
    bif op == 42 then
    bif op == 42 then some (vb true)
    else bif decide (op ≥ 1) then some (vb ((decide (op ≤ 30)))) else some (vb false)
    else
    bif op == 43 then
    bif op == 43 then some (vb true)
    else bif decide (op ≥ 1) then some (vb ((decide (op ≤ 30)))) else some (vb false)
    else
    bif op == 44 then
    bif op == 44 then some (vb true)
    else bif decide (op ≥ 1) then some (vb ((decide (op ≤ 30)))) else some (vb false)
    else
    bif op == 45 then
    bif op == 45 then some (vb true)
    else bif decide (op ≥ 1) then some (vb ((decide (op ≤ 30)))) else some (vb false)
    else
    bif op == 50 then some (vb true)
    else bif decide (op ≥ 1) then some (vb ((decide (op ≤ 30)))) else some (vb false)) := by kernel_rfl
theorem isR_nice (op : Int) (hg : (true) = true) :
    evF Try.prog ΓAp 400 32 [.v (.int .i64 op)] [] (fun x _ => some x) (fun _ _ => none) = some (.v (.bool (isAluV op))) := by
  rw [isR_form]
  try simp only [bitsL_eq]
  unfold isAluV
  cases (op == 23)
  rotate_left
  · first | rfl | (simp only [cond_true, cond_false]; done)
  cases (op == 24)
  rotate_left
  · first | rfl | (simp only [cond_true, cond_false]; done)
  cases (op == 35)
  rotate_left
  · first | rfl | (simp only [cond_true, cond_false]; done)
  cases (op == 36)
  rotate_left
  · first | rfl | (simp only [cond_true, cond_false]; done)
  cases (op == 37)
  rotate_left
  · first | rfl | (simp only [cond_true, cond_false]; done)
  cases (op == 38)
  rotate_left
  · first | rfl | (simp only [cond_true, cond_false]; done)
  cases (op == 41)
  rotate_left
  · first | rfl | (simp only [cond_true, cond_false]; done)
  cases (op == 42)
  rotate_left
  · first | rfl | (simp only [cond_true, cond_false]; done)
  cases (op == 43)
  rotate_left
  · first | rfl | (simp only [cond_true, cond_false]; done)
  cases (op == 44)
  rotate_left
  · first | rfl | (simp only [cond_true, cond_false]; done)
  cases (op == 45)
  rotate_left
  · first | rfl | (simp only [cond_true, cond_false]; done)
  cases (op == 50)
  rotate_left
  · first | rfl | (simp only [cond_true, cond_false]; done)
  by_cases h0 : 1 ≤ op <;> by_cases h1 : op ≤ 30 <;> simp only [ge_iff_le, h0, h1, decide_true, decide_false, cond_true, cond_false, Bool.and_self, Bool.and_true, Bool.true_and, Bool.and_false, Bool.false_and]
def isRS : Nice := fun R args kv => match args with
  | [.v (.int .i64 op)] => bif true then kv (.v (.bool (isAluV op))) else none
  | _ => none
theorem isRS_ok : NiceOk Try.prog ΓAp 400 32 isRS := by
  intro R args kv r h
  unfold isRS at h
  split at h
  · obtain ⟨hg, h⟩ := cond_some h
    exact ⟨_, h, rfl, rfl, isR_nice _ hg⟩
  · cases h
noncomputable def ΓIs0 : Env := ((ΓAp.add 31 (pureSpec isPS)).add 32 (pureSpec isRS))
theorem ΓIs0_ok : EnvOk Try.prog X0 ΓIs0 := ((ΓAp_ok.add (by kernel_rfl) (specOk_of_nice ΓAp_ok isPS_ok)).add (by kernel_rfl) (specOk_of_nice ΓAp_ok isRS_ok))
noncomputable def ΓIs : Env := (ΓK15.add 31 (pureSpec isPS)).add 32 (pureSpec isRS)
theorem ΓIs_ok : EnvOk Try.prog X0 ΓIs := (ΓK15_ok.add (by kernel_rfl) (specOk_of_nice ΓAp_ok isPS_ok)).add (by kernel_rfl) (specOk_of_nice ΓAp_ok isRS_ok)
end Go.Proofs.Ytpgdpoloipifeaa
