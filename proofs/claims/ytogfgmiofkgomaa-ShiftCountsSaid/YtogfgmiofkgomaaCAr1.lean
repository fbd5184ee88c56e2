/- Contracts: ones of a byte. -/
import Derived.Test.YtogfgmiofkgomaaEnv
import Derived.Test.YtogfgmiofkgomaaNArith
namespace Go.Proofs.Ytogfgmiofkgomaa
open Go Go.Ev
set_option linter.unusedVariables false
set_option linter.unusedSimpArgs false
set_option maxRecDepth 100000
theorem ones_all : (List.range 256).all (fun j => match evF Try.prog Γ0 400 40 [.v (.int .u8 (j : Int))] [] (fun x _ => some x) (fun _ _ => none) with
    | some (.v (.int .i64 z)) => z == ones8 (j : Int)
    | _ => false) = true := by kernel_rfl
theorem ones_nice (x : Int) (hg : in8 x = true) : evF Try.prog Γ0 400 40 [.v (.int .u8 x)] [] (fun x _ => some x) (fun _ _ => none) = some (.v (.int .i64 (ones8 x))) := by
  rw [in8_iff] at hg
  obtain ⟨j, rfl⟩ := Int.eq_ofNat_of_zero_le hg.1
  have h := List.all_eq_true.1 ones_all j (List.mem_range.2 (by omega))
  split at h
  · rename_i z hz
    rw [hz, eq_of_beq h]
  · cases h
def onesS : Nice := fun R args kv => match args with
  | [.v (.int .u8 x)] => bif in8 x then kv (.v (.int .i64 (ones8 x))) else none
  | _ => none
theorem onesS_ok : NiceOk Try.prog Γ0 400 40 onesS := by
  intro R args kv r h
  unfold onesS at h
  split at h
  · obtain ⟨hg, h⟩ := cond_some h
    exact ⟨_, h, rfl, rfl, ones_nice _ hg⟩
  · cases h
def ΓAr1 : Env := (Γ0.add 40 (pureSpec onesS))
theorem ΓAr1_ok : EnvOk Try.prog X0 ΓAr1 := (Γ0_ok.add (by kernel_rfl) (specOk_of_nice Γ0_ok onesS_ok))
end Go.Proofs.Ytogfgmiofkgomaa
