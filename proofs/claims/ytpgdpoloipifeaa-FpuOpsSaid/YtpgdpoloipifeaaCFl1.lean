/- Contracts: doubles: what is none. -/
import Derived.Test.YtpgdpoloipifeaaEvV
import Derived.Test.YtpgdpoloipifeaaFEnv
import Derived.Test.YtpgdpoloipifeaaNFlt2
namespace Go.Proofs.Ytpgdpoloipifeaa
open Go Go.Ev
set_option linter.unusedVariables false
set_option linter.unusedSimpArgs false
set_option maxRecDepth 100000
theorem isNaN_form (a : Int) :
    evF Try.prog ΓF 400 109 [.v (.int .u64 a)] [] (fun x _ => some x) (fun _ _ => none) =
    (some (vb ((decide (bitsL BinOp.andNot IntKind.u64 a 9223372036854775808 > 9218868437227405312))))) := by kernel_rfl
theorem isNaN_nice (a : Int) (hg : (in64 a) = true) :
    evF Try.prog ΓF 400 109 [.v (.int .u64 a)] [] (fun x _ => some x) (fun _ _ => none) = some (.v (.bool (nanI a))) := by
  rw [isNaN_form]
  try simp only [bitsL_eq]
  simp only [in64_iff] at hg
  obtain ⟨ha, ha'⟩ := hg
  rw [nan_parts ha ha']
def isNaNS : Nice := fun R args kv => match args with
  | [.v (.int .u64 a)] => bif in64 a then kv (.v (.bool (nanI a))) else none
  | _ => none
theorem isNaNS_ok : NiceOk Try.prog ΓF 400 109 isNaNS := by
  intro R args kv r h
  unfold isNaNS at h
  split at h
  · obtain ⟨hg, h⟩ := cond_some h
    exact ⟨_, h, rfl, rfl, isNaN_nice _ hg⟩
  · cases h
theorem risNaN_form (a : Int) :
    evF Try.prog ΓF 400 118 [.v (.int .u64 a)] [] (fun x _ => some x) (fun _ _ => none) =
    (bif bitsL BinOp.and IntKind.u64 (Int.fdiv a 4503599627370496) 2047 == 2047 then
    some (vb ((bitsL BinOp.and IntKind.u64 a 4503599627370495 != 0)))
    else some (vb false)) := by kernel_rfl
theorem risNaN_nice (a : Int) (hg : (in64 a) = true) :
    evF Try.prog ΓF 400 118 [.v (.int .u64 a)] [] (fun x _ => some x) (fun _ _ => none) = some (.v (.bool (nanI a))) := by
  rw [risNaN_form]
  try simp only [bitsL_eq]
  simp only [in64_iff] at hg
  obtain ⟨ha, ha'⟩ := hg
  have h := nan_parts2 ha ha' true false
  have e : ∀ c d : Bool, (bif c then some (vb d) else some (vb false)) = some (vb ((bif c then (bif d then true else false) else false))) := fun c d => by cases c <;> cases d <;> rfl
  rw [e, h]
  cases nanI a <;> rfl
def risNaNS : Nice := fun R args kv => match args with
  | [.v (.int .u64 a)] => bif in64 a then kv (.v (.bool (nanI a))) else none
  | _ => none
theorem risNaNS_ok : NiceOk Try.prog ΓF 400 118 risNaNS := by
  intro R args kv r h
  unfold risNaNS at h
  split at h
  · obtain ⟨hg, h⟩ := cond_some h
    exact ⟨_, h, rfl, rfl, risNaN_nice _ hg⟩
  · cases h
theorem fromInt_form (a : Int) :
    evF Try.prog ΓF 400 67 [.v (.int .u32 a)] [] (fun x _ => some x) (fun _ _ => none) =
    (some (vd (↑(fnear (IntKind.wrap IntKind.i32 a))))) := by kernel_rfl
theorem fromInt_nice (a : Int) (hg : (in32 a) = true) :
    evF Try.prog ΓF 400 67 [.v (.int .u32 a)] [] (fun x _ => some x) (fun _ _ => none) = some (.v (.int .u64 (fromV a))) := by
  rw [fromInt_form]
  try simp only [bitsL_eq]
  rw [in32_iff] at hg
  rw [wr_i32_s hg.1 hg.2, fromV_eq]
def fromIntS : Nice := fun R args kv => match args with
  | [.v (.int .u32 a)] => bif in32 a then kv (.v (.int .u64 (fromV a))) else none
  | _ => none
theorem fromIntS_ok : NiceOk Try.prog ΓF 400 67 fromIntS := by
  intro R args kv r h
  unfold fromIntS at h
  split at h
  · obtain ⟨hg, h⟩ := cond_some h
    exact ⟨_, h, rfl, rfl, fromInt_nice _ hg⟩
  · cases h
theorem rfromInt_form (a : Int) :
    evF Try.prog ΓF 400 75 [.v (.int .u32 a)] [] (fun x _ => some x) (fun _ _ => none) =
    (some (vd (↑(fnear (IntKind.wrap IntKind.i32 a))))) := by kernel_rfl
theorem rfromInt_nice (a : Int) (hg : (in32 a) = true) :
    evF Try.prog ΓF 400 75 [.v (.int .u32 a)] [] (fun x _ => some x) (fun _ _ => none) = some (.v (.int .u64 (fromV a))) := by
  rw [rfromInt_form]
  try simp only [bitsL_eq]
  rw [in32_iff] at hg
  rw [wr_i32_s hg.1 hg.2, fromV_eq]
def rfromIntS : Nice := fun R args kv => match args with
  | [.v (.int .u32 a)] => bif in32 a then kv (.v (.int .u64 (fromV a))) else none
  | _ => none
theorem rfromIntS_ok : NiceOk Try.prog ΓF 400 75 rfromIntS := by
  intro R args kv r h
  unfold rfromIntS at h
  split at h
  · obtain ⟨hg, h⟩ := cond_some h
    exact ⟨_, h, rfl, rfl, rfromInt_nice _ hg⟩
  · cases h
def ΓF1 : Env := ((((ΓF.add 109 (pureSpec isNaNS)).add 118 (pureSpec risNaNS)).add 67 (pureSpec fromIntS)).add 75 (pureSpec rfromIntS))
theorem ΓF1_ok : EnvOk Try.prog X0 ΓF1 := ((((ΓF_ok.add (by kernel_rfl) (specOk_of_nice ΓF_ok isNaNS_ok)).add (by kernel_rfl) (specOk_of_nice ΓF_ok risNaNS_ok)).add (by kernel_rfl) (specOk_of_nice ΓF_ok fromIntS_ok)).add (by kernel_rfl) (specOk_of_nice ΓF_ok rfromIntS_ok))
end Go.Proofs.Ytpgdpoloipifeaa
