/- Contracts: doubles: ints, doubles of numbers. -/
import Derived.Test.YtpgdpoloipifeaaEvV
import Derived.Test.YtpgdpoloipifeaaCFl3
import Derived.Test.YtpgdpoloipifeaaNFlt4
namespace Go.Proofs.Ytpgdpoloipifeaa
open Go Go.Ev
set_option linter.unusedVariables false
set_option linter.unusedSimpArgs false
set_option maxRecDepth 100000
theorem toInt_form (a : Int) :
    evF Try.prog ΓF3 400 68 [.v (.int .u64 a)] [] (fun x _ => some x) (fun _ _ => none) =
    (bif fnan (Int.toNat a) then some (vw 2147483648)
    else
    bif fgt (ftrunc (Int.toNat a)) 13970166044103278592 || feq (ftrunc (Int.toNat a)) 13970166044103278592 then
    bif flt (ftrunc (Int.toNat a)) 4746794007244308480 || feq (ftrunc (Int.toNat a)) 4746794007244308480 then
    bif fiok (ftrunc (Int.toNat a)) IntKind.i32 then
    some (vw ((IntKind.wrap IntKind.u32 (fival (ftrunc (Int.toNat a)) IntKind.i32))))
    else none
    else some (vw 2147483648)
    else some (vw 2147483648)) := by kernel_rfl
theorem toInt_nice (a : Int) (hg : (in64 a) = true) :
    evF Try.prog ΓF3 400 68 [.v (.int .u64 a)] [] (fun x _ => some x) (fun _ _ => none) = some (.v (.int .u32 (toV a))) := by
  rw [toInt_form]
  try simp only [bitsL_eq]
  simp only [in64_iff] at hg
  exact toV_prog hg.1 (fun x => Sv.v (.int .u32 x)) (.v undef)
def toIntS : Nice := fun R args kv => match args with
  | [.v (.int .u64 a)] => bif in64 a then kv (.v (.int .u32 (toV a))) else none
  | _ => none
theorem toIntS_ok : NiceOk Try.prog ΓF3 400 68 toIntS := by
  intro R args kv r h
  unfold toIntS at h
  split at h
  · obtain ⟨hg, h⟩ := cond_some h
    exact ⟨_, h, rfl, rfl, toInt_nice _ hg⟩
  · cases h
theorem rtoInt_form (a : Int) :
    evF Try.prog ΓF3 400 76 [.v (.int .u64 a)] [] (fun x _ => some x) (fun _ _ => none) =
    (bif in64 a then
    bif nanI a then some (vw 2147483648)
    else
    bif fgt (Int.toNat a) 4746794007248502784 || feq (Int.toNat a) 4746794007248502784 then
    some (vw 2147483648)
    else
    bif flt (Int.toNat a) 13970166044105375744 || feq (Int.toNat a) 13970166044105375744 then
    some (vw 2147483648)
    else
    bif fiok (Int.toNat a) IntKind.i64 then
    some
    (vw ((IntKind.wrap IntKind.u32 (IntKind.wrap IntKind.i32 (fival (Int.toNat a) IntKind.i64)))))
    else none
    else none) := by kernel_rfl
theorem rtoInt_nice (a : Int) (hg : (in64 a) = true) :
    evF Try.prog ΓF3 400 76 [.v (.int .u64 a)] [] (fun x _ => some x) (fun _ _ => none) = some (.v (.int .u32 (toV a))) := by
  rw [rtoInt_form]
  try simp only [bitsL_eq]
  rw [hg, cond_true]
  simp only [in64_iff] at hg
  exact toV_ref hg.1 (fun x => Sv.v (.int .u32 x))
def rtoIntS : Nice := fun R args kv => match args with
  | [.v (.int .u64 a)] => bif in64 a then kv (.v (.int .u32 (toV a))) else none
  | _ => none
theorem rtoIntS_ok : NiceOk Try.prog ΓF3 400 76 rtoIntS := by
  intro R args kv r h
  unfold rtoIntS at h
  split at h
  · obtain ⟨hg, h⟩ := cond_some h
    exact ⟨_, h, rfl, rfl, rtoInt_nice _ hg⟩
  · cases h
theorem dbl_form (a : Int) :
    evF Try.prog ΓF3 400 57 [.v (.int .u64 a)] [] (fun x _ => some x) (fun _ _ => none) =
    (bif Int.tmod a 4 == 0 then some (vd a)
    else
    bif
    decide (0 ≤ Int.tmod (IntKind.wrap IntKind.u64 (Int.tdiv a 4)) 18) &&
    decide (Int.tmod (IntKind.wrap IntKind.u64 (Int.tdiv a 4)) 18 < 18) then
    some
    (Sv.v
    (Value.int IntKind.u64
    (selL (Int.tmod (IntKind.wrap IntKind.u64 (Int.tdiv a 4)) 18) 0
    [0, 9223372036854775808, 4607182418800017408, 13830554455654793216, 9218868437227405312, 18442240474082181120,
    9221120237041090561, 9218868437227405313, 18444492273895866368, 1, 9223372036854775809, 9218868437227405311,
    4746794007248502784, 13970166044105375744, 4746794007244308480, 4602678819172646912, 4613937818241073152,
    4503599627370496])))
    else none) := by kernel_rfl
theorem dbl_nice (a : Int) (hg : (in64 a) = true) :
    evF Try.prog ΓF3 400 57 [.v (.int .u64 a)] [] (fun x _ => some x) (fun _ _ => none) = some (.v (.int .u64 (dblV a))) := by
  rw [dbl_form]
  try simp only [bitsL_eq]
  unfold dblV
  simp only [in64_iff] at hg
  obtain ⟨h1, h2⟩ := dbl_ix hg.1 hg.2
  rw [decide_eq_true h1, decide_eq_true h2]
  simp only [Bool.and_self, cond_true]
  cases Int.tmod a 4 == 0 <;> rfl
def dblS : Nice := fun R args kv => match args with
  | [.v (.int .u64 a)] => bif in64 a then kv (.v (.int .u64 (dblV a))) else none
  | _ => none
theorem dblS_ok : NiceOk Try.prog ΓF3 400 57 dblS := by
  intro R args kv r h
  unfold dblS at h
  split at h
  · obtain ⟨hg, h⟩ := cond_some h
    exact ⟨_, h, rfl, rfl, dbl_nice _ hg⟩
  · cases h
def ΓF4 : Env := (((ΓF3.add 68 (pureSpec toIntS)).add 76 (pureSpec rtoIntS)).add 57 (pureSpec dblS))
theorem ΓF4_ok : EnvOk Try.prog X0 ΓF4 := (((ΓF3_ok.add (by kernel_rfl) (specOk_of_nice ΓF3_ok toIntS_ok)).add (by kernel_rfl) (specOk_of_nice ΓF3_ok rtoIntS_ok)).add (by kernel_rfl) (specOk_of_nice ΓF3_ok dblS_ok))
end Go.Proofs.Ytpgdpoloipifeaa
