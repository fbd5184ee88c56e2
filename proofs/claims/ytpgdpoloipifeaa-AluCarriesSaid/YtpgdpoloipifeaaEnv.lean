/- The seat's program under the reckoning: nothing is taken by contract yet. -/
import Derived.Test.YtpgdpoloipifeaaEvX
import Derived.Test.YtpgdpoloipifeaaChecked
namespace Go.Proofs.Ytpgdpoloipifeaa
open Go Go.Ev

abbrev X0 : Ext := XM
/-- Functions whose answers lead to memory. -/
def wides : List Nat := [13, 25, 33, 35, 38, 39, 41, 42, 62, 63, 83, 90, 107, 112, 113, 133, 134, 135, 153, 155, 156]
def Γ0 : Env := ⟨fun _ => none, fun f => memN wides f, [], fun _ _ => none, fun _ => none, fun _ => none⟩

def namesOk (P : Program) : Bool := P.funcs.toList.all fun fn => fn.name != "runtime.NumGoroutine"
theorem names_ok : namesOk Try.prog = true := by kernel_rfl
theorem names_of (f : FuncId) (fn : Func) (h : Try.prog.funcs[f]? = some fn) : fn.name ≠ "runtime.NumGoroutine" := by
  have h1 := names_ok
  unfold namesOk at h1
  rw [List.all_eq_true] at h1
  have h2 : fn ∈ Try.prog.funcs.toList := by
    have h3 : Try.prog.funcs.toList[f]? = some fn := by simpa using h
    exact List.mem_of_getElem? h3
  simpa using h1 fn h2
theorem mixed : Try.prog.follows .mixedOrders = true := Try.checked.mixed
theorem Γ0_ok : EnvOk Try.prog X0 Γ0 := ⟨mixed, names_of, fun _ _ h => (by cases h), fun _ _ h => (by cases h), fun _ _ _ _ _ => blkIn_none _ _ _, fun _ _ h => (by cases h)⟩
end Go.Proofs.Ytpgdpoloipifeaa
