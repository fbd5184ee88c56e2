/- Answers that do not hang on the type that a bus bears. -/
import Derived.Test.YtpgdpoloipifeaaEvG
namespace Go.Ev
open Go
set_option linter.unusedVariables false
theorem ansM_bus (T : Option (Sv × List SObj)) : ansM T 1 = ansM (T.map fun p => (p.1, p.2.drop 1)) 0 := by
  cases T with
  | none => rfl
  | some p => obtain ⟨s, m⟩ := p; cases m <;> rfl
/-- The answers, and memory. -/
def sansT (T : Option (Sv × List SObj)) : Option (Sv × List SObj) := T.map fun p => (p.1, p.2.drop 1)
theorem sansT_cond (c : Bool) (A B : Option (Sv × List SObj)) : sansT (bif c then A else B) = bif c then sansT A else sansT B := by cases c <;> rfl
theorem ansI_sans {T T' : Option (Sv × List SObj)} (h : sansT T = sansT T') (j : Nat) : ansI T j = ansI T' j := by
  unfold sansT at h
  cases T <;> cases T' <;> simp_all [ansI]
theorem ansB_sans {T T' : Option (Sv × List SObj)} (h : sansT T = sansT T') (j : Nat) : ansB T j = ansB T' j := by
  unfold sansT at h
  cases T <;> cases T' <;> simp_all [ansB]
theorem ansM_sans {T T' : Option (Sv × List SObj)} (h : sansT T = sansT T') : ansM T 1 = ansM T' 1 := by
  rw [ansM_bus T, ansM_bus T']
  exact congrArg (fun x => ansM x 0) h
end Go.Ev
