/- Contracts: one step. -/
import Derived.Test.YtogfgmiofkgomaaCAr5
namespace Go.Proofs.Ytogfgmiofkgomaa
open Go Go.Ev
set_option linter.unusedVariables false
set_option linter.unusedSimpArgs false
set_option maxRecDepth 100000
theorem step_form (f_0 : Bool) (f_1 : Bool) (f_2 : Bool) (f_3 : Bool) (f_4 : Bool) (f_5 : Bool) (v : Int) (n : Int) (by_ : Int) :
    evF Try.prog ΓAr5 400 21 [.agg [.v (.bool f_0), .v (.bool f_1), .v (.bool f_2), .v (.bool f_3), .v (.bool f_4), .v (.bool f_5)], .v (.int .u32 v), .v (.int .i64 n), .v (.int .i64 by_)] [] (fun x _ => some x) (fun _ _ => none) =
    (bif decide (by_ > 0) then
    bif in32 v && true then
    some
    (Sv.tup
    [Sv.v (Value.int IntKind.u32 (addV v 1 n false)),
    Sv.agg
    [Sv.v (Value.bool f_0), Sv.v (Value.bool (parV (addV v 1 n false))), Sv.v (Value.bool (addV v 1 n false == 0)),
    Sv.v (Value.bool (topV (addV v 1 n false) n)), Sv.v (Value.bool (addO v 1 n false)), Sv.v (Value.bool f_5)]])
    else none
    else
    bif in32 v && true then
    some
    (Sv.tup
    [Sv.v (Value.int IntKind.u32 (subV v 1 n false)),
    Sv.agg
    [Sv.v (Value.bool f_0), Sv.v (Value.bool (parV (subV v 1 n false))), Sv.v (Value.bool (subV v 1 n false == 0)),
    Sv.v (Value.bool (topV (subV v 1 n false) n)), Sv.v (Value.bool (subO v 1 n false)), Sv.v (Value.bool f_5)]])
    else none) := by kernel_rfl
theorem step_nice (f_0 : Bool) (f_1 : Bool) (f_2 : Bool) (f_3 : Bool) (f_4 : Bool) (f_5 : Bool) (v : Int) (n : Int) (by_ : Int) (hg : (in32 v) = true) :
    evF Try.prog ΓAr5 400 21 [.agg [.v (.bool f_0), .v (.bool f_1), .v (.bool f_2), .v (.bool f_3), .v (.bool f_4), .v (.bool f_5)], .v (.int .u32 v), .v (.int .i64 n), .v (.int .i64 by_)] [] (fun x _ => some x) (fun _ _ => none) = some (.tup [.v (.int .u32 (stepV v n by_)), .agg [.v (.bool f_0), .v (.bool (parV (stepV v n by_))), .v (.bool (stepV v n by_ == 0)), .v (.bool (topV (stepV v n by_) n)), .v (.bool (stepO v n by_)), .v (.bool f_5)]]) := by
  rw [step_form]
  try simp only [bitsL_eq]
  unfold stepV stepO
  by_cases h : by_ > 0
  · have h' : 0 < by_ := h
    simp [hg, h']
  · have h' : ¬ 0 < by_ := h
    simp [hg, h']
def stepS : Nice := fun R args kv => match args with
  | [.agg [.v (.bool f_0), .v (.bool f_1), .v (.bool f_2), .v (.bool f_3), .v (.bool f_4), .v (.bool f_5)], .v (.int .u32 v), .v (.int .i64 n), .v (.int .i64 by_)] => bif in32 v then kv (.tup [.v (.int .u32 (stepV v n by_)), .agg [.v (.bool f_0), .v (.bool (parV (stepV v n by_))), .v (.bool (stepV v n by_ == 0)), .v (.bool (topV (stepV v n by_) n)), .v (.bool (stepO v n by_)), .v (.bool f_5)]]) else none
  | _ => none
theorem stepS_ok : NiceOk Try.prog ΓAr5 400 21 stepS := by
  intro R args kv r h
  unfold stepS at h
  split at h
  · obtain ⟨hg, h⟩ := cond_some h
    exact ⟨_, h, rfl, rfl, step_nice _ _ _ _ _ _ _ _ _ hg⟩
  · cases h
theorem rstep_form (f_0 : Bool) (f_1 : Bool) (f_2 : Bool) (f_3 : Bool) (f_4 : Bool) (f_5 : Bool) (v : Int) (n : Int) (by_ : Int) :
    evF Try.prog ΓAr5 400 22 [.agg [.v (.bool f_0), .v (.bool f_1), .v (.bool f_2), .v (.bool f_3), .v (.bool f_4), .v (.bool f_5)], .v (.int .u32 v), .v (.int .i64 n), .v (.int .i64 by_)] [] (fun x _ => some x) (fun _ _ => none) =
    (bif decide (by_ > 0) then
    bif in32 v && true then
    some
    (Sv.tup
    [Sv.v (Value.int IntKind.u32 (addV v 1 n false)),
    Sv.agg
    [Sv.v (Value.bool f_0), Sv.v (Value.bool (parV (addV v 1 n false))), Sv.v (Value.bool (addV v 1 n false == 0)),
    Sv.v (Value.bool (topV (addV v 1 n false) n)), Sv.v (Value.bool (addO v 1 n false)), Sv.v (Value.bool f_5)]])
    else none
    else
    bif in32 v && true then
    some
    (Sv.tup
    [Sv.v (Value.int IntKind.u32 (subV v 1 n false)),
    Sv.agg
    [Sv.v (Value.bool f_0), Sv.v (Value.bool (parV (subV v 1 n false))), Sv.v (Value.bool (subV v 1 n false == 0)),
    Sv.v (Value.bool (topV (subV v 1 n false) n)), Sv.v (Value.bool (subO v 1 n false)), Sv.v (Value.bool f_5)]])
    else none) := by kernel_rfl
theorem rstep_nice (f_0 : Bool) (f_1 : Bool) (f_2 : Bool) (f_3 : Bool) (f_4 : Bool) (f_5 : Bool) (v : Int) (n : Int) (by_ : Int) (hg : (in32 v) = true) :
    evF Try.prog ΓAr5 400 22 [.agg [.v (.bool f_0), .v (.bool f_1), .v (.bool f_2), .v (.bool f_3), .v (.bool f_4), .v (.bool f_5)], .v (.int .u32 v), .v (.int .i64 n), .v (.int .i64 by_)] [] (fun x _ => some x) (fun _ _ => none) = some (.tup [.v (.int .u32 (stepV v n by_)), .agg [.v (.bool f_0), .v (.bool (parV (stepV v n by_))), .v (.bool (stepV v n by_ == 0)), .v (.bool (topV (stepV v n by_) n)), .v (.bool (stepO v n by_)), .v (.bool f_5)]]) := by
  rw [rstep_form]
  try simp only [bitsL_eq]
  unfold stepV stepO
  by_cases h : by_ > 0
  · have h' : 0 < by_ := h
    simp [hg, h']
  · have h' : ¬ 0 < by_ := h
    simp [hg, h']
def rstepS : Nice := fun R args kv => match args with
  | [.agg [.v (.bool f_0), .v (.bool f_1), .v (.bool f_2), .v (.bool f_3), .v (.bool f_4), .v (.bool f_5)], .v (.int .u32 v), .v (.int .i64 n), .v (.int .i64 by_)] => bif in32 v then kv (.tup [.v (.int .u32 (stepV v n by_)), .agg [.v (.bool f_0), .v (.bool (parV (stepV v n by_))), .v (.bool (stepV v n by_ == 0)), .v (.bool (topV (stepV v n by_) n)), .v (.bool (stepO v n by_)), .v (.bool f_5)]]) else none
  | _ => none
theorem rstepS_ok : NiceOk Try.prog ΓAr5 400 22 rstepS := by
  intro R args kv r h
  unfold rstepS at h
  split at h
  · obtain ⟨hg, h⟩ := cond_some h
    exact ⟨_, h, rfl, rfl, rstep_nice _ _ _ _ _ _ _ _ _ hg⟩
  · cases h
def ΓAr6 : Env := ((ΓAr5.add 21 (pureSpec stepS)).add 22 (pureSpec rstepS))
theorem ΓAr6_ok : EnvOk Try.prog X0 ΓAr6 := ((ΓAr5_ok.add (by kernel_rfl) (specOk_of_nice ΓAr5_ok stepS_ok)).add (by kernel_rfl) (specOk_of_nice ΓAr5_ok rstepS_ok))
end Go.Proofs.Ytogfgmiofkgomaa
