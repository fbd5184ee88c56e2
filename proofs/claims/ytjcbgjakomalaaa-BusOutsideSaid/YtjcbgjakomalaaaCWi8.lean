/- Contracts: places within a segment. -/
import Derived.Test.YtjcbgjakomalaaaEvV
import Derived.Test.YtjcbgjakomalaaaCKn8
import Derived.Test.YtjcbgjakomalaaaNLoop
namespace Go.Proofs.Ytjcbgjakomalaaa
open Go Go.Ev
set_option linter.unusedVariables false
set_option linter.unusedSimpArgs false
set_option maxRecDepth 100000
theorem wi_form (s_0 : Int) (s_1 : Int) (s_2 : Bool) (s_3 : Bool) (s_4 : Bool) (a : Int) :
    evF Try.prog ΓK8 400 16 [.agg [.v (.int .u32 s_0), .v (.int .u32 s_1), .v (.bool s_2), .v (.bool s_3), .v (.bool s_4)], .v (.int .u32 a)] [] (fun x _ => some x) (fun _ _ => none) =
    (bif decide (IntKind.wrap IntKind.u64 a ≥ IntKind.wrap IntKind.u64 s_0) then
    some
    (Sv.v
    (Value.bool
    (decide
    (IntKind.wrap IntKind.u64 a < IntKind.wrap IntKind.u64 (IntKind.wrap IntKind.u64 s_0 + IntKind.wrap IntKind.u64 s_1)))))
    else some (vb false)) := by kernel_rfl
theorem wi_nice (s_0 : Int) (s_1 : Int) (s_2 : Bool) (s_3 : Bool) (s_4 : Bool) (a : Int) (hg : (in32 s_0 && (in32 s_1 && (in32 a))) = true) :
    evF Try.prog ΓK8 400 16 [.agg [.v (.int .u32 s_0), .v (.int .u32 s_1), .v (.bool s_2), .v (.bool s_3), .v (.bool s_4)], .v (.int .u32 a)] [] (fun x _ => some x) (fun _ _ => none) = some (.v (.bool (withinV s_0 s_1 a))) := by
  rw [wi_form]
  try simp only [bitsL_eq]
  simp only [Bool.and_eq_true] at hg
  obtain ⟨h0, h1, h2⟩ := hg
  rw [in32_iff] at h0 h1 h2
  have e0 : IntKind.wrap .u64 s_0 = s_0 := wr_u64_id (by omega) (by omega)
  have e1 : IntKind.wrap .u64 s_1 = s_1 := wr_u64_id (by omega) (by omega)
  have e2 : IntKind.wrap .u64 a = a := wr_u64_id (by omega) (by omega)
  have e3 : IntKind.wrap .u64 (s_0 + s_1) = s_0 + s_1 := wr_u64_id (by omega) (by omega)
  simp only [e0, e1, e2, e3]
  unfold withinV
  by_cases q : s_0 ≤ a
  · rw [show decide (a ≥ s_0) = true from decide_eq_true q]; rfl
  · rw [show decide (a ≥ s_0) = false from decide_eq_false q]; rfl
def wiS : Nice := fun R args kv => match args with
  | [.agg [.v (.int .u32 s_0), .v (.int .u32 s_1), .v (.bool s_2), .v (.bool s_3), .v (.bool s_4)], .v (.int .u32 a)] => bif in32 s_0 && (in32 s_1 && (in32 a)) then kv (.v (.bool (withinV s_0 s_1 a))) else none
  | _ => none
theorem wiS_ok : NiceOk Try.prog ΓK8 400 16 wiS := by
  intro R args kv r h
  unfold wiS at h
  split at h
  · obtain ⟨hg, h⟩ := cond_some h
    exact ⟨_, h, rfl, rfl, wi_nice _ _ _ _ _ _ hg⟩
  · cases h
noncomputable def ΓW8 : Env := (ΓK8.add 16 (pureSpec wiS))
theorem ΓW8_ok : EnvOk Try.prog X0 ΓW8 := (ΓK8_ok.add (by kernel_rfl) (specOk_of_nice ΓK8_ok wiS_ok))
end Go.Proofs.Ytjcbgjakomalaaa
