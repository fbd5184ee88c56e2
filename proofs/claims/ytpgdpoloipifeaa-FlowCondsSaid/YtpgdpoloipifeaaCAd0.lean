/- Contracts: places of operands. -/
import Derived.Test.YtpgdpoloipifeaaEvV
import Derived.Test.YtpgdpoloipifeaaCMm6
import Derived.Test.YtpgdpoloipifeaaNSeat
namespace Go.Proofs.Ytpgdpoloipifeaa
open Go Go.Ev
set_option linter.unusedVariables false
set_option linter.unusedSimpArgs false
set_option maxRecDepth 100000
theorem held_form (s_0 : Int) (s_1 : Int) (s_2 : Int) (s_3 : Int) (s_4 : Int) (s_5 : Int) (s_6 : Int) (s_7 : Int) (s_8 : Int) (s_9 : Bool) (s_10 : Bool) (s_11 : Bool) (s_12 : Bool) (s_13 : Bool) (s_14 : Bool) (s_15 : Int) (s_16 : Int) (s_17 : Int) (s_18 : Int) (s_19 : Int) (s_20 : Int) (s_21 : Int) (s_22 : Int) (n : Int) :
    evF Try.prog ΓM6 400 136 [.agg [.v (.int .u32 s_0), .v (.int .u32 s_1), .v (.int .u32 s_2), .v (.int .u32 s_3), .v (.int .u32 s_4), .v (.int .u32 s_5), .v (.int .u32 s_6), .v (.int .u32 s_7), .v (.int .u32 s_8), .v (.bool s_9), .v (.bool s_10), .v (.bool s_11), .v (.bool s_12), .v (.bool s_13), .v (.bool s_14), .v (.int .u64 s_15), .v (.int .u64 s_16), .v (.int .u64 s_17), .v (.int .u64 s_18), .v (.int .u64 s_19), .v (.int .u64 s_20), .v (.int .u64 s_21), .v (.int .u64 s_22)], .v (.int .i64 n)] [] (fun x _ => some x) (fun _ _ => none) =
    (bif decide (n < 0) then some (vw 0)
    else
    bif decide (n > 7) then some (vw 0)
    else
    bif decide (0 ≤ n) && decide (n < 8) then
    some (vw ((selL n 0 [s_0, s_1, s_2, s_3, s_4, s_5, s_6, s_7])))
    else none) := by kernel_rfl
theorem held_nice (s_0 : Int) (s_1 : Int) (s_2 : Int) (s_3 : Int) (s_4 : Int) (s_5 : Int) (s_6 : Int) (s_7 : Int) (s_8 : Int) (s_9 : Bool) (s_10 : Bool) (s_11 : Bool) (s_12 : Bool) (s_13 : Bool) (s_14 : Bool) (s_15 : Int) (s_16 : Int) (s_17 : Int) (s_18 : Int) (s_19 : Int) (s_20 : Int) (s_21 : Int) (s_22 : Int) (n : Int) (hg : (true) = true) :
    evF Try.prog ΓM6 400 136 [.agg [.v (.int .u32 s_0), .v (.int .u32 s_1), .v (.int .u32 s_2), .v (.int .u32 s_3), .v (.int .u32 s_4), .v (.int .u32 s_5), .v (.int .u32 s_6), .v (.int .u32 s_7), .v (.int .u32 s_8), .v (.bool s_9), .v (.bool s_10), .v (.bool s_11), .v (.bool s_12), .v (.bool s_13), .v (.bool s_14), .v (.int .u64 s_15), .v (.int .u64 s_16), .v (.int .u64 s_17), .v (.int .u64 s_18), .v (.int .u64 s_19), .v (.int .u64 s_20), .v (.int .u64 s_21), .v (.int .u64 s_22)], .v (.int .i64 n)] [] (fun x _ => some x) (fun _ _ => none) = some (.v (.int .u32 (heldV n [s_0, s_1, s_2, s_3, s_4, s_5, s_6, s_7]))) := by
  rw [held_form]
  try simp only [bitsL_eq]
  unfold heldV isV
  by_cases h0 : 0 ≤ n
  · by_cases h7 : n ≤ 7
    · have e1 : decide (n < 0) = false := decide_eq_false (by omega)
      have e2 : decide (n > 7) = false := decide_eq_false (by omega)
      have e3 : decide (0 ≤ n) = true := decide_eq_true h0
      have e4 : decide (n < 8) = true := decide_eq_true (by omega)
      have e5 : decide (n ≤ 7) = true := decide_eq_true h7
      rw [e1, e2, e3, e4, e5]; rfl
    · have e1 : decide (n < 0) = false := decide_eq_false (by omega)
      have e2 : decide (n > 7) = true := decide_eq_true (by omega)
      have e5 : decide (n ≤ 7) = false := decide_eq_false h7
      rw [e1, e2, e5, Bool.and_false]; rfl
  · have e1 : decide (n < 0) = true := decide_eq_true (by omega)
    have e3 : decide (0 ≤ n) = false := decide_eq_false h0
    rw [e1, e3]; rfl
def heldS : Nice := fun R args kv => match args with
  | [.agg [.v (.int .u32 s_0), .v (.int .u32 s_1), .v (.int .u32 s_2), .v (.int .u32 s_3), .v (.int .u32 s_4), .v (.int .u32 s_5), .v (.int .u32 s_6), .v (.int .u32 s_7), .v (.int .u32 s_8), .v (.bool s_9), .v (.bool s_10), .v (.bool s_11), .v (.bool s_12), .v (.bool s_13), .v (.bool s_14), .v (.int .u64 s_15), .v (.int .u64 s_16), .v (.int .u64 s_17), .v (.int .u64 s_18), .v (.int .u64 s_19), .v (.int .u64 s_20), .v (.int .u64 s_21), .v (.int .u64 s_22)], .v (.int .i64 n)] => bif true then kv (.v (.int .u32 (heldV n [s_0, s_1, s_2, s_3, s_4, s_5, s_6, s_7]))) else none
  | _ => none
theorem heldS_ok : NiceOk Try.prog ΓM6 400 136 heldS := by
  intro R args kv r h
  unfold heldS at h
  split at h
  · obtain ⟨hg, h⟩ := cond_some h
    exact ⟨_, h, rfl, rfl, held_nice _ _ _ _ _ _ _ _ _ _ _ _ _ _ _ _ _ _ _ _ _ _ _ _ hg⟩
  · cases h
def ΓAd0 : Env := (ΓM6.add 136 (pureSpec heldS))
theorem ΓAd0_ok : EnvOk Try.prog X0 ΓAd0 := (ΓM6_ok.add (by kernel_rfl) (specOk_of_nice ΓM6_ok heldS_ok))
end Go.Proofs.Ytpgdpoloipifeaa
