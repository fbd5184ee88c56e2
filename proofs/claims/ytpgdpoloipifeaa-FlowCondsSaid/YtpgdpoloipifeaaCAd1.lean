/- Contracts: places of operands. -/
import Derived.Test.YtpgdpoloipifeaaEvV
import Derived.Test.YtpgdpoloipifeaaCAd0
namespace Go.Proofs.Ytpgdpoloipifeaa
open Go Go.Ev
set_option linter.unusedVariables false
set_option linter.unusedSimpArgs false
set_option maxRecDepth 100000
theorem of_form (s_0 : Int) (s_1 : Int) (s_2 : Int) (s_3 : Int) (s_4 : Int) (s_5 : Int) (s_6 : Int) (s_7 : Int) (s_8 : Int) (s_9 : Bool) (s_10 : Bool) (s_11 : Bool) (s_12 : Bool) (s_13 : Bool) (s_14 : Bool) (s_15 : Int) (s_16 : Int) (s_17 : Int) (s_18 : Int) (s_19 : Int) (s_20 : Int) (s_21 : Int) (s_22 : Int) (o_0 : Int) (o_1 : Int) (o_2 : Int) (o_3 : Int) (o_4 : Int) (o_5 : Int) :
    evF Try.prog ΓAd0 400 114 [.agg [.v (.int .u32 s_0), .v (.int .u32 s_1), .v (.int .u32 s_2), .v (.int .u32 s_3), .v (.int .u32 s_4), .v (.int .u32 s_5), .v (.int .u32 s_6), .v (.int .u32 s_7), .v (.int .u32 s_8), .v (.bool s_9), .v (.bool s_10), .v (.bool s_11), .v (.bool s_12), .v (.bool s_13), .v (.bool s_14), .v (.int .u64 s_15), .v (.int .u64 s_16), .v (.int .u64 s_17), .v (.int .u64 s_18), .v (.int .u64 s_19), .v (.int .u64 s_20), .v (.int .u64 s_21), .v (.int .u64 s_22)], .agg [.v (.int .i64 o_0), .v (.int .i64 o_1), .v (.int .i64 o_2), .v (.int .i64 o_3), .v (.int .i64 o_4), .v (.int .u32 o_5)]] [] (fun x _ => some x) (fun _ _ => none) =
    (some
    (Sv.v
    (Value.int IntKind.u32
    (IntKind.wrap IntKind.u32
    (IntKind.wrap IntKind.u32
    (heldV o_2 [s_0, s_1, s_2, s_3, s_4, s_5, s_6, s_7] +
    IntKind.wrap IntKind.u32 (heldV o_3 [s_0, s_1, s_2, s_3, s_4, s_5, s_6, s_7] * IntKind.wrap IntKind.u32 o_4)) +
    o_5))))) := by kernel_rfl
theorem of_nice (s_0 : Int) (s_1 : Int) (s_2 : Int) (s_3 : Int) (s_4 : Int) (s_5 : Int) (s_6 : Int) (s_7 : Int) (s_8 : Int) (s_9 : Bool) (s_10 : Bool) (s_11 : Bool) (s_12 : Bool) (s_13 : Bool) (s_14 : Bool) (s_15 : Int) (s_16 : Int) (s_17 : Int) (s_18 : Int) (s_19 : Int) (s_20 : Int) (s_21 : Int) (s_22 : Int) (o_0 : Int) (o_1 : Int) (o_2 : Int) (o_3 : Int) (o_4 : Int) (o_5 : Int) (hg : (true) = true) :
    evF Try.prog ΓAd0 400 114 [.agg [.v (.int .u32 s_0), .v (.int .u32 s_1), .v (.int .u32 s_2), .v (.int .u32 s_3), .v (.int .u32 s_4), .v (.int .u32 s_5), .v (.int .u32 s_6), .v (.int .u32 s_7), .v (.int .u32 s_8), .v (.bool s_9), .v (.bool s_10), .v (.bool s_11), .v (.bool s_12), .v (.bool s_13), .v (.bool s_14), .v (.int .u64 s_15), .v (.int .u64 s_16), .v (.int .u64 s_17), .v (.int .u64 s_18), .v (.int .u64 s_19), .v (.int .u64 s_20), .v (.int .u64 s_21), .v (.int .u64 s_22)], .agg [.v (.int .i64 o_0), .v (.int .i64 o_1), .v (.int .i64 o_2), .v (.int .i64 o_3), .v (.int .i64 o_4), .v (.int .u32 o_5)]] [] (fun x _ => some x) (fun _ _ => none) = some (.v (.int .u32 (ofV o_2 o_3 o_4 o_5 [s_0, s_1, s_2, s_3, s_4, s_5, s_6, s_7]))) := by
  rw [of_form]
  try simp only [bitsL_eq]
  rfl
def ofS : Nice := fun R args kv => match args with
  | [.agg [.v (.int .u32 s_0), .v (.int .u32 s_1), .v (.int .u32 s_2), .v (.int .u32 s_3), .v (.int .u32 s_4), .v (.int .u32 s_5), .v (.int .u32 s_6), .v (.int .u32 s_7), .v (.int .u32 s_8), .v (.bool s_9), .v (.bool s_10), .v (.bool s_11), .v (.bool s_12), .v (.bool s_13), .v (.bool s_14), .v (.int .u64 s_15), .v (.int .u64 s_16), .v (.int .u64 s_17), .v (.int .u64 s_18), .v (.int .u64 s_19), .v (.int .u64 s_20), .v (.int .u64 s_21), .v (.int .u64 s_22)], .agg [.v (.int .i64 o_0), .v (.int .i64 o_1), .v (.int .i64 o_2), .v (.int .i64 o_3), .v (.int .i64 o_4), .v (.int .u32 o_5)]] => bif true then kv (.v (.int .u32 (ofV o_2 o_3 o_4 o_5 [s_0, s_1, s_2, s_3, s_4, s_5, s_6, s_7]))) else none
  | _ => none
theorem ofS_ok : NiceOk Try.prog ΓAd0 400 114 ofS := by
  intro R args kv r h
  unfold ofS at h
  split at h
  · obtain ⟨hg, h⟩ := cond_some h
    exact ⟨_, h, rfl, rfl, of_nice _ _ _ _ _ _ _ _ _ _ _ _ _ _ _ _ _ _ _ _ _ _ _ _ _ _ _ _ _ hg⟩
  · cases h
theorem rof_form (s_0 : Int) (s_1 : Int) (s_2 : Int) (s_3 : Int) (s_4 : Int) (s_5 : Int) (s_6 : Int) (s_7 : Int) (s_8 : Int) (s_9 : Bool) (s_10 : Bool) (s_11 : Bool) (s_12 : Bool) (s_13 : Bool) (s_14 : Bool) (s_15 : Int) (s_16 : Int) (s_17 : Int) (s_18 : Int) (s_19 : Int) (s_20 : Int) (s_21 : Int) (s_22 : Int) (o_0 : Int) (o_1 : Int) (o_2 : Int) (o_3 : Int) (o_4 : Int) (o_5 : Int) :
    evF Try.prog ΓAd0 400 103 [.agg [.v (.int .u32 s_0), .v (.int .u32 s_1), .v (.int .u32 s_2), .v (.int .u32 s_3), .v (.int .u32 s_4), .v (.int .u32 s_5), .v (.int .u32 s_6), .v (.int .u32 s_7), .v (.int .u32 s_8), .v (.bool s_9), .v (.bool s_10), .v (.bool s_11), .v (.bool s_12), .v (.bool s_13), .v (.bool s_14), .v (.int .u64 s_15), .v (.int .u64 s_16), .v (.int .u64 s_17), .v (.int .u64 s_18), .v (.int .u64 s_19), .v (.int .u64 s_20), .v (.int .u64 s_21), .v (.int .u64 s_22)], .agg [.v (.int .i64 o_0), .v (.int .i64 o_1), .v (.int .i64 o_2), .v (.int .i64 o_3), .v (.int .i64 o_4), .v (.int .u32 o_5)]] [] (fun x _ => some x) (fun _ _ => none) =
    (bif decide (o_2 ≥ 0) then
    bif decide (o_2 ≤ 7) then
    bif decide (0 ≤ o_2) && decide (o_2 < 8) then
    bif decide (o_3 ≥ 0) then
    bif decide (o_3 ≤ 7) then
    bif decide (0 ≤ o_3) && decide (o_3 < 8) then
    some
    (Sv.v
    (Value.int IntKind.u32
    (IntKind.wrap IntKind.u32
    (IntKind.wrap IntKind.u32 (o_5 + selL o_2 0 [s_0, s_1, s_2, s_3, s_4, s_5, s_6, s_7]) +
    IntKind.wrap IntKind.u32 (selL o_3 0 [s_0, s_1, s_2, s_3, s_4, s_5, s_6, s_7] * IntKind.wrap IntKind.u32 o_4)))))
    else none
    else
    some
    (vw ((IntKind.wrap IntKind.u32 (o_5 + selL o_2 0 [s_0, s_1, s_2, s_3, s_4, s_5, s_6, s_7]))))
    else
    some
    (vw ((IntKind.wrap IntKind.u32 (o_5 + selL o_2 0 [s_0, s_1, s_2, s_3, s_4, s_5, s_6, s_7]))))
    else none
    else
    bif decide (o_3 ≥ 0) then
    bif decide (o_3 ≤ 7) then
    bif decide (0 ≤ o_3) && decide (o_3 < 8) then
    some
    (Sv.v
    (Value.int IntKind.u32
    (IntKind.wrap IntKind.u32
    (o_5 + IntKind.wrap IntKind.u32 (selL o_3 0 [s_0, s_1, s_2, s_3, s_4, s_5, s_6, s_7] * IntKind.wrap IntKind.u32 o_4)))))
    else none
    else some (vw o_5)
    else some (vw o_5)
    else
    bif decide (o_3 ≥ 0) then
    bif decide (o_3 ≤ 7) then
    bif decide (0 ≤ o_3) && decide (o_3 < 8) then
    some
    (Sv.v
    (Value.int IntKind.u32
    (IntKind.wrap IntKind.u32
    (o_5 + IntKind.wrap IntKind.u32 (selL o_3 0 [s_0, s_1, s_2, s_3, s_4, s_5, s_6, s_7] * IntKind.wrap IntKind.u32 o_4)))))
    else none
    else some (vw o_5)
    else some (vw o_5)) := by kernel_rfl
theorem rof_nice (s_0 : Int) (s_1 : Int) (s_2 : Int) (s_3 : Int) (s_4 : Int) (s_5 : Int) (s_6 : Int) (s_7 : Int) (s_8 : Int) (s_9 : Bool) (s_10 : Bool) (s_11 : Bool) (s_12 : Bool) (s_13 : Bool) (s_14 : Bool) (s_15 : Int) (s_16 : Int) (s_17 : Int) (s_18 : Int) (s_19 : Int) (s_20 : Int) (s_21 : Int) (s_22 : Int) (o_0 : Int) (o_1 : Int) (o_2 : Int) (o_3 : Int) (o_4 : Int) (o_5 : Int) (hg : (in32 o_5) = true) :
    evF Try.prog ΓAd0 400 103 [.agg [.v (.int .u32 s_0), .v (.int .u32 s_1), .v (.int .u32 s_2), .v (.int .u32 s_3), .v (.int .u32 s_4), .v (.int .u32 s_5), .v (.int .u32 s_6), .v (.int .u32 s_7), .v (.int .u32 s_8), .v (.bool s_9), .v (.bool s_10), .v (.bool s_11), .v (.bool s_12), .v (.bool s_13), .v (.bool s_14), .v (.int .u64 s_15), .v (.int .u64 s_16), .v (.int .u64 s_17), .v (.int .u64 s_18), .v (.int .u64 s_19), .v (.int .u64 s_20), .v (.int .u64 s_21), .v (.int .u64 s_22)], .agg [.v (.int .i64 o_0), .v (.int .i64 o_1), .v (.int .i64 o_2), .v (.int .i64 o_3), .v (.int .i64 o_4), .v (.int .u32 o_5)]] [] (fun x _ => some x) (fun _ _ => none) = some (.v (.int .u32 (ofV o_2 o_3 o_4 o_5 [s_0, s_1, s_2, s_3, s_4, s_5, s_6, s_7]))) := by
  rw [rof_form]
  try simp only [bitsL_eq]
  unfold ofV heldV isV
  have hd := in32_iff.1 hg
  by_cases b0 : 0 ≤ o_2 <;> by_cases b7 : o_2 ≤ 7 <;> by_cases i0 : 0 ≤ o_3 <;> by_cases i7 : o_3 ≤ 7 <;>
    (first
     | (have c8 : o_2 < 8 := by omega)
     | skip) <;>
    (first
     | (have d8 : o_3 < 8 := by omega)
     | skip) <;>
    simp only [*, decide_true, decide_false, Bool.and_true, Bool.and_false, Bool.true_and, Bool.false_and, cond_true, cond_false, Option.some.injEq, Sv.v.injEq, Value.int.injEq, true_and, Int.zero_mul, Int.mul_zero, Int.zero_add, Int.add_zero] <;>
    (simp only [wr_u32]; omega)
def rofS : Nice := fun R args kv => match args with
  | [.agg [.v (.int .u32 s_0), .v (.int .u32 s_1), .v (.int .u32 s_2), .v (.int .u32 s_3), .v (.int .u32 s_4), .v (.int .u32 s_5), .v (.int .u32 s_6), .v (.int .u32 s_7), .v (.int .u32 s_8), .v (.bool s_9), .v (.bool s_10), .v (.bool s_11), .v (.bool s_12), .v (.bool s_13), .v (.bool s_14), .v (.int .u64 s_15), .v (.int .u64 s_16), .v (.int .u64 s_17), .v (.int .u64 s_18), .v (.int .u64 s_19), .v (.int .u64 s_20), .v (.int .u64 s_21), .v (.int .u64 s_22)], .agg [.v (.int .i64 o_0), .v (.int .i64 o_1), .v (.int .i64 o_2), .v (.int .i64 o_3), .v (.int .i64 o_4), .v (.int .u32 o_5)]] => bif in32 o_5 then kv (.v (.int .u32 (ofV o_2 o_3 o_4 o_5 [s_0, s_1, s_2, s_3, s_4, s_5, s_6, s_7]))) else none
  | _ => none
theorem rofS_ok : NiceOk Try.prog ΓAd0 400 103 rofS := by
  intro R args kv r h
  unfold rofS at h
  split at h
  · obtain ⟨hg, h⟩ := cond_some h
    exact ⟨_, h, rfl, rfl, rof_nice _ _ _ _ _ _ _ _ _ _ _ _ _ _ _ _ _ _ _ _ _ _ _ _ _ _ _ _ _ hg⟩
  · cases h
def ΓAd1 : Env := ((ΓAd0.add 114 (pureSpec ofS)).add 103 (pureSpec rofS))
theorem ΓAd1_ok : EnvOk Try.prog X0 ΓAd1 := ((ΓAd0_ok.add (by kernel_rfl) (specOk_of_nice ΓAd0_ok ofS_ok)).add (by kernel_rfl) (specOk_of_nice ΓAd0_ok rofS_ok))
end Go.Proofs.Ytpgdpoloipifeaa
