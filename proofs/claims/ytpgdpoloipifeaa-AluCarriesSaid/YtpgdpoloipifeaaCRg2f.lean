/- Contracts: places of operands. -/
import Derived.Test.YtpgdpoloipifeaaEvV
import Derived.Test.YtpgdpoloipifeaaCMm6
import Derived.Test.YtpgdpoloipifeaaNSeat
import Derived.Test.YtpgdpoloipifeaaNRegs2
namespace Go.Proofs.Ytpgdpoloipifeaa
open Go Go.Ev
set_option linter.unusedVariables false
set_option linter.unusedSimpArgs false
set_option maxRecDepth 100000
abbrev cCRg2fz0 (s_0 s_1 s_2 s_3 s_4 s_5 s_6 s_7 s_8 : Int) (s_9 s_10 s_11 s_12 s_13 s_14 : Bool) (s_15 s_16 s_17 s_18 s_19 s_20 s_21 s_22 : Int) : List Sv := [.v (.int .u32 s_0), .v (.int .u32 s_1), .v (.int .u32 s_2), .v (.int .u32 s_3), .v (.int .u32 s_4), .v (.int .u32 s_5), .v (.int .u32 s_6), .v (.int .u32 s_7), .v (.int .u32 s_8), .v (.bool s_9), .v (.bool s_10), .v (.bool s_11), .v (.bool s_12), .v (.bool s_13), .v (.bool s_14), .v (.int .u64 s_15), .v (.int .u64 s_16), .v (.int .u64 s_17), .v (.int .u64 s_18), .v (.int .u64 s_19), .v (.int .u64 s_20), .v (.int .u64 s_21), .v (.int .u64 s_22)]
theorem held_form (s_0 s_1 s_2 s_3 s_4 s_5 s_6 s_7 s_8 : Int) (s_9 s_10 s_11 s_12 s_13 s_14 : Bool) (s_15 s_16 s_17 s_18 s_19 s_20 s_21 s_22 n : Int) :
    evF Try.prog ΓM6 400 136 [.agg (cCRg2fz0 s_0 s_1 s_2 s_3 s_4 s_5 s_6 s_7 s_8 s_9 s_10 s_11 s_12 s_13 s_14 s_15 s_16 s_17 s_18 s_19 s_20 s_21 s_22), .v (.int .i64 n)] [] (fun x _ => some x) (fun _ _ => none) =
    (bif decide (n < 0) then some (vw 0)
 else
 bif decide (n > 7) then some (vw 0)
 else
 bif decide (0 ≤ n) && decide (n < 8) then
 some (vw ((selL n 0 [s_0, s_1, s_2, s_3, s_4, s_5, s_6, s_7])))
 else none) := by kernel_rfl
theorem held_nice (s_0 s_1 s_2 s_3 s_4 s_5 s_6 s_7 s_8 : Int) (s_9 s_10 s_11 s_12 s_13 s_14 : Bool) (s_15 s_16 s_17 s_18 s_19 s_20 s_21 s_22 n : Int) (hg : (true) = true) :
    evF Try.prog ΓM6 400 136 [.agg (cCRg2fz0 s_0 s_1 s_2 s_3 s_4 s_5 s_6 s_7 s_8 s_9 s_10 s_11 s_12 s_13 s_14 s_15 s_16 s_17 s_18 s_19 s_20 s_21 s_22), .v (.int .i64 n)] [] (fun x _ => some x) (fun _ _ => none) = some (.v (.int .u32 (heldV n [s_0, s_1, s_2, s_3, s_4, s_5, s_6, s_7]))) := by
  rw [held_form]
  try simp only [bitsL_eq]
  unfold heldV isV
  by_cases h0 : 0 ≤ n
  · by_cases h7 : n ≤ 7
    · have e1 : decide (n < 0) = false := decide_eq_false (by omega)
      have e2 : decide (n > 7) = false := decide_eq_false (by omega)
      have e3 : decide (0 ≤ n) = true := decide_eq_true h0
      have e4 : decide (n < 8) = true := decide_eq_true (by omega)
      have e5 : decide (n ≤ 7) = true := decide_eq_true h7
      rw [e1, e2, e3, e4, e5]; rfl
    · have e1 : decide (n < 0) = false := decide_eq_false (by omega)
      have e2 : decide (n > 7) = true := decide_eq_true (by omega)
      have e5 : decide (n ≤ 7) = false := decide_eq_false h7
      rw [e1, e2, e5, Bool.and_false]; rfl
  · have e1 : decide (n < 0) = true := decide_eq_true (by omega)
    have e3 : decide (0 ≤ n) = false := decide_eq_false h0
    rw [e1, e3]; rfl
def heldS : Nice := fun R args kv => match args with
  | [.agg [.v (.int .u32 s_0), .v (.int .u32 s_1), .v (.int .u32 s_2), .v (.int .u32 s_3), .v (.int .u32 s_4), .v (.int .u32 s_5), .v (.int .u32 s_6), .v (.int .u32 s_7), .v (.int .u32 s_8), .v (.bool s_9), .v (.bool s_10), .v (.bool s_11), .v (.bool s_12), .v (.bool s_13), .v (.bool s_14), .v (.int .u64 s_15), .v (.int .u64 s_16), .v (.int .u64 s_17), .v (.int .u64 s_18), .v (.int .u64 s_19), .v (.int .u64 s_20), .v (.int .u64 s_21), .v (.int .u64 s_22)], .v (.int .i64 n)] => bif true then kv (.v (.int .u32 (heldV n [s_0, s_1, s_2, s_3, s_4, s_5, s_6, s_7]))) else none
  | _ => none
theorem heldS_ok : NiceOk Try.prog ΓM6 400 136 heldS := by
  intro R args kv r h
  unfold heldS at h
  split at h
  · obtain ⟨hg, h⟩ := cond_some h
    exact ⟨_, h, rfl, rfl, held_nice _ _ _ _ _ _ _ _ _ _ _ _ _ _ _ _ _ _ _ _ _ _ _ _ hg⟩
  · cases h
def ΓAd0 : Env := (ΓM6.add 136 (pureSpec heldS))
theorem ΓAd0_ok : EnvOk Try.prog X0 ΓAd0 := (ΓM6_ok.add (by kernel_rfl) (specOk_of_nice ΓM6_ok heldS_ok))
end Go.Proofs.Ytpgdpoloipifeaa
namespace Go.Proofs.Ytpgdpoloipifeaa
open Go Go.Ev
set_option linter.unusedVariables false
set_option linter.unusedSimpArgs false
set_option maxRecDepth 100000
abbrev cCRg2fz1 (o_0 o_1 o_2 o_3 o_4 o_5 : Int) : List Sv := [.v (.int .i64 o_0), .v (.int .i64 o_1), .v (.int .i64 o_2), .v (.int .i64 o_3), .v (.int .i64 o_4), .v (.int .u32 o_5)]
theorem of_form (s_0 s_1 s_2 s_3 s_4 s_5 s_6 s_7 s_8 : Int) (s_9 s_10 s_11 s_12 s_13 s_14 : Bool) (s_15 s_16 s_17 s_18 s_19 s_20 s_21 s_22 o_0 o_1 o_2 o_3 o_4 o_5 : Int) :
    evF Try.prog ΓAd0 400 114 [.agg (cCRg2fz0 s_0 s_1 s_2 s_3 s_4 s_5 s_6 s_7 s_8 s_9 s_10 s_11 s_12 s_13 s_14 s_15 s_16 s_17 s_18 s_19 s_20 s_21 s_22), .agg (cCRg2fz1 o_0 o_1 o_2 o_3 o_4 o_5)] [] (fun x _ => some x) (fun _ _ => none) =
    (some
 (Sv.v
 (Value.int IntKind.u32
 (IntKind.wrap IntKind.u32
 (IntKind.wrap IntKind.u32
 (heldV o_2 [s_0, s_1, s_2, s_3, s_4, s_5, s_6, s_7] +
 IntKind.wrap IntKind.u32 (heldV o_3 [s_0, s_1, s_2, s_3, s_4, s_5, s_6, s_7] * IntKind.wrap IntKind.u32 o_4)) +
 o_5))))) := by kernel_rfl
theorem of_nice (s_0 s_1 s_2 s_3 s_4 s_5 s_6 s_7 s_8 : Int) (s_9 s_10 s_11 s_12 s_13 s_14 : Bool) (s_15 s_16 s_17 s_18 s_19 s_20 s_21 s_22 o_0 o_1 o_2 o_3 o_4 o_5 : Int) (hg : (true) = true) :
    evF Try.prog ΓAd0 400 114 [.agg (cCRg2fz0 s_0 s_1 s_2 s_3 s_4 s_5 s_6 s_7 s_8 s_9 s_10 s_11 s_12 s_13 s_14 s_15 s_16 s_17 s_18 s_19 s_20 s_21 s_22), .agg (cCRg2fz1 o_0 o_1 o_2 o_3 o_4 o_5)] [] (fun x _ => some x) (fun _ _ => none) = some (.v (.int .u32 (ofV o_2 o_3 o_4 o_5 [s_0, s_1, s_2, s_3, s_4, s_5, s_6, s_7]))) := by
  rw [of_form]
  try simp only [bitsL_eq]
  rfl
def ofS : Nice := fun R args kv => match args with
  | [.agg [.v (.int .u32 s_0), .v (.int .u32 s_1), .v (.int .u32 s_2), .v (.int .u32 s_3), .v (.int .u32 s_4), .v (.int .u32 s_5), .v (.int .u32 s_6), .v (.int .u32 s_7), .v (.int .u32 s_8), .v (.bool s_9), .v (.bool s_10), .v (.bool s_11), .v (.bool s_12), .v (.bool s_13), .v (.bool s_14), .v (.int .u64 s_15), .v (.int .u64 s_16), .v (.int .u64 s_17), .v (.int .u64 s_18), .v (.int .u64 s_19), .v (.int .u64 s_20), .v (.int .u64 s_21), .v (.int .u64 s_22)], .agg [.v (.int .i64 o_0), .v (.int .i64 o_1), .v (.int .i64 o_2), .v (.int .i64 o_3), .v (.int .i64 o_4), .v (.int .u32 o_5)]] => bif true then kv (.v (.int .u32 (ofV o_2 o_3 o_4 o_5 [s_0, s_1, s_2, s_3, s_4, s_5, s_6, s_7]))) else none
  | _ => none
theorem ofS_ok : NiceOk Try.prog ΓAd0 400 114 ofS := by
  intro R args kv r h
  unfold ofS at h
  split at h
  · obtain ⟨hg, h⟩ := cond_some h
    exact ⟨_, h, rfl, rfl, of_nice _ _ _ _ _ _ _ _ _ _ _ _ _ _ _ _ _ _ _ _ _ _ _ _ _ _ _ _ _ hg⟩
  · cases h
theorem rof_form (s_0 s_1 s_2 s_3 s_4 s_5 s_6 s_7 s_8 : Int) (s_9 s_10 s_11 s_12 s_13 s_14 : Bool) (s_15 s_16 s_17 s_18 s_19 s_20 s_21 s_22 o_0 o_1 o_2 o_3 o_4 o_5 : Int) :
    evF Try.prog ΓAd0 400 103 [.agg (cCRg2fz0 s_0 s_1 s_2 s_3 s_4 s_5 s_6 s_7 s_8 s_9 s_10 s_11 s_12 s_13 s_14 s_15 s_16 s_17 s_18 s_19 s_20 s_21 s_22), .agg (cCRg2fz1 o_0 o_1 o_2 o_3 o_4 o_5)] [] (fun x _ => some x) (fun _ _ => none) =
    (bif decide (o_2 ≥ 0) then
 bif decide (o_2 ≤ 7) then
 bif decide (0 ≤ o_2) && decide (o_2 < 8) then
 bif decide (o_3 ≥ 0) then
 bif decide (o_3 ≤ 7) then
 bif decide (0 ≤ o_3) && decide (o_3 < 8) then
 some
 (Sv.v
 (Value.int IntKind.u32
 (IntKind.wrap IntKind.u32
 (IntKind.wrap IntKind.u32 (o_5 + selL o_2 0 [s_0, s_1, s_2, s_3, s_4, s_5, s_6, s_7]) +
 IntKind.wrap IntKind.u32 (selL o_3 0 [s_0, s_1, s_2, s_3, s_4, s_5, s_6, s_7] * IntKind.wrap IntKind.u32 o_4)))))
 else none
 else
 some
 (vw ((IntKind.wrap IntKind.u32 (o_5 + selL o_2 0 [s_0, s_1, s_2, s_3, s_4, s_5, s_6, s_7]))))
 else
 some
 (vw ((IntKind.wrap IntKind.u32 (o_5 + selL o_2 0 [s_0, s_1, s_2, s_3, s_4, s_5, s_6, s_7]))))
 else none
 else
 bif decide (o_3 ≥ 0) then
 bif decide (o_3 ≤ 7) then
 bif decide (0 ≤ o_3) && decide (o_3 < 8) then
 some
 (Sv.v
 (Value.int IntKind.u32
 (IntKind.wrap IntKind.u32
 (o_5 + IntKind.wrap IntKind.u32 (selL o_3 0 [s_0, s_1, s_2, s_3, s_4, s_5, s_6, s_7] * IntKind.wrap IntKind.u32 o_4)))))
 else none
 else some (vw o_5)
 else some (vw o_5)
 else
 bif decide (o_3 ≥ 0) then
 bif decide (o_3 ≤ 7) then
 bif decide (0 ≤ o_3) && decide (o_3 < 8) then
 some
 (Sv.v
 (Value.int IntKind.u32
 (IntKind.wrap IntKind.u32
 (o_5 + IntKind.wrap IntKind.u32 (selL o_3 0 [s_0, s_1, s_2, s_3, s_4, s_5, s_6, s_7] * IntKind.wrap IntKind.u32 o_4)))))
 else none
 else some (vw o_5)
 else some (vw o_5)) := by kernel_rfl
theorem rof_nice (s_0 s_1 s_2 s_3 s_4 s_5 s_6 s_7 s_8 : Int) (s_9 s_10 s_11 s_12 s_13 s_14 : Bool) (s_15 s_16 s_17 s_18 s_19 s_20 s_21 s_22 o_0 o_1 o_2 o_3 o_4 o_5 : Int) (hg : (in32 o_5) = true) :
    evF Try.prog ΓAd0 400 103 [.agg (cCRg2fz0 s_0 s_1 s_2 s_3 s_4 s_5 s_6 s_7 s_8 s_9 s_10 s_11 s_12 s_13 s_14 s_15 s_16 s_17 s_18 s_19 s_20 s_21 s_22), .agg (cCRg2fz1 o_0 o_1 o_2 o_3 o_4 o_5)] [] (fun x _ => some x) (fun _ _ => none) = some (.v (.int .u32 (ofV o_2 o_3 o_4 o_5 [s_0, s_1, s_2, s_3, s_4, s_5, s_6, s_7]))) := by
  rw [rof_form]
  try simp only [bitsL_eq]
  unfold ofV heldV isV
  have hd := in32_iff.1 hg
  by_cases b0 : 0 ≤ o_2 <;> by_cases b7 : o_2 ≤ 7 <;> by_cases i0 : 0 ≤ o_3 <;> by_cases i7 : o_3 ≤ 7 <;>
    (first
     | (have c8 : o_2 < 8 := by omega)
     | skip) <;>
    (first
     | (have d8 : o_3 < 8 := by omega)
     | skip) <;>
    simp only [*, decide_true, decide_false, Bool.and_true, Bool.and_false, Bool.true_and, Bool.false_and, cond_true, cond_false, Option.some.injEq, Sv.v.injEq, Value.int.injEq, true_and, Int.zero_mul, Int.mul_zero, Int.zero_add, Int.add_zero] <;>
    (simp only [wr_u32]; omega)
def rofS : Nice := fun R args kv => match args with
  | [.agg [.v (.int .u32 s_0), .v (.int .u32 s_1), .v (.int .u32 s_2), .v (.int .u32 s_3), .v (.int .u32 s_4), .v (.int .u32 s_5), .v (.int .u32 s_6), .v (.int .u32 s_7), .v (.int .u32 s_8), .v (.bool s_9), .v (.bool s_10), .v (.bool s_11), .v (.bool s_12), .v (.bool s_13), .v (.bool s_14), .v (.int .u64 s_15), .v (.int .u64 s_16), .v (.int .u64 s_17), .v (.int .u64 s_18), .v (.int .u64 s_19), .v (.int .u64 s_20), .v (.int .u64 s_21), .v (.int .u64 s_22)], .agg [.v (.int .i64 o_0), .v (.int .i64 o_1), .v (.int .i64 o_2), .v (.int .i64 o_3), .v (.int .i64 o_4), .v (.int .u32 o_5)]] => bif in32 o_5 then kv (.v (.int .u32 (ofV o_2 o_3 o_4 o_5 [s_0, s_1, s_2, s_3, s_4, s_5, s_6, s_7]))) else none
  | _ => none
theorem rofS_ok : NiceOk Try.prog ΓAd0 400 103 rofS := by
  intro R args kv r h
  unfold rofS at h
  split at h
  · obtain ⟨hg, h⟩ := cond_some h
    exact ⟨_, h, rfl, rfl, rof_nice _ _ _ _ _ _ _ _ _ _ _ _ _ _ _ _ _ _ _ _ _ _ _ _ _ _ _ _ _ hg⟩
  · cases h
def ΓAd1 : Env := ((ΓAd0.add 114 (pureSpec ofS)).add 103 (pureSpec rofS))
theorem ΓAd1_ok : EnvOk Try.prog X0 ΓAd1 := ((ΓAd0_ok.add (by kernel_rfl) (specOk_of_nice ΓAd0_ok ofS_ok)).add (by kernel_rfl) (specOk_of_nice ΓAd0_ok rofS_ok))
end Go.Proofs.Ytpgdpoloipifeaa
namespace Go.Proofs.Ytpgdpoloipifeaa
open Go Go.Ev
def ΓRg2 : Env := ΓAd1
theorem ΓRg2_ok : EnvOk Try.prog X0 ΓRg2 := ΓAd1_ok
end Go.Proofs.Ytpgdpoloipifeaa
namespace Go.Proofs.Ytpgdpoloipifeaa
open Go Go.Ev
set_option linter.unusedVariables false
set_option linter.unusedSimpArgs false
set_option maxRecDepth 100000
theorem isF_form (n : Int) :
    evF Try.prog ΓRg2 400 137 [.v (.int .i64 n)] [] (fun x _ => some x) (fun _ _ => none) =
    (bif decide (n ≥ 0) then some (vb ((decide (n ≤ 7)))) else some (vb false)) := by kernel_rfl
theorem isF_nice (n : Int) (h : isV n = false) : evF Try.prog ΓRg2 400 137 [.v (.int .i64 n)] [] (fun x _ => some x) (fun _ _ => none) = some (.v (.bool false)) := by
  rw [isF_form]
  unfold isV at h
  by_cases h0 : 0 ≤ n
  · have h7 : ¬ n ≤ 7 := fun h7 => by simp [h0, h7] at h
    simp [h0, h7]
  · simp [h0]
def isFS : Nice := fun R args kv => match args with
  | [.v (.int .i64 n)] => bif !isV n then kv (.v (.bool false)) else none
  | _ => none
theorem isFS_ok : NiceOk Try.prog ΓRg2 400 137 isFS := by
  intro R args kv r h
  unfold isFS at h
  split at h
  · obtain ⟨hg, h2⟩ := cond_some h
    clear h
    exact ⟨_, h2, rfl, rfl, isF_nice _ (by simpa using hg)⟩
  · cases h
theorem inF_form (n : Int) :
    evF Try.prog ΓRg2 400 64 [.v (.int .i64 n), .v (.int .i64 0), .v (.int .i64 7)] [] (fun x _ => some x) (fun _ _ => none) =
    (bif decide (n ≥ 0) then some (vb ((decide (n ≤ 7)))) else some (vb false)) := by kernel_rfl
theorem inF_nice (n : Int) (h : isV n = false) : evF Try.prog ΓRg2 400 64 [.v (.int .i64 n), .v (.int .i64 0), .v (.int .i64 7)] [] (fun x _ => some x) (fun _ _ => none) = some (.v (.bool false)) := by
  rw [inF_form]
  unfold isV at h
  by_cases h0 : 0 ≤ n
  · have h7 : ¬ n ≤ 7 := fun h7 => by simp [h0, h7] at h
    simp [h0, h7]
  · simp [h0]
def inFS : Nice := fun R args kv => match args with
  | [.v (.int .i64 n), .v (.int .i64 lo), .v (.int .i64 hi)] => bif !isV n && (lo == 0 && hi == 7) then kv (.v (.bool false)) else none
  | _ => none
theorem inFS_ok : NiceOk Try.prog ΓRg2 400 64 inFS := by
  intro R args kv r h
  unfold inFS at h
  split at h
  · obtain ⟨hg, h2⟩ := cond_some h
    clear h
    simp only [Bool.and_eq_true, Bool.not_eq_true', beq_iff_eq] at hg
    obtain ⟨hn, rfl, rfl⟩ := hg
    exact ⟨_, h2, rfl, rfl, inF_nice _ hn⟩
  · cases h
def ΓRgF : Env := (ΓRg2.add 137 (pureSpec isFS)).add 64 (pureSpec inFS)
theorem ΓRgF_ok : EnvOk Try.prog X0 ΓRgF := (ΓRg2_ok.add (by kernel_rfl) (specOk_of_nice ΓRg2_ok isFS_ok)).add (by kernel_rfl) (specOk_of_nice ΓRg2_ok inFS_ok)
end Go.Proofs.Ytpgdpoloipifeaa
