/- Contracts: segments, for every number. -/
import Derived.Test.YtllfmajphmfehaaEnv
import Derived.Test.YtllfmajphmfehaaNSegG
namespace Go.Proofs.Ytllfmajphmfehaa
open Go Go.Ev
set_option linter.unusedVariables false
set_option linter.unusedSimpArgs false
set_option maxRecDepth 100000
theorem right_form (s_0 : Int) (s_1 : Int) (s_2 : Bool) (s_3 : Bool) (s_4 : Bool) :
    evF Try.prog Γ0 400 18 [.agg [.v (.int .u32 s_0), .v (.int .u32 s_1), .v (.bool s_2), .v (.bool s_3), .v (.bool s_4)]] [] (fun x _ => some x) (fun _ _ => none) =
    (some
    (Sv.v
    (Value.bool
    (decide (IntKind.wrap IntKind.u64 (IntKind.wrap IntKind.u64 s_0 + IntKind.wrap IntKind.u64 s_1) ≤ 4294967296))))) := by kernel_rfl
theorem right_nice (s_0 : Int) (s_1 : Int) (s_2 : Bool) (s_3 : Bool) (s_4 : Bool) (hg : (true) = true) :
    evF Try.prog Γ0 400 18 [.agg [.v (.int .u32 s_0), .v (.int .u32 s_1), .v (.bool s_2), .v (.bool s_3), .v (.bool s_4)]] [] (fun x _ => some x) (fun _ _ => none) = some (.v (.bool (segG s_0 s_1))) := by
  rw [right_form]
  try simp only [bitsL_eq]
  rfl
def rightS : Nice := fun R args kv => match args with
  | [.agg [.v (.int .u32 s_0), .v (.int .u32 s_1), .v (.bool s_2), .v (.bool s_3), .v (.bool s_4)]] => bif true then kv (.v (.bool (segG s_0 s_1))) else none
  | _ => none
theorem rightS_ok : NiceOk Try.prog Γ0 400 18 rightS := by
  intro R args kv r h
  unfold rightS at h
  split at h
  · obtain ⟨hg, h⟩ := cond_some h
    exact ⟨_, h, rfl, rfl, right_nice _ _ _ _ _ hg⟩
  · cases h
theorem rright_form (s_0 : Int) (s_1 : Int) (s_2 : Bool) (s_3 : Bool) (s_4 : Bool) :
    evF Try.prog Γ0 400 29 [.agg [.v (.int .u32 s_0), .v (.int .u32 s_1), .v (.bool s_2), .v (.bool s_3), .v (.bool s_4)]] [] (fun x _ => some x) (fun _ _ => none) =
    (some
    (Sv.v
    (Value.bool
    (decide (IntKind.wrap IntKind.u64 (IntKind.wrap IntKind.u64 s_0 + IntKind.wrap IntKind.u64 s_1) ≤ 4294967296))))) := by kernel_rfl
theorem rright_nice (s_0 : Int) (s_1 : Int) (s_2 : Bool) (s_3 : Bool) (s_4 : Bool) (hg : (true) = true) :
    evF Try.prog Γ0 400 29 [.agg [.v (.int .u32 s_0), .v (.int .u32 s_1), .v (.bool s_2), .v (.bool s_3), .v (.bool s_4)]] [] (fun x _ => some x) (fun _ _ => none) = some (.v (.bool (segG s_0 s_1))) := by
  rw [rright_form]
  try simp only [bitsL_eq]
  rfl
def rrightS : Nice := fun R args kv => match args with
  | [.agg [.v (.int .u32 s_0), .v (.int .u32 s_1), .v (.bool s_2), .v (.bool s_3), .v (.bool s_4)]] => bif true then kv (.v (.bool (segG s_0 s_1))) else none
  | _ => none
theorem rrightS_ok : NiceOk Try.prog Γ0 400 29 rrightS := by
  intro R args kv r h
  unfold rrightS at h
  split at h
  · obtain ⟨hg, h⟩ := cond_some h
    exact ⟨_, h, rfl, rfl, rright_nice _ _ _ _ _ hg⟩
  · cases h
theorem at_form (s_0 : Int) (s_1 : Int) (s_2 : Bool) (s_3 : Bool) (s_4 : Bool) (off : Int) (n : Int) (w : Int) :
    evF Try.prog Γ0 400 17 [.agg [.v (.int .u32 s_0), .v (.int .u32 s_1), .v (.bool s_2), .v (.bool s_3), .v (.bool s_4)], .v (.int .u32 off), .v (.int .i64 n), .v (.int .i64 w)] [] (fun x _ => some x) (fun _ _ => none) =
    (bif w == 0 then
    bif s_2 then
    bif
    decide
    (IntKind.wrap IntKind.u64
    (IntKind.wrap IntKind.u64 off +
    IntKind.wrap IntKind.u64 (if 16 < if 1 > n then 1 else n then 16 else if 1 > n then 1 else n)) >
    IntKind.wrap IntKind.u64 s_1) then
    some (Sv.tup [Sv.v (Value.int IntKind.u32 0), Sv.v (Value.int IntKind.i64 24)])
    else
    bif !decide (IntKind.wrap IntKind.u64 (IntKind.wrap IntKind.u64 s_0 + IntKind.wrap IntKind.u64 s_1) ≤ 4294967296) then
    some (Sv.tup [Sv.v (Value.int IntKind.u32 0), Sv.v (Value.int IntKind.i64 24)])
    else some (Sv.tup [Sv.v (Value.int IntKind.u32 (IntKind.wrap IntKind.u32 (s_0 + off))), Sv.v (Value.int IntKind.i64 0)])
    else
    bif w == 1 then
    bif s_3 then
    bif
    decide
    (IntKind.wrap IntKind.u64
    (IntKind.wrap IntKind.u64 off +
    IntKind.wrap IntKind.u64 (if 16 < if 1 > n then 1 else n then 16 else if 1 > n then 1 else n)) >
    IntKind.wrap IntKind.u64 s_1) then
    some (Sv.tup [Sv.v (Value.int IntKind.u32 0), Sv.v (Value.int IntKind.i64 24)])
    else
    bif !decide (IntKind.wrap IntKind.u64 (IntKind.wrap IntKind.u64 s_0 + IntKind.wrap IntKind.u64 s_1) ≤ 4294967296) then
    some (Sv.tup [Sv.v (Value.int IntKind.u32 0), Sv.v (Value.int IntKind.i64 24)])
    else some (Sv.tup [Sv.v (Value.int IntKind.u32 (IntKind.wrap IntKind.u32 (s_0 + off))), Sv.v (Value.int IntKind.i64 0)])
    else
    bif w == 2 then
    bif !s_4 then some (Sv.tup [Sv.v (Value.int IntKind.u32 0), Sv.v (Value.int IntKind.i64 25)])
    else
    bif
    decide
    (IntKind.wrap IntKind.u64
    (IntKind.wrap IntKind.u64 off +
    IntKind.wrap IntKind.u64 (if 16 < if 1 > n then 1 else n then 16 else if 1 > n then 1 else n)) >
    IntKind.wrap IntKind.u64 s_1) then
    some (Sv.tup [Sv.v (Value.int IntKind.u32 0), Sv.v (Value.int IntKind.i64 24)])
    else
    bif !decide (IntKind.wrap IntKind.u64 (IntKind.wrap IntKind.u64 s_0 + IntKind.wrap IntKind.u64 s_1) ≤ 4294967296) then
    some (Sv.tup [Sv.v (Value.int IntKind.u32 0), Sv.v (Value.int IntKind.i64 24)])
    else some (Sv.tup [Sv.v (Value.int IntKind.u32 (IntKind.wrap IntKind.u32 (s_0 + off))), Sv.v (Value.int IntKind.i64 0)])
    else some (Sv.tup [Sv.v (Value.int IntKind.u32 0), Sv.v (Value.int IntKind.i64 25)])
    else
    bif w == 2 then
    bif !s_4 then some (Sv.tup [Sv.v (Value.int IntKind.u32 0), Sv.v (Value.int IntKind.i64 25)])
    else
    bif
    decide
    (IntKind.wrap IntKind.u64
    (IntKind.wrap IntKind.u64 off +
    IntKind.wrap IntKind.u64 (if 16 < if 1 > n then 1 else n then 16 else if 1 > n then 1 else n)) >
    IntKind.wrap IntKind.u64 s_1) then
    some (Sv.tup [Sv.v (Value.int IntKind.u32 0), Sv.v (Value.int IntKind.i64 24)])
    else
    bif !decide (IntKind.wrap IntKind.u64 (IntKind.wrap IntKind.u64 s_0 + IntKind.wrap IntKind.u64 s_1) ≤ 4294967296) then
    some (Sv.tup [Sv.v (Value.int IntKind.u32 0), Sv.v (Value.int IntKind.i64 24)])
    else some (Sv.tup [Sv.v (Value.int IntKind.u32 (IntKind.wrap IntKind.u32 (s_0 + off))), Sv.v (Value.int IntKind.i64 0)])
    else some (Sv.tup [Sv.v (Value.int IntKind.u32 0), Sv.v (Value.int IntKind.i64 25)])
    else
    bif w == 1 then
    bif s_3 then
    bif
    decide
    (IntKind.wrap IntKind.u64
    (IntKind.wrap IntKind.u64 off +
    IntKind.wrap IntKind.u64 (if 16 < if 1 > n then 1 else n then 16 else if 1 > n then 1 else n)) >
    IntKind.wrap IntKind.u64 s_1) then
    some (Sv.tup [Sv.v (Value.int IntKind.u32 0), Sv.v (Value.int IntKind.i64 24)])
    else
    bif !decide (IntKind.wrap IntKind.u64 (IntKind.wrap IntKind.u64 s_0 + IntKind.wrap IntKind.u64 s_1) ≤ 4294967296) then
    some (Sv.tup [Sv.v (Value.int IntKind.u32 0), Sv.v (Value.int IntKind.i64 24)])
    else some (Sv.tup [Sv.v (Value.int IntKind.u32 (IntKind.wrap IntKind.u32 (s_0 + off))), Sv.v (Value.int IntKind.i64 0)])
    else
    bif w == 2 then
    bif !s_4 then some (Sv.tup [Sv.v (Value.int IntKind.u32 0), Sv.v (Value.int IntKind.i64 25)])
    else
    bif
    decide
    (IntKind.wrap IntKind.u64
    (IntKind.wrap IntKind.u64 off +
    IntKind.wrap IntKind.u64 (if 16 < if 1 > n then 1 else n then 16 else if 1 > n then 1 else n)) >
    IntKind.wrap IntKind.u64 s_1) then
    some (Sv.tup [Sv.v (Value.int IntKind.u32 0), Sv.v (Value.int IntKind.i64 24)])
    else
    bif !decide (IntKind.wrap IntKind.u64 (IntKind.wrap IntKind.u64 s_0 + IntKind.wrap IntKind.u64 s_1) ≤ 4294967296) then
    some (Sv.tup [Sv.v (Value.int IntKind.u32 0), Sv.v (Value.int IntKind.i64 24)])
    else some (Sv.tup [Sv.v (Value.int IntKind.u32 (IntKind.wrap IntKind.u32 (s_0 + off))), Sv.v (Value.int IntKind.i64 0)])
    else some (Sv.tup [Sv.v (Value.int IntKind.u32 0), Sv.v (Value.int IntKind.i64 25)])
    else
    bif w == 2 then
    bif !s_4 then some (Sv.tup [Sv.v (Value.int IntKind.u32 0), Sv.v (Value.int IntKind.i64 25)])
    else
    bif
    decide
    (IntKind.wrap IntKind.u64
    (IntKind.wrap IntKind.u64 off +
    IntKind.wrap IntKind.u64 (if 16 < if 1 > n then 1 else n then 16 else if 1 > n then 1 else n)) >
    IntKind.wrap IntKind.u64 s_1) then
    some (Sv.tup [Sv.v (Value.int IntKind.u32 0), Sv.v (Value.int IntKind.i64 24)])
    else
    bif !decide (IntKind.wrap IntKind.u64 (IntKind.wrap IntKind.u64 s_0 + IntKind.wrap IntKind.u64 s_1) ≤ 4294967296) then
    some (Sv.tup [Sv.v (Value.int IntKind.u32 0), Sv.v (Value.int IntKind.i64 24)])
    else some (Sv.tup [Sv.v (Value.int IntKind.u32 (IntKind.wrap IntKind.u32 (s_0 + off))), Sv.v (Value.int IntKind.i64 0)])
    else some (Sv.tup [Sv.v (Value.int IntKind.u32 0), Sv.v (Value.int IntKind.i64 25)])) := by kernel_rfl
theorem at_nice (s_0 : Int) (s_1 : Int) (s_2 : Bool) (s_3 : Bool) (s_4 : Bool) (off : Int) (n : Int) (w : Int) (hg : (true) = true) :
    evF Try.prog Γ0 400 17 [.agg [.v (.int .u32 s_0), .v (.int .u32 s_1), .v (.bool s_2), .v (.bool s_3), .v (.bool s_4)], .v (.int .u32 off), .v (.int .i64 n), .v (.int .i64 w)] [] (fun x _ => some x) (fun _ _ => none) = some (.tup [.v (.int .u32 (pG s_0 s_1 s_2 s_3 s_4 off n w)), .v (.int .i64 (eG s_0 s_1 s_2 s_3 s_4 off n w))]) := by
  rw [at_form]
  try simp only [bitsL_eq]
  unfold pG eG okG mayV segG fitG endG
  rw [clampN_def]
  simp only [gt_not]
  generalize (w == 0) = p0
  generalize (w == 1) = p1
  generalize (w == 2) = p2
  generalize decide (IntKind.wrap IntKind.u64 (IntKind.wrap IntKind.u64 s_0 + IntKind.wrap IntKind.u64 s_1) ≤ 4294967296) = p3
  generalize decide (IntKind.wrap IntKind.u64 (IntKind.wrap IntKind.u64 off + IntKind.wrap IntKind.u64 (clampN n)) ≤ IntKind.wrap IntKind.u64 s_1) = p4
  cases p0 <;> cases p1 <;> cases p2 <;> cases s_2 <;> cases s_3 <;> cases s_4 <;> cases p3 <;> cases p4 <;> rfl
def atS : Nice := fun R args kv => match args with
  | [.agg [.v (.int .u32 s_0), .v (.int .u32 s_1), .v (.bool s_2), .v (.bool s_3), .v (.bool s_4)], .v (.int .u32 off), .v (.int .i64 n), .v (.int .i64 w)] => bif true then kv (.tup [.v (.int .u32 (pG s_0 s_1 s_2 s_3 s_4 off n w)), .v (.int .i64 (eG s_0 s_1 s_2 s_3 s_4 off n w))]) else none
  | _ => none
theorem atS_ok : NiceOk Try.prog Γ0 400 17 atS := by
  intro R args kv r h
  unfold atS at h
  split at h
  · obtain ⟨hg, h⟩ := cond_some h
    exact ⟨_, h, rfl, rfl, at_nice _ _ _ _ _ _ _ _ hg⟩
  · cases h
theorem rat_form (s_0 : Int) (s_1 : Int) (s_2 : Bool) (s_3 : Bool) (s_4 : Bool) (off : Int) (n : Int) (w : Int) :
    evF Try.prog Γ0 400 27 [.agg [.v (.int .u32 s_0), .v (.int .u32 s_1), .v (.bool s_2), .v (.bool s_3), .v (.bool s_4)], .v (.int .u32 off), .v (.int .i64 n), .v (.int .i64 w)] [] (fun x _ => some x) (fun _ _ => none) =
    (bif w == 0 then
    bif s_2 then
    bif !decide (IntKind.wrap IntKind.u64 (IntKind.wrap IntKind.u64 s_0 + IntKind.wrap IntKind.u64 s_1) ≤ 4294967296) then
    some (Sv.tup [Sv.v (Value.int IntKind.u32 0), Sv.v (Value.int IntKind.i64 24)])
    else
    bif
    decide
    (IntKind.wrap IntKind.u64
    (IntKind.wrap IntKind.u64 off +
    IntKind.wrap IntKind.u64 (if 16 < if 1 > n then 1 else n then 16 else if 1 > n then 1 else n)) >
    IntKind.wrap IntKind.u64 s_1) then
    some (Sv.tup [Sv.v (Value.int IntKind.u32 0), Sv.v (Value.int IntKind.i64 24)])
    else some (Sv.tup [Sv.v (Value.int IntKind.u32 (IntKind.wrap IntKind.u32 (s_0 + off))), Sv.v (Value.int IntKind.i64 0)])
    else
    bif w == 1 then
    bif s_3 then
    bif !decide (IntKind.wrap IntKind.u64 (IntKind.wrap IntKind.u64 s_0 + IntKind.wrap IntKind.u64 s_1) ≤ 4294967296) then
    some (Sv.tup [Sv.v (Value.int IntKind.u32 0), Sv.v (Value.int IntKind.i64 24)])
    else
    bif
    decide
    (IntKind.wrap IntKind.u64
    (IntKind.wrap IntKind.u64 off +
    IntKind.wrap IntKind.u64 (if 16 < if 1 > n then 1 else n then 16 else if 1 > n then 1 else n)) >
    IntKind.wrap IntKind.u64 s_1) then
    some (Sv.tup [Sv.v (Value.int IntKind.u32 0), Sv.v (Value.int IntKind.i64 24)])
    else some (Sv.tup [Sv.v (Value.int IntKind.u32 (IntKind.wrap IntKind.u32 (s_0 + off))), Sv.v (Value.int IntKind.i64 0)])
    else
    bif w == 2 then
    bif !s_4 then some (Sv.tup [Sv.v (Value.int IntKind.u32 0), Sv.v (Value.int IntKind.i64 25)])
    else
    bif !decide (IntKind.wrap IntKind.u64 (IntKind.wrap IntKind.u64 s_0 + IntKind.wrap IntKind.u64 s_1) ≤ 4294967296) then
    some (Sv.tup [Sv.v (Value.int IntKind.u32 0), Sv.v (Value.int IntKind.i64 24)])
    else
    bif
    decide
    (IntKind.wrap IntKind.u64
    (IntKind.wrap IntKind.u64 off +
    IntKind.wrap IntKind.u64 (if 16 < if 1 > n then 1 else n then 16 else if 1 > n then 1 else n)) >
    IntKind.wrap IntKind.u64 s_1) then
    some (Sv.tup [Sv.v (Value.int IntKind.u32 0), Sv.v (Value.int IntKind.i64 24)])
    else some (Sv.tup [Sv.v (Value.int IntKind.u32 (IntKind.wrap IntKind.u32 (s_0 + off))), Sv.v (Value.int IntKind.i64 0)])
    else some (Sv.tup [Sv.v (Value.int IntKind.u32 0), Sv.v (Value.int IntKind.i64 25)])
    else
    bif w == 2 then
    bif !s_4 then some (Sv.tup [Sv.v (Value.int IntKind.u32 0), Sv.v (Value.int IntKind.i64 25)])
    else
    bif !decide (IntKind.wrap IntKind.u64 (IntKind.wrap IntKind.u64 s_0 + IntKind.wrap IntKind.u64 s_1) ≤ 4294967296) then
    some (Sv.tup [Sv.v (Value.int IntKind.u32 0), Sv.v (Value.int IntKind.i64 24)])
    else
    bif
    decide
    (IntKind.wrap IntKind.u64
    (IntKind.wrap IntKind.u64 off +
    IntKind.wrap IntKind.u64 (if 16 < if 1 > n then 1 else n then 16 else if 1 > n then 1 else n)) >
    IntKind.wrap IntKind.u64 s_1) then
    some (Sv.tup [Sv.v (Value.int IntKind.u32 0), Sv.v (Value.int IntKind.i64 24)])
    else some (Sv.tup [Sv.v (Value.int IntKind.u32 (IntKind.wrap IntKind.u32 (s_0 + off))), Sv.v (Value.int IntKind.i64 0)])
    else some (Sv.tup [Sv.v (Value.int IntKind.u32 0), Sv.v (Value.int IntKind.i64 25)])
    else
    bif w == 1 then
    bif s_3 then
    bif !decide (IntKind.wrap IntKind.u64 (IntKind.wrap IntKind.u64 s_0 + IntKind.wrap IntKind.u64 s_1) ≤ 4294967296) then
    some (Sv.tup [Sv.v (Value.int IntKind.u32 0), Sv.v (Value.int IntKind.i64 24)])
    else
    bif
    decide
    (IntKind.wrap IntKind.u64
    (IntKind.wrap IntKind.u64 off +
    IntKind.wrap IntKind.u64 (if 16 < if 1 > n then 1 else n then 16 else if 1 > n then 1 else n)) >
    IntKind.wrap IntKind.u64 s_1) then
    some (Sv.tup [Sv.v (Value.int IntKind.u32 0), Sv.v (Value.int IntKind.i64 24)])
    else some (Sv.tup [Sv.v (Value.int IntKind.u32 (IntKind.wrap IntKind.u32 (s_0 + off))), Sv.v (Value.int IntKind.i64 0)])
    else
    bif w == 2 then
    bif !s_4 then some (Sv.tup [Sv.v (Value.int IntKind.u32 0), Sv.v (Value.int IntKind.i64 25)])
    else
    bif !decide (IntKind.wrap IntKind.u64 (IntKind.wrap IntKind.u64 s_0 + IntKind.wrap IntKind.u64 s_1) ≤ 4294967296) then
    some (Sv.tup [Sv.v (Value.int IntKind.u32 0), Sv.v (Value.int IntKind.i64 24)])
    else
    bif
    decide
    (IntKind.wrap IntKind.u64
    (IntKind.wrap IntKind.u64 off +
    IntKind.wrap IntKind.u64 (if 16 < if 1 > n then 1 else n then 16 else if 1 > n then 1 else n)) >
    IntKind.wrap IntKind.u64 s_1) then
    some (Sv.tup [Sv.v (Value.int IntKind.u32 0), Sv.v (Value.int IntKind.i64 24)])
    else some (Sv.tup [Sv.v (Value.int IntKind.u32 (IntKind.wrap IntKind.u32 (s_0 + off))), Sv.v (Value.int IntKind.i64 0)])
    else some (Sv.tup [Sv.v (Value.int IntKind.u32 0), Sv.v (Value.int IntKind.i64 25)])
    else
    bif w == 2 then
    bif !s_4 then some (Sv.tup [Sv.v (Value.int IntKind.u32 0), Sv.v (Value.int IntKind.i64 25)])
    else
    bif !decide (IntKind.wrap IntKind.u64 (IntKind.wrap IntKind.u64 s_0 + IntKind.wrap IntKind.u64 s_1) ≤ 4294967296) then
    some (Sv.tup [Sv.v (Value.int IntKind.u32 0), Sv.v (Value.int IntKind.i64 24)])
    else
    bif
    decide
    (IntKind.wrap IntKind.u64
    (IntKind.wrap IntKind.u64 off +
    IntKind.wrap IntKind.u64 (if 16 < if 1 > n then 1 else n then 16 else if 1 > n then 1 else n)) >
    IntKind.wrap IntKind.u64 s_1) then
    some (Sv.tup [Sv.v (Value.int IntKind.u32 0), Sv.v (Value.int IntKind.i64 24)])
    else some (Sv.tup [Sv.v (Value.int IntKind.u32 (IntKind.wrap IntKind.u32 (s_0 + off))), Sv.v (Value.int IntKind.i64 0)])
    else some (Sv.tup [Sv.v (Value.int IntKind.u32 0), Sv.v (Value.int IntKind.i64 25)])) := by kernel_rfl
theorem rat_nice (s_0 : Int) (s_1 : Int) (s_2 : Bool) (s_3 : Bool) (s_4 : Bool) (off : Int) (n : Int) (w : Int) (hg : (true) = true) :
    evF Try.prog Γ0 400 27 [.agg [.v (.int .u32 s_0), .v (.int .u32 s_1), .v (.bool s_2), .v (.bool s_3), .v (.bool s_4)], .v (.int .u32 off), .v (.int .i64 n), .v (.int .i64 w)] [] (fun x _ => some x) (fun _ _ => none) = some (.tup [.v (.int .u32 (pG s_0 s_1 s_2 s_3 s_4 off n w)), .v (.int .i64 (eG s_0 s_1 s_2 s_3 s_4 off n w))]) := by
  rw [rat_form]
  try simp only [bitsL_eq]
  unfold pG eG okG mayV segG fitG endG
  rw [clampN_def]
  simp only [gt_not]
  generalize (w == 0) = p0
  generalize (w == 1) = p1
  generalize (w == 2) = p2
  generalize decide (IntKind.wrap IntKind.u64 (IntKind.wrap IntKind.u64 s_0 + IntKind.wrap IntKind.u64 s_1) ≤ 4294967296) = p3
  generalize decide (IntKind.wrap IntKind.u64 (IntKind.wrap IntKind.u64 off + IntKind.wrap IntKind.u64 (clampN n)) ≤ IntKind.wrap IntKind.u64 s_1) = p4
  cases p0 <;> cases p1 <;> cases p2 <;> cases s_2 <;> cases s_3 <;> cases s_4 <;> cases p3 <;> cases p4 <;> rfl
def ratS : Nice := fun R args kv => match args with
  | [.agg [.v (.int .u32 s_0), .v (.int .u32 s_1), .v (.bool s_2), .v (.bool s_3), .v (.bool s_4)], .v (.int .u32 off), .v (.int .i64 n), .v (.int .i64 w)] => bif true then kv (.tup [.v (.int .u32 (pG s_0 s_1 s_2 s_3 s_4 off n w)), .v (.int .i64 (eG s_0 s_1 s_2 s_3 s_4 off n w))]) else none
  | _ => none
theorem ratS_ok : NiceOk Try.prog Γ0 400 27 ratS := by
  intro R args kv r h
  unfold ratS at h
  split at h
  · obtain ⟨hg, h⟩ := cond_some h
    exact ⟨_, h, rfl, rfl, rat_nice _ _ _ _ _ _ _ _ hg⟩
  · cases h
theorem apart_form (s_0 : Int) (s_1 : Int) (s_2 : Bool) (s_3 : Bool) (s_4 : Bool) (t_0 : Int) (t_1 : Int) (t_2 : Bool) (t_3 : Bool) (t_4 : Bool) :
    evF Try.prog Γ0 400 30 [.agg [.v (.int .u32 s_0), .v (.int .u32 s_1), .v (.bool s_2), .v (.bool s_3), .v (.bool s_4)], .agg [.v (.int .u32 t_0), .v (.int .u32 t_1), .v (.bool t_2), .v (.bool t_3), .v (.bool t_4)]] [] (fun x _ => some x) (fun _ _ => none) =
    (bif !decide (IntKind.wrap IntKind.u64 (IntKind.wrap IntKind.u64 s_0 + IntKind.wrap IntKind.u64 s_1) ≤ 4294967296) then
    some (Sv.v (Value.bool false))
    else
    bif !decide (IntKind.wrap IntKind.u64 (IntKind.wrap IntKind.u64 t_0 + IntKind.wrap IntKind.u64 t_1) ≤ 4294967296) then
    some (Sv.v (Value.bool false))
    else
    bif s_1 == 0 then some (Sv.v (Value.bool true))
    else
    bif t_1 == 0 then some (Sv.v (Value.bool true))
    else
    bif
    decide
    (IntKind.wrap IntKind.u64 (IntKind.wrap IntKind.u64 s_0 + IntKind.wrap IntKind.u64 s_1) ≤
    IntKind.wrap IntKind.u64 t_0) then
    some (Sv.v (Value.bool true))
    else
    some
    (Sv.v
    (Value.bool
    (decide
    (IntKind.wrap IntKind.u64 (IntKind.wrap IntKind.u64 t_0 + IntKind.wrap IntKind.u64 t_1) ≤
    IntKind.wrap IntKind.u64 s_0))))) := by kernel_rfl
theorem apart_nice (s_0 : Int) (s_1 : Int) (s_2 : Bool) (s_3 : Bool) (s_4 : Bool) (t_0 : Int) (t_1 : Int) (t_2 : Bool) (t_3 : Bool) (t_4 : Bool) (hg : (true) = true) :
    evF Try.prog Γ0 400 30 [.agg [.v (.int .u32 s_0), .v (.int .u32 s_1), .v (.bool s_2), .v (.bool s_3), .v (.bool s_4)], .agg [.v (.int .u32 t_0), .v (.int .u32 t_1), .v (.bool t_2), .v (.bool t_3), .v (.bool t_4)]] [] (fun x _ => some x) (fun _ _ => none) = some (.v (.bool (apG s_0 s_1 t_0 t_1))) := by
  rw [apart_form]
  try simp only [bitsL_eq]
  unfold apG segG endG
  generalize (s_1 == 0) = p0
  generalize (t_1 == 0) = p1
  generalize decide (IntKind.wrap IntKind.u64 (IntKind.wrap IntKind.u64 s_0 + IntKind.wrap IntKind.u64 s_1) ≤ IntKind.wrap IntKind.u64 t_0) = p2
  generalize decide (IntKind.wrap IntKind.u64 (IntKind.wrap IntKind.u64 t_0 + IntKind.wrap IntKind.u64 t_1) ≤ IntKind.wrap IntKind.u64 s_0) = p3
  generalize decide (IntKind.wrap IntKind.u64 (IntKind.wrap IntKind.u64 s_0 + IntKind.wrap IntKind.u64 s_1) ≤ 4294967296) = p4
  generalize decide (IntKind.wrap IntKind.u64 (IntKind.wrap IntKind.u64 t_0 + IntKind.wrap IntKind.u64 t_1) ≤ 4294967296) = p5
  cases p0 <;> cases p1 <;> cases p2 <;> cases p3 <;> cases p4 <;> cases p5 <;> rfl
def apartS : Nice := fun R args kv => match args with
  | [.agg [.v (.int .u32 s_0), .v (.int .u32 s_1), .v (.bool s_2), .v (.bool s_3), .v (.bool s_4)], .agg [.v (.int .u32 t_0), .v (.int .u32 t_1), .v (.bool t_2), .v (.bool t_3), .v (.bool t_4)]] => bif true then kv (.v (.bool (apG s_0 s_1 t_0 t_1))) else none
  | _ => none
theorem apartS_ok : NiceOk Try.prog Γ0 400 30 apartS := by
  intro R args kv r h
  unfold apartS at h
  split at h
  · obtain ⟨hg, h⟩ := cond_some h
    exact ⟨_, h, rfl, rfl, apart_nice _ _ _ _ _ _ _ _ _ _ hg⟩
  · cases h
theorem rapart_form (s_0 : Int) (s_1 : Int) (s_2 : Bool) (s_3 : Bool) (s_4 : Bool) (t_0 : Int) (t_1 : Int) (t_2 : Bool) (t_3 : Bool) (t_4 : Bool) :
    evF Try.prog Γ0 400 31 [.agg [.v (.int .u32 s_0), .v (.int .u32 s_1), .v (.bool s_2), .v (.bool s_3), .v (.bool s_4)], .agg [.v (.int .u32 t_0), .v (.int .u32 t_1), .v (.bool t_2), .v (.bool t_3), .v (.bool t_4)]] [] (fun x _ => some x) (fun _ _ => none) =
    (bif !decide (IntKind.wrap IntKind.u64 (IntKind.wrap IntKind.u64 s_0 + IntKind.wrap IntKind.u64 s_1) ≤ 4294967296) then
    some (Sv.v (Value.bool false))
    else
    bif !decide (IntKind.wrap IntKind.u64 (IntKind.wrap IntKind.u64 t_0 + IntKind.wrap IntKind.u64 t_1) ≤ 4294967296) then
    some (Sv.v (Value.bool false))
    else
    bif s_1 == 0 then some (Sv.v (Value.bool true))
    else
    bif t_1 == 0 then some (Sv.v (Value.bool true))
    else
    bif
    decide
    (IntKind.wrap IntKind.u64 (IntKind.wrap IntKind.u64 s_0 + IntKind.wrap IntKind.u64 s_1) ≤
    IntKind.wrap IntKind.u64 t_0) then
    some (Sv.v (Value.bool true))
    else
    some
    (Sv.v
    (Value.bool
    (decide
    (IntKind.wrap IntKind.u64 (IntKind.wrap IntKind.u64 t_0 + IntKind.wrap IntKind.u64 t_1) ≤
    IntKind.wrap IntKind.u64 s_0))))) := by kernel_rfl
theorem rapart_nice (s_0 : Int) (s_1 : Int) (s_2 : Bool) (s_3 : Bool) (s_4 : Bool) (t_0 : Int) (t_1 : Int) (t_2 : Bool) (t_3 : Bool) (t_4 : Bool) (hg : (true) = true) :
    evF Try.prog Γ0 400 31 [.agg [.v (.int .u32 s_0), .v (.int .u32 s_1), .v (.bool s_2), .v (.bool s_3), .v (.bool s_4)], .agg [.v (.int .u32 t_0), .v (.int .u32 t_1), .v (.bool t_2), .v (.bool t_3), .v (.bool t_4)]] [] (fun x _ => some x) (fun _ _ => none) = some (.v (.bool (apG s_0 s_1 t_0 t_1))) := by
  rw [rapart_form]
  try simp only [bitsL_eq]
  unfold apG segG endG
  generalize (s_1 == 0) = p0
  generalize (t_1 == 0) = p1
  generalize decide (IntKind.wrap IntKind.u64 (IntKind.wrap IntKind.u64 s_0 + IntKind.wrap IntKind.u64 s_1) ≤ IntKind.wrap IntKind.u64 t_0) = p2
  generalize decide (IntKind.wrap IntKind.u64 (IntKind.wrap IntKind.u64 t_0 + IntKind.wrap IntKind.u64 t_1) ≤ IntKind.wrap IntKind.u64 s_0) = p3
  generalize decide (IntKind.wrap IntKind.u64 (IntKind.wrap IntKind.u64 s_0 + IntKind.wrap IntKind.u64 s_1) ≤ 4294967296) = p4
  generalize decide (IntKind.wrap IntKind.u64 (IntKind.wrap IntKind.u64 t_0 + IntKind.wrap IntKind.u64 t_1) ≤ 4294967296) = p5
  cases p0 <;> cases p1 <;> cases p2 <;> cases p3 <;> cases p4 <;> cases p5 <;> rfl
def rapartS : Nice := fun R args kv => match args with
  | [.agg [.v (.int .u32 s_0), .v (.int .u32 s_1), .v (.bool s_2), .v (.bool s_3), .v (.bool s_4)], .agg [.v (.int .u32 t_0), .v (.int .u32 t_1), .v (.bool t_2), .v (.bool t_3), .v (.bool t_4)]] => bif true then kv (.v (.bool (apG s_0 s_1 t_0 t_1))) else none
  | _ => none
theorem rapartS_ok : NiceOk Try.prog Γ0 400 31 rapartS := by
  intro R args kv r h
  unfold rapartS at h
  split at h
  · obtain ⟨hg, h⟩ := cond_some h
    exact ⟨_, h, rfl, rfl, rapart_nice _ _ _ _ _ _ _ _ _ _ hg⟩
  · cases h
theorem within_form (s_0 : Int) (s_1 : Int) (s_2 : Bool) (s_3 : Bool) (s_4 : Bool) (p : Int) :
    evF Try.prog Γ0 400 22 [.agg [.v (.int .u32 s_0), .v (.int .u32 s_1), .v (.bool s_2), .v (.bool s_3), .v (.bool s_4)], .v (.int .u32 p)] [] (fun x _ => some x) (fun _ _ => none) =
    (bif decide (IntKind.wrap IntKind.u64 p ≥ IntKind.wrap IntKind.u64 s_0) then
    some
    (Sv.v
    (Value.bool
    (decide
    (IntKind.wrap IntKind.u64 p < IntKind.wrap IntKind.u64 (IntKind.wrap IntKind.u64 s_0 + IntKind.wrap IntKind.u64 s_1)))))
    else some (Sv.v (Value.bool false))) := by kernel_rfl
theorem within_nice (s_0 : Int) (s_1 : Int) (s_2 : Bool) (s_3 : Bool) (s_4 : Bool) (p : Int) (hg : (true) = true) :
    evF Try.prog Γ0 400 22 [.agg [.v (.int .u32 s_0), .v (.int .u32 s_1), .v (.bool s_2), .v (.bool s_3), .v (.bool s_4)], .v (.int .u32 p)] [] (fun x _ => some x) (fun _ _ => none) = some (.v (.bool (inG s_0 s_1 p))) := by
  rw [within_form]
  try simp only [bitsL_eq]
  unfold inG endG
  generalize decide (IntKind.wrap IntKind.u64 p ≥ IntKind.wrap IntKind.u64 s_0) = q0
  cases q0 <;> rfl
def withinS : Nice := fun R args kv => match args with
  | [.agg [.v (.int .u32 s_0), .v (.int .u32 s_1), .v (.bool s_2), .v (.bool s_3), .v (.bool s_4)], .v (.int .u32 p)] => bif true then kv (.v (.bool (inG s_0 s_1 p))) else none
  | _ => none
theorem withinS_ok : NiceOk Try.prog Γ0 400 22 withinS := by
  intro R args kv r h
  unfold withinS at h
  split at h
  · obtain ⟨hg, h⟩ := cond_some h
    exact ⟨_, h, rfl, rfl, within_nice _ _ _ _ _ _ hg⟩
  · cases h
theorem rwithin_form (s_0 : Int) (s_1 : Int) (s_2 : Bool) (s_3 : Bool) (s_4 : Bool) (p : Int) :
    evF Try.prog Γ0 400 28 [.agg [.v (.int .u32 s_0), .v (.int .u32 s_1), .v (.bool s_2), .v (.bool s_3), .v (.bool s_4)], .v (.int .u32 p)] [] (fun x _ => some x) (fun _ _ => none) =
    (bif decide (IntKind.wrap IntKind.u64 p ≥ IntKind.wrap IntKind.u64 s_0) then
    some
    (Sv.v
    (Value.bool
    (decide
    (IntKind.wrap IntKind.u64 p < IntKind.wrap IntKind.u64 (IntKind.wrap IntKind.u64 s_0 + IntKind.wrap IntKind.u64 s_1)))))
    else some (Sv.v (Value.bool false))) := by kernel_rfl
theorem rwithin_nice (s_0 : Int) (s_1 : Int) (s_2 : Bool) (s_3 : Bool) (s_4 : Bool) (p : Int) (hg : (true) = true) :
    evF Try.prog Γ0 400 28 [.agg [.v (.int .u32 s_0), .v (.int .u32 s_1), .v (.bool s_2), .v (.bool s_3), .v (.bool s_4)], .v (.int .u32 p)] [] (fun x _ => some x) (fun _ _ => none) = some (.v (.bool (inG s_0 s_1 p))) := by
  rw [rwithin_form]
  try simp only [bitsL_eq]
  unfold inG endG
  generalize decide (IntKind.wrap IntKind.u64 p ≥ IntKind.wrap IntKind.u64 s_0) = q0
  cases q0 <;> rfl
def rwithinS : Nice := fun R args kv => match args with
  | [.agg [.v (.int .u32 s_0), .v (.int .u32 s_1), .v (.bool s_2), .v (.bool s_3), .v (.bool s_4)], .v (.int .u32 p)] => bif true then kv (.v (.bool (inG s_0 s_1 p))) else none
  | _ => none
theorem rwithinS_ok : NiceOk Try.prog Γ0 400 28 rwithinS := by
  intro R args kv r h
  unfold rwithinS at h
  split at h
  · obtain ⟨hg, h⟩ := cond_some h
    exact ⟨_, h, rfl, rfl, rwithin_nice _ _ _ _ _ _ hg⟩
  · cases h
def ΓSegG : Env := ((((((((Γ0.add 18 (pureSpec rightS)).add 29 (pureSpec rrightS)).add 17 (pureSpec atS)).add 27 (pureSpec ratS)).add 30 (pureSpec apartS)).add 31 (pureSpec rapartS)).add 22 (pureSpec withinS)).add 28 (pureSpec rwithinS))
theorem ΓSegG_ok : EnvOk Try.prog X0 ΓSegG := ((((((((Γ0_ok.add (by kernel_rfl) (specOk_of_nice Γ0_ok rightS_ok)).add (by kernel_rfl) (specOk_of_nice Γ0_ok rrightS_ok)).add (by kernel_rfl) (specOk_of_nice Γ0_ok atS_ok)).add (by kernel_rfl) (specOk_of_nice Γ0_ok ratS_ok)).add (by kernel_rfl) (specOk_of_nice Γ0_ok apartS_ok)).add (by kernel_rfl) (specOk_of_nice Γ0_ok rapartS_ok)).add (by kernel_rfl) (specOk_of_nice Γ0_ok withinS_ok)).add (by kernel_rfl) (specOk_of_nice Γ0_ok rwithinS_ok))
end Go.Proofs.Ytllfmajphmfehaa
