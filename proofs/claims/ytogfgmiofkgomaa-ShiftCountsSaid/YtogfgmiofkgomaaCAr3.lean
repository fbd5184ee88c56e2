/- Contracts: logic, signs. -/
import Derived.Test.YtogfgmiofkgomaaCAr2
namespace Go.Proofs.Ytogfgmiofkgomaa
open Go Go.Ev
set_option linter.unusedVariables false
set_option linter.unusedSimpArgs false
set_option maxRecDepth 100000
theorem logic_form (v : Int) (n : Int) :
    evF Try.prog ΓAr2 400 19 [.v (.int .u32 v), .v (.int .i64 n)] [] (fun x _ => some x) (fun _ _ => none) =
    (bif in32 v then
    bif in32 (cutV v n) then
    bif in32 (cutV v n) then
    some
    (Sv.tup
    [Sv.v (Value.int IntKind.u32 (cutV v n)),
    Sv.agg
    [Sv.v (Value.bool false), Sv.v (Value.bool (parV (cutV v n))), Sv.v (Value.bool (cutV v n == 0)),
    Sv.v (Value.bool (topV (cutV v n) n)), Sv.v (Value.bool false), Sv.v (Value.bool false)]])
    else none
    else none
    else none) := by kernel_rfl
theorem logic_nice (v : Int) (n : Int) (hg : (in32 v) = true) :
    evF Try.prog ΓAr2 400 19 [.v (.int .u32 v), .v (.int .i64 n)] [] (fun x _ => some x) (fun _ _ => none) = some (.tup [.v (.int .u32 (cutV v n)), .agg [.v (.bool false), .v (.bool (parV (cutV v n))), .v (.bool (cutV v n == 0)), .v (.bool (topV (cutV v n) n)), .v (.bool false), .v (.bool false)]]) := by
  rw [logic_form]
  try simp only [bitsL_eq]
  rw [hg, cutV_in]; rfl
def logicS : Nice := fun R args kv => match args with
  | [.v (.int .u32 v), .v (.int .i64 n)] => bif in32 v then kv (.tup [.v (.int .u32 (cutV v n)), .agg [.v (.bool false), .v (.bool (parV (cutV v n))), .v (.bool (cutV v n == 0)), .v (.bool (topV (cutV v n) n)), .v (.bool false), .v (.bool false)]]) else none
  | _ => none
theorem logicS_ok : NiceOk Try.prog ΓAr2 400 19 logicS := by
  intro R args kv r h
  unfold logicS at h
  split at h
  · obtain ⟨hg, h⟩ := cond_some h
    exact ⟨_, h, rfl, rfl, logic_nice _ _ hg⟩
  · cases h
theorem rtop_form (n : Int) :
    evF Try.prog ΓAr2 400 39 [.v (.int .i64 n)] [] (fun x _ => some x) (fun _ _ => none) =
    (bif decide (n ≤ 1) then some (Sv.v (Value.int IntKind.u32 128))
    else
    bif decide (n ≤ 3) then some (Sv.v (Value.int IntKind.u32 32768)) else some (Sv.v (Value.int IntKind.u32 2147483648))) := by kernel_rfl
theorem rtop_nice (n : Int) (hg : (true) = true) :
    evF Try.prog ΓAr2 400 39 [.v (.int .i64 n)] [] (fun x _ => some x) (fun _ _ => none) = some (.v (.int .u32 (tV n))) := by
  rw [rtop_form]
  try simp only [bitsL_eq]
  unfold tV
  rcases szM_cases n with ⟨h1, h, _⟩ | ⟨h1, h2, h, _⟩ | ⟨h1, h2, h, _⟩ <;> simp [h1, h] <;> simp [h2]
def rtopS : Nice := fun R args kv => match args with
  | [.v (.int .i64 n)] => bif true then kv (.v (.int .u32 (tV n))) else none
  | _ => none
theorem rtopS_ok : NiceOk Try.prog ΓAr2 400 39 rtopS := by
  intro R args kv r h
  unfold rtopS at h
  split at h
  · obtain ⟨hg, h⟩ := cond_some h
    exact ⟨_, h, rfl, rfl, rtop_nice _ hg⟩
  · cases h
theorem signed_form (v : Int) (n : Int) :
    evF Try.prog ΓAr2 400 25 [.v (.int .u32 v), .v (.int .i64 n)] [] (fun x _ => some x) (fun _ _ => none) =
    (bif decide (n ≤ 1) then
    some
    (Sv.v (Value.int IntKind.i32 (Int.fdiv (IntKind.wrap IntKind.i32 (IntKind.wrap IntKind.u32 (v * 16777216))) 16777216)))
    else
    bif decide (n ≤ 3) then
    some (Sv.v (Value.int IntKind.i32 (Int.fdiv (IntKind.wrap IntKind.i32 (IntKind.wrap IntKind.u32 (v * 65536))) 65536)))
    else some (Sv.v (Value.int IntKind.i32 (Int.fdiv (IntKind.wrap IntKind.i32 (IntKind.wrap IntKind.u32 (v * 1))) 1)))) := by kernel_rfl
theorem signed_nice (v : Int) (n : Int) (hg : (in32 v) = true) :
    evF Try.prog ΓAr2 400 25 [.v (.int .u32 v), .v (.int .i64 n)] [] (fun x _ => some x) (fun _ _ => none) = some (.v (.int .i32 (sgnV v n))) := by
  rw [signed_form]
  try simp only [bitsL_eq]
  simp only [in32_iff] at hg
  obtain ⟨h0, h1⟩ := hg
  rcases szM_cases n with ⟨e1, h, _⟩ | ⟨e1, e2, h, _⟩ | ⟨e1, e2, h, _⟩
  · rw [sgnV_sh8 h0 h1 h]; simp [e1]
  · rw [sgnV_sh16 h0 h1 h]; simp [e1, e2]
  · rw [sgnV_sh32 h0 h1 h]; simp [e1, e2]
def signedS : Nice := fun R args kv => match args with
  | [.v (.int .u32 v), .v (.int .i64 n)] => bif in32 v then kv (.v (.int .i32 (sgnV v n))) else none
  | _ => none
theorem signedS_ok : NiceOk Try.prog ΓAr2 400 25 signedS := by
  intro R args kv r h
  unfold signedS at h
  split at h
  · obtain ⟨hg, h⟩ := cond_some h
    exact ⟨_, h, rfl, rfl, signed_nice _ _ hg⟩
  · cases h
theorem rsigned_form (v : Int) (n : Int) :
    evF Try.prog ΓAr2 400 26 [.v (.int .u32 v), .v (.int .i64 n)] [] (fun x _ => some x) (fun _ _ => none) =
    (bif in32 v then
    bif decide (n ≤ 1) then
    bif bitsL BinOp.and IntKind.u32 (cutV v n) 128 != 0 then
    some (Sv.v (Value.int IntKind.i32 (IntKind.wrap IntKind.i32 (bitsL BinOp.or IntKind.u32 (cutV v n) 4294967040))))
    else some (Sv.v (Value.int IntKind.i32 (IntKind.wrap IntKind.i32 (cutV v n))))
    else
    bif decide (n ≤ 3) then
    bif bitsL BinOp.and IntKind.u32 (cutV v n) 32768 != 0 then
    some (Sv.v (Value.int IntKind.i32 (IntKind.wrap IntKind.i32 (bitsL BinOp.or IntKind.u32 (cutV v n) 4294901760))))
    else some (Sv.v (Value.int IntKind.i32 (IntKind.wrap IntKind.i32 (cutV v n))))
    else
    bif bitsL BinOp.and IntKind.u32 (cutV v n) 2147483648 != 0 then
    some (Sv.v (Value.int IntKind.i32 (IntKind.wrap IntKind.i32 (bitsL BinOp.or IntKind.u32 (cutV v n) 0))))
    else some (Sv.v (Value.int IntKind.i32 (IntKind.wrap IntKind.i32 (cutV v n))))
    else none) := by kernel_rfl
theorem rsigned_nice (v : Int) (n : Int) (hg : (in32 v) = true) :
    evF Try.prog ΓAr2 400 26 [.v (.int .u32 v), .v (.int .i64 n)] [] (fun x _ => some x) (fun _ _ => none) = some (.v (.int .i32 (sgnV v n))) := by
  rw [rsigned_form]
  try simp only [bitsL_eq]
  have hg0 := hg
  simp only [in32_iff] at hg
  obtain ⟨h0, h1⟩ := hg
  have hc := in32_iff.1 (cutV_in v n)
  have hnz := and_t_nz n hc.1 hc.2
  rw [topV_cut] at hnz
  rw [hg0, cond_true]
  rcases szM_cases n with ⟨e1, h, _⟩ | ⟨e1, e2, h, _⟩ | ⟨e1, e2, h, _⟩
  · have ht : tV n = 128 := by unfold tV; rw [h]; rfl
    rw [ht] at hnz
    rw [decide_eq_true e1, cond_true, hnz]
    unfold sgnV
    have hm := or_mask 8 16777215 (v % 256).toNat (by omega) (by omega)
    have hx : ((v % 256).toNat : Int) = cutV v n := by unfold cutV; rw [h]; omega
    have hk : ((16777215 * 2 ^ 8 : Nat) : Int) = 4294967040 := rfl
    rw [hx, hk] at hm
    rw [hm]
    have hv : cutV v n = v % 256 := by unfold cutV; rw [h]
    cases ht' : topV v n with
    | true =>
      unfold topV at ht'; rw [h] at ht'; have ht' := of_decide_eq_true ht'
      rw [cond_true, cond_true, wr_i32, h]; exact congrArg (fun z => some (Sv.v (Value.int IntKind.i32 z))) (by omega)
    | false => rw [cond_false, cond_false, wr_i32, hv, h]; unfold topV at ht'; rw [h] at ht'; have ht' := of_decide_eq_false ht'; exact congrArg (fun z => some (Sv.v (Value.int IntKind.i32 z))) (by omega)
  · have ht : tV n = 32768 := by unfold tV; rw [h]; rfl
    rw [ht] at hnz
    rw [decide_eq_false e1, cond_false, decide_eq_true e2, cond_true, hnz]
    unfold sgnV
    have hm := or_mask 16 65535 (v % 65536).toNat (by omega) (by omega)
    have hx : ((v % 65536).toNat : Int) = cutV v n := by unfold cutV; rw [h]; omega
    have hk : ((65535 * 2 ^ 16 : Nat) : Int) = 4294901760 := rfl
    rw [hx, hk] at hm
    rw [hm]
    have hv : cutV v n = v % 65536 := by unfold cutV; rw [h]
    cases ht' : topV v n with
    | true =>
      unfold topV at ht'; rw [h] at ht'; have ht' := of_decide_eq_true ht'
      rw [cond_true, cond_true, wr_i32, h]; exact congrArg (fun z => some (Sv.v (Value.int IntKind.i32 z))) (by omega)
    | false => rw [cond_false, cond_false, wr_i32, hv, h]; unfold topV at ht'; rw [h] at ht'; have ht' := of_decide_eq_false ht'; exact congrArg (fun z => some (Sv.v (Value.int IntKind.i32 z))) (by omega)
  · have ht : tV n = 2147483648 := by unfold tV; rw [h]; rfl
    rw [ht] at hnz
    rw [decide_eq_false e1, cond_false, decide_eq_false e2, cond_false, hnz]
    unfold sgnV
    have hm := or_mask 32 0 (v % 4294967296).toNat (by omega) (by omega)
    have hx : ((v % 4294967296).toNat : Int) = cutV v n := by unfold cutV; rw [h]; omega
    have hk : ((0 * 2 ^ 32 : Nat) : Int) = 0 := rfl
    rw [hx, hk] at hm
    rw [hm]
    have hv : cutV v n = v % 4294967296 := by unfold cutV; rw [h]
    cases ht' : topV v n with
    | true =>
      unfold topV at ht'; rw [h] at ht'; have ht' := of_decide_eq_true ht'
      rw [cond_true, cond_true, wr_i32, h]; exact congrArg (fun z => some (Sv.v (Value.int IntKind.i32 z))) (by omega)
    | false => rw [cond_false, cond_false, wr_i32, hv, h]; unfold topV at ht'; rw [h] at ht'; have ht' := of_decide_eq_false ht'; exact congrArg (fun z => some (Sv.v (Value.int IntKind.i32 z))) (by omega)
def rsignedS : Nice := fun R args kv => match args with
  | [.v (.int .u32 v), .v (.int .i64 n)] => bif in32 v then kv (.v (.int .i32 (sgnV v n))) else none
  | _ => none
theorem rsignedS_ok : NiceOk Try.prog ΓAr2 400 26 rsignedS := by
  intro R args kv r h
  unfold rsignedS at h
  split at h
  · obtain ⟨hg, h⟩ := cond_some h
    exact ⟨_, h, rfl, rfl, rsigned_nice _ _ hg⟩
  · cases h
theorem one_form (c : Bool) :
    evF Try.prog ΓAr2 400 34 [.v (.bool c)] [] (fun x _ => some x) (fun _ _ => none) =
    (bif c then some (Sv.v (Value.int IntKind.u64 1)) else some (Sv.v (Value.int IntKind.u64 0))) := by kernel_rfl
theorem one_nice (c : Bool) (hg : (true) = true) :
    evF Try.prog ΓAr2 400 34 [.v (.bool c)] [] (fun x _ => some x) (fun _ _ => none) = some (.v (.int .u64 (b2i c))) := by
  rw [one_form]
  try simp only [bitsL_eq]
  cases c <;> rfl
def oneS : Nice := fun R args kv => match args with
  | [.v (.bool c)] => bif true then kv (.v (.int .u64 (b2i c))) else none
  | _ => none
theorem oneS_ok : NiceOk Try.prog ΓAr2 400 34 oneS := by
  intro R args kv r h
  unfold oneS at h
  split at h
  · obtain ⟨hg, h⟩ := cond_some h
    exact ⟨_, h, rfl, rfl, one_nice _ hg⟩
  · cases h
theorem rone_form (c : Bool) :
    evF Try.prog ΓAr2 400 37 [.v (.bool c)] [] (fun x _ => some x) (fun _ _ => none) =
    (bif c then some (Sv.v (Value.int IntKind.u64 1)) else some (Sv.v (Value.int IntKind.u64 0))) := by kernel_rfl
theorem rone_nice (c : Bool) (hg : (true) = true) :
    evF Try.prog ΓAr2 400 37 [.v (.bool c)] [] (fun x _ => some x) (fun _ _ => none) = some (.v (.int .u64 (b2i c))) := by
  rw [rone_form]
  try simp only [bitsL_eq]
  cases c <;> rfl
def roneS : Nice := fun R args kv => match args with
  | [.v (.bool c)] => bif true then kv (.v (.int .u64 (b2i c))) else none
  | _ => none
theorem roneS_ok : NiceOk Try.prog ΓAr2 400 37 roneS := by
  intro R args kv r h
  unfold roneS at h
  split at h
  · obtain ⟨hg, h⟩ := cond_some h
    exact ⟨_, h, rfl, rfl, rone_nice _ hg⟩
  · cases h
def ΓAr3 : Env := ((((((ΓAr2.add 19 (pureSpec logicS)).add 39 (pureSpec rtopS)).add 25 (pureSpec signedS)).add 26 (pureSpec rsignedS)).add 34 (pureSpec oneS)).add 37 (pureSpec roneS))
theorem ΓAr3_ok : EnvOk Try.prog X0 ΓAr3 := ((((((ΓAr2_ok.add (by kernel_rfl) (specOk_of_nice ΓAr2_ok logicS_ok)).add (by kernel_rfl) (specOk_of_nice ΓAr2_ok rtopS_ok)).add (by kernel_rfl) (specOk_of_nice ΓAr2_ok signedS_ok)).add (by kernel_rfl) (specOk_of_nice ΓAr2_ok rsignedS_ok)).add (by kernel_rfl) (specOk_of_nice ΓAr2_ok oneS_ok)).add (by kernel_rfl) (specOk_of_nice ΓAr2_ok roneS_ok))
end Go.Proofs.Ytogfgmiofkgomaa
