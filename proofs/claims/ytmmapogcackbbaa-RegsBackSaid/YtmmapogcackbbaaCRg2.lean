/- Contracts: flags and their word. -/
import Derived.Test.YtmmapogcackbbaaCRg1
namespace Go.Proofs.Ytmmapogcackbbaa
open Go Go.Ev
set_option linter.unusedVariables false
set_option linter.unusedSimpArgs false
set_option maxRecDepth 100000
theorem word_form (f_0 : Bool) (f_1 : Bool) (f_2 : Bool) (f_3 : Bool) (f_4 : Bool) (f_5 : Bool) :
    evF Try.prog ΓRg1 400 19 [.agg [.v (.bool f_0), .v (.bool f_1), .v (.bool f_2), .v (.bool f_3), .v (.bool f_4), .v (.bool f_5)]] [] (fun x _ => some x) (fun _ _ => none) =
    (some (Sv.v (Value.int IntKind.u32 (wv f_0 f_1 f_2 f_3 f_4 f_5)))) := by kernel_rfl
theorem word_nice (f_0 : Bool) (f_1 : Bool) (f_2 : Bool) (f_3 : Bool) (f_4 : Bool) (f_5 : Bool) (hg : (true) = true) :
    evF Try.prog ΓRg1 400 19 [.agg [.v (.bool f_0), .v (.bool f_1), .v (.bool f_2), .v (.bool f_3), .v (.bool f_4), .v (.bool f_5)]] [] (fun x _ => some x) (fun _ _ => none) = some (.v (.int .u32 (wv f_0 f_1 f_2 f_3 f_4 f_5))) := by
  rw [word_form]
  try simp only [bitsL_eq]
  all_goals rfl
def wordS : Nice := fun R args kv => match args with
  | [.agg [.v (.bool f_0), .v (.bool f_1), .v (.bool f_2), .v (.bool f_3), .v (.bool f_4), .v (.bool f_5)]] => bif true then kv (.v (.int .u32 (wv f_0 f_1 f_2 f_3 f_4 f_5))) else none
  | _ => none
theorem wordS_ok : NiceOk Try.prog ΓRg1 400 19 wordS := by
  intro R args kv r h
  unfold wordS at h
  split at h
  · obtain ⟨hg, h⟩ := cond_some h
    exact ⟨_, h, rfl, rfl, word_nice _ _ _ _ _ _ hg⟩
  · cases h
theorem fromw_form (v : Int) :
    evF Try.prog ΓRg1 400 21 [.v (.int .u32 v)] [] (fun x _ => some x) (fun _ _ => none) =
    (some
    (Sv.agg
    [Sv.v (Value.bool (fb v 1)), Sv.v (Value.bool (fb v 4)), Sv.v (Value.bool (fb v 64)), Sv.v (Value.bool (fb v 128)),
    Sv.v (Value.bool (fb v 2048)), Sv.v (Value.bool (fb v 1024))])) := by kernel_rfl
theorem fromw_nice (v : Int) (hg : (true) = true) :
    evF Try.prog ΓRg1 400 21 [.v (.int .u32 v)] [] (fun x _ => some x) (fun _ _ => none) = some (.agg [.v (.bool (fb v 1)), .v (.bool (fb v 4)), .v (.bool (fb v 64)), .v (.bool (fb v 128)), .v (.bool (fb v 2048)), .v (.bool (fb v 1024))]) := by
  rw [fromw_form]
  try simp only [bitsL_eq]
  all_goals rfl
def fromwS : Nice := fun R args kv => match args with
  | [.v (.int .u32 v)] => bif true then kv (.agg [.v (.bool (fb v 1)), .v (.bool (fb v 4)), .v (.bool (fb v 64)), .v (.bool (fb v 128)), .v (.bool (fb v 2048)), .v (.bool (fb v 1024))]) else none
  | _ => none
theorem fromwS_ok : NiceOk Try.prog ΓRg1 400 21 fromwS := by
  intro R args kv r h
  unfold fromwS at h
  split at h
  · obtain ⟨hg, h⟩ := cond_some h
    exact ⟨_, h, rfl, rfl, fromw_nice _ hg⟩
  · cases h
theorem rword_form (f_0 : Bool) (f_1 : Bool) (f_2 : Bool) (f_3 : Bool) (f_4 : Bool) (f_5 : Bool) :
    evF Try.prog ΓRg1 400 20 [.agg [.v (.bool f_0), .v (.bool f_1), .v (.bool f_2), .v (.bool f_3), .v (.bool f_4), .v (.bool f_5)]] [] (fun x _ => some x) (fun _ _ => none) =
    (bif f_0 then
    bif f_1 then
    bif f_2 then
    bif f_3 then
    bif f_5 then bif f_4 then some (Sv.v (Value.int IntKind.u32 3271)) else some (Sv.v (Value.int IntKind.u32 1223))
    else bif f_4 then some (Sv.v (Value.int IntKind.u32 2247)) else some (Sv.v (Value.int IntKind.u32 199))
    else
    bif f_5 then bif f_4 then some (Sv.v (Value.int IntKind.u32 3143)) else some (Sv.v (Value.int IntKind.u32 1095))
    else bif f_4 then some (Sv.v (Value.int IntKind.u32 2119)) else some (Sv.v (Value.int IntKind.u32 71))
    else
    bif f_3 then
    bif f_5 then bif f_4 then some (Sv.v (Value.int IntKind.u32 3207)) else some (Sv.v (Value.int IntKind.u32 1159))
    else bif f_4 then some (Sv.v (Value.int IntKind.u32 2183)) else some (Sv.v (Value.int IntKind.u32 135))
    else
    bif f_5 then bif f_4 then some (Sv.v (Value.int IntKind.u32 3079)) else some (Sv.v (Value.int IntKind.u32 1031))
    else bif f_4 then some (Sv.v (Value.int IntKind.u32 2055)) else some (Sv.v (Value.int IntKind.u32 7))
    else
    bif f_2 then
    bif f_3 then
    bif f_5 then bif f_4 then some (Sv.v (Value.int IntKind.u32 3267)) else some (Sv.v (Value.int IntKind.u32 1219))
    else bif f_4 then some (Sv.v (Value.int IntKind.u32 2243)) else some (Sv.v (Value.int IntKind.u32 195))
    else
    bif f_5 then bif f_4 then some (Sv.v (Value.int IntKind.u32 3139)) else some (Sv.v (Value.int IntKind.u32 1091))
    else bif f_4 then some (Sv.v (Value.int IntKind.u32 2115)) else some (Sv.v (Value.int IntKind.u32 67))
    else
    bif f_3 then
    bif f_5 then bif f_4 then some (Sv.v (Value.int IntKind.u32 3203)) else some (Sv.v (Value.int IntKind.u32 1155))
    else bif f_4 then some (Sv.v (Value.int IntKind.u32 2179)) else some (Sv.v (Value.int IntKind.u32 131))
    else
    bif f_5 then bif f_4 then some (Sv.v (Value.int IntKind.u32 3075)) else some (Sv.v (Value.int IntKind.u32 1027))
    else bif f_4 then some (Sv.v (Value.int IntKind.u32 2051)) else some (Sv.v (Value.int IntKind.u32 3))
    else
    bif f_1 then
    bif f_2 then
    bif f_3 then
    bif f_5 then bif f_4 then some (Sv.v (Value.int IntKind.u32 3270)) else some (Sv.v (Value.int IntKind.u32 1222))
    else bif f_4 then some (Sv.v (Value.int IntKind.u32 2246)) else some (Sv.v (Value.int IntKind.u32 198))
    else
    bif f_5 then bif f_4 then some (Sv.v (Value.int IntKind.u32 3142)) else some (Sv.v (Value.int IntKind.u32 1094))
    else bif f_4 then some (Sv.v (Value.int IntKind.u32 2118)) else some (Sv.v (Value.int IntKind.u32 70))
    else
    bif f_3 then
    bif f_5 then bif f_4 then some (Sv.v (Value.int IntKind.u32 3206)) else some (Sv.v (Value.int IntKind.u32 1158))
    else bif f_4 then some (Sv.v (Value.int IntKind.u32 2182)) else some (Sv.v (Value.int IntKind.u32 134))
    else
    bif f_5 then bif f_4 then some (Sv.v (Value.int IntKind.u32 3078)) else some (Sv.v (Value.int IntKind.u32 1030))
    else bif f_4 then some (Sv.v (Value.int IntKind.u32 2054)) else some (Sv.v (Value.int IntKind.u32 6))
    else
    bif f_2 then
    bif f_3 then
    bif f_5 then bif f_4 then some (Sv.v (Value.int IntKind.u32 3266)) else some (Sv.v (Value.int IntKind.u32 1218))
    else bif f_4 then some (Sv.v (Value.int IntKind.u32 2242)) else some (Sv.v (Value.int IntKind.u32 194))
    else
    bif f_5 then bif f_4 then some (Sv.v (Value.int IntKind.u32 3138)) else some (Sv.v (Value.int IntKind.u32 1090))
    else bif f_4 then some (Sv.v (Value.int IntKind.u32 2114)) else some (Sv.v (Value.int IntKind.u32 66))
    else
    bif f_3 then
    bif f_5 then bif f_4 then some (Sv.v (Value.int IntKind.u32 3202)) else some (Sv.v (Value.int IntKind.u32 1154))
    else bif f_4 then some (Sv.v (Value.int IntKind.u32 2178)) else some (Sv.v (Value.int IntKind.u32 130))
    else
    bif f_5 then bif f_4 then some (Sv.v (Value.int IntKind.u32 3074)) else some (Sv.v (Value.int IntKind.u32 1026))
    else bif f_4 then some (Sv.v (Value.int IntKind.u32 2050)) else some (Sv.v (Value.int IntKind.u32 2))) := by kernel_rfl
theorem rword_nice (f_0 : Bool) (f_1 : Bool) (f_2 : Bool) (f_3 : Bool) (f_4 : Bool) (f_5 : Bool) (hg : (true) = true) :
    evF Try.prog ΓRg1 400 20 [.agg [.v (.bool f_0), .v (.bool f_1), .v (.bool f_2), .v (.bool f_3), .v (.bool f_4), .v (.bool f_5)]] [] (fun x _ => some x) (fun _ _ => none) = some (.v (.int .u32 (wv f_0 f_1 f_2 f_3 f_4 f_5))) := by
  rw [rword_form]
  try simp only [bitsL_eq]
  cases f_0 <;> cases f_1 <;> cases f_2 <;> cases f_3 <;> cases f_4 <;> cases f_5 <;> rfl
def rwordS : Nice := fun R args kv => match args with
  | [.agg [.v (.bool f_0), .v (.bool f_1), .v (.bool f_2), .v (.bool f_3), .v (.bool f_4), .v (.bool f_5)]] => bif true then kv (.v (.int .u32 (wv f_0 f_1 f_2 f_3 f_4 f_5))) else none
  | _ => none
theorem rwordS_ok : NiceOk Try.prog ΓRg1 400 20 rwordS := by
  intro R args kv r h
  unfold rwordS at h
  split at h
  · obtain ⟨hg, h⟩ := cond_some h
    exact ⟨_, h, rfl, rfl, rword_nice _ _ _ _ _ _ hg⟩
  · cases h
theorem rfromw_form (v : Int) :
    evF Try.prog ΓRg1 400 22 [.v (.int .u32 v)] [] (fun x _ => some x) (fun _ _ => none) =
    (some
    (Sv.agg
    [Sv.v (Value.bool (bitsL BinOp.and IntKind.u32 (Int.fdiv v 1) 1 == 1)),
    Sv.v (Value.bool (bitsL BinOp.and IntKind.u32 (Int.fdiv v 4) 1 == 1)),
    Sv.v (Value.bool (bitsL BinOp.and IntKind.u32 (Int.fdiv v 64) 1 == 1)),
    Sv.v (Value.bool (bitsL BinOp.and IntKind.u32 (Int.fdiv v 128) 1 == 1)),
    Sv.v (Value.bool (bitsL BinOp.and IntKind.u32 (Int.fdiv v 2048) 1 == 1)),
    Sv.v (Value.bool (bitsL BinOp.and IntKind.u32 (Int.fdiv v 1024) 1 == 1))])) := by kernel_rfl
theorem rfromw_nice (v : Int) (hg : (true) = true) :
    evF Try.prog ΓRg1 400 22 [.v (.int .u32 v)] [] (fun x _ => some x) (fun _ _ => none) = some (.agg [.v (.bool (fb v 1)), .v (.bool (fb v 4)), .v (.bool (fb v 64)), .v (.bool (fb v 128)), .v (.bool (fb v 2048)), .v (.bool (fb v 1024))]) := by
  rw [rfromw_form]
  try simp only [bitsL_eq]
  all_goals rfl
def rfromwS : Nice := fun R args kv => match args with
  | [.v (.int .u32 v)] => bif true then kv (.agg [.v (.bool (fb v 1)), .v (.bool (fb v 4)), .v (.bool (fb v 64)), .v (.bool (fb v 128)), .v (.bool (fb v 2048)), .v (.bool (fb v 1024))]) else none
  | _ => none
theorem rfromwS_ok : NiceOk Try.prog ΓRg1 400 22 rfromwS := by
  intro R args kv r h
  unfold rfromwS at h
  split at h
  · obtain ⟨hg, h⟩ := cond_some h
    exact ⟨_, h, rfl, rfl, rfromw_nice _ hg⟩
  · cases h
def ΓRg2 : Env := ((((ΓRg1.add 19 (pureSpec wordS)).add 21 (pureSpec fromwS)).add 20 (pureSpec rwordS)).add 22 (pureSpec rfromwS))
theorem ΓRg2_ok : EnvOk Try.prog X0 ΓRg2 := ((((ΓRg1_ok.add (by kernel_rfl) (specOk_of_nice ΓRg1_ok wordS_ok)).add (by kernel_rfl) (specOk_of_nice ΓRg1_ok fromwS_ok)).add (by kernel_rfl) (specOk_of_nice ΓRg1_ok rwordS_ok)).add (by kernel_rfl) (specOk_of_nice ΓRg1_ok rfromwS_ok))
end Go.Proofs.Ytmmapogcackbbaa
