/- Contracts: doubles: how they stand. -/
import Derived.Test.YtpgdpoloipifeaaEvV
import Derived.Test.YtpgdpoloipifeaaCFl1
namespace Go.Proofs.Ytpgdpoloipifeaa
open Go Go.Ev
set_option linter.unusedVariables false
set_option linter.unusedSimpArgs false
set_option maxRecDepth 100000
theorem quiet_form (a : Int) :
    evF Try.prog ΓF1 400 110 [.v (.int .u64 a)] [] (fun x _ => some x) (fun _ _ => none) =
    (bif in64 a then
    bif nanI a then some (vd ((bitsL BinOp.or IntKind.u64 a 2251799813685248)))
    else some (vd a)
    else none) := by kernel_rfl
theorem quiet_nice (a : Int) (hg : (in64 a) = true) :
    evF Try.prog ΓF1 400 110 [.v (.int .u64 a)] [] (fun x _ => some x) (fun _ _ => none) = some (.v (.int .u64 (quV a))) := by
  rw [quiet_form]
  try simp only [bitsL_eq]
  simp only [in64_iff] at hg
  obtain ⟨ha, ha'⟩ := hg
  have g := in64_iff.2 ⟨ha, ha'⟩
  simp only [g, cond_true]
  unfold quV qI
  cases nanI a <;> rfl
def quietS : Nice := fun R args kv => match args with
  | [.v (.int .u64 a)] => bif in64 a then kv (.v (.int .u64 (quV a))) else none
  | _ => none
theorem quietS_ok : NiceOk Try.prog ΓF1 400 110 quietS := by
  intro R args kv r h
  unfold quietS at h
  split at h
  · obtain ⟨hg, h⟩ := cond_some h
    exact ⟨_, h, rfl, rfl, quiet_nice _ hg⟩
  · cases h
theorem rquiet_form (a : Int) :
    evF Try.prog ΓF1 400 120 [.v (.int .u64 a)] [] (fun x _ => some x) (fun _ _ => none) =
    (bif in64 a then
    bif nanI a then some (vd ((bitsL BinOp.or IntKind.u64 a 2251799813685248)))
    else some (vd a)
    else none) := by kernel_rfl
theorem rquiet_nice (a : Int) (hg : (in64 a) = true) :
    evF Try.prog ΓF1 400 120 [.v (.int .u64 a)] [] (fun x _ => some x) (fun _ _ => none) = some (.v (.int .u64 (quV a))) := by
  rw [rquiet_form]
  try simp only [bitsL_eq]
  simp only [in64_iff] at hg
  obtain ⟨ha, ha'⟩ := hg
  have g := in64_iff.2 ⟨ha, ha'⟩
  simp only [g, cond_true]
  unfold quV qI
  cases nanI a <;> rfl
def rquietS : Nice := fun R args kv => match args with
  | [.v (.int .u64 a)] => bif in64 a then kv (.v (.int .u64 (quV a))) else none
  | _ => none
theorem rquietS_ok : NiceOk Try.prog ΓF1 400 120 rquietS := by
  intro R args kv r h
  unfold rquietS at h
  split at h
  · obtain ⟨hg, h⟩ := cond_some h
    exact ⟨_, h, rfl, rfl, rquiet_nice _ hg⟩
  · cases h
theorem compare_form (a : Int) (b : Int) :
    evF Try.prog ΓF1 400 66 [.v (.int .u64 a), .v (.int .u64 b)] [] (fun x _ => some x) (fun _ _ => none) =
    (bif fgt (Int.toNat a) (Int.toNat b) then
    some
    (Sv.agg
    [vb false, vb false, vb false, vb false,
    vb false, vb false])
    else
    bif flt (Int.toNat a) (Int.toNat b) then
    some
    (Sv.agg
    [vb true, vb false, vb false, vb false,
    vb false, vb false])
    else
    bif feq (Int.toNat a) (Int.toNat b) then
    some
    (Sv.agg
    [vb false, vb false, vb true, vb false,
    vb false, vb false])
    else
    some
    (Sv.agg
    [vb true, vb true, vb true, vb false,
    vb false, vb false])) := by kernel_rfl
theorem compare_nice (a : Int) (b : Int) (hg : (in64 a && (in64 b)) = true) :
    evF Try.prog ΓF1 400 66 [.v (.int .u64 a), .v (.int .u64 b)] [] (fun x _ => some x) (fun _ _ => none) = some (.agg [.v (.bool (cC a b)), .v (.bool (cP a b)), .v (.bool (cZ a b)), .v (.bool false), .v (.bool false), .v (.bool false)]) := by
  rw [compare_form]
  try simp only [bitsL_eq]
  simp only [Bool.and_eq_true, in64_iff] at hg
  obtain ⟨⟨ha, ha'⟩, hb, hb'⟩ := hg
  have ga := in64_iff.2 ⟨ha, ha'⟩
  have gb := in64_iff.2 ⟨hb, hb'⟩
  try simp only [ga, gb, cond_true]
  unfold cC cZ cP
  cases hna : nanI a
  · cases hnb : nanI b
    · rcases cmp_num ha hb hna hnb with ⟨h1, h2, h3⟩ | ⟨h1, h2, h3⟩ | ⟨h1, h2, h3⟩ <;> simp [h1, h2, h3]
    · obtain ⟨h1, h2, h3⟩ := nan_cmp ha hb (.inr hnb); simp [h1, h2, h3]
  · obtain ⟨h1, h2, h3⟩ := nan_cmp ha hb (.inl hna); simp [h1, h2, h3]
def compareS : Nice := fun R args kv => match args with
  | [.v (.int .u64 a), .v (.int .u64 b)] => bif in64 a && (in64 b) then kv (.agg [.v (.bool (cC a b)), .v (.bool (cP a b)), .v (.bool (cZ a b)), .v (.bool false), .v (.bool false), .v (.bool false)]) else none
  | _ => none
theorem compareS_ok : NiceOk Try.prog ΓF1 400 66 compareS := by
  intro R args kv r h
  unfold compareS at h
  split at h
  · obtain ⟨hg, h⟩ := cond_some h
    exact ⟨_, h, rfl, rfl, compare_nice _ _ hg⟩
  · cases h
theorem rcompare_form (a : Int) (b : Int) :
    evF Try.prog ΓF1 400 77 [.v (.int .u64 a), .v (.int .u64 b)] [] (fun x _ => some x) (fun _ _ => none) =
    (bif in64 a then
    bif nanI a then
    some
    (Sv.agg
    [vb true, vb true, vb true, vb false,
    vb false, vb false])
    else
    bif in64 b then
    bif nanI b then
    some
    (Sv.agg
    [vb true, vb true, vb true, vb false,
    vb false, vb false])
    else
    bif flt (Int.toNat a) (Int.toNat b) then
    some
    (Sv.agg
    [vb true, vb false, vb false, vb false,
    vb false, vb false])
    else
    bif feq (Int.toNat a) (Int.toNat b) then
    some
    (Sv.agg
    [vb false, vb false, vb true, vb false,
    vb false, vb false])
    else
    some
    (Sv.agg
    [vb false, vb false, vb false, vb false,
    vb false, vb false])
    else none
    else none) := by kernel_rfl
theorem rcompare_nice (a : Int) (b : Int) (hg : (in64 a && (in64 b)) = true) :
    evF Try.prog ΓF1 400 77 [.v (.int .u64 a), .v (.int .u64 b)] [] (fun x _ => some x) (fun _ _ => none) = some (.agg [.v (.bool (cC a b)), .v (.bool (cP a b)), .v (.bool (cZ a b)), .v (.bool false), .v (.bool false), .v (.bool false)]) := by
  rw [rcompare_form]
  try simp only [bitsL_eq]
  simp only [Bool.and_eq_true, in64_iff] at hg
  obtain ⟨⟨ha, ha'⟩, hb, hb'⟩ := hg
  have ga := in64_iff.2 ⟨ha, ha'⟩
  have gb := in64_iff.2 ⟨hb, hb'⟩
  try simp only [ga, gb, cond_true]
  unfold cC cZ cP
  cases hna : nanI a
  · cases hnb : nanI b
    · rcases cmp_num ha hb hna hnb with ⟨h1, h2, h3⟩ | ⟨h1, h2, h3⟩ | ⟨h1, h2, h3⟩ <;> simp [h1, h2, h3]
    · obtain ⟨h1, h2, h3⟩ := nan_cmp ha hb (.inr hnb); simp [h1, h2, h3]
  · obtain ⟨h1, h2, h3⟩ := nan_cmp ha hb (.inl hna); simp [h1, h2, h3]
def rcompareS : Nice := fun R args kv => match args with
  | [.v (.int .u64 a), .v (.int .u64 b)] => bif in64 a && (in64 b) then kv (.agg [.v (.bool (cC a b)), .v (.bool (cP a b)), .v (.bool (cZ a b)), .v (.bool false), .v (.bool false), .v (.bool false)]) else none
  | _ => none
theorem rcompareS_ok : NiceOk Try.prog ΓF1 400 77 rcompareS := by
  intro R args kv r h
  unfold rcompareS at h
  split at h
  · obtain ⟨hg, h⟩ := cond_some h
    exact ⟨_, h, rfl, rfl, rcompare_nice _ _ hg⟩
  · cases h
theorem rzero_form (a : Int) :
    evF Try.prog ΓF1 400 119 [.v (.int .u64 a)] [] (fun x _ => some x) (fun _ _ => none) =
    (some (vb ((IntKind.wrap IntKind.u64 (a * 2) == 0)))) := by kernel_rfl
theorem rzero_nice (a : Int) (hg : (in64 a) = true) :
    evF Try.prog ΓF1 400 119 [.v (.int .u64 a)] [] (fun x _ => some x) (fun _ _ => none) = some (.v (.bool (IntKind.wrap .u64 (a * 2) == 0))) := by
  rw [rzero_form]
  try simp only [bitsL_eq]
  try rfl
def rzeroS : Nice := fun R args kv => match args with
  | [.v (.int .u64 a)] => bif in64 a then kv (.v (.bool (IntKind.wrap .u64 (a * 2) == 0))) else none
  | _ => none
theorem rzeroS_ok : NiceOk Try.prog ΓF1 400 119 rzeroS := by
  intro R args kv r h
  unfold rzeroS at h
  split at h
  · obtain ⟨hg, h⟩ := cond_some h
    exact ⟨_, h, rfl, rfl, rzero_nice _ hg⟩
  · cases h
def ΓF2 : Env := (((((ΓF1.add 110 (pureSpec quietS)).add 120 (pureSpec rquietS)).add 66 (pureSpec compareS)).add 77 (pureSpec rcompareS)).add 119 (pureSpec rzeroS))
theorem ΓF2_ok : EnvOk Try.prog X0 ΓF2 := (((((ΓF1_ok.add (by kernel_rfl) (specOk_of_nice ΓF1_ok quietS_ok)).add (by kernel_rfl) (specOk_of_nice ΓF1_ok rquietS_ok)).add (by kernel_rfl) (specOk_of_nice ΓF1_ok compareS_ok)).add (by kernel_rfl) (specOk_of_nice ΓF1_ok rcompareS_ok)).add (by kernel_rfl) (specOk_of_nice ΓF1_ok rzeroS_ok))
end Go.Proofs.Ytpgdpoloipifeaa
