/- Contracts: doubles: what is none. -/
import Derived.Test.YtpgdpoloipifeaaEvV
import Derived.Test.YtpgdpoloipifeaaFEnv
import Derived.Test.YtpgdpoloipifeaaNFlt4
namespace Go.Proofs.Ytpgdpoloipifeaa
open Go Go.Ev
set_option linter.unusedVariables false
set_option linter.unusedSimpArgs false
set_option maxRecDepth 100000
theorem isNaN_form (a : Int) :
    evF Try.prog ΓF 400 109 [.v (.int .u64 a)] [] (fun x _ => some x) (fun _ _ => none) =
    (some (vb ((decide (bitsL BinOp.andNot IntKind.u64 a 9223372036854775808 > 9218868437227405312))))) := by kernel_rfl
theorem isNaN_nice (a : Int) (hg : (in64 a) = true) :
    evF Try.prog ΓF 400 109 [.v (.int .u64 a)] [] (fun x _ => some x) (fun _ _ => none) = some (.v (.bool (nanI a))) := by
  rw [isNaN_form]
  try simp only [bitsL_eq]
  simp only [in64_iff] at hg
  obtain ⟨ha, ha'⟩ := hg
  rw [nan_parts ha ha']
def isNaNS : Nice := fun R args kv => match args with
  | [.v (.int .u64 a)] => bif in64 a then kv (.v (.bool (nanI a))) else none
  | _ => none
theorem isNaNS_ok : NiceOk Try.prog ΓF 400 109 isNaNS := by
  intro R args kv r h
  unfold isNaNS at h
  split at h
  · obtain ⟨hg, h⟩ := cond_some h
    exact ⟨_, h, rfl, rfl, isNaN_nice _ hg⟩
  · cases h
theorem risNaN_form (a : Int) :
    evF Try.prog ΓF 400 118 [.v (.int .u64 a)] [] (fun x _ => some x) (fun _ _ => none) =
    (bif bitsL BinOp.and IntKind.u64 (Int.fdiv a 4503599627370496) 2047 == 2047 then
    some (vb ((bitsL BinOp.and IntKind.u64 a 4503599627370495 != 0)))
    else some (vb false)) := by kernel_rfl
theorem risNaN_nice (a : Int) (hg : (in64 a) = true) :
    evF Try.prog ΓF 400 118 [.v (.int .u64 a)] [] (fun x _ => some x) (fun _ _ => none) = some (.v (.bool (nanI a))) := by
  rw [risNaN_form]
  try simp only [bitsL_eq]
  simp only [in64_iff] at hg
  obtain ⟨ha, ha'⟩ := hg
  have h := nan_parts2 ha ha' true false
  have e : ∀ c d : Bool, (bif c then some (vb d) else some (vb false)) = some (vb ((bif c then (bif d then true else false) else false))) := fun c d => by cases c <;> cases d <;> rfl
  rw [e, h]
  cases nanI a <;> rfl
def risNaNS : Nice := fun R args kv => match args with
  | [.v (.int .u64 a)] => bif in64 a then kv (.v (.bool (nanI a))) else none
  | _ => none
theorem risNaNS_ok : NiceOk Try.prog ΓF 400 118 risNaNS := by
  intro R args kv r h
  unfold risNaNS at h
  split at h
  · obtain ⟨hg, h⟩ := cond_some h
    exact ⟨_, h, rfl, rfl, risNaN_nice _ hg⟩
  · cases h
theorem fromInt_form (a : Int) :
    evF Try.prog ΓF 400 67 [.v (.int .u32 a)] [] (fun x _ => some x) (fun _ _ => none) =
    (some (vd (↑(fnear (IntKind.wrap IntKind.i32 a))))) := by kernel_rfl
theorem fromInt_nice (a : Int) (hg : (in32 a) = true) :
    evF Try.prog ΓF 400 67 [.v (.int .u32 a)] [] (fun x _ => some x) (fun _ _ => none) = some (.v (.int .u64 (fromV a))) := by
  rw [fromInt_form]
  try simp only [bitsL_eq]
  rw [in32_iff] at hg
  rw [wr_i32_s hg.1 hg.2, fromV_eq]
def fromIntS : Nice := fun R args kv => match args with
  | [.v (.int .u32 a)] => bif in32 a then kv (.v (.int .u64 (fromV a))) else none
  | _ => none
theorem fromIntS_ok : NiceOk Try.prog ΓF 400 67 fromIntS := by
  intro R args kv r h
  unfold fromIntS at h
  split at h
  · obtain ⟨hg, h⟩ := cond_some h
    exact ⟨_, h, rfl, rfl, fromInt_nice _ hg⟩
  · cases h
theorem rfromInt_form (a : Int) :
    evF Try.prog ΓF 400 75 [.v (.int .u32 a)] [] (fun x _ => some x) (fun _ _ => none) =
    (some (vd (↑(fnear (IntKind.wrap IntKind.i32 a))))) := by kernel_rfl
theorem rfromInt_nice (a : Int) (hg : (in32 a) = true) :
    evF Try.prog ΓF 400 75 [.v (.int .u32 a)] [] (fun x _ => some x) (fun _ _ => none) = some (.v (.int .u64 (fromV a))) := by
  rw [rfromInt_form]
  try simp only [bitsL_eq]
  rw [in32_iff] at hg
  rw [wr_i32_s hg.1 hg.2, fromV_eq]
def rfromIntS : Nice := fun R args kv => match args with
  | [.v (.int .u32 a)] => bif in32 a then kv (.v (.int .u64 (fromV a))) else none
  | _ => none
theorem rfromIntS_ok : NiceOk Try.prog ΓF 400 75 rfromIntS := by
  intro R args kv r h
  unfold rfromIntS at h
  split at h
  · obtain ⟨hg, h⟩ := cond_some h
    exact ⟨_, h, rfl, rfl, rfromInt_nice _ hg⟩
  · cases h
def ΓF1 : Env := ((((ΓF.add 109 (pureSpec isNaNS)).add 118 (pureSpec risNaNS)).add 67 (pureSpec fromIntS)).add 75 (pureSpec rfromIntS))
theorem ΓF1_ok : EnvOk Try.prog X0 ΓF1 := ((((ΓF_ok.add (by kernel_rfl) (specOk_of_nice ΓF_ok isNaNS_ok)).add (by kernel_rfl) (specOk_of_nice ΓF_ok risNaNS_ok)).add (by kernel_rfl) (specOk_of_nice ΓF_ok fromIntS_ok)).add (by kernel_rfl) (specOk_of_nice ΓF_ok rfromIntS_ok))
end Go.Proofs.Ytpgdpoloipifeaa
namespace Go.Proofs.Ytpgdpoloipifeaa
open Go Go.Ev
set_option linter.unusedVariables false
set_option linter.unusedSimpArgs false
set_option maxRecDepth 100000
theorem quiet_form (a : Int) :
    evF Try.prog ΓF1 400 110 [.v (.int .u64 a)] [] (fun x _ => some x) (fun _ _ => none) =
    (bif in64 a then
    bif nanI a then some (vd ((bitsL BinOp.or IntKind.u64 a 2251799813685248)))
    else some (vd a)
    else none) := by kernel_rfl
theorem quiet_nice (a : Int) (hg : (in64 a) = true) :
    evF Try.prog ΓF1 400 110 [.v (.int .u64 a)] [] (fun x _ => some x) (fun _ _ => none) = some (.v (.int .u64 (quV a))) := by
  rw [quiet_form]
  try simp only [bitsL_eq]
  simp only [in64_iff] at hg
  obtain ⟨ha, ha'⟩ := hg
  have g := in64_iff.2 ⟨ha, ha'⟩
  simp only [g, cond_true]
  unfold quV qI
  cases nanI a <;> rfl
def quietS : Nice := fun R args kv => match args with
  | [.v (.int .u64 a)] => bif in64 a then kv (.v (.int .u64 (quV a))) else none
  | _ => none
theorem quietS_ok : NiceOk Try.prog ΓF1 400 110 quietS := by
  intro R args kv r h
  unfold quietS at h
  split at h
  · obtain ⟨hg, h⟩ := cond_some h
    exact ⟨_, h, rfl, rfl, quiet_nice _ hg⟩
  · cases h
theorem rquiet_form (a : Int) :
    evF Try.prog ΓF1 400 120 [.v (.int .u64 a)] [] (fun x _ => some x) (fun _ _ => none) =
    (bif in64 a then
    bif nanI a then some (vd ((bitsL BinOp.or IntKind.u64 a 2251799813685248)))
    else some (vd a)
    else none) := by kernel_rfl
theorem rquiet_nice (a : Int) (hg : (in64 a) = true) :
    evF Try.prog ΓF1 400 120 [.v (.int .u64 a)] [] (fun x _ => some x) (fun _ _ => none) = some (.v (.int .u64 (quV a))) := by
  rw [rquiet_form]
  try simp only [bitsL_eq]
  simp only [in64_iff] at hg
  obtain ⟨ha, ha'⟩ := hg
  have g := in64_iff.2 ⟨ha, ha'⟩
  simp only [g, cond_true]
  unfold quV qI
  cases nanI a <;> rfl
def rquietS : Nice := fun R args kv => match args with
  | [.v (.int .u64 a)] => bif in64 a then kv (.v (.int .u64 (quV a))) else none
  | _ => none
theorem rquietS_ok : NiceOk Try.prog ΓF1 400 120 rquietS := by
  intro R args kv r h
  unfold rquietS at h
  split at h
  · obtain ⟨hg, h⟩ := cond_some h
    exact ⟨_, h, rfl, rfl, rquiet_nice _ hg⟩
  · cases h
theorem compare_form (a : Int) (b : Int) :
    evF Try.prog ΓF1 400 66 [.v (.int .u64 a), .v (.int .u64 b)] [] (fun x _ => some x) (fun _ _ => none) =
    (bif fgt (Int.toNat a) (Int.toNat b) then
    some
    (Sv.agg
    [vb false, vb false, vb false, vb false,
    vb false, vb false])
    else
    bif flt (Int.toNat a) (Int.toNat b) then
    some
    (Sv.agg
    [vb true, vb false, vb false, vb false,
    vb false, vb false])
    else
    bif feq (Int.toNat a) (Int.toNat b) then
    some
    (Sv.agg
    [vb false, vb false, vb true, vb false,
    vb false, vb false])
    else
    some
    (Sv.agg
    [vb true, vb true, vb true, vb false,
    vb false, vb false])) := by kernel_rfl
theorem compare_nice (a : Int) (b : Int) (hg : (in64 a && (in64 b)) = true) :
    evF Try.prog ΓF1 400 66 [.v (.int .u64 a), .v (.int .u64 b)] [] (fun x _ => some x) (fun _ _ => none) = some (.agg [.v (.bool (cC a b)), .v (.bool (cP a b)), .v (.bool (cZ a b)), .v (.bool false), .v (.bool false), .v (.bool false)]) := by
  rw [compare_form]
  try simp only [bitsL_eq]
  simp only [Bool.and_eq_true, in64_iff] at hg
  obtain ⟨⟨ha, ha'⟩, hb, hb'⟩ := hg
  have ga := in64_iff.2 ⟨ha, ha'⟩
  have gb := in64_iff.2 ⟨hb, hb'⟩
  try simp only [ga, gb, cond_true]
  unfold cC cZ cP
  cases hna : nanI a
  · cases hnb : nanI b
    · rcases cmp_num ha hb hna hnb with ⟨h1, h2, h3⟩ | ⟨h1, h2, h3⟩ | ⟨h1, h2, h3⟩ <;> simp [h1, h2, h3]
    · obtain ⟨h1, h2, h3⟩ := nan_cmp ha hb (.inr hnb); simp [h1, h2, h3]
  · obtain ⟨h1, h2, h3⟩ := nan_cmp ha hb (.inl hna); simp [h1, h2, h3]
def compareS : Nice := fun R args kv => match args with
  | [.v (.int .u64 a), .v (.int .u64 b)] => bif in64 a && (in64 b) then kv (.agg [.v (.bool (cC a b)), .v (.bool (cP a b)), .v (.bool (cZ a b)), .v (.bool false), .v (.bool false), .v (.bool false)]) else none
  | _ => none
theorem compareS_ok : NiceOk Try.prog ΓF1 400 66 compareS := by
  intro R args kv r h
  unfold compareS at h
  split at h
  · obtain ⟨hg, h⟩ := cond_some h
    exact ⟨_, h, rfl, rfl, compare_nice _ _ hg⟩
  · cases h
theorem rcompare_form (a : Int) (b : Int) :
    evF Try.prog ΓF1 400 77 [.v (.int .u64 a), .v (.int .u64 b)] [] (fun x _ => some x) (fun _ _ => none) =
    (bif in64 a then
    bif nanI a then
    some
    (Sv.agg
    [vb true, vb true, vb true, vb false,
    vb false, vb false])
    else
    bif in64 b then
    bif nanI b then
    some
    (Sv.agg
    [vb true, vb true, vb true, vb false,
    vb false, vb false])
    else
    bif flt (Int.toNat a) (Int.toNat b) then
    some
    (Sv.agg
    [vb true, vb false, vb false, vb false,
    vb false, vb false])
    else
    bif feq (Int.toNat a) (Int.toNat b) then
    some
    (Sv.agg
    [vb false, vb false, vb true, vb false,
    vb false, vb false])
    else
    some
    (Sv.agg
    [vb false, vb false, vb false, vb false,
    vb false, vb false])
    else none
    else none) := by kernel_rfl
theorem rcompare_nice (a : Int) (b : Int) (hg : (in64 a && (in64 b)) = true) :
    evF Try.prog ΓF1 400 77 [.v (.int .u64 a), .v (.int .u64 b)] [] (fun x _ => some x) (fun _ _ => none) = some (.agg [.v (.bool (cC a b)), .v (.bool (cP a b)), .v (.bool (cZ a b)), .v (.bool false), .v (.bool false), .v (.bool false)]) := by
  rw [rcompare_form]
  try simp only [bitsL_eq]
  simp only [Bool.and_eq_true, in64_iff] at hg
  obtain ⟨⟨ha, ha'⟩, hb, hb'⟩ := hg
  have ga := in64_iff.2 ⟨ha, ha'⟩
  have gb := in64_iff.2 ⟨hb, hb'⟩
  try simp only [ga, gb, cond_true]
  unfold cC cZ cP
  cases hna : nanI a
  · cases hnb : nanI b
    · rcases cmp_num ha hb hna hnb with ⟨h1, h2, h3⟩ | ⟨h1, h2, h3⟩ | ⟨h1, h2, h3⟩ <;> simp [h1, h2, h3]
    · obtain ⟨h1, h2, h3⟩ := nan_cmp ha hb (.inr hnb); simp [h1, h2, h3]
  · obtain ⟨h1, h2, h3⟩ := nan_cmp ha hb (.inl hna); simp [h1, h2, h3]
def rcompareS : Nice := fun R args kv => match args with
  | [.v (.int .u64 a), .v (.int .u64 b)] => bif in64 a && (in64 b) then kv (.agg [.v (.bool (cC a b)), .v (.bool (cP a b)), .v (.bool (cZ a b)), .v (.bool false), .v (.bool false), .v (.bool false)]) else none
  | _ => none
theorem rcompareS_ok : NiceOk Try.prog ΓF1 400 77 rcompareS := by
  intro R args kv r h
  unfold rcompareS at h
  split at h
  · obtain ⟨hg, h⟩ := cond_some h
    exact ⟨_, h, rfl, rfl, rcompare_nice _ _ hg⟩
  · cases h
theorem rzero_form (a : Int) :
    evF Try.prog ΓF1 400 119 [.v (.int .u64 a)] [] (fun x _ => some x) (fun _ _ => none) =
    (some (vb ((IntKind.wrap IntKind.u64 (a * 2) == 0)))) := by kernel_rfl
theorem rzero_nice (a : Int) (hg : (in64 a) = true) :
    evF Try.prog ΓF1 400 119 [.v (.int .u64 a)] [] (fun x _ => some x) (fun _ _ => none) = some (.v (.bool (IntKind.wrap .u64 (a * 2) == 0))) := by
  rw [rzero_form]
  try simp only [bitsL_eq]
  try rfl
def rzeroS : Nice := fun R args kv => match args with
  | [.v (.int .u64 a)] => bif in64 a then kv (.v (.bool (IntKind.wrap .u64 (a * 2) == 0))) else none
  | _ => none
theorem rzeroS_ok : NiceOk Try.prog ΓF1 400 119 rzeroS := by
  intro R args kv r h
  unfold rzeroS at h
  split at h
  · obtain ⟨hg, h⟩ := cond_some h
    exact ⟨_, h, rfl, rfl, rzero_nice _ hg⟩
  · cases h
def ΓF2 : Env := (((((ΓF1.add 110 (pureSpec quietS)).add 120 (pureSpec rquietS)).add 66 (pureSpec compareS)).add 77 (pureSpec rcompareS)).add 119 (pureSpec rzeroS))
theorem ΓF2_ok : EnvOk Try.prog X0 ΓF2 := (((((ΓF1_ok.add (by kernel_rfl) (specOk_of_nice ΓF1_ok quietS_ok)).add (by kernel_rfl) (specOk_of_nice ΓF1_ok rquietS_ok)).add (by kernel_rfl) (specOk_of_nice ΓF1_ok compareS_ok)).add (by kernel_rfl) (specOk_of_nice ΓF1_ok rcompareS_ok)).add (by kernel_rfl) (specOk_of_nice ΓF1_ok rzeroS_ok))
end Go.Proofs.Ytpgdpoloipifeaa
namespace Go.Proofs.Ytpgdpoloipifeaa
open Go Go.Ev
set_option linter.unusedVariables false
set_option linter.unusedSimpArgs false
set_option maxRecDepth 100000
theorem do__form (op a b : Int) :
    evF Try.prog ΓF2 400 69 [.v (.int .i64 op), .v (.int .u64 a), .v (.int .u64 b)] [] (fun x _ => some x) (fun _ _ => none) =
    (bif op == 51 then some (vd b)
 else
 bif op == 55 then
 bif op == 55 then
 bif op == 55 then
 bif flt (Int.toNat a) (Int.toNat b) then some (vd a)
 else
 bif op == 57 then
 bif fgt (Int.toNat a) (Int.toNat b) then some (vd a)
 else some (vd b)
 else some (vd b)
 else
 bif op == 57 then
 bif fgt (Int.toNat a) (Int.toNat b) then some (vd a)
 else some (vd b)
 else some (vd b)
 else
 bif op == 58 then
 bif in64 b then
 bif nanI b then bif in64 b then some (vd ((quV b))) else none
 else
 bif fsqok (Int.toNat b) then
 bif !feq (fsqrt (Int.toNat b)) (fsqrt (Int.toNat b)) then some (vd 18444492273895866368)
 else some (vd (↑(fsqrt (Int.toNat b))))
 else some (vd 18444492273895866368)
 else none
 else
 bif op == 52 then
 bif op == 52 then
 bif in64 a then
 bif nanI a then bif in64 a then some (vd ((quV a))) else none
 else
 bif in64 b then
 bif nanI b then bif in64 b then some (vd ((quV b))) else none
 else
 bif op == 52 then
 bif fok BinOp.add (Int.toNat a) (Int.toNat b) then
 bif !feq (fval BinOp.add (Int.toNat a) (Int.toNat b)) (fval BinOp.add (Int.toNat a) (Int.toNat b)) then
 some (vd 18444492273895866368)
 else some (vd (↑(fval BinOp.add (Int.toNat a) (Int.toNat b))))
 else some (vd 18444492273895866368)
 else
 bif op == 54 then
 bif fok BinOp.sub (Int.toNat a) (Int.toNat b) then
 bif !feq (fval BinOp.sub (Int.toNat a) (Int.toNat b)) (fval BinOp.sub (Int.toNat a) (Int.toNat b)) then
 some (vd 18444492273895866368)
 else some (vd (↑(fval BinOp.sub (Int.toNat a) (Int.toNat b))))
 else some (vd 18444492273895866368)
 else
 bif op == 53 then
 bif fok BinOp.mul (Int.toNat a) (Int.toNat b) then
 bif !feq (fval BinOp.mul (Int.toNat a) (Int.toNat b)) (fval BinOp.mul (Int.toNat a) (Int.toNat b)) then
 some (vd 18444492273895866368)
 else some (vd (↑(fval BinOp.mul (Int.toNat a) (Int.toNat b))))
 else some (vd 18444492273895866368)
 else
 bif fok BinOp.quo (Int.toNat a) (Int.toNat b) then
 bif !feq (fval BinOp.quo (Int.toNat a) (Int.toNat b)) (fval BinOp.quo (Int.toNat a) (Int.toNat b)) then
 some (vd 18444492273895866368)
 else some (vd (↑(fval BinOp.quo (Int.toNat a) (Int.toNat b))))
 else some (vd 18444492273895866368)
 else none
 else none
 else some (vd a)
 else
 bif op == 54 then
 bif op == 54 then
 bif in64 a then
 bif nanI a then bif in64 a then some (vd ((quV a))) else none
 else
 bif in64 b then
 bif nanI b then bif in64 b then some (vd ((quV b))) else none
 else
 bif op == 52 then
 bif fok BinOp.add (Int.toNat a) (Int.toNat b) then
 bif !feq (fval BinOp.add (Int.toNat a) (Int.toNat b)) (fval BinOp.add (Int.toNat a) (Int.toNat b)) then
 some (vd 18444492273895866368)
 else some (vd (↑(fval BinOp.add (Int.toNat a) (Int.toNat b))))
 else some (vd 18444492273895866368)
 else
 bif op == 54 then
 bif fok BinOp.sub (Int.toNat a) (Int.toNat b) then
 bif !feq (fval BinOp.sub (Int.toNat a) (Int.toNat b)) (fval BinOp.sub (Int.toNat a) (Int.toNat b)) then
 some (vd 18444492273895866368)
 else some (vd (↑(fval BinOp.sub (Int.toNat a) (Int.toNat b))))
 else some (vd 18444492273895866368)
 else
 bif op == 53 then
 bif fok BinOp.mul (Int.toNat a) (Int.toNat b) then
 bif !feq (fval BinOp.mul (Int.toNat a) (Int.toNat b)) (fval BinOp.mul (Int.toNat a) (Int.toNat b)) then
 some (vd 18444492273895866368)
 else some (vd (↑(fval BinOp.mul (Int.toNat a) (Int.toNat b))))
 else some (vd 18444492273895866368)
 else
 bif fok BinOp.quo (Int.toNat a) (Int.toNat b) then
 bif !feq (fval BinOp.quo (Int.toNat a) (Int.toNat b)) (fval BinOp.quo (Int.toNat a) (Int.toNat b)) then
 some (vd 18444492273895866368)
 else some (vd (↑(fval BinOp.quo (Int.toNat a) (Int.toNat b))))
 else some (vd 18444492273895866368)
 else none
 else none
 else some (vd a)
 else
 bif op == 53 then
 bif op == 53 then
 bif in64 a then
 bif nanI a then bif in64 a then some (vd ((quV a))) else none
 else
 bif in64 b then
 bif nanI b then bif in64 b then some (vd ((quV b))) else none
 else
 bif op == 52 then
 bif fok BinOp.add (Int.toNat a) (Int.toNat b) then
 bif !feq (fval BinOp.add (Int.toNat a) (Int.toNat b)) (fval BinOp.add (Int.toNat a) (Int.toNat b)) then
 some (vd 18444492273895866368)
 else some (vd (↑(fval BinOp.add (Int.toNat a) (Int.toNat b))))
 else some (vd 18444492273895866368)
 else
 bif op == 54 then
 bif fok BinOp.sub (Int.toNat a) (Int.toNat b) then
 bif !feq (fval BinOp.sub (Int.toNat a) (Int.toNat b)) (fval BinOp.sub (Int.toNat a) (Int.toNat b)) then
 some (vd 18444492273895866368)
 else some (vd (↑(fval BinOp.sub (Int.toNat a) (Int.toNat b))))
 else some (vd 18444492273895866368)
 else
 bif op == 53 then
 bif fok BinOp.mul (Int.toNat a) (Int.toNat b) then
 bif !feq (fval BinOp.mul (Int.toNat a) (Int.toNat b)) (fval BinOp.mul (Int.toNat a) (Int.toNat b)) then
 some (vd 18444492273895866368)
 else some (vd (↑(fval BinOp.mul (Int.toNat a) (Int.toNat b))))
 else some (vd 18444492273895866368)
 else
 bif fok BinOp.quo (Int.toNat a) (Int.toNat b) then
 bif !feq (fval BinOp.quo (Int.toNat a) (Int.toNat b)) (fval BinOp.quo (Int.toNat a) (Int.toNat b)) then
 some (vd 18444492273895866368)
 else some (vd (↑(fval BinOp.quo (Int.toNat a) (Int.toNat b))))
 else some (vd 18444492273895866368)
 else none
 else none
 else some (vd a)
 else
 bif op == 56 then
 bif in64 a then
 bif nanI a then bif in64 a then some (vd ((quV a))) else none
 else
 bif in64 b then
 bif nanI b then bif in64 b then some (vd ((quV b))) else none
 else
 bif op == 52 then
 bif fok BinOp.add (Int.toNat a) (Int.toNat b) then
 bif !feq (fval BinOp.add (Int.toNat a) (Int.toNat b)) (fval BinOp.add (Int.toNat a) (Int.toNat b)) then
 some (vd 18444492273895866368)
 else some (vd (↑(fval BinOp.add (Int.toNat a) (Int.toNat b))))
 else some (vd 18444492273895866368)
 else
 bif op == 54 then
 bif fok BinOp.sub (Int.toNat a) (Int.toNat b) then
 bif !feq (fval BinOp.sub (Int.toNat a) (Int.toNat b)) (fval BinOp.sub (Int.toNat a) (Int.toNat b)) then
 some (vd 18444492273895866368)
 else some (vd (↑(fval BinOp.sub (Int.toNat a) (Int.toNat b))))
 else some (vd 18444492273895866368)
 else
 bif op == 53 then
 bif fok BinOp.mul (Int.toNat a) (Int.toNat b) then
 bif !feq (fval BinOp.mul (Int.toNat a) (Int.toNat b)) (fval BinOp.mul (Int.toNat a) (Int.toNat b)) then
 some (vd 18444492273895866368)
 else some (vd (↑(fval BinOp.mul (Int.toNat a) (Int.toNat b))))
 else some (vd 18444492273895866368)
 else
 bif fok BinOp.quo (Int.toNat a) (Int.toNat b) then
 bif !feq (fval BinOp.quo (Int.toNat a) (Int.toNat b)) (fval BinOp.quo (Int.toNat a) (Int.toNat b)) then
 some (vd 18444492273895866368)
 else some (vd (↑(fval BinOp.quo (Int.toNat a) (Int.toNat b))))
 else some (vd 18444492273895866368)
 else none
 else none
 else some (vd a)
 else
 bif op == 57 then
 bif op == 55 then
 bif flt (Int.toNat a) (Int.toNat b) then some (vd a)
 else
 bif op == 57 then
 bif fgt (Int.toNat a) (Int.toNat b) then some (vd a)
 else some (vd b)
 else some (vd b)
 else
 bif op == 57 then
 bif fgt (Int.toNat a) (Int.toNat b) then some (vd a)
 else some (vd b)
 else some (vd b)
 else
 bif op == 58 then
 bif in64 b then
 bif nanI b then bif in64 b then some (vd ((quV b))) else none
 else
 bif fsqok (Int.toNat b) then
 bif !feq (fsqrt (Int.toNat b)) (fsqrt (Int.toNat b)) then some (vd 18444492273895866368)
 else some (vd (↑(fsqrt (Int.toNat b))))
 else some (vd 18444492273895866368)
 else none
 else
 bif op == 52 then
 bif op == 52 then
 bif in64 a then
 bif nanI a then bif in64 a then some (vd ((quV a))) else none
 else
 bif in64 b then
 bif nanI b then bif in64 b then some (vd ((quV b))) else none
 else
 bif op == 52 then
 bif fok BinOp.add (Int.toNat a) (Int.toNat b) then
 bif !feq (fval BinOp.add (Int.toNat a) (Int.toNat b)) (fval BinOp.add (Int.toNat a) (Int.toNat b)) then
 some (vd 18444492273895866368)
 else some (vd (↑(fval BinOp.add (Int.toNat a) (Int.toNat b))))
 else some (vd 18444492273895866368)
 else
 bif op == 54 then
 bif fok BinOp.sub (Int.toNat a) (Int.toNat b) then
 bif !feq (fval BinOp.sub (Int.toNat a) (Int.toNat b)) (fval BinOp.sub (Int.toNat a) (Int.toNat b)) then
 some (vd 18444492273895866368)
 else some (vd (↑(fval BinOp.sub (Int.toNat a) (Int.toNat b))))
 else some (vd 18444492273895866368)
 else
 bif op == 53 then
 bif fok BinOp.mul (Int.toNat a) (Int.toNat b) then
 bif !feq (fval BinOp.mul (Int.toNat a) (Int.toNat b)) (fval BinOp.mul (Int.toNat a) (Int.toNat b)) then
 some (vd 18444492273895866368)
 else some (vd (↑(fval BinOp.mul (Int.toNat a) (Int.toNat b))))
 else some (vd 18444492273895866368)
 else
 bif fok BinOp.quo (Int.toNat a) (Int.toNat b) then
 bif !feq (fval BinOp.quo (Int.toNat a) (Int.toNat b)) (fval BinOp.quo (Int.toNat a) (Int.toNat b)) then
 some (vd 18444492273895866368)
 else some (vd (↑(fval BinOp.quo (Int.toNat a) (Int.toNat b))))
 else some (vd 18444492273895866368)
 else none
 else none
 else some (vd a)
 else
 bif op == 54 then
 bif op == 54 then
 bif in64 a then
 bif nanI a then bif in64 a then some (vd ((quV a))) else none
 else
 bif in64 b then
 bif nanI b then bif in64 b then some (vd ((quV b))) else none
 else
 bif op == 52 then
 bif fok BinOp.add (Int.toNat a) (Int.toNat b) then
 bif !feq (fval BinOp.add (Int.toNat a) (Int.toNat b)) (fval BinOp.add (Int.toNat a) (Int.toNat b)) then
 some (vd 18444492273895866368)
 else some (vd (↑(fval BinOp.add (Int.toNat a) (Int.toNat b))))
 else some (vd 18444492273895866368)
 else
 bif op == 54 then
 bif fok BinOp.sub (Int.toNat a) (Int.toNat b) then
 bif !feq (fval BinOp.sub (Int.toNat a) (Int.toNat b)) (fval BinOp.sub (Int.toNat a) (Int.toNat b)) then
 some (vd 18444492273895866368)
 else some (vd (↑(fval BinOp.sub (Int.toNat a) (Int.toNat b))))
 else some (vd 18444492273895866368)
 else
 bif op == 53 then
 bif fok BinOp.mul (Int.toNat a) (Int.toNat b) then
 bif !feq (fval BinOp.mul (Int.toNat a) (Int.toNat b)) (fval BinOp.mul (Int.toNat a) (Int.toNat b)) then
 some (vd 18444492273895866368)
 else some (vd (↑(fval BinOp.mul (Int.toNat a) (Int.toNat b))))
 else some (vd 18444492273895866368)
 else
 bif fok BinOp.quo (Int.toNat a) (Int.toNat b) then
 bif !feq (fval BinOp.quo (Int.toNat a) (Int.toNat b)) (fval BinOp.quo (Int.toNat a) (Int.toNat b)) then
 some (vd 18444492273895866368)
 else some (vd (↑(fval BinOp.quo (Int.toNat a) (Int.toNat b))))
 else some (vd 18444492273895866368)
 else none
 else none
 else some (vd a)
 else
 bif op == 53 then
 bif op == 53 then
 bif in64 a then
 bif nanI a then bif in64 a then some (vd ((quV a))) else none
 else
 bif in64 b then
 bif nanI b then bif in64 b then some (vd ((quV b))) else none
 else
 bif op == 52 then
 bif fok BinOp.add (Int.toNat a) (Int.toNat b) then
 bif !feq (fval BinOp.add (Int.toNat a) (Int.toNat b)) (fval BinOp.add (Int.toNat a) (Int.toNat b)) then
 some (vd 18444492273895866368)
 else some (vd (↑(fval BinOp.add (Int.toNat a) (Int.toNat b))))
 else some (vd 18444492273895866368)
 else
 bif op == 54 then
 bif fok BinOp.sub (Int.toNat a) (Int.toNat b) then
 bif !feq (fval BinOp.sub (Int.toNat a) (Int.toNat b)) (fval BinOp.sub (Int.toNat a) (Int.toNat b)) then
 some (vd 18444492273895866368)
 else some (vd (↑(fval BinOp.sub (Int.toNat a) (Int.toNat b))))
 else some (vd 18444492273895866368)
 else
 bif op == 53 then
 bif fok BinOp.mul (Int.toNat a) (Int.toNat b) then
 bif !feq (fval BinOp.mul (Int.toNat a) (Int.toNat b)) (fval BinOp.mul (Int.toNat a) (Int.toNat b)) then
 some (vd 18444492273895866368)
 else some (vd (↑(fval BinOp.mul (Int.toNat a) (Int.toNat b))))
 else some (vd 18444492273895866368)
 else
 bif fok BinOp.quo (Int.toNat a) (Int.toNat b) then
 bif !feq (fval BinOp.quo (Int.toNat a) (Int.toNat b)) (fval BinOp.quo (Int.toNat a) (Int.toNat b)) then
 some (vd 18444492273895866368)
 else some (vd (↑(fval BinOp.quo (Int.toNat a) (Int.toNat b))))
 else some (vd 18444492273895866368)
 else none
 else none
 else some (vd a)
 else
 bif op == 56 then
 bif in64 a then
 bif nanI a then bif in64 a then some (vd ((quV a))) else none
 else
 bif in64 b then
 bif nanI b then bif in64 b then some (vd ((quV b))) else none
 else
 bif op == 52 then
 bif fok BinOp.add (Int.toNat a) (Int.toNat b) then
 bif !feq (fval BinOp.add (Int.toNat a) (Int.toNat b)) (fval BinOp.add (Int.toNat a) (Int.toNat b)) then
 some (vd 18444492273895866368)
 else some (vd (↑(fval BinOp.add (Int.toNat a) (Int.toNat b))))
 else some (vd 18444492273895866368)
 else
 bif op == 54 then
 bif fok BinOp.sub (Int.toNat a) (Int.toNat b) then
 bif !feq (fval BinOp.sub (Int.toNat a) (Int.toNat b)) (fval BinOp.sub (Int.toNat a) (Int.toNat b)) then
 some (vd 18444492273895866368)
 else some (vd (↑(fval BinOp.sub (Int.toNat a) (Int.toNat b))))
 else some (vd 18444492273895866368)
 else
 bif op == 53 then
 bif fok BinOp.mul (Int.toNat a) (Int.toNat b) then
 bif !feq (fval BinOp.mul (Int.toNat a) (Int.toNat b)) (fval BinOp.mul (Int.toNat a) (Int.toNat b)) then
 some (vd 18444492273895866368)
 else some (vd (↑(fval BinOp.mul (Int.toNat a) (Int.toNat b))))
 else some (vd 18444492273895866368)
 else
 bif fok BinOp.quo (Int.toNat a) (Int.toNat b) then
 bif !feq (fval BinOp.quo (Int.toNat a) (Int.toNat b)) (fval BinOp.quo (Int.toNat a) (Int.toNat b)) then
 some (vd 18444492273895866368)
 else some (vd (↑(fval BinOp.quo (Int.toNat a) (Int.toNat b))))
 else some (vd 18444492273895866368)
 else none
 else none
 else some (vd a)) := by kernel_rfl
theorem do__nice (op a b : Int) (hg : (ini64 op && (in64 a && (in64 b))) = true) :
    evF Try.prog ΓF2 400 69 [.v (.int .i64 op), .v (.int .u64 a), .v (.int .u64 b)] [] (fun x _ => some x) (fun _ _ => none) = some (.v (.int .u64 (doV op a b))) := by
  rw [do__form]
  try simp only [bitsL_eq]
  simp only [Bool.and_eq_true, in64_iff] at hg
  obtain ⟨_, ⟨ha, ha'⟩, hb, hb'⟩ := hg
  have ga := in64_iff.2 ⟨ha, ha'⟩
  have gb := in64_iff.2 ⟨hb, hb'⟩
  have hqa := nan_cmp ha hb
  simp only [ga, gb, cond_true, ar_form, sq_form]
  unfold doV
  have lit : ∀ (c d : Int), (c == d) = decide (c = d) := fun c d => rfl
  by_cases h1 : op = 51
  · subst h1; simp
  by_cases h2 : op = 55
  · subst h2; simp only [lit, minV]; simp only [Int.reduceEq, decide_true, decide_false, cond_true, cond_false]
    cases nanI a <;> cases nanI b <;> cases flt a.toNat b.toNat <;> cases fgt a.toNat b.toNat <;> cases fsqok b.toNat <;> cases fok .add a.toNat b.toNat <;> cases fok .sub a.toNat b.toNat <;> cases fok .mul a.toNat b.toNat <;> cases fok .quo a.toNat b.toNat <;> rfl
  by_cases h3 : op = 57
  · subst h3; simp only [lit, maxV]; simp only [Int.reduceEq, decide_true, decide_false, cond_true, cond_false]
    cases nanI a <;> cases nanI b <;> cases flt a.toNat b.toNat <;> cases fgt a.toNat b.toNat <;> cases fsqok b.toNat <;> cases fok .add a.toNat b.toNat <;> cases fok .sub a.toNat b.toNat <;> cases fok .mul a.toNat b.toNat <;> cases fok .quo a.toNat b.toNat <;> rfl
  by_cases h4 : op = 58
  · subst h4; simp only [lit, sqV, quV, plainI]; simp only [Int.reduceEq, decide_true, decide_false, cond_true, cond_false]
    cases nanI a <;> cases nanI b <;> cases flt a.toNat b.toNat <;> cases fgt a.toNat b.toNat <;> cases fsqok b.toNat <;> cases fok .add a.toNat b.toNat <;> cases fok .sub a.toNat b.toNat <;> cases fok .mul a.toNat b.toNat <;> cases fok .quo a.toNat b.toNat <;> rfl
  by_cases h5 : op = 52
  · subst h5; simp only [lit, arV, quV, plainI]; simp only [Int.reduceEq, decide_true, decide_false, cond_true, cond_false]
    cases nanI a <;> cases nanI b <;> cases flt a.toNat b.toNat <;> cases fgt a.toNat b.toNat <;> cases fsqok b.toNat <;> cases fok .add a.toNat b.toNat <;> cases fok .sub a.toNat b.toNat <;> cases fok .mul a.toNat b.toNat <;> cases fok .quo a.toNat b.toNat <;> rfl
  by_cases h6 : op = 54
  · subst h6; simp only [lit, arV, quV, plainI]; simp only [Int.reduceEq, decide_true, decide_false, cond_true, cond_false]
    cases nanI a <;> cases nanI b <;> cases flt a.toNat b.toNat <;> cases fgt a.toNat b.toNat <;> cases fsqok b.toNat <;> cases fok .add a.toNat b.toNat <;> cases fok .sub a.toNat b.toNat <;> cases fok .mul a.toNat b.toNat <;> cases fok .quo a.toNat b.toNat <;> rfl
  by_cases h7 : op = 53
  · subst h7; simp only [lit, arV, quV, plainI]; simp only [Int.reduceEq, decide_true, decide_false, cond_true, cond_false]
    cases nanI a <;> cases nanI b <;> cases flt a.toNat b.toNat <;> cases fgt a.toNat b.toNat <;> cases fsqok b.toNat <;> cases fok .add a.toNat b.toNat <;> cases fok .sub a.toNat b.toNat <;> cases fok .mul a.toNat b.toNat <;> cases fok .quo a.toNat b.toNat <;> rfl
  by_cases h8 : op = 56
  · subst h8; simp only [lit, arV, quV, plainI]; simp only [Int.reduceEq, decide_true, decide_false, cond_true, cond_false]
    cases nanI a <;> cases nanI b <;> cases flt a.toNat b.toNat <;> cases fgt a.toNat b.toNat <;> cases fsqok b.toNat <;> cases fok .add a.toNat b.toNat <;> cases fok .sub a.toNat b.toNat <;> cases fok .mul a.toNat b.toNat <;> cases fok .quo a.toNat b.toNat <;> rfl
  simp [lit, h1, h2, h3, h4, h5, h6, h7, h8]
def do_S : Nice := fun R args kv => match args with
  | [.v (.int .i64 op), .v (.int .u64 a), .v (.int .u64 b)] => bif ini64 op && (in64 a && (in64 b)) then kv (.v (.int .u64 (doV op a b))) else none
  | _ => none
theorem do_S_ok : NiceOk Try.prog ΓF2 400 69 do_S := by
  intro R args kv r h
  unfold do_S at h
  split at h
  · obtain ⟨hg, h⟩ := cond_some h
    exact ⟨_, h, rfl, rfl, do__nice _ _ _ hg⟩
  · cases h
theorem rfloat_form (op a b : Int) :
    evF Try.prog ΓF2 400 80 [.v (.int .i64 op), .v (.int .u64 a), .v (.int .u64 b)] [] (fun x _ => some x) (fun _ _ => none) =
    (bif op == 51 then some (vd b)
 else
 bif op == 55 then
 bif op == 55 then
 bif in64 a then
 bif nanI a then some (vd b)
 else
 bif in64 b then
 bif nanI b then some (vd b)
 else
 bif in64 a then
 bif IntKind.wrap IntKind.u64 (a * 2) == 0 then
 bif in64 b then
 bif IntKind.wrap IntKind.u64 (b * 2) == 0 then some (vd b)
 else
 bif op == 55 then
 bif flt (Int.toNat a) (Int.toNat b) then some (vd a)
 else
 bif op == 57 then
 bif fgt (Int.toNat a) (Int.toNat b) then some (vd a)
 else some (vd b)
 else some (vd b)
 else
 bif op == 57 then
 bif fgt (Int.toNat a) (Int.toNat b) then some (vd a)
 else some (vd b)
 else some (vd b)
 else none
 else
 bif op == 55 then
 bif flt (Int.toNat a) (Int.toNat b) then some (vd a)
 else
 bif op == 57 then
 bif fgt (Int.toNat a) (Int.toNat b) then some (vd a)
 else some (vd b)
 else some (vd b)
 else
 bif op == 57 then
 bif fgt (Int.toNat a) (Int.toNat b) then some (vd a)
 else some (vd b)
 else some (vd b)
 else none
 else none
 else none
 else
 bif op == 58 then
 bif in64 b then
 bif nanI b then bif in64 b then some (vd ((quV b))) else none
 else
 bif flt (Int.toNat b) 0 then some (vd 18444492273895866368)
 else bif fsqok (Int.toNat b) then some (vd (↑(fsqrt (Int.toNat b)))) else none
 else none
 else
 bif op == 52 then
 bif op == 52 then
 bif in64 a then
 bif nanI a then bif in64 a then some (vd ((quV a))) else none
 else
 bif in64 b then
 bif nanI b then bif in64 b then some (vd ((quV b))) else none
 else
 bif op == 52 then
 bif fok BinOp.add (Int.toNat a) (Int.toNat b) then
 bif !feq (fval BinOp.add (Int.toNat a) (Int.toNat b)) (fval BinOp.add (Int.toNat a) (Int.toNat b)) then
 some (vd 18444492273895866368)
 else some (vd (↑(fval BinOp.add (Int.toNat a) (Int.toNat b))))
 else some (vd 18444492273895866368)
 else
 bif op == 54 then
 bif fok BinOp.sub (Int.toNat a) (Int.toNat b) then
 bif !feq (fval BinOp.sub (Int.toNat a) (Int.toNat b)) (fval BinOp.sub (Int.toNat a) (Int.toNat b)) then
 some (vd 18444492273895866368)
 else some (vd (↑(fval BinOp.sub (Int.toNat a) (Int.toNat b))))
 else some (vd 18444492273895866368)
 else
 bif op == 53 then
 bif fok BinOp.mul (Int.toNat a) (Int.toNat b) then
 bif !feq (fval BinOp.mul (Int.toNat a) (Int.toNat b)) (fval BinOp.mul (Int.toNat a) (Int.toNat b)) then
 some (vd 18444492273895866368)
 else some (vd (↑(fval BinOp.mul (Int.toNat a) (Int.toNat b))))
 else some (vd 18444492273895866368)
 else
 bif fok BinOp.quo (Int.toNat a) (Int.toNat b) then
 bif !feq (fval BinOp.quo (Int.toNat a) (Int.toNat b)) (fval BinOp.quo (Int.toNat a) (Int.toNat b)) then
 some (vd 18444492273895866368)
 else some (vd (↑(fval BinOp.quo (Int.toNat a) (Int.toNat b))))
 else some (vd 18444492273895866368)
 else none
 else none
 else some (vd a)
 else
 bif op == 54 then
 bif op == 54 then
 bif in64 a then
 bif nanI a then bif in64 a then some (vd ((quV a))) else none
 else
 bif in64 b then
 bif nanI b then bif in64 b then some (vd ((quV b))) else none
 else
 bif op == 52 then
 bif fok BinOp.add (Int.toNat a) (Int.toNat b) then
 bif !feq (fval BinOp.add (Int.toNat a) (Int.toNat b)) (fval BinOp.add (Int.toNat a) (Int.toNat b)) then
 some (vd 18444492273895866368)
 else some (vd (↑(fval BinOp.add (Int.toNat a) (Int.toNat b))))
 else some (vd 18444492273895866368)
 else
 bif op == 54 then
 bif fok BinOp.sub (Int.toNat a) (Int.toNat b) then
 bif !feq (fval BinOp.sub (Int.toNat a) (Int.toNat b)) (fval BinOp.sub (Int.toNat a) (Int.toNat b)) then
 some (vd 18444492273895866368)
 else some (vd (↑(fval BinOp.sub (Int.toNat a) (Int.toNat b))))
 else some (vd 18444492273895866368)
 else
 bif op == 53 then
 bif fok BinOp.mul (Int.toNat a) (Int.toNat b) then
 bif !feq (fval BinOp.mul (Int.toNat a) (Int.toNat b)) (fval BinOp.mul (Int.toNat a) (Int.toNat b)) then
 some (vd 18444492273895866368)
 else some (vd (↑(fval BinOp.mul (Int.toNat a) (Int.toNat b))))
 else some (vd 18444492273895866368)
 else
 bif fok BinOp.quo (Int.toNat a) (Int.toNat b) then
 bif !feq (fval BinOp.quo (Int.toNat a) (Int.toNat b)) (fval BinOp.quo (Int.toNat a) (Int.toNat b)) then
 some (vd 18444492273895866368)
 else some (vd (↑(fval BinOp.quo (Int.toNat a) (Int.toNat b))))
 else some (vd 18444492273895866368)
 else none
 else none
 else some (vd a)
 else
 bif op == 53 then
 bif op == 53 then
 bif in64 a then
 bif nanI a then bif in64 a then some (vd ((quV a))) else none
 else
 bif in64 b then
 bif nanI b then bif in64 b then some (vd ((quV b))) else none
 else
 bif op == 52 then
 bif fok BinOp.add (Int.toNat a) (Int.toNat b) then
 bif !feq (fval BinOp.add (Int.toNat a) (Int.toNat b)) (fval BinOp.add (Int.toNat a) (Int.toNat b)) then
 some (vd 18444492273895866368)
 else some (vd (↑(fval BinOp.add (Int.toNat a) (Int.toNat b))))
 else some (vd 18444492273895866368)
 else
 bif op == 54 then
 bif fok BinOp.sub (Int.toNat a) (Int.toNat b) then
 bif !feq (fval BinOp.sub (Int.toNat a) (Int.toNat b)) (fval BinOp.sub (Int.toNat a) (Int.toNat b)) then
 some (vd 18444492273895866368)
 else some (vd (↑(fval BinOp.sub (Int.toNat a) (Int.toNat b))))
 else some (vd 18444492273895866368)
 else
 bif op == 53 then
 bif fok BinOp.mul (Int.toNat a) (Int.toNat b) then
 bif !feq (fval BinOp.mul (Int.toNat a) (Int.toNat b)) (fval BinOp.mul (Int.toNat a) (Int.toNat b)) then
 some (vd 18444492273895866368)
 else some (vd (↑(fval BinOp.mul (Int.toNat a) (Int.toNat b))))
 else some (vd 18444492273895866368)
 else
 bif fok BinOp.quo (Int.toNat a) (Int.toNat b) then
 bif !feq (fval BinOp.quo (Int.toNat a) (Int.toNat b)) (fval BinOp.quo (Int.toNat a) (Int.toNat b)) then
 some (vd 18444492273895866368)
 else some (vd (↑(fval BinOp.quo (Int.toNat a) (Int.toNat b))))
 else some (vd 18444492273895866368)
 else none
 else none
 else some (vd a)
 else
 bif op == 56 then
 bif in64 a then
 bif nanI a then bif in64 a then some (vd ((quV a))) else none
 else
 bif in64 b then
 bif nanI b then bif in64 b then some (vd ((quV b))) else none
 else
 bif op == 52 then
 bif fok BinOp.add (Int.toNat a) (Int.toNat b) then
 bif !feq (fval BinOp.add (Int.toNat a) (Int.toNat b)) (fval BinOp.add (Int.toNat a) (Int.toNat b)) then
 some (vd 18444492273895866368)
 else some (vd (↑(fval BinOp.add (Int.toNat a) (Int.toNat b))))
 else some (vd 18444492273895866368)
 else
 bif op == 54 then
 bif fok BinOp.sub (Int.toNat a) (Int.toNat b) then
 bif !feq (fval BinOp.sub (Int.toNat a) (Int.toNat b)) (fval BinOp.sub (Int.toNat a) (Int.toNat b)) then
 some (vd 18444492273895866368)
 else some (vd (↑(fval BinOp.sub (Int.toNat a) (Int.toNat b))))
 else some (vd 18444492273895866368)
 else
 bif op == 53 then
 bif fok BinOp.mul (Int.toNat a) (Int.toNat b) then
 bif !feq (fval BinOp.mul (Int.toNat a) (Int.toNat b)) (fval BinOp.mul (Int.toNat a) (Int.toNat b)) then
 some (vd 18444492273895866368)
 else some (vd (↑(fval BinOp.mul (Int.toNat a) (Int.toNat b))))
 else some (vd 18444492273895866368)
 else
 bif fok BinOp.quo (Int.toNat a) (Int.toNat b) then
 bif !feq (fval BinOp.quo (Int.toNat a) (Int.toNat b)) (fval BinOp.quo (Int.toNat a) (Int.toNat b)) then
 some (vd 18444492273895866368)
 else some (vd (↑(fval BinOp.quo (Int.toNat a) (Int.toNat b))))
 else some (vd 18444492273895866368)
 else none
 else none
 else some (vd a)
 else
 bif op == 57 then
 bif in64 a then
 bif nanI a then some (vd b)
 else
 bif in64 b then
 bif nanI b then some (vd b)
 else
 bif in64 a then
 bif IntKind.wrap IntKind.u64 (a * 2) == 0 then
 bif in64 b then
 bif IntKind.wrap IntKind.u64 (b * 2) == 0 then some (vd b)
 else
 bif op == 55 then
 bif flt (Int.toNat a) (Int.toNat b) then some (vd a)
 else
 bif op == 57 then
 bif fgt (Int.toNat a) (Int.toNat b) then some (vd a)
 else some (vd b)
 else some (vd b)
 else
 bif op == 57 then
 bif fgt (Int.toNat a) (Int.toNat b) then some (vd a)
 else some (vd b)
 else some (vd b)
 else none
 else
 bif op == 55 then
 bif flt (Int.toNat a) (Int.toNat b) then some (vd a)
 else
 bif op == 57 then
 bif fgt (Int.toNat a) (Int.toNat b) then some (vd a)
 else some (vd b)
 else some (vd b)
 else
 bif op == 57 then
 bif fgt (Int.toNat a) (Int.toNat b) then some (vd a)
 else some (vd b)
 else some (vd b)
 else none
 else none
 else none
 else
 bif op == 58 then
 bif in64 b then
 bif nanI b then bif in64 b then some (vd ((quV b))) else none
 else
 bif flt (Int.toNat b) 0 then some (vd 18444492273895866368)
 else bif fsqok (Int.toNat b) then some (vd (↑(fsqrt (Int.toNat b)))) else none
 else none
 else
 bif op == 52 then
 bif op == 52 then
 bif in64 a then
 bif nanI a then bif in64 a then some (vd ((quV a))) else none
 else
 bif in64 b then
 bif nanI b then bif in64 b then some (vd ((quV b))) else none
 else
 bif op == 52 then
 bif fok BinOp.add (Int.toNat a) (Int.toNat b) then
 bif !feq (fval BinOp.add (Int.toNat a) (Int.toNat b)) (fval BinOp.add (Int.toNat a) (Int.toNat b)) then
 some (vd 18444492273895866368)
 else some (vd (↑(fval BinOp.add (Int.toNat a) (Int.toNat b))))
 else some (vd 18444492273895866368)
 else
 bif op == 54 then
 bif fok BinOp.sub (Int.toNat a) (Int.toNat b) then
 bif !feq (fval BinOp.sub (Int.toNat a) (Int.toNat b)) (fval BinOp.sub (Int.toNat a) (Int.toNat b)) then
 some (vd 18444492273895866368)
 else some (vd (↑(fval BinOp.sub (Int.toNat a) (Int.toNat b))))
 else some (vd 18444492273895866368)
 else
 bif op == 53 then
 bif fok BinOp.mul (Int.toNat a) (Int.toNat b) then
 bif !feq (fval BinOp.mul (Int.toNat a) (Int.toNat b)) (fval BinOp.mul (Int.toNat a) (Int.toNat b)) then
 some (vd 18444492273895866368)
 else some (vd (↑(fval BinOp.mul (Int.toNat a) (Int.toNat b))))
 else some (vd 18444492273895866368)
 else
 bif fok BinOp.quo (Int.toNat a) (Int.toNat b) then
 bif !feq (fval BinOp.quo (Int.toNat a) (Int.toNat b)) (fval BinOp.quo (Int.toNat a) (Int.toNat b)) then
 some (vd 18444492273895866368)
 else some (vd (↑(fval BinOp.quo (Int.toNat a) (Int.toNat b))))
 else some (vd 18444492273895866368)
 else none
 else none
 else some (vd a)
 else
 bif op == 54 then
 bif op == 54 then
 bif in64 a then
 bif nanI a then bif in64 a then some (vd ((quV a))) else none
 else
 bif in64 b then
 bif nanI b then bif in64 b then some (vd ((quV b))) else none
 else
 bif op == 52 then
 bif fok BinOp.add (Int.toNat a) (Int.toNat b) then
 bif !feq (fval BinOp.add (Int.toNat a) (Int.toNat b)) (fval BinOp.add (Int.toNat a) (Int.toNat b)) then
 some (vd 18444492273895866368)
 else some (vd (↑(fval BinOp.add (Int.toNat a) (Int.toNat b))))
 else some (vd 18444492273895866368)
 else
 bif op == 54 then
 bif fok BinOp.sub (Int.toNat a) (Int.toNat b) then
 bif !feq (fval BinOp.sub (Int.toNat a) (Int.toNat b)) (fval BinOp.sub (Int.toNat a) (Int.toNat b)) then
 some (vd 18444492273895866368)
 else some (vd (↑(fval BinOp.sub (Int.toNat a) (Int.toNat b))))
 else some (vd 18444492273895866368)
 else
 bif op == 53 then
 bif fok BinOp.mul (Int.toNat a) (Int.toNat b) then
 bif !feq (fval BinOp.mul (Int.toNat a) (Int.toNat b)) (fval BinOp.mul (Int.toNat a) (Int.toNat b)) then
 some (vd 18444492273895866368)
 else some (vd (↑(fval BinOp.mul (Int.toNat a) (Int.toNat b))))
 else some (vd 18444492273895866368)
 else
 bif fok BinOp.quo (Int.toNat a) (Int.toNat b) then
 bif !feq (fval BinOp.quo (Int.toNat a) (Int.toNat b)) (fval BinOp.quo (Int.toNat a) (Int.toNat b)) then
 some (vd 18444492273895866368)
 else some (vd (↑(fval BinOp.quo (Int.toNat a) (Int.toNat b))))
 else some (vd 18444492273895866368)
 else none
 else none
 else some (vd a)
 else
 bif op == 53 then
 bif op == 53 then
 bif in64 a then
 bif nanI a then bif in64 a then some (vd ((quV a))) else none
 else
 bif in64 b then
 bif nanI b then bif in64 b then some (vd ((quV b))) else none
 else
 bif op == 52 then
 bif fok BinOp.add (Int.toNat a) (Int.toNat b) then
 bif !feq (fval BinOp.add (Int.toNat a) (Int.toNat b)) (fval BinOp.add (Int.toNat a) (Int.toNat b)) then
 some (vd 18444492273895866368)
 else some (vd (↑(fval BinOp.add (Int.toNat a) (Int.toNat b))))
 else some (vd 18444492273895866368)
 else
 bif op == 54 then
 bif fok BinOp.sub (Int.toNat a) (Int.toNat b) then
 bif !feq (fval BinOp.sub (Int.toNat a) (Int.toNat b)) (fval BinOp.sub (Int.toNat a) (Int.toNat b)) then
 some (vd 18444492273895866368)
 else some (vd (↑(fval BinOp.sub (Int.toNat a) (Int.toNat b))))
 else some (vd 18444492273895866368)
 else
 bif op == 53 then
 bif fok BinOp.mul (Int.toNat a) (Int.toNat b) then
 bif !feq (fval BinOp.mul (Int.toNat a) (Int.toNat b)) (fval BinOp.mul (Int.toNat a) (Int.toNat b)) then
 some (vd 18444492273895866368)
 else some (vd (↑(fval BinOp.mul (Int.toNat a) (Int.toNat b))))
 else some (vd 18444492273895866368)
 else
 bif fok BinOp.quo (Int.toNat a) (Int.toNat b) then
 bif !feq (fval BinOp.quo (Int.toNat a) (Int.toNat b)) (fval BinOp.quo (Int.toNat a) (Int.toNat b)) then
 some (vd 18444492273895866368)
 else some (vd (↑(fval BinOp.quo (Int.toNat a) (Int.toNat b))))
 else some (vd 18444492273895866368)
 else none
 else none
 else some (vd a)
 else
 bif op == 56 then
 bif in64 a then
 bif nanI a then bif in64 a then some (vd ((quV a))) else none
 else
 bif in64 b then
 bif nanI b then bif in64 b then some (vd ((quV b))) else none
 else
 bif op == 52 then
 bif fok BinOp.add (Int.toNat a) (Int.toNat b) then
 bif !feq (fval BinOp.add (Int.toNat a) (Int.toNat b)) (fval BinOp.add (Int.toNat a) (Int.toNat b)) then
 some (vd 18444492273895866368)
 else some (vd (↑(fval BinOp.add (Int.toNat a) (Int.toNat b))))
 else some (vd 18444492273895866368)
 else
 bif op == 54 then
 bif fok BinOp.sub (Int.toNat a) (Int.toNat b) then
 bif !feq (fval BinOp.sub (Int.toNat a) (Int.toNat b)) (fval BinOp.sub (Int.toNat a) (Int.toNat b)) then
 some (vd 18444492273895866368)
 else some (vd (↑(fval BinOp.sub (Int.toNat a) (Int.toNat b))))
 else some (vd 18444492273895866368)
 else
 bif op == 53 then
 bif fok BinOp.mul (Int.toNat a) (Int.toNat b) then
 bif !feq (fval BinOp.mul (Int.toNat a) (Int.toNat b)) (fval BinOp.mul (Int.toNat a) (Int.toNat b)) then
 some (vd 18444492273895866368)
 else some (vd (↑(fval BinOp.mul (Int.toNat a) (Int.toNat b))))
 else some (vd 18444492273895866368)
 else
 bif fok BinOp.quo (Int.toNat a) (Int.toNat b) then
 bif !feq (fval BinOp.quo (Int.toNat a) (Int.toNat b)) (fval BinOp.quo (Int.toNat a) (Int.toNat b)) then
 some (vd 18444492273895866368)
 else some (vd (↑(fval BinOp.quo (Int.toNat a) (Int.toNat b))))
 else some (vd 18444492273895866368)
 else none
 else none
 else some (vd a)) := by kernel_rfl
theorem rfloat_nice (op a b : Int) (hg : (ini64 op && (in64 a && (in64 b))) = true) :
    evF Try.prog ΓF2 400 80 [.v (.int .i64 op), .v (.int .u64 a), .v (.int .u64 b)] [] (fun x _ => some x) (fun _ _ => none) = some (.v (.int .u64 (doV op a b))) := by
  rw [rfloat_form]
  try simp only [bitsL_eq]
  simp only [Bool.and_eq_true, in64_iff] at hg
  obtain ⟨_, ⟨ha, ha'⟩, hb, hb'⟩ := hg
  have ga := in64_iff.2 ⟨ha, ha'⟩
  have gb := in64_iff.2 ⟨hb, hb'⟩
  have hqa := nan_cmp ha hb
  have hz := zero_cmp ha ha' hb hb'
  simp only [ga, gb, cond_true, ar_form]
  unfold doV
  have lit : ∀ (c d : Int), (c == d) = decide (c = d) := fun c d => rfl
  by_cases h1 : op = 51
  · subst h1; simp
  by_cases h2 : op = 55
  · subst h2; simp only [lit, minV]; simp only [Int.reduceEq, decide_true, decide_false, cond_true, cond_false]
    cases hna : nanI a <;> cases hnb : nanI b <;> simp only [cond_true, cond_false] <;> first
      | (rw [sq_lt hb hnb]; cases fsqok b.toNat <;> rfl)
      | (have q := nan_cmp ha hb (Or.inl hna); obtain ⟨q1, q2, q3⟩ := q; simp [q1, q2, q3]; done)
      | (have q := nan_cmp ha hb (Or.inr hnb); obtain ⟨q1, q2, q3⟩ := q; simp [q1, q2, q3]; done)
      | (cases hza : decide (IntKind.wrap .u64 (a * 2) = 0) <;> cases hzb : decide (IntKind.wrap .u64 (b * 2) = 0) <;> simp only [cond_true, cond_false] <;> first
          | (have q := hz (by simpa using hza) (by simpa using hzb); obtain ⟨q1, q2⟩ := q; simp [q1, q2]; done)
          | (cases flt a.toNat b.toNat <;> cases fgt a.toNat b.toNat <;> rfl))
      | (cases flt a.toNat b.toNat <;> cases fgt a.toNat b.toNat <;> cases fok .add a.toNat b.toNat <;> cases fok .sub a.toNat b.toNat <;> cases fok .mul a.toNat b.toNat <;> cases fok .quo a.toNat b.toNat <;> rfl)
  by_cases h3 : op = 57
  · subst h3; simp only [lit, maxV]; simp only [Int.reduceEq, decide_true, decide_false, cond_true, cond_false]
    cases hna : nanI a <;> cases hnb : nanI b <;> simp only [cond_true, cond_false] <;> first
      | (rw [sq_lt hb hnb]; cases fsqok b.toNat <;> rfl)
      | (have q := nan_cmp ha hb (Or.inl hna); obtain ⟨q1, q2, q3⟩ := q; simp [q1, q2, q3]; done)
      | (have q := nan_cmp ha hb (Or.inr hnb); obtain ⟨q1, q2, q3⟩ := q; simp [q1, q2, q3]; done)
      | (cases hza : decide (IntKind.wrap .u64 (a * 2) = 0) <;> cases hzb : decide (IntKind.wrap .u64 (b * 2) = 0) <;> simp only [cond_true, cond_false] <;> first
          | (have q := hz (by simpa using hza) (by simpa using hzb); obtain ⟨q1, q2⟩ := q; simp [q1, q2]; done)
          | (cases flt a.toNat b.toNat <;> cases fgt a.toNat b.toNat <;> rfl))
      | (cases flt a.toNat b.toNat <;> cases fgt a.toNat b.toNat <;> cases fok .add a.toNat b.toNat <;> cases fok .sub a.toNat b.toNat <;> cases fok .mul a.toNat b.toNat <;> cases fok .quo a.toNat b.toNat <;> rfl)
  by_cases h4 : op = 58
  · subst h4; simp only [lit, sqV, quV, plainI]; simp only [Int.reduceEq, decide_true, decide_false, cond_true, cond_false]
    cases hna : nanI a <;> cases hnb : nanI b <;> simp only [cond_true, cond_false] <;> first
      | (rw [sq_lt hb hnb]; cases fsqok b.toNat <;> rfl)
      | (have q := nan_cmp ha hb (Or.inl hna); obtain ⟨q1, q2, q3⟩ := q; simp [q1, q2, q3]; done)
      | (have q := nan_cmp ha hb (Or.inr hnb); obtain ⟨q1, q2, q3⟩ := q; simp [q1, q2, q3]; done)
      | (cases hza : decide (IntKind.wrap .u64 (a * 2) = 0) <;> cases hzb : decide (IntKind.wrap .u64 (b * 2) = 0) <;> simp only [cond_true, cond_false] <;> first
          | (have q := hz (by simpa using hza) (by simpa using hzb); obtain ⟨q1, q2⟩ := q; simp [q1, q2]; done)
          | (cases flt a.toNat b.toNat <;> cases fgt a.toNat b.toNat <;> rfl))
      | (cases flt a.toNat b.toNat <;> cases fgt a.toNat b.toNat <;> cases fok .add a.toNat b.toNat <;> cases fok .sub a.toNat b.toNat <;> cases fok .mul a.toNat b.toNat <;> cases fok .quo a.toNat b.toNat <;> rfl)
  by_cases h5 : op = 52
  · subst h5; simp only [lit, arV, quV, plainI]; simp only [Int.reduceEq, decide_true, decide_false, cond_true, cond_false]
    cases hna : nanI a <;> cases hnb : nanI b <;> simp only [cond_true, cond_false] <;> first
      | (rw [sq_lt hb hnb]; cases fsqok b.toNat <;> rfl)
      | (have q := nan_cmp ha hb (Or.inl hna); obtain ⟨q1, q2, q3⟩ := q; simp [q1, q2, q3]; done)
      | (have q := nan_cmp ha hb (Or.inr hnb); obtain ⟨q1, q2, q3⟩ := q; simp [q1, q2, q3]; done)
      | (cases hza : decide (IntKind.wrap .u64 (a * 2) = 0) <;> cases hzb : decide (IntKind.wrap .u64 (b * 2) = 0) <;> simp only [cond_true, cond_false] <;> first
          | (have q := hz (by simpa using hza) (by simpa using hzb); obtain ⟨q1, q2⟩ := q; simp [q1, q2]; done)
          | (cases flt a.toNat b.toNat <;> cases fgt a.toNat b.toNat <;> rfl))
      | (cases flt a.toNat b.toNat <;> cases fgt a.toNat b.toNat <;> cases fok .add a.toNat b.toNat <;> cases fok .sub a.toNat b.toNat <;> cases fok .mul a.toNat b.toNat <;> cases fok .quo a.toNat b.toNat <;> rfl)
  by_cases h6 : op = 54
  · subst h6; simp only [lit, arV, quV, plainI]; simp only [Int.reduceEq, decide_true, decide_false, cond_true, cond_false]
    cases hna : nanI a <;> cases hnb : nanI b <;> simp only [cond_true, cond_false] <;> first
      | (rw [sq_lt hb hnb]; cases fsqok b.toNat <;> rfl)
      | (have q := nan_cmp ha hb (Or.inl hna); obtain ⟨q1, q2, q3⟩ := q; simp [q1, q2, q3]; done)
      | (have q := nan_cmp ha hb (Or.inr hnb); obtain ⟨q1, q2, q3⟩ := q; simp [q1, q2, q3]; done)
      | (cases hza : decide (IntKind.wrap .u64 (a * 2) = 0) <;> cases hzb : decide (IntKind.wrap .u64 (b * 2) = 0) <;> simp only [cond_true, cond_false] <;> first
          | (have q := hz (by simpa using hza) (by simpa using hzb); obtain ⟨q1, q2⟩ := q; simp [q1, q2]; done)
          | (cases flt a.toNat b.toNat <;> cases fgt a.toNat b.toNat <;> rfl))
      | (cases flt a.toNat b.toNat <;> cases fgt a.toNat b.toNat <;> cases fok .add a.toNat b.toNat <;> cases fok .sub a.toNat b.toNat <;> cases fok .mul a.toNat b.toNat <;> cases fok .quo a.toNat b.toNat <;> rfl)
  by_cases h7 : op = 53
  · subst h7; simp only [lit, arV, quV, plainI]; simp only [Int.reduceEq, decide_true, decide_false, cond_true, cond_false]
    cases hna : nanI a <;> cases hnb : nanI b <;> simp only [cond_true, cond_false] <;> first
      | (rw [sq_lt hb hnb]; cases fsqok b.toNat <;> rfl)
      | (have q := nan_cmp ha hb (Or.inl hna); obtain ⟨q1, q2, q3⟩ := q; simp [q1, q2, q3]; done)
      | (have q := nan_cmp ha hb (Or.inr hnb); obtain ⟨q1, q2, q3⟩ := q; simp [q1, q2, q3]; done)
      | (cases hza : decide (IntKind.wrap .u64 (a * 2) = 0) <;> cases hzb : decide (IntKind.wrap .u64 (b * 2) = 0) <;> simp only [cond_true, cond_false] <;> first
          | (have q := hz (by simpa using hza) (by simpa using hzb); obtain ⟨q1, q2⟩ := q; simp [q1, q2]; done)
          | (cases flt a.toNat b.toNat <;> cases fgt a.toNat b.toNat <;> rfl))
      | (cases flt a.toNat b.toNat <;> cases fgt a.toNat b.toNat <;> cases fok .add a.toNat b.toNat <;> cases fok .sub a.toNat b.toNat <;> cases fok .mul a.toNat b.toNat <;> cases fok .quo a.toNat b.toNat <;> rfl)
  by_cases h8 : op = 56
  · subst h8; simp only [lit, arV, quV, plainI]; simp only [Int.reduceEq, decide_true, decide_false, cond_true, cond_false]
    cases hna : nanI a <;> cases hnb : nanI b <;> simp only [cond_true, cond_false] <;> first
      | (rw [sq_lt hb hnb]; cases fsqok b.toNat <;> rfl)
      | (have q := nan_cmp ha hb (Or.inl hna); obtain ⟨q1, q2, q3⟩ := q; simp [q1, q2, q3]; done)
      | (have q := nan_cmp ha hb (Or.inr hnb); obtain ⟨q1, q2, q3⟩ := q; simp [q1, q2, q3]; done)
      | (cases hza : decide (IntKind.wrap .u64 (a * 2) = 0) <;> cases hzb : decide (IntKind.wrap .u64 (b * 2) = 0) <;> simp only [cond_true, cond_false] <;> first
          | (have q := hz (by simpa using hza) (by simpa using hzb); obtain ⟨q1, q2⟩ := q; simp [q1, q2]; done)
          | (cases flt a.toNat b.toNat <;> cases fgt a.toNat b.toNat <;> rfl))
      | (cases flt a.toNat b.toNat <;> cases fgt a.toNat b.toNat <;> cases fok .add a.toNat b.toNat <;> cases fok .sub a.toNat b.toNat <;> cases fok .mul a.toNat b.toNat <;> cases fok .quo a.toNat b.toNat <;> rfl)
  simp [lit, h1, h2, h3, h4, h5, h6, h7, h8]
def rfloatS : Nice := fun R args kv => match args with
  | [.v (.int .i64 op), .v (.int .u64 a), .v (.int .u64 b)] => bif ini64 op && (in64 a && (in64 b)) then kv (.v (.int .u64 (doV op a b))) else none
  | _ => none
theorem rfloatS_ok : NiceOk Try.prog ΓF2 400 80 rfloatS := by
  intro R args kv r h
  unfold rfloatS at h
  split at h
  · obtain ⟨hg, h⟩ := cond_some h
    exact ⟨_, h, rfl, rfl, rfloat_nice _ _ _ hg⟩
  · cases h
def ΓF3 : Env := ((ΓF2.add 69 (pureSpec do_S)).add 80 (pureSpec rfloatS))
theorem ΓF3_ok : EnvOk Try.prog X0 ΓF3 := ((ΓF2_ok.add (by kernel_rfl) (specOk_of_nice ΓF2_ok do_S_ok)).add (by kernel_rfl) (specOk_of_nice ΓF2_ok rfloatS_ok))
end Go.Proofs.Ytpgdpoloipifeaa
namespace Go.Proofs.Ytpgdpoloipifeaa
open Go Go.Ev
set_option linter.unusedVariables false
set_option linter.unusedSimpArgs false
set_option maxRecDepth 100000
theorem toInt_form (a : Int) :
    evF Try.prog ΓF3 400 68 [.v (.int .u64 a)] [] (fun x _ => some x) (fun _ _ => none) =
    (bif fnan (Int.toNat a) then some (vw 2147483648)
 else
 bif fgt (ftrunc (Int.toNat a)) 13970166044103278592 || feq (ftrunc (Int.toNat a)) 13970166044103278592 then
 bif flt (ftrunc (Int.toNat a)) 4746794007244308480 || feq (ftrunc (Int.toNat a)) 4746794007244308480 then
 bif fiok (ftrunc (Int.toNat a)) IntKind.i32 then
 some (vw ((IntKind.wrap IntKind.u32 (fival (ftrunc (Int.toNat a)) IntKind.i32))))
 else none
 else some (vw 2147483648)
 else some (vw 2147483648)) := by kernel_rfl
theorem toInt_nice (a : Int) (hg : (in64 a) = true) :
    evF Try.prog ΓF3 400 68 [.v (.int .u64 a)] [] (fun x _ => some x) (fun _ _ => none) = some (.v (.int .u32 (toV a))) := by
  rw [toInt_form]
  try simp only [bitsL_eq]
  simp only [in64_iff] at hg
  exact toV_prog hg.1 (fun x => Sv.v (.int .u32 x)) (.v undef)
def toIntS : Nice := fun R args kv => match args with
  | [.v (.int .u64 a)] => bif in64 a then kv (.v (.int .u32 (toV a))) else none
  | _ => none
theorem toIntS_ok : NiceOk Try.prog ΓF3 400 68 toIntS := by
  intro R args kv r h
  unfold toIntS at h
  split at h
  · obtain ⟨hg, h⟩ := cond_some h
    exact ⟨_, h, rfl, rfl, toInt_nice _ hg⟩
  · cases h
theorem rtoInt_form (a : Int) :
    evF Try.prog ΓF3 400 76 [.v (.int .u64 a)] [] (fun x _ => some x) (fun _ _ => none) =
    (bif in64 a then
 bif nanI a then some (vw 2147483648)
 else
 bif fgt (Int.toNat a) 4746794007248502784 || feq (Int.toNat a) 4746794007248502784 then
 some (vw 2147483648)
 else
 bif flt (Int.toNat a) 13970166044105375744 || feq (Int.toNat a) 13970166044105375744 then
 some (vw 2147483648)
 else
 bif fiok (Int.toNat a) IntKind.i64 then
 some
 (vw ((IntKind.wrap IntKind.u32 (IntKind.wrap IntKind.i32 (fival (Int.toNat a) IntKind.i64)))))
 else none
 else none) := by kernel_rfl
theorem rtoInt_nice (a : Int) (hg : (in64 a) = true) :
    evF Try.prog ΓF3 400 76 [.v (.int .u64 a)] [] (fun x _ => some x) (fun _ _ => none) = some (.v (.int .u32 (toV a))) := by
  rw [rtoInt_form]
  try simp only [bitsL_eq]
  rw [hg, cond_true]
  simp only [in64_iff] at hg
  exact toV_ref hg.1 (fun x => Sv.v (.int .u32 x))
def rtoIntS : Nice := fun R args kv => match args with
  | [.v (.int .u64 a)] => bif in64 a then kv (.v (.int .u32 (toV a))) else none
  | _ => none
theorem rtoIntS_ok : NiceOk Try.prog ΓF3 400 76 rtoIntS := by
  intro R args kv r h
  unfold rtoIntS at h
  split at h
  · obtain ⟨hg, h⟩ := cond_some h
    exact ⟨_, h, rfl, rfl, rtoInt_nice _ hg⟩
  · cases h
theorem dbl_form (a : Int) :
    evF Try.prog ΓF3 400 57 [.v (.int .u64 a)] [] (fun x _ => some x) (fun _ _ => none) =
    (bif Int.tmod a 4 == 0 then some (vd a)
 else
 bif
 decide (0 ≤ Int.tmod (IntKind.wrap IntKind.u64 (Int.tdiv a 4)) 18) &&
 decide (Int.tmod (IntKind.wrap IntKind.u64 (Int.tdiv a 4)) 18 < 18) then
 some
 (Sv.v
 (Value.int IntKind.u64
 (selL (Int.tmod (IntKind.wrap IntKind.u64 (Int.tdiv a 4)) 18) 0
 [0, 9223372036854775808, 4607182418800017408, 13830554455654793216, 9218868437227405312, 18442240474082181120,
 9221120237041090561, 9218868437227405313, 18444492273895866368, 1, 9223372036854775809, 9218868437227405311,
 4746794007248502784, 13970166044105375744, 4746794007244308480, 4602678819172646912, 4613937818241073152,
 4503599627370496])))
 else none) := by kernel_rfl
theorem dbl_nice (a : Int) (hg : (in64 a) = true) :
    evF Try.prog ΓF3 400 57 [.v (.int .u64 a)] [] (fun x _ => some x) (fun _ _ => none) = some (.v (.int .u64 (dblV a))) := by
  rw [dbl_form]
  try simp only [bitsL_eq]
  unfold dblV
  simp only [in64_iff] at hg
  obtain ⟨h1, h2⟩ := dbl_ix hg.1 hg.2
  rw [decide_eq_true h1, decide_eq_true h2]
  simp only [Bool.and_self, cond_true]
  cases Int.tmod a 4 == 0 <;> rfl
def dblS : Nice := fun R args kv => match args with
  | [.v (.int .u64 a)] => bif in64 a then kv (.v (.int .u64 (dblV a))) else none
  | _ => none
theorem dblS_ok : NiceOk Try.prog ΓF3 400 57 dblS := by
  intro R args kv r h
  unfold dblS at h
  split at h
  · obtain ⟨hg, h⟩ := cond_some h
    exact ⟨_, h, rfl, rfl, dbl_nice _ hg⟩
  · cases h
def ΓF4 : Env := (((ΓF3.add 68 (pureSpec toIntS)).add 76 (pureSpec rtoIntS)).add 57 (pureSpec dblS))
theorem ΓF4_ok : EnvOk Try.prog X0 ΓF4 := (((ΓF3_ok.add (by kernel_rfl) (specOk_of_nice ΓF3_ok toIntS_ok)).add (by kernel_rfl) (specOk_of_nice ΓF3_ok rtoIntS_ok)).add (by kernel_rfl) (specOk_of_nice ΓF3_ok dblS_ok))
end Go.Proofs.Ytpgdpoloipifeaa
