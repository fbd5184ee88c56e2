/- Contracts: ones of a byte. -/
import Derived.Test.YtpgdpoloipifeaaEnv
import Derived.Test.YtpgdpoloipifeaaNArith
import Derived.Test.YtpgdpoloipifeaaEvV
namespace Go.Proofs.Ytpgdpoloipifeaa
open Go Go.Ev
set_option linter.unusedVariables false
set_option linter.unusedSimpArgs false
set_option maxRecDepth 100000
theorem ones_all : (List.range 256).all (fun j => match evF Try.prog Γ0 400 168 [.v (.int .u8 (j : Int))] [] (fun x _ => some x) (fun _ _ => none) with
    | some (.v (.int .i64 z)) => z == ones8 (j : Int)
    | _ => false) = true := by kernel_rfl
theorem ones_nice (x : Int) (hg : in8 x = true) : evF Try.prog Γ0 400 168 [.v (.int .u8 x)] [] (fun x _ => some x) (fun _ _ => none) = some (.v (.int .i64 (ones8 x))) := by
  rw [in8_iff] at hg
  obtain ⟨j, rfl⟩ := Int.eq_ofNat_of_zero_le hg.1
  have h := List.all_eq_true.1 ones_all j (List.mem_range.2 (by omega))
  split at h
  · rename_i z hz
    rw [hz, eq_of_beq h]
  · cases h
def onesS : Nice := fun R args kv => match args with
  | [.v (.int .u8 x)] => bif in8 x then kv (.v (.int .i64 (ones8 x))) else none
  | _ => none
theorem onesS_ok : NiceOk Try.prog Γ0 400 168 onesS := by
  intro R args kv r h
  unfold onesS at h
  split at h
  · obtain ⟨hg, h⟩ := cond_some h
    exact ⟨_, h, rfl, rfl, ones_nice _ hg⟩
  · cases h
def ΓAr1 : Env := (Γ0.add 168 (pureSpec onesS))
theorem ΓAr1_ok : EnvOk Try.prog X0 ΓAr1 := (Γ0_ok.add (by kernel_rfl) (specOk_of_nice Γ0_ok onesS_ok))
end Go.Proofs.Ytpgdpoloipifeaa
namespace Go.Proofs.Ytpgdpoloipifeaa
open Go Go.Ev
set_option linter.unusedVariables false
set_option linter.unusedSimpArgs false
set_option maxRecDepth 100000
theorem cut_form (v : Int) (n : Int) :
    evF Try.prog ΓAr1 400 151 [.v (.int .u32 v), .v (.int .i64 n)] [] (fun x _ => some x) (fun _ _ => none) =
    (bif decide (n ≤ 1) then some (vw ((bitsL BinOp.and IntKind.u32 v 255)))
    else
    bif decide (n ≤ 3) then some (vw ((bitsL BinOp.and IntKind.u32 v 65535)))
    else some (vw ((bitsL BinOp.and IntKind.u32 v 4294967295)))) := by kernel_rfl
theorem cut_nice (v : Int) (n : Int) (hg : (in32 v) = true) :
    evF Try.prog ΓAr1 400 151 [.v (.int .u32 v), .v (.int .i64 n)] [] (fun x _ => some x) (fun _ _ => none) = some (.v (.int .u32 (cutV v n))) := by
  rw [cut_form]
  try simp only [bitsL_eq]
  simp only [in32_iff] at hg
  obtain ⟨h0, h1⟩ := hg
  unfold cutV szM
  by_cases e1 : n ≤ 1
  · simp [e1, and_255 h0 h1]
  · by_cases e2 : n ≤ 3
    · simp [e1, e2, and_65535 h0 h1]
    · simp [e1, e2, and_all h0 h1]
def cutS : Nice := fun R args kv => match args with
  | [.v (.int .u32 v), .v (.int .i64 n)] => bif in32 v then kv (.v (.int .u32 (cutV v n))) else none
  | _ => none
theorem cutS_ok : NiceOk Try.prog ΓAr1 400 151 cutS := by
  intro R args kv r h
  unfold cutS at h
  split at h
  · obtain ⟨hg, h⟩ := cond_some h
    exact ⟨_, h, rfl, rfl, cut_nice _ _ hg⟩
  · cases h
theorem par_form (v : Int) :
    evF Try.prog ΓAr1 400 166 [.v (.int .u32 v)] [] (fun x _ => some x) (fun _ _ => none) =
    (bif in8 (IntKind.wrap IntKind.u8 v) then some (vb ((Int.tmod (ones8 (IntKind.wrap IntKind.u8 v)) 2 == 0)))
    else none) := by kernel_rfl
theorem par_nice (v : Int) (hg : (in32 v) = true) :
    evF Try.prog ΓAr1 400 166 [.v (.int .u32 v)] [] (fun x _ => some x) (fun _ _ => none) = some (.v (.bool (parV v))) := by
  rw [par_form]
  try simp only [bitsL_eq]
  simp only [in32_iff] at hg
  obtain ⟨h0, h1⟩ := hg
  have e : IntKind.wrap IntKind.u8 v = v % 256 := wr_u8 v
  have hb : in8 (v % 256) = true := in8_iff.2 (by omega)
  have ho : 0 ≤ ones8 (v % 256) := by unfold ones8; omega
  rw [e, hb, Int.tmod_eq_emod_of_nonneg ho]
  rfl
def parS : Nice := fun R args kv => match args with
  | [.v (.int .u32 v)] => bif in32 v then kv (.v (.bool (parV v))) else none
  | _ => none
theorem parS_ok : NiceOk Try.prog ΓAr1 400 166 parS := by
  intro R args kv r h
  unfold parS at h
  split at h
  · obtain ⟨hg, h⟩ := cond_some h
    exact ⟨_, h, rfl, rfl, par_nice _ hg⟩
  · cases h
theorem top_form (v : Int) (n : Int) :
    evF Try.prog ΓAr1 400 160 [.v (.int .u32 v), .v (.int .i64 n)] [] (fun x _ => some x) (fun _ _ => none) =
    (bif decide (n ≤ 1) then some (vb ((bitsL BinOp.and IntKind.u32 (Int.fdiv v 128) 1 == 1)))
    else
    bif decide (n ≤ 3) then some (vb ((bitsL BinOp.and IntKind.u32 (Int.fdiv v 32768) 1 == 1)))
    else some (vb ((bitsL BinOp.and IntKind.u32 (Int.fdiv v 2147483648) 1 == 1)))) := by kernel_rfl
theorem top_nice (v : Int) (n : Int) (hg : (in32 v) = true) :
    evF Try.prog ΓAr1 400 160 [.v (.int .u32 v), .v (.int .i64 n)] [] (fun x _ => some x) (fun _ _ => none) = some (.v (.bool (topV v n))) := by
  rw [top_form]
  try simp only [bitsL_eq]
  simp only [in32_iff] at hg
  obtain ⟨h0, h1⟩ := hg
  unfold topV szM
  by_cases e1 : n ≤ 1
  · simp only [e1, decide_true, cond_true, if_true]
    rw [Int.fdiv_eq_ediv_of_nonneg _ (by omega), and_1 (by omega) (by omega)]
    congr 3; rw [Bool.eq_iff_iff]; simp; omega
  · by_cases e2 : n ≤ 3
    · simp only [e1, e2, decide_true, decide_false, cond_true, cond_false, if_true, if_false]
      rw [Int.fdiv_eq_ediv_of_nonneg _ (by omega), and_1 (by omega) (by omega)]
      congr 3; rw [Bool.eq_iff_iff]; simp; omega
    · simp only [e1, e2, decide_false, cond_false, if_false]
      rw [Int.fdiv_eq_ediv_of_nonneg _ (by omega), and_1 (by omega) (by omega)]
      congr 3; rw [Bool.eq_iff_iff]; simp; omega
def topS : Nice := fun R args kv => match args with
  | [.v (.int .u32 v), .v (.int .i64 n)] => bif in32 v then kv (.v (.bool (topV v n))) else none
  | _ => none
theorem topS_ok : NiceOk Try.prog ΓAr1 400 160 topS := by
  intro R args kv r h
  unfold topS at h
  split at h
  · obtain ⟨hg, h⟩ := cond_some h
    exact ⟨_, h, rfl, rfl, top_nice _ _ hg⟩
  · cases h
def ΓAr2 : Env := (((ΓAr1.add 151 (pureSpec cutS)).add 166 (pureSpec parS)).add 160 (pureSpec topS))
theorem ΓAr2_ok : EnvOk Try.prog X0 ΓAr2 := (((ΓAr1_ok.add (by kernel_rfl) (specOk_of_nice ΓAr1_ok cutS_ok)).add (by kernel_rfl) (specOk_of_nice ΓAr1_ok parS_ok)).add (by kernel_rfl) (specOk_of_nice ΓAr1_ok topS_ok))
end Go.Proofs.Ytpgdpoloipifeaa
namespace Go.Proofs.Ytpgdpoloipifeaa
open Go Go.Ev
set_option linter.unusedVariables false
set_option linter.unusedSimpArgs false
set_option maxRecDepth 100000
theorem logic_form (v : Int) (n : Int) :
    evF Try.prog ΓAr2 400 158 [.v (.int .u32 v), .v (.int .i64 n)] [] (fun x _ => some x) (fun _ _ => none) =
    (bif in32 v then
    bif in32 (cutV v n) then
    bif in32 (cutV v n) then
    some
    (Sv.tup
    [vw ((cutV v n)),
    Sv.agg
    [vb false, vb ((parV (cutV v n))), vb ((cutV v n == 0)),
    vb ((topV (cutV v n) n)), vb false, vb false]])
    else none
    else none
    else none) := by kernel_rfl
theorem logic_nice (v : Int) (n : Int) (hg : (in32 v) = true) :
    evF Try.prog ΓAr2 400 158 [.v (.int .u32 v), .v (.int .i64 n)] [] (fun x _ => some x) (fun _ _ => none) = some (.tup [.v (.int .u32 (cutV v n)), .agg [.v (.bool false), .v (.bool (parV (cutV v n))), .v (.bool (cutV v n == 0)), .v (.bool (topV (cutV v n) n)), .v (.bool false), .v (.bool false)]]) := by
  rw [logic_form]
  try simp only [bitsL_eq]
  rw [hg, cutV_in]; rfl
def logicS : Nice := fun R args kv => match args with
  | [.v (.int .u32 v), .v (.int .i64 n)] => bif in32 v then kv (.tup [.v (.int .u32 (cutV v n)), .agg [.v (.bool false), .v (.bool (parV (cutV v n))), .v (.bool (cutV v n == 0)), .v (.bool (topV (cutV v n) n)), .v (.bool false), .v (.bool false)]]) else none
  | _ => none
theorem logicS_ok : NiceOk Try.prog ΓAr2 400 158 logicS := by
  intro R args kv r h
  unfold logicS at h
  split at h
  · obtain ⟨hg, h⟩ := cond_some h
    exact ⟨_, h, rfl, rfl, logic_nice _ _ hg⟩
  · cases h
theorem signed_form (v : Int) (n : Int) :
    evF Try.prog ΓAr2 400 152 [.v (.int .u32 v), .v (.int .i64 n)] [] (fun x _ => some x) (fun _ _ => none) =
    (bif decide (n ≤ 1) then
    some
    (Sv.v (Value.int IntKind.i32 (Int.fdiv (IntKind.wrap IntKind.i32 (IntKind.wrap IntKind.u32 (v * 16777216))) 16777216)))
    else
    bif decide (n ≤ 3) then
    some (Sv.v (Value.int IntKind.i32 (Int.fdiv (IntKind.wrap IntKind.i32 (IntKind.wrap IntKind.u32 (v * 65536))) 65536)))
    else some (Sv.v (Value.int IntKind.i32 (Int.fdiv (IntKind.wrap IntKind.i32 (IntKind.wrap IntKind.u32 (v * 1))) 1)))) := by kernel_rfl
theorem signed_nice (v : Int) (n : Int) (hg : (in32 v) = true) :
    evF Try.prog ΓAr2 400 152 [.v (.int .u32 v), .v (.int .i64 n)] [] (fun x _ => some x) (fun _ _ => none) = some (.v (.int .i32 (sgnV v n))) := by
  rw [signed_form]
  try simp only [bitsL_eq]
  simp only [in32_iff] at hg
  obtain ⟨h0, h1⟩ := hg
  rcases szM_cases n with ⟨e1, h, _⟩ | ⟨e1, e2, h, _⟩ | ⟨e1, e2, h, _⟩
  · rw [sgnV_sh8 h0 h1 h]; simp [e1]
  · rw [sgnV_sh16 h0 h1 h]; simp [e1, e2]
  · rw [sgnV_sh32 h0 h1 h]; simp [e1, e2]
def signedS : Nice := fun R args kv => match args with
  | [.v (.int .u32 v), .v (.int .i64 n)] => bif in32 v then kv (.v (.int .i32 (sgnV v n))) else none
  | _ => none
theorem signedS_ok : NiceOk Try.prog ΓAr2 400 152 signedS := by
  intro R args kv r h
  unfold signedS at h
  split at h
  · obtain ⟨hg, h⟩ := cond_some h
    exact ⟨_, h, rfl, rfl, signed_nice _ _ hg⟩
  · cases h
theorem one_form (c : Bool) :
    evF Try.prog ΓAr2 400 159 [.v (.bool c)] [] (fun x _ => some x) (fun _ _ => none) =
    (bif c then some (vd 1) else some (vd 0)) := by kernel_rfl
theorem one_nice (c : Bool) (hg : (true) = true) :
    evF Try.prog ΓAr2 400 159 [.v (.bool c)] [] (fun x _ => some x) (fun _ _ => none) = some (.v (.int .u64 (b2i c))) := by
  rw [one_form]
  try simp only [bitsL_eq]
  cases c <;> rfl
def oneS : Nice := fun R args kv => match args with
  | [.v (.bool c)] => bif true then kv (.v (.int .u64 (b2i c))) else none
  | _ => none
theorem oneS_ok : NiceOk Try.prog ΓAr2 400 159 oneS := by
  intro R args kv r h
  unfold oneS at h
  split at h
  · obtain ⟨hg, h⟩ := cond_some h
    exact ⟨_, h, rfl, rfl, one_nice _ hg⟩
  · cases h
def ΓAr3 : Env := (((ΓAr2.add 158 (pureSpec logicS)).add 152 (pureSpec signedS)).add 159 (pureSpec oneS))
theorem ΓAr3_ok : EnvOk Try.prog X0 ΓAr3 := (((ΓAr2_ok.add (by kernel_rfl) (specOk_of_nice ΓAr2_ok logicS_ok)).add (by kernel_rfl) (specOk_of_nice ΓAr2_ok signedS_ok)).add (by kernel_rfl) (specOk_of_nice ΓAr2_ok oneS_ok))
end Go.Proofs.Ytpgdpoloipifeaa
namespace Go.Proofs.Ytpgdpoloipifeaa
open Go Go.Ev
set_option linter.unusedVariables false
set_option linter.unusedSimpArgs false
set_option maxRecDepth 100000
theorem sum_form (a : Int) (b : Int) (n : Int) (c : Bool) :
    evF Try.prog ΓAr3 400 157 [.v (.int .u32 a), .v (.int .u32 b), .v (.int .i64 n), .v (.bool c)] [] (fun x _ => some x) (fun _ _ => none) =
    (bif in32 a then
    bif in32 b then
    bif
    in32
    (IntKind.wrap IntKind.u32
    (IntKind.wrap IntKind.u64
    (IntKind.wrap IntKind.u64 (IntKind.wrap IntKind.u64 (cutV a n) + IntKind.wrap IntKind.u64 (cutV b n)) + b2i c))) then
    bif decide (n ≤ 1) then
    bif
    in32
    (bitsL BinOp.and IntKind.u32
    (bitsL BinOp.xor IntKind.u32 (cutV a n)
    (cutV
    (IntKind.wrap IntKind.u32
    (IntKind.wrap IntKind.u64
    (IntKind.wrap IntKind.u64 (IntKind.wrap IntKind.u64 (cutV a n) + IntKind.wrap IntKind.u64 (cutV b n)) + b2i c)))
    n))
    (bitsL BinOp.xor IntKind.u32 (cutV b n)
    (cutV
    (IntKind.wrap IntKind.u32
    (IntKind.wrap IntKind.u64
    (IntKind.wrap IntKind.u64 (IntKind.wrap IntKind.u64 (cutV a n) + IntKind.wrap IntKind.u64 (cutV b n)) + b2i c)))
    n))) then
    some
    (Sv.tup
    [Sv.v
    (Value.int IntKind.u32
    (cutV
    (IntKind.wrap IntKind.u32
    (IntKind.wrap IntKind.u64
    (IntKind.wrap IntKind.u64 (IntKind.wrap IntKind.u64 (cutV a n) + IntKind.wrap IntKind.u64 (cutV b n)) + b2i c)))
    n)),
    Sv.agg
    [Sv.v
    (Value.bool
    (Int.fdiv
    (IntKind.wrap IntKind.u64
    (IntKind.wrap IntKind.u64 (IntKind.wrap IntKind.u64 (cutV a n) + IntKind.wrap IntKind.u64 (cutV b n)) + b2i c))
    256 !=
    0)),
    Sv.v
    (Value.bool
    (parV
    (cutV
    (IntKind.wrap IntKind.u32
    (IntKind.wrap IntKind.u64
    (IntKind.wrap IntKind.u64 (IntKind.wrap IntKind.u64 (cutV a n) + IntKind.wrap IntKind.u64 (cutV b n)) + b2i c)))
    n))),
    Sv.v
    (Value.bool
    (cutV
    (IntKind.wrap IntKind.u32
    (IntKind.wrap IntKind.u64
    (IntKind.wrap IntKind.u64 (IntKind.wrap IntKind.u64 (cutV a n) + IntKind.wrap IntKind.u64 (cutV b n)) + b2i c)))
    n ==
    0)),
    Sv.v
    (Value.bool
    (topV
    (cutV
    (IntKind.wrap IntKind.u32
    (IntKind.wrap IntKind.u64
    (IntKind.wrap IntKind.u64 (IntKind.wrap IntKind.u64 (cutV a n) + IntKind.wrap IntKind.u64 (cutV b n)) + b2i c)))
    n)
    n)),
    Sv.v
    (Value.bool
    (topV
    (bitsL BinOp.and IntKind.u32
    (bitsL BinOp.xor IntKind.u32 (cutV a n)
    (cutV
    (IntKind.wrap IntKind.u32
    (IntKind.wrap IntKind.u64
    (IntKind.wrap IntKind.u64 (IntKind.wrap IntKind.u64 (cutV a n) + IntKind.wrap IntKind.u64 (cutV b n)) + b2i c)))
    n))
    (bitsL BinOp.xor IntKind.u32 (cutV b n)
    (cutV
    (IntKind.wrap IntKind.u32
    (IntKind.wrap IntKind.u64
    (IntKind.wrap IntKind.u64 (IntKind.wrap IntKind.u64 (cutV a n) + IntKind.wrap IntKind.u64 (cutV b n)) + b2i c)))
    n)))
    n)),
    vb false]])
    else none
    else
    bif decide (n ≤ 3) then
    bif
    in32
    (bitsL BinOp.and IntKind.u32
    (bitsL BinOp.xor IntKind.u32 (cutV a n)
    (cutV
    (IntKind.wrap IntKind.u32
    (IntKind.wrap IntKind.u64
    (IntKind.wrap IntKind.u64 (IntKind.wrap IntKind.u64 (cutV a n) + IntKind.wrap IntKind.u64 (cutV b n)) + b2i c)))
    n))
    (bitsL BinOp.xor IntKind.u32 (cutV b n)
    (cutV
    (IntKind.wrap IntKind.u32
    (IntKind.wrap IntKind.u64
    (IntKind.wrap IntKind.u64 (IntKind.wrap IntKind.u64 (cutV a n) + IntKind.wrap IntKind.u64 (cutV b n)) + b2i c)))
    n))) then
    some
    (Sv.tup
    [Sv.v
    (Value.int IntKind.u32
    (cutV
    (IntKind.wrap IntKind.u32
    (IntKind.wrap IntKind.u64
    (IntKind.wrap IntKind.u64 (IntKind.wrap IntKind.u64 (cutV a n) + IntKind.wrap IntKind.u64 (cutV b n)) + b2i c)))
    n)),
    Sv.agg
    [Sv.v
    (Value.bool
    (Int.fdiv
    (IntKind.wrap IntKind.u64
    (IntKind.wrap IntKind.u64 (IntKind.wrap IntKind.u64 (cutV a n) + IntKind.wrap IntKind.u64 (cutV b n)) + b2i c))
    65536 !=
    0)),
    Sv.v
    (Value.bool
    (parV
    (cutV
    (IntKind.wrap IntKind.u32
    (IntKind.wrap IntKind.u64
    (IntKind.wrap IntKind.u64 (IntKind.wrap IntKind.u64 (cutV a n) + IntKind.wrap IntKind.u64 (cutV b n)) + b2i c)))
    n))),
    Sv.v
    (Value.bool
    (cutV
    (IntKind.wrap IntKind.u32
    (IntKind.wrap IntKind.u64
    (IntKind.wrap IntKind.u64 (IntKind.wrap IntKind.u64 (cutV a n) + IntKind.wrap IntKind.u64 (cutV b n)) + b2i c)))
    n ==
    0)),
    Sv.v
    (Value.bool
    (topV
    (cutV
    (IntKind.wrap IntKind.u32
    (IntKind.wrap IntKind.u64
    (IntKind.wrap IntKind.u64 (IntKind.wrap IntKind.u64 (cutV a n) + IntKind.wrap IntKind.u64 (cutV b n)) + b2i c)))
    n)
    n)),
    Sv.v
    (Value.bool
    (topV
    (bitsL BinOp.and IntKind.u32
    (bitsL BinOp.xor IntKind.u32 (cutV a n)
    (cutV
    (IntKind.wrap IntKind.u32
    (IntKind.wrap IntKind.u64
    (IntKind.wrap IntKind.u64 (IntKind.wrap IntKind.u64 (cutV a n) + IntKind.wrap IntKind.u64 (cutV b n)) + b2i c)))
    n))
    (bitsL BinOp.xor IntKind.u32 (cutV b n)
    (cutV
    (IntKind.wrap IntKind.u32
    (IntKind.wrap IntKind.u64
    (IntKind.wrap IntKind.u64 (IntKind.wrap IntKind.u64 (cutV a n) + IntKind.wrap IntKind.u64 (cutV b n)) + b2i c)))
    n)))
    n)),
    vb false]])
    else none
    else
    bif
    in32
    (bitsL BinOp.and IntKind.u32
    (bitsL BinOp.xor IntKind.u32 (cutV a n)
    (cutV
    (IntKind.wrap IntKind.u32
    (IntKind.wrap IntKind.u64
    (IntKind.wrap IntKind.u64 (IntKind.wrap IntKind.u64 (cutV a n) + IntKind.wrap IntKind.u64 (cutV b n)) + b2i c)))
    n))
    (bitsL BinOp.xor IntKind.u32 (cutV b n)
    (cutV
    (IntKind.wrap IntKind.u32
    (IntKind.wrap IntKind.u64
    (IntKind.wrap IntKind.u64 (IntKind.wrap IntKind.u64 (cutV a n) + IntKind.wrap IntKind.u64 (cutV b n)) + b2i c)))
    n))) then
    some
    (Sv.tup
    [Sv.v
    (Value.int IntKind.u32
    (cutV
    (IntKind.wrap IntKind.u32
    (IntKind.wrap IntKind.u64
    (IntKind.wrap IntKind.u64 (IntKind.wrap IntKind.u64 (cutV a n) + IntKind.wrap IntKind.u64 (cutV b n)) + b2i c)))
    n)),
    Sv.agg
    [Sv.v
    (Value.bool
    (Int.fdiv
    (IntKind.wrap IntKind.u64
    (IntKind.wrap IntKind.u64 (IntKind.wrap IntKind.u64 (cutV a n) + IntKind.wrap IntKind.u64 (cutV b n)) + b2i c))
    4294967296 !=
    0)),
    Sv.v
    (Value.bool
    (parV
    (cutV
    (IntKind.wrap IntKind.u32
    (IntKind.wrap IntKind.u64
    (IntKind.wrap IntKind.u64 (IntKind.wrap IntKind.u64 (cutV a n) + IntKind.wrap IntKind.u64 (cutV b n)) + b2i c)))
    n))),
    Sv.v
    (Value.bool
    (cutV
    (IntKind.wrap IntKind.u32
    (IntKind.wrap IntKind.u64
    (IntKind.wrap IntKind.u64 (IntKind.wrap IntKind.u64 (cutV a n) + IntKind.wrap IntKind.u64 (cutV b n)) + b2i c)))
    n ==
    0)),
    Sv.v
    (Value.bool
    (topV
    (cutV
    (IntKind.wrap IntKind.u32
    (IntKind.wrap IntKind.u64
    (IntKind.wrap IntKind.u64 (IntKind.wrap IntKind.u64 (cutV a n) + IntKind.wrap IntKind.u64 (cutV b n)) + b2i c)))
    n)
    n)),
    Sv.v
    (Value.bool
    (topV
    (bitsL BinOp.and IntKind.u32
    (bitsL BinOp.xor IntKind.u32 (cutV a n)
    (cutV
    (IntKind.wrap IntKind.u32
    (IntKind.wrap IntKind.u64
    (IntKind.wrap IntKind.u64 (IntKind.wrap IntKind.u64 (cutV a n) + IntKind.wrap IntKind.u64 (cutV b n)) + b2i c)))
    n))
    (bitsL BinOp.xor IntKind.u32 (cutV b n)
    (cutV
    (IntKind.wrap IntKind.u32
    (IntKind.wrap IntKind.u64
    (IntKind.wrap IntKind.u64 (IntKind.wrap IntKind.u64 (cutV a n) + IntKind.wrap IntKind.u64 (cutV b n)) + b2i c)))
    n)))
    n)),
    vb false]])
    else none
    else none
    else none
    else none) := by kernel_rfl
theorem sum_nice (a : Int) (b : Int) (n : Int) (c : Bool) (hg : (in32 a && (in32 b)) = true) :
    evF Try.prog ΓAr3 400 157 [.v (.int .u32 a), .v (.int .u32 b), .v (.int .i64 n), .v (.bool c)] [] (fun x _ => some x) (fun _ _ => none) = some (.tup [.v (.int .u32 (addV a b n c)), .agg [.v (.bool (decide (szM n ≤ addS a b n c))), .v (.bool (parV (addV a b n c))), .v (.bool (addV a b n c == 0)), .v (.bool (topV (addV a b n c) n)), .v (.bool (addO a b n c)), .v (.bool false)]]) := by
  rw [sum_form]
  try simp only [bitsL_eq]
  rw [Bool.and_eq_true] at hg
  obtain ⟨g0, g1⟩ := hg
  have hv := addV_bd a b n c
  have e : addS a b n c % szM n = addV a b n c := rfl
  have hi := xa_in (cut_bd a n) hv (cut_bd b n) hv
  simp only [g0, g1, add_sum, in32_wr, cut_wrap, e, cond_true, hi, add_over]
  rcases szM_cases n with ⟨e1, h, _⟩ | ⟨e1, e2, h, _⟩ | ⟨e1, e2, h, _⟩
  · simp only [e1, decide_true, cond_true, carry8 h]
  · simp only [e1, e2, decide_true, decide_false, cond_true, cond_false, carry16 h]
  · simp only [e1, e2, decide_false, cond_false, carry32 h]
def sumS : Nice := fun R args kv => match args with
  | [.v (.int .u32 a), .v (.int .u32 b), .v (.int .i64 n), .v (.bool c)] => bif in32 a && (in32 b) then kv (.tup [.v (.int .u32 (addV a b n c)), .agg [.v (.bool (decide (szM n ≤ addS a b n c))), .v (.bool (parV (addV a b n c))), .v (.bool (addV a b n c == 0)), .v (.bool (topV (addV a b n c) n)), .v (.bool (addO a b n c)), .v (.bool false)]]) else none
  | _ => none
theorem sumS_ok : NiceOk Try.prog ΓAr3 400 157 sumS := by
  intro R args kv r h
  unfold sumS at h
  split at h
  · obtain ⟨hg, h⟩ := cond_some h
    exact ⟨_, h, rfl, rfl, sum_nice _ _ _ _ hg⟩
  · cases h
theorem dif_form (a : Int) (b : Int) (n : Int) (c : Bool) :
    evF Try.prog ΓAr3 400 144 [.v (.int .u32 a), .v (.int .u32 b), .v (.int .i64 n), .v (.bool c)] [] (fun x _ => some x) (fun _ _ => none) =
    (bif in32 a then
    bif in32 b then
    bif
    in32 (IntKind.wrap IntKind.u32 (IntKind.wrap IntKind.u32 (cutV a n - cutV b n) - IntKind.wrap IntKind.u32 (b2i c))) then
    bif
    in32
    (bitsL BinOp.and IntKind.u32 (bitsL BinOp.xor IntKind.u32 (cutV a n) (cutV b n))
    (bitsL BinOp.xor IntKind.u32 (cutV a n)
    (cutV (IntKind.wrap IntKind.u32 (IntKind.wrap IntKind.u32 (cutV a n - cutV b n) - IntKind.wrap IntKind.u32 (b2i c)))
    n))) then
    some
    (Sv.tup
    [Sv.v
    (Value.int IntKind.u32
    (cutV (IntKind.wrap IntKind.u32 (IntKind.wrap IntKind.u32 (cutV a n - cutV b n) - IntKind.wrap IntKind.u32 (b2i c)))
    n)),
    Sv.agg
    [Sv.v
    (Value.bool
    (decide
    (IntKind.wrap IntKind.u64 (cutV a n) < IntKind.wrap IntKind.u64 (IntKind.wrap IntKind.u64 (cutV b n) + b2i c)))),
    Sv.v
    (Value.bool
    (parV
    (cutV (IntKind.wrap IntKind.u32 (IntKind.wrap IntKind.u32 (cutV a n - cutV b n) - IntKind.wrap IntKind.u32 (b2i c)))
    n))),
    Sv.v
    (Value.bool
    (cutV (IntKind.wrap IntKind.u32 (IntKind.wrap IntKind.u32 (cutV a n - cutV b n) - IntKind.wrap IntKind.u32 (b2i c)))
    n ==
    0)),
    Sv.v
    (Value.bool
    (topV
    (cutV (IntKind.wrap IntKind.u32 (IntKind.wrap IntKind.u32 (cutV a n - cutV b n) - IntKind.wrap IntKind.u32 (b2i c))) n)
    n)),
    Sv.v
    (Value.bool
    (topV
    (bitsL BinOp.and IntKind.u32 (bitsL BinOp.xor IntKind.u32 (cutV a n) (cutV b n))
    (bitsL BinOp.xor IntKind.u32 (cutV a n)
    (cutV (IntKind.wrap IntKind.u32 (IntKind.wrap IntKind.u32 (cutV a n - cutV b n) - IntKind.wrap IntKind.u32 (b2i c)))
    n)))
    n)),
    vb false]])
    else none
    else none
    else none
    else none) := by kernel_rfl
theorem dif_nice (a : Int) (b : Int) (n : Int) (c : Bool) (hg : (in32 a && (in32 b)) = true) :
    evF Try.prog ΓAr3 400 144 [.v (.int .u32 a), .v (.int .u32 b), .v (.int .i64 n), .v (.bool c)] [] (fun x _ => some x) (fun _ _ => none) = some (.tup [.v (.int .u32 (subV a b n c)), .agg [.v (.bool (decide (subS a b n c < 0))), .v (.bool (parV (subV a b n c))), .v (.bool (subV a b n c == 0)), .v (.bool (topV (subV a b n c) n)), .v (.bool (subO a b n c)), .v (.bool false)]]) := by
  rw [dif_form]
  try simp only [bitsL_eq]
  rw [Bool.and_eq_true] at hg
  obtain ⟨g0, g1⟩ := hg
  have hv := subV_bd a b n c
  have hi := xa_in (cut_bd a n) (cut_bd b n) (cut_bd a n) hv
  simp only [g0, g1, sub_dif, sub_less, in32_wr, cond_true, hi, sub_over]
def difS : Nice := fun R args kv => match args with
  | [.v (.int .u32 a), .v (.int .u32 b), .v (.int .i64 n), .v (.bool c)] => bif in32 a && (in32 b) then kv (.tup [.v (.int .u32 (subV a b n c)), .agg [.v (.bool (decide (subS a b n c < 0))), .v (.bool (parV (subV a b n c))), .v (.bool (subV a b n c == 0)), .v (.bool (topV (subV a b n c) n)), .v (.bool (subO a b n c)), .v (.bool false)]]) else none
  | _ => none
theorem difS_ok : NiceOk Try.prog ΓAr3 400 144 difS := by
  intro R args kv r h
  unfold difS at h
  split at h
  · obtain ⟨hg, h⟩ := cond_some h
    exact ⟨_, h, rfl, rfl, dif_nice _ _ _ _ hg⟩
  · cases h
def ΓAr4 : Env := ((ΓAr3.add 157 (pureSpec sumS)).add 144 (pureSpec difS))
theorem ΓAr4_ok : EnvOk Try.prog X0 ΓAr4 := ((ΓAr3_ok.add (by kernel_rfl) (specOk_of_nice ΓAr3_ok sumS_ok)).add (by kernel_rfl) (specOk_of_nice ΓAr3_ok difS_ok))
end Go.Proofs.Ytpgdpoloipifeaa
namespace Go.Proofs.Ytpgdpoloipifeaa
open Go Go.Ev
set_option linter.unusedVariables false
set_option linter.unusedSimpArgs false
set_option maxRecDepth 100000
def ΓAr5 : Env := ΓAr4
theorem ΓAr5_ok : EnvOk Try.prog X0 ΓAr5 := ΓAr4_ok
end Go.Proofs.Ytpgdpoloipifeaa
namespace Go.Proofs.Ytpgdpoloipifeaa
open Go Go.Ev
set_option linter.unusedVariables false
set_option linter.unusedSimpArgs false
set_option maxRecDepth 100000
theorem step_form (f_0 : Bool) (f_1 : Bool) (f_2 : Bool) (f_3 : Bool) (f_4 : Bool) (f_5 : Bool) (v : Int) (n : Int) (by_ : Int) :
    evF Try.prog ΓAr5 400 145 [.agg [.v (.bool f_0), .v (.bool f_1), .v (.bool f_2), .v (.bool f_3), .v (.bool f_4), .v (.bool f_5)], .v (.int .u32 v), .v (.int .i64 n), .v (.int .i64 by_)] [] (fun x _ => some x) (fun _ _ => none) =
    (bif decide (by_ > 0) then
    bif in32 v && true then
    some
    (Sv.tup
    [vw ((addV v 1 n false)),
    Sv.agg
    [vb f_0, vb ((parV (addV v 1 n false))), vb ((addV v 1 n false == 0)),
    vb ((topV (addV v 1 n false) n)), vb ((addO v 1 n false)), vb f_5]])
    else none
    else
    bif in32 v && true then
    some
    (Sv.tup
    [vw ((subV v 1 n false)),
    Sv.agg
    [vb f_0, vb ((parV (subV v 1 n false))), vb ((subV v 1 n false == 0)),
    vb ((topV (subV v 1 n false) n)), vb ((subO v 1 n false)), vb f_5]])
    else none) := by kernel_rfl
theorem step_nice (f_0 : Bool) (f_1 : Bool) (f_2 : Bool) (f_3 : Bool) (f_4 : Bool) (f_5 : Bool) (v : Int) (n : Int) (by_ : Int) (hg : (in32 v) = true) :
    evF Try.prog ΓAr5 400 145 [.agg [.v (.bool f_0), .v (.bool f_1), .v (.bool f_2), .v (.bool f_3), .v (.bool f_4), .v (.bool f_5)], .v (.int .u32 v), .v (.int .i64 n), .v (.int .i64 by_)] [] (fun x _ => some x) (fun _ _ => none) = some (.tup [.v (.int .u32 (stepV v n by_)), .agg [.v (.bool f_0), .v (.bool (parV (stepV v n by_))), .v (.bool (stepV v n by_ == 0)), .v (.bool (topV (stepV v n by_) n)), .v (.bool (stepO v n by_)), .v (.bool f_5)]]) := by
  rw [step_form]
  try simp only [bitsL_eq]
  unfold stepV stepO
  by_cases h : by_ > 0
  · have h' : 0 < by_ := h
    simp [hg, h']
  · have h' : ¬ 0 < by_ := h
    simp [hg, h']
def stepS : Nice := fun R args kv => match args with
  | [.agg [.v (.bool f_0), .v (.bool f_1), .v (.bool f_2), .v (.bool f_3), .v (.bool f_4), .v (.bool f_5)], .v (.int .u32 v), .v (.int .i64 n), .v (.int .i64 by_)] => bif in32 v then kv (.tup [.v (.int .u32 (stepV v n by_)), .agg [.v (.bool f_0), .v (.bool (parV (stepV v n by_))), .v (.bool (stepV v n by_ == 0)), .v (.bool (topV (stepV v n by_) n)), .v (.bool (stepO v n by_)), .v (.bool f_5)]]) else none
  | _ => none
theorem stepS_ok : NiceOk Try.prog ΓAr5 400 145 stepS := by
  intro R args kv r h
  unfold stepS at h
  split at h
  · obtain ⟨hg, h⟩ := cond_some h
    exact ⟨_, h, rfl, rfl, step_nice _ _ _ _ _ _ _ _ _ hg⟩
  · cases h
def ΓAr6 : Env := (ΓAr5.add 145 (pureSpec stepS))
theorem ΓAr6_ok : EnvOk Try.prog X0 ΓAr6 := (ΓAr5_ok.add (by kernel_rfl) (specOk_of_nice ΓAr5_ok stepS_ok))
end Go.Proofs.Ytpgdpoloipifeaa
