/- Contracts: bytes of a number. -/
import Derived.Test.YtogfgmiofkgomaaCAr1
namespace Go.Proofs.Ytogfgmiofkgomaa
open Go Go.Ev
set_option linter.unusedVariables false
set_option linter.unusedSimpArgs false
set_option maxRecDepth 100000
theorem cut_form (v : Int) (n : Int) :
    evF Try.prog ΓAr1 400 23 [.v (.int .u32 v), .v (.int .i64 n)] [] (fun x _ => some x) (fun _ _ => none) =
    (bif decide (n ≤ 1) then some (Sv.v (Value.int IntKind.u32 (bitsL BinOp.and IntKind.u32 v 255)))
    else
    bif decide (n ≤ 3) then some (Sv.v (Value.int IntKind.u32 (bitsL BinOp.and IntKind.u32 v 65535)))
    else some (Sv.v (Value.int IntKind.u32 (bitsL BinOp.and IntKind.u32 v 4294967295)))) := by kernel_rfl
theorem cut_nice (v : Int) (n : Int) (hg : (in32 v) = true) :
    evF Try.prog ΓAr1 400 23 [.v (.int .u32 v), .v (.int .i64 n)] [] (fun x _ => some x) (fun _ _ => none) = some (.v (.int .u32 (cutV v n))) := by
  rw [cut_form]
  try simp only [bitsL_eq]
  simp only [in32_iff] at hg
  obtain ⟨h0, h1⟩ := hg
  unfold cutV szM
  by_cases e1 : n ≤ 1
  · simp [e1, and_255 h0 h1]
  · by_cases e2 : n ≤ 3
    · simp [e1, e2, and_65535 h0 h1]
    · simp [e1, e2, and_all h0 h1]
def cutS : Nice := fun R args kv => match args with
  | [.v (.int .u32 v), .v (.int .i64 n)] => bif in32 v then kv (.v (.int .u32 (cutV v n))) else none
  | _ => none
theorem cutS_ok : NiceOk Try.prog ΓAr1 400 23 cutS := by
  intro R args kv r h
  unfold cutS at h
  split at h
  · obtain ⟨hg, h⟩ := cond_some h
    exact ⟨_, h, rfl, rfl, cut_nice _ _ hg⟩
  · cases h
theorem rcut_form (v : Int) (n : Int) :
    evF Try.prog ΓAr1 400 24 [.v (.int .u32 v), .v (.int .i64 n)] [] (fun x _ => some x) (fun _ _ => none) =
    (bif decide (n ≤ 1) then some (Sv.v (Value.int IntKind.u32 (bitsL BinOp.and IntKind.u32 v 255)))
    else
    bif decide (n ≤ 3) then some (Sv.v (Value.int IntKind.u32 (bitsL BinOp.and IntKind.u32 v 65535)))
    else some (Sv.v (Value.int IntKind.u32 (bitsL BinOp.and IntKind.u32 v 4294967295)))) := by kernel_rfl
theorem rcut_nice (v : Int) (n : Int) (hg : (in32 v) = true) :
    evF Try.prog ΓAr1 400 24 [.v (.int .u32 v), .v (.int .i64 n)] [] (fun x _ => some x) (fun _ _ => none) = some (.v (.int .u32 (cutV v n))) := by
  rw [rcut_form]
  try simp only [bitsL_eq]
  simp only [in32_iff] at hg
  obtain ⟨h0, h1⟩ := hg
  unfold cutV szM
  by_cases e1 : n ≤ 1
  · simp [e1, and_255 h0 h1]
  · by_cases e2 : n ≤ 3
    · simp [e1, e2, and_65535 h0 h1]
    · simp [e1, e2, and_all h0 h1]
def rcutS : Nice := fun R args kv => match args with
  | [.v (.int .u32 v), .v (.int .i64 n)] => bif in32 v then kv (.v (.int .u32 (cutV v n))) else none
  | _ => none
theorem rcutS_ok : NiceOk Try.prog ΓAr1 400 24 rcutS := by
  intro R args kv r h
  unfold rcutS at h
  split at h
  · obtain ⟨hg, h⟩ := cond_some h
    exact ⟨_, h, rfl, rfl, rcut_nice _ _ hg⟩
  · cases h
theorem par_form (v : Int) :
    evF Try.prog ΓAr1 400 27 [.v (.int .u32 v)] [] (fun x _ => some x) (fun _ _ => none) =
    (bif in8 (IntKind.wrap IntKind.u8 v) then some (Sv.v (Value.bool (Int.tmod (ones8 (IntKind.wrap IntKind.u8 v)) 2 == 0)))
    else none) := by kernel_rfl
theorem par_nice (v : Int) (hg : (in32 v) = true) :
    evF Try.prog ΓAr1 400 27 [.v (.int .u32 v)] [] (fun x _ => some x) (fun _ _ => none) = some (.v (.bool (parV v))) := by
  rw [par_form]
  try simp only [bitsL_eq]
  simp only [in32_iff] at hg
  obtain ⟨h0, h1⟩ := hg
  have e : IntKind.wrap IntKind.u8 v = v % 256 := wr_u8 v
  have hb : in8 (v % 256) = true := in8_iff.2 (by omega)
  have ho : 0 ≤ ones8 (v % 256) := by unfold ones8; omega
  rw [e, hb, Int.tmod_eq_emod_of_nonneg ho]
  rfl
def parS : Nice := fun R args kv => match args with
  | [.v (.int .u32 v)] => bif in32 v then kv (.v (.bool (parV v))) else none
  | _ => none
theorem parS_ok : NiceOk Try.prog ΓAr1 400 27 parS := by
  intro R args kv r h
  unfold parS at h
  split at h
  · obtain ⟨hg, h⟩ := cond_some h
    exact ⟨_, h, rfl, rfl, par_nice _ hg⟩
  · cases h
theorem rpar_form (v : Int) :
    evF Try.prog ΓAr1 400 28 [.v (.int .u32 v)] [] (fun x _ => some x) (fun _ _ => none) =
    (some
    (Sv.v
    (Value.bool
    (Int.tmod
    (IntKind.wrap IntKind.i64
    (IntKind.wrap IntKind.i64
    (IntKind.wrap IntKind.i64
    (IntKind.wrap IntKind.i64
    (IntKind.wrap IntKind.i64
    (IntKind.wrap IntKind.i64
    (IntKind.wrap IntKind.i64
    (IntKind.wrap IntKind.i64 (0 + IntKind.wrap IntKind.i64 (bitsL BinOp.and IntKind.u32 (Int.fdiv v 1) 1)) +
    IntKind.wrap IntKind.i64 (bitsL BinOp.and IntKind.u32 (Int.fdiv v 2) 1)) +
    IntKind.wrap IntKind.i64 (bitsL BinOp.and IntKind.u32 (Int.fdiv v 4) 1)) +
    IntKind.wrap IntKind.i64 (bitsL BinOp.and IntKind.u32 (Int.fdiv v 8) 1)) +
    IntKind.wrap IntKind.i64 (bitsL BinOp.and IntKind.u32 (Int.fdiv v 16) 1)) +
    IntKind.wrap IntKind.i64 (bitsL BinOp.and IntKind.u32 (Int.fdiv v 32) 1)) +
    IntKind.wrap IntKind.i64 (bitsL BinOp.and IntKind.u32 (Int.fdiv v 64) 1)) +
    IntKind.wrap IntKind.i64 (bitsL BinOp.and IntKind.u32 (Int.fdiv v 128) 1)))
    2 ==
    0)))) := by kernel_rfl
theorem rpar_nice (v : Int) (hg : (in32 v) = true) :
    evF Try.prog ΓAr1 400 28 [.v (.int .u32 v)] [] (fun x _ => some x) (fun _ _ => none) = some (.v (.bool (parV v))) := by
  rw [rpar_form]
  try simp only [bitsL_eq]
  simp only [in32_iff] at hg
  obtain ⟨h0, h1⟩ := hg
  have e : ∀ k : Nat, bits BinOp.and IntKind.u32 (Int.fdiv v (2 ^ k)) 1 = v / 2 ^ k % 2 := fun k => by
    have hp : (0 : Int) < 2 ^ k := Int.pow_pos (by decide)
    have hd : 0 ≤ v / 2 ^ k := Int.ediv_nonneg h0 (by omega)
    have hl : v / 2 ^ k ≤ v := Int.ediv_le_self _ h0
    rw [fdiv_pow, and_1 hd (by omega)]
  have e0 := e 0; have e1 := e 1; have e2 := e 2; have e3 := e 3; have e4 := e 4; have e5 := e 5; have e6 := e 6; have e7 := e 7
  simp only [Int.reducePow, Nat.reducePow] at e0 e1 e2 e3 e4 e5 e6 e7
  simp only [e0, e1, e2, e3, e4, e5, e6, e7]
  have f0 : v % 256 % 2 = v / 1 % 2 := by omega
  have f1 : v % 256 / 2 % 2 = v / 2 % 2 := by omega
  have f2 : v % 256 / 4 % 2 = v / 4 % 2 := by omega
  have f3 : v % 256 / 8 % 2 = v / 8 % 2 := by omega
  have f4 : v % 256 / 16 % 2 = v / 16 % 2 := by omega
  have f5 : v % 256 / 32 % 2 = v / 32 % 2 := by omega
  have f6 : v % 256 / 64 % 2 = v / 64 % 2 := by omega
  have f7 : v % 256 / 128 % 2 = v / 128 % 2 := by omega
  unfold parV ones8
  rw [f0, f1, f2, f3, f4, f5, f6, f7]
  have bd : ∀ y : Int, 0 ≤ y % 2 ∧ y % 2 < 2 := fun y => by omega
  have d0 := bd (v / 1); have d1 := bd (v / 2); have d2 := bd (v / 4); have d3 := bd (v / 8); have d4 := bd (v / 16); have d5 := bd (v / 32); have d6 := bd (v / 64); have d7 := bd (v / 128)
  generalize v / 1 % 2 = x0 at *
  generalize v / 2 % 2 = x1 at *
  generalize v / 4 % 2 = x2 at *
  generalize v / 8 % 2 = x3 at *
  generalize v / 16 % 2 = x4 at *
  generalize v / 32 % 2 = x5 at *
  generalize v / 64 % 2 = x6 at *
  generalize v / 128 % 2 = x7 at *
  clear e e0 e1 e2 e3 e4 e5 e6 e7 f0 f1 f2 f3 f4 f5 f6 f7 bd h0 h1
  have w : ∀ x : Int, 0 ≤ x → x ≤ 100 → IntKind.wrap IntKind.i64 x = x := fun x a b => wr_i64_id (by omega) (by omega)
  rw [w x0 (by omega) (by omega), w x1 (by omega) (by omega), w x2 (by omega) (by omega), w x3 (by omega) (by omega), w x4 (by omega) (by omega), w x5 (by omega) (by omega), w x6 (by omega) (by omega), w x7 (by omega) (by omega), w (0 + x0) (by omega) (by omega), w (0 + x0 + x1) (by omega) (by omega), w (0 + x0 + x1 + x2) (by omega) (by omega), w (0 + x0 + x1 + x2 + x3) (by omega) (by omega), w (0 + x0 + x1 + x2 + x3 + x4) (by omega) (by omega), w (0 + x0 + x1 + x2 + x3 + x4 + x5) (by omega) (by omega), w (0 + x0 + x1 + x2 + x3 + x4 + x5 + x6) (by omega) (by omega), w (0 + x0 + x1 + x2 + x3 + x4 + x5 + x6 + x7) (by omega) (by omega)]
  rw [Int.zero_add, Int.tmod_eq_emod_of_nonneg (by omega)]
def rparS : Nice := fun R args kv => match args with
  | [.v (.int .u32 v)] => bif in32 v then kv (.v (.bool (parV v))) else none
  | _ => none
theorem rparS_ok : NiceOk Try.prog ΓAr1 400 28 rparS := by
  intro R args kv r h
  unfold rparS at h
  split at h
  · obtain ⟨hg, h⟩ := cond_some h
    exact ⟨_, h, rfl, rfl, rpar_nice _ hg⟩
  · cases h
theorem top_form (v : Int) (n : Int) :
    evF Try.prog ΓAr1 400 36 [.v (.int .u32 v), .v (.int .i64 n)] [] (fun x _ => some x) (fun _ _ => none) =
    (bif decide (n ≤ 1) then some (Sv.v (Value.bool (bitsL BinOp.and IntKind.u32 (Int.fdiv v 128) 1 == 1)))
    else
    bif decide (n ≤ 3) then some (Sv.v (Value.bool (bitsL BinOp.and IntKind.u32 (Int.fdiv v 32768) 1 == 1)))
    else some (Sv.v (Value.bool (bitsL BinOp.and IntKind.u32 (Int.fdiv v 2147483648) 1 == 1)))) := by kernel_rfl
theorem top_nice (v : Int) (n : Int) (hg : (in32 v) = true) :
    evF Try.prog ΓAr1 400 36 [.v (.int .u32 v), .v (.int .i64 n)] [] (fun x _ => some x) (fun _ _ => none) = some (.v (.bool (topV v n))) := by
  rw [top_form]
  try simp only [bitsL_eq]
  simp only [in32_iff] at hg
  obtain ⟨h0, h1⟩ := hg
  unfold topV szM
  by_cases e1 : n ≤ 1
  · simp only [e1, decide_true, cond_true, if_true]
    rw [Int.fdiv_eq_ediv_of_nonneg _ (by omega), and_1 (by omega) (by omega)]
    congr 3; rw [Bool.eq_iff_iff]; simp; omega
  · by_cases e2 : n ≤ 3
    · simp only [e1, e2, decide_true, decide_false, cond_true, cond_false, if_true, if_false]
      rw [Int.fdiv_eq_ediv_of_nonneg _ (by omega), and_1 (by omega) (by omega)]
      congr 3; rw [Bool.eq_iff_iff]; simp; omega
    · simp only [e1, e2, decide_false, cond_false, if_false]
      rw [Int.fdiv_eq_ediv_of_nonneg _ (by omega), and_1 (by omega) (by omega)]
      congr 3; rw [Bool.eq_iff_iff]; simp; omega
def topS : Nice := fun R args kv => match args with
  | [.v (.int .u32 v), .v (.int .i64 n)] => bif in32 v then kv (.v (.bool (topV v n))) else none
  | _ => none
theorem topS_ok : NiceOk Try.prog ΓAr1 400 36 topS := by
  intro R args kv r h
  unfold topS at h
  split at h
  · obtain ⟨hg, h⟩ := cond_some h
    exact ⟨_, h, rfl, rfl, top_nice _ _ hg⟩
  · cases h
def ΓAr2 : Env := (((((ΓAr1.add 23 (pureSpec cutS)).add 24 (pureSpec rcutS)).add 27 (pureSpec parS)).add 28 (pureSpec rparS)).add 36 (pureSpec topS))
theorem ΓAr2_ok : EnvOk Try.prog X0 ΓAr2 := (((((ΓAr1_ok.add (by kernel_rfl) (specOk_of_nice ΓAr1_ok cutS_ok)).add (by kernel_rfl) (specOk_of_nice ΓAr1_ok rcutS_ok)).add (by kernel_rfl) (specOk_of_nice ΓAr1_ok parS_ok)).add (by kernel_rfl) (specOk_of_nice ΓAr1_ok rparS_ok)).add (by kernel_rfl) (specOk_of_nice ΓAr1_ok topS_ok))
end Go.Proofs.Ytogfgmiofkgomaa
