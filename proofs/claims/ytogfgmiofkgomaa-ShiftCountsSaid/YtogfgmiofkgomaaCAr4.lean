/- Contracts: sums, differences. -/
import Derived.Test.YtogfgmiofkgomaaCAr3
namespace Go.Proofs.Ytogfgmiofkgomaa
open Go Go.Ev
set_option linter.unusedVariables false
set_option linter.unusedSimpArgs false
set_option maxRecDepth 100000
theorem rlogic_form (v : Int) (n : Int) :
    evF Try.prog ΓAr3 400 20 [.v (.int .u32 v), .v (.int .i64 n)] [] (fun x _ => some x) (fun _ _ => none) =
    (bif in32 v then
    bif in32 (cutV v n) then
    some
    (Sv.tup
    [Sv.v (Value.int IntKind.u32 (cutV v n)),
    Sv.agg
    [Sv.v (Value.bool false), Sv.v (Value.bool (parV (cutV v n))), Sv.v (Value.bool (cutV v n == 0)),
    Sv.v (Value.bool (bitsL BinOp.and IntKind.u32 (cutV v n) (tV n) != 0)), Sv.v (Value.bool false),
    Sv.v (Value.bool false)]])
    else none
    else none) := by kernel_rfl
theorem rlogic_nice (v : Int) (n : Int) (hg : (in32 v) = true) :
    evF Try.prog ΓAr3 400 20 [.v (.int .u32 v), .v (.int .i64 n)] [] (fun x _ => some x) (fun _ _ => none) = some (.tup [.v (.int .u32 (cutV v n)), .agg [.v (.bool false), .v (.bool (parV (cutV v n))), .v (.bool (cutV v n == 0)), .v (.bool (topV (cutV v n) n)), .v (.bool false), .v (.bool false)]]) := by
  rw [rlogic_form]
  try simp only [bitsL_eq]
  have hc := cut_bd v n
  rw [hg, cutV_in, and_t_nz n hc.1 hc.2]; rfl
def rlogicS : Nice := fun R args kv => match args with
  | [.v (.int .u32 v), .v (.int .i64 n)] => bif in32 v then kv (.tup [.v (.int .u32 (cutV v n)), .agg [.v (.bool false), .v (.bool (parV (cutV v n))), .v (.bool (cutV v n == 0)), .v (.bool (topV (cutV v n) n)), .v (.bool false), .v (.bool false)]]) else none
  | _ => none
theorem rlogicS_ok : NiceOk Try.prog ΓAr3 400 20 rlogicS := by
  intro R args kv r h
  unfold rlogicS at h
  split at h
  · obtain ⟨hg, h⟩ := cond_some h
    exact ⟨_, h, rfl, rfl, rlogic_nice _ _ hg⟩
  · cases h
theorem sum_form (a : Int) (b : Int) (n : Int) (c : Bool) :
    evF Try.prog ΓAr3 400 15 [.v (.int .u32 a), .v (.int .u32 b), .v (.int .i64 n), .v (.bool c)] [] (fun x _ => some x) (fun _ _ => none) =
    (bif in32 a then
    bif in32 b then
    bif
    in32
    (IntKind.wrap IntKind.u32
    (IntKind.wrap IntKind.u64
    (IntKind.wrap IntKind.u64 (IntKind.wrap IntKind.u64 (cutV a n) + IntKind.wrap IntKind.u64 (cutV b n)) + b2i c))) then
    bif decide (n ≤ 1) then
    bif
    in32
    (bitsL BinOp.and IntKind.u32
    (bitsL BinOp.xor IntKind.u32 (cutV a n)
    (cutV
    (IntKind.wrap IntKind.u32
    (IntKind.wrap IntKind.u64
    (IntKind.wrap IntKind.u64 (IntKind.wrap IntKind.u64 (cutV a n) + IntKind.wrap IntKind.u64 (cutV b n)) + b2i c)))
    n))
    (bitsL BinOp.xor IntKind.u32 (cutV b n)
    (cutV
    (IntKind.wrap IntKind.u32
    (IntKind.wrap IntKind.u64
    (IntKind.wrap IntKind.u64 (IntKind.wrap IntKind.u64 (cutV a n) + IntKind.wrap IntKind.u64 (cutV b n)) + b2i c)))
    n))) then
    some
    (Sv.tup
    [Sv.v
    (Value.int IntKind.u32
    (cutV
    (IntKind.wrap IntKind.u32
    (IntKind.wrap IntKind.u64
    (IntKind.wrap IntKind.u64 (IntKind.wrap IntKind.u64 (cutV a n) + IntKind.wrap IntKind.u64 (cutV b n)) + b2i c)))
    n)),
    Sv.agg
    [Sv.v
    (Value.bool
    (Int.fdiv
    (IntKind.wrap IntKind.u64
    (IntKind.wrap IntKind.u64 (IntKind.wrap IntKind.u64 (cutV a n) + IntKind.wrap IntKind.u64 (cutV b n)) + b2i c))
    256 !=
    0)),
    Sv.v
    (Value.bool
    (parV
    (cutV
    (IntKind.wrap IntKind.u32
    (IntKind.wrap IntKind.u64
    (IntKind.wrap IntKind.u64 (IntKind.wrap IntKind.u64 (cutV a n) + IntKind.wrap IntKind.u64 (cutV b n)) + b2i c)))
    n))),
    Sv.v
    (Value.bool
    (cutV
    (IntKind.wrap IntKind.u32
    (IntKind.wrap IntKind.u64
    (IntKind.wrap IntKind.u64 (IntKind.wrap IntKind.u64 (cutV a n) + IntKind.wrap IntKind.u64 (cutV b n)) + b2i c)))
    n ==
    0)),
    Sv.v
    (Value.bool
    (topV
    (cutV
    (IntKind.wrap IntKind.u32
    (IntKind.wrap IntKind.u64
    (IntKind.wrap IntKind.u64 (IntKind.wrap IntKind.u64 (cutV a n) + IntKind.wrap IntKind.u64 (cutV b n)) + b2i c)))
    n)
    n)),
    Sv.v
    (Value.bool
    (topV
    (bitsL BinOp.and IntKind.u32
    (bitsL BinOp.xor IntKind.u32 (cutV a n)
    (cutV
    (IntKind.wrap IntKind.u32
    (IntKind.wrap IntKind.u64
    (IntKind.wrap IntKind.u64 (IntKind.wrap IntKind.u64 (cutV a n) + IntKind.wrap IntKind.u64 (cutV b n)) + b2i c)))
    n))
    (bitsL BinOp.xor IntKind.u32 (cutV b n)
    (cutV
    (IntKind.wrap IntKind.u32
    (IntKind.wrap IntKind.u64
    (IntKind.wrap IntKind.u64 (IntKind.wrap IntKind.u64 (cutV a n) + IntKind.wrap IntKind.u64 (cutV b n)) + b2i c)))
    n)))
    n)),
    Sv.v (Value.bool false)]])
    else none
    else
    bif decide (n ≤ 3) then
    bif
    in32
    (bitsL BinOp.and IntKind.u32
    (bitsL BinOp.xor IntKind.u32 (cutV a n)
    (cutV
    (IntKind.wrap IntKind.u32
    (IntKind.wrap IntKind.u64
    (IntKind.wrap IntKind.u64 (IntKind.wrap IntKind.u64 (cutV a n) + IntKind.wrap IntKind.u64 (cutV b n)) + b2i c)))
    n))
    (bitsL BinOp.xor IntKind.u32 (cutV b n)
    (cutV
    (IntKind.wrap IntKind.u32
    (IntKind.wrap IntKind.u64
    (IntKind.wrap IntKind.u64 (IntKind.wrap IntKind.u64 (cutV a n) + IntKind.wrap IntKind.u64 (cutV b n)) + b2i c)))
    n))) then
    some
    (Sv.tup
    [Sv.v
    (Value.int IntKind.u32
    (cutV
    (IntKind.wrap IntKind.u32
    (IntKind.wrap IntKind.u64
    (IntKind.wrap IntKind.u64 (IntKind.wrap IntKind.u64 (cutV a n) + IntKind.wrap IntKind.u64 (cutV b n)) + b2i c)))
    n)),
    Sv.agg
    [Sv.v
    (Value.bool
    (Int.fdiv
    (IntKind.wrap IntKind.u64
    (IntKind.wrap IntKind.u64 (IntKind.wrap IntKind.u64 (cutV a n) + IntKind.wrap IntKind.u64 (cutV b n)) + b2i c))
    65536 !=
    0)),
    Sv.v
    (Value.bool
    (parV
    (cutV
    (IntKind.wrap IntKind.u32
    (IntKind.wrap IntKind.u64
    (IntKind.wrap IntKind.u64 (IntKind.wrap IntKind.u64 (cutV a n) + IntKind.wrap IntKind.u64 (cutV b n)) + b2i c)))
    n))),
    Sv.v
    (Value.bool
    (cutV
    (IntKind.wrap IntKind.u32
    (IntKind.wrap IntKind.u64
    (IntKind.wrap IntKind.u64 (IntKind.wrap IntKind.u64 (cutV a n) + IntKind.wrap IntKind.u64 (cutV b n)) + b2i c)))
    n ==
    0)),
    Sv.v
    (Value.bool
    (topV
    (cutV
    (IntKind.wrap IntKind.u32
    (IntKind.wrap IntKind.u64
    (IntKind.wrap IntKind.u64 (IntKind.wrap IntKind.u64 (cutV a n) + IntKind.wrap IntKind.u64 (cutV b n)) + b2i c)))
    n)
    n)),
    Sv.v
    (Value.bool
    (topV
    (bitsL BinOp.and IntKind.u32
    (bitsL BinOp.xor IntKind.u32 (cutV a n)
    (cutV
    (IntKind.wrap IntKind.u32
    (IntKind.wrap IntKind.u64
    (IntKind.wrap IntKind.u64 (IntKind.wrap IntKind.u64 (cutV a n) + IntKind.wrap IntKind.u64 (cutV b n)) + b2i c)))
    n))
    (bitsL BinOp.xor IntKind.u32 (cutV b n)
    (cutV
    (IntKind.wrap IntKind.u32
    (IntKind.wrap IntKind.u64
    (IntKind.wrap IntKind.u64 (IntKind.wrap IntKind.u64 (cutV a n) + IntKind.wrap IntKind.u64 (cutV b n)) + b2i c)))
    n)))
    n)),
    Sv.v (Value.bool false)]])
    else none
    else
    bif
    in32
    (bitsL BinOp.and IntKind.u32
    (bitsL BinOp.xor IntKind.u32 (cutV a n)
    (cutV
    (IntKind.wrap IntKind.u32
    (IntKind.wrap IntKind.u64
    (IntKind.wrap IntKind.u64 (IntKind.wrap IntKind.u64 (cutV a n) + IntKind.wrap IntKind.u64 (cutV b n)) + b2i c)))
    n))
    (bitsL BinOp.xor IntKind.u32 (cutV b n)
    (cutV
    (IntKind.wrap IntKind.u32
    (IntKind.wrap IntKind.u64
    (IntKind.wrap IntKind.u64 (IntKind.wrap IntKind.u64 (cutV a n) + IntKind.wrap IntKind.u64 (cutV b n)) + b2i c)))
    n))) then
    some
    (Sv.tup
    [Sv.v
    (Value.int IntKind.u32
    (cutV
    (IntKind.wrap IntKind.u32
    (IntKind.wrap IntKind.u64
    (IntKind.wrap IntKind.u64 (IntKind.wrap IntKind.u64 (cutV a n) + IntKind.wrap IntKind.u64 (cutV b n)) + b2i c)))
    n)),
    Sv.agg
    [Sv.v
    (Value.bool
    (Int.fdiv
    (IntKind.wrap IntKind.u64
    (IntKind.wrap IntKind.u64 (IntKind.wrap IntKind.u64 (cutV a n) + IntKind.wrap IntKind.u64 (cutV b n)) + b2i c))
    4294967296 !=
    0)),
    Sv.v
    (Value.bool
    (parV
    (cutV
    (IntKind.wrap IntKind.u32
    (IntKind.wrap IntKind.u64
    (IntKind.wrap IntKind.u64 (IntKind.wrap IntKind.u64 (cutV a n) + IntKind.wrap IntKind.u64 (cutV b n)) + b2i c)))
    n))),
    Sv.v
    (Value.bool
    (cutV
    (IntKind.wrap IntKind.u32
    (IntKind.wrap IntKind.u64
    (IntKind.wrap IntKind.u64 (IntKind.wrap IntKind.u64 (cutV a n) + IntKind.wrap IntKind.u64 (cutV b n)) + b2i c)))
    n ==
    0)),
    Sv.v
    (Value.bool
    (topV
    (cutV
    (IntKind.wrap IntKind.u32
    (IntKind.wrap IntKind.u64
    (IntKind.wrap IntKind.u64 (IntKind.wrap IntKind.u64 (cutV a n) + IntKind.wrap IntKind.u64 (cutV b n)) + b2i c)))
    n)
    n)),
    Sv.v
    (Value.bool
    (topV
    (bitsL BinOp.and IntKind.u32
    (bitsL BinOp.xor IntKind.u32 (cutV a n)
    (cutV
    (IntKind.wrap IntKind.u32
    (IntKind.wrap IntKind.u64
    (IntKind.wrap IntKind.u64 (IntKind.wrap IntKind.u64 (cutV a n) + IntKind.wrap IntKind.u64 (cutV b n)) + b2i c)))
    n))
    (bitsL BinOp.xor IntKind.u32 (cutV b n)
    (cutV
    (IntKind.wrap IntKind.u32
    (IntKind.wrap IntKind.u64
    (IntKind.wrap IntKind.u64 (IntKind.wrap IntKind.u64 (cutV a n) + IntKind.wrap IntKind.u64 (cutV b n)) + b2i c)))
    n)))
    n)),
    Sv.v (Value.bool false)]])
    else none
    else none
    else none
    else none) := by kernel_rfl
theorem sum_nice (a : Int) (b : Int) (n : Int) (c : Bool) (hg : (in32 a && (in32 b)) = true) :
    evF Try.prog ΓAr3 400 15 [.v (.int .u32 a), .v (.int .u32 b), .v (.int .i64 n), .v (.bool c)] [] (fun x _ => some x) (fun _ _ => none) = some (.tup [.v (.int .u32 (addV a b n c)), .agg [.v (.bool (decide (szM n ≤ addS a b n c))), .v (.bool (parV (addV a b n c))), .v (.bool (addV a b n c == 0)), .v (.bool (topV (addV a b n c) n)), .v (.bool (addO a b n c)), .v (.bool false)]]) := by
  rw [sum_form]
  try simp only [bitsL_eq]
  rw [Bool.and_eq_true] at hg
  obtain ⟨g0, g1⟩ := hg
  have hv := addV_bd a b n c
  have e : addS a b n c % szM n = addV a b n c := rfl
  have hi := xa_in (cut_bd a n) hv (cut_bd b n) hv
  simp only [g0, g1, add_sum, in32_wr, cut_wrap, e, cond_true, hi, add_over]
  rcases szM_cases n with ⟨e1, h, _⟩ | ⟨e1, e2, h, _⟩ | ⟨e1, e2, h, _⟩
  · simp only [e1, decide_true, cond_true, carry8 h]
  · simp only [e1, e2, decide_true, decide_false, cond_true, cond_false, carry16 h]
  · simp only [e1, e2, decide_false, cond_false, carry32 h]
def sumS : Nice := fun R args kv => match args with
  | [.v (.int .u32 a), .v (.int .u32 b), .v (.int .i64 n), .v (.bool c)] => bif in32 a && (in32 b) then kv (.tup [.v (.int .u32 (addV a b n c)), .agg [.v (.bool (decide (szM n ≤ addS a b n c))), .v (.bool (parV (addV a b n c))), .v (.bool (addV a b n c == 0)), .v (.bool (topV (addV a b n c) n)), .v (.bool (addO a b n c)), .v (.bool false)]]) else none
  | _ => none
theorem sumS_ok : NiceOk Try.prog ΓAr3 400 15 sumS := by
  intro R args kv r h
  unfold sumS at h
  split at h
  · obtain ⟨hg, h⟩ := cond_some h
    exact ⟨_, h, rfl, rfl, sum_nice _ _ _ _ hg⟩
  · cases h
theorem dif_form (a : Int) (b : Int) (n : Int) (c : Bool) :
    evF Try.prog ΓAr3 400 17 [.v (.int .u32 a), .v (.int .u32 b), .v (.int .i64 n), .v (.bool c)] [] (fun x _ => some x) (fun _ _ => none) =
    (bif in32 a then
    bif in32 b then
    bif
    in32 (IntKind.wrap IntKind.u32 (IntKind.wrap IntKind.u32 (cutV a n - cutV b n) - IntKind.wrap IntKind.u32 (b2i c))) then
    bif
    in32
    (bitsL BinOp.and IntKind.u32 (bitsL BinOp.xor IntKind.u32 (cutV a n) (cutV b n))
    (bitsL BinOp.xor IntKind.u32 (cutV a n)
    (cutV (IntKind.wrap IntKind.u32 (IntKind.wrap IntKind.u32 (cutV a n - cutV b n) - IntKind.wrap IntKind.u32 (b2i c)))
    n))) then
    some
    (Sv.tup
    [Sv.v
    (Value.int IntKind.u32
    (cutV (IntKind.wrap IntKind.u32 (IntKind.wrap IntKind.u32 (cutV a n - cutV b n) - IntKind.wrap IntKind.u32 (b2i c)))
    n)),
    Sv.agg
    [Sv.v
    (Value.bool
    (decide
    (IntKind.wrap IntKind.u64 (cutV a n) < IntKind.wrap IntKind.u64 (IntKind.wrap IntKind.u64 (cutV b n) + b2i c)))),
    Sv.v
    (Value.bool
    (parV
    (cutV (IntKind.wrap IntKind.u32 (IntKind.wrap IntKind.u32 (cutV a n - cutV b n) - IntKind.wrap IntKind.u32 (b2i c)))
    n))),
    Sv.v
    (Value.bool
    (cutV (IntKind.wrap IntKind.u32 (IntKind.wrap IntKind.u32 (cutV a n - cutV b n) - IntKind.wrap IntKind.u32 (b2i c)))
    n ==
    0)),
    Sv.v
    (Value.bool
    (topV
    (cutV (IntKind.wrap IntKind.u32 (IntKind.wrap IntKind.u32 (cutV a n - cutV b n) - IntKind.wrap IntKind.u32 (b2i c))) n)
    n)),
    Sv.v
    (Value.bool
    (topV
    (bitsL BinOp.and IntKind.u32 (bitsL BinOp.xor IntKind.u32 (cutV a n) (cutV b n))
    (bitsL BinOp.xor IntKind.u32 (cutV a n)
    (cutV (IntKind.wrap IntKind.u32 (IntKind.wrap IntKind.u32 (cutV a n - cutV b n) - IntKind.wrap IntKind.u32 (b2i c)))
    n)))
    n)),
    Sv.v (Value.bool false)]])
    else none
    else none
    else none
    else none) := by kernel_rfl
theorem dif_nice (a : Int) (b : Int) (n : Int) (c : Bool) (hg : (in32 a && (in32 b)) = true) :
    evF Try.prog ΓAr3 400 17 [.v (.int .u32 a), .v (.int .u32 b), .v (.int .i64 n), .v (.bool c)] [] (fun x _ => some x) (fun _ _ => none) = some (.tup [.v (.int .u32 (subV a b n c)), .agg [.v (.bool (decide (subS a b n c < 0))), .v (.bool (parV (subV a b n c))), .v (.bool (subV a b n c == 0)), .v (.bool (topV (subV a b n c) n)), .v (.bool (subO a b n c)), .v (.bool false)]]) := by
  rw [dif_form]
  try simp only [bitsL_eq]
  rw [Bool.and_eq_true] at hg
  obtain ⟨g0, g1⟩ := hg
  have hv := subV_bd a b n c
  have hi := xa_in (cut_bd a n) (cut_bd b n) (cut_bd a n) hv
  simp only [g0, g1, sub_dif, sub_less, in32_wr, cond_true, hi, sub_over]
def difS : Nice := fun R args kv => match args with
  | [.v (.int .u32 a), .v (.int .u32 b), .v (.int .i64 n), .v (.bool c)] => bif in32 a && (in32 b) then kv (.tup [.v (.int .u32 (subV a b n c)), .agg [.v (.bool (decide (subS a b n c < 0))), .v (.bool (parV (subV a b n c))), .v (.bool (subV a b n c == 0)), .v (.bool (topV (subV a b n c) n)), .v (.bool (subO a b n c)), .v (.bool false)]]) else none
  | _ => none
theorem difS_ok : NiceOk Try.prog ΓAr3 400 17 difS := by
  intro R args kv r h
  unfold difS at h
  split at h
  · obtain ⟨hg, h⟩ := cond_some h
    exact ⟨_, h, rfl, rfl, dif_nice _ _ _ _ hg⟩
  · cases h
def ΓAr4 : Env := (((ΓAr3.add 20 (pureSpec rlogicS)).add 15 (pureSpec sumS)).add 17 (pureSpec difS))
theorem ΓAr4_ok : EnvOk Try.prog X0 ΓAr4 := (((ΓAr3_ok.add (by kernel_rfl) (specOk_of_nice ΓAr3_ok rlogicS_ok)).add (by kernel_rfl) (specOk_of_nice ΓAr3_ok sumS_ok)).add (by kernel_rfl) (specOk_of_nice ΓAr3_ok difS_ok))
end Go.Proofs.Ytogfgmiofkgomaa
