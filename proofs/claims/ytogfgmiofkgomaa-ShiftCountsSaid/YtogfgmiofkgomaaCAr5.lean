/- Contracts: sums and differences of the document. -/
import Derived.Test.YtogfgmiofkgomaaCAr4
namespace Go.Proofs.Ytogfgmiofkgomaa
open Go Go.Ev
set_option linter.unusedVariables false
set_option linter.unusedSimpArgs false
set_option maxRecDepth 100000
theorem rsum_form (a : Int) (b : Int) (n : Int) (c : Bool) :
    evF Try.prog ΓAr4 400 16 [.v (.int .u32 a), .v (.int .u32 b), .v (.int .i64 n), .v (.bool c)] [] (fun x _ => some x) (fun _ _ => none) =
    (bif in32 a then
    bif in32 b then
    bif
    in32
    (IntKind.wrap IntKind.u32
    (IntKind.wrap IntKind.u64
    (IntKind.wrap IntKind.u64 (IntKind.wrap IntKind.u64 (cutV a n) + IntKind.wrap IntKind.u64 (cutV b n)) + b2i c))) then
    bif decide (n ≤ 1) then
    bif bitsL BinOp.and IntKind.u32 (cutV a n) (tV n) == bitsL BinOp.and IntKind.u32 (cutV b n) (tV n) then
    some
    (Sv.tup
    [Sv.v
    (Value.int IntKind.u32
    (cutV
    (IntKind.wrap IntKind.u32
    (IntKind.wrap IntKind.u64
    (IntKind.wrap IntKind.u64 (IntKind.wrap IntKind.u64 (cutV a n) + IntKind.wrap IntKind.u64 (cutV b n)) + b2i c)))
    n)),
    Sv.agg
    [Sv.v
    (Value.bool
    (Int.fdiv
    (IntKind.wrap IntKind.u64
    (IntKind.wrap IntKind.u64 (IntKind.wrap IntKind.u64 (cutV a n) + IntKind.wrap IntKind.u64 (cutV b n)) + b2i c))
    256 !=
    0)),
    Sv.v
    (Value.bool
    (parV
    (cutV
    (IntKind.wrap IntKind.u32
    (IntKind.wrap IntKind.u64
    (IntKind.wrap IntKind.u64 (IntKind.wrap IntKind.u64 (cutV a n) + IntKind.wrap IntKind.u64 (cutV b n)) + b2i c)))
    n))),
    Sv.v
    (Value.bool
    (cutV
    (IntKind.wrap IntKind.u32
    (IntKind.wrap IntKind.u64
    (IntKind.wrap IntKind.u64 (IntKind.wrap IntKind.u64 (cutV a n) + IntKind.wrap IntKind.u64 (cutV b n)) + b2i c)))
    n ==
    0)),
    Sv.v
    (Value.bool
    (topV
    (cutV
    (IntKind.wrap IntKind.u32
    (IntKind.wrap IntKind.u64
    (IntKind.wrap IntKind.u64 (IntKind.wrap IntKind.u64 (cutV a n) + IntKind.wrap IntKind.u64 (cutV b n)) + b2i c)))
    n)
    n)),
    Sv.v
    (Value.bool
    (bitsL BinOp.and IntKind.u32
    (cutV
    (IntKind.wrap IntKind.u32
    (IntKind.wrap IntKind.u64
    (IntKind.wrap IntKind.u64 (IntKind.wrap IntKind.u64 (cutV a n) + IntKind.wrap IntKind.u64 (cutV b n)) + b2i c)))
    n)
    (tV n) !=
    bitsL BinOp.and IntKind.u32 (cutV a n) (tV n))),
    Sv.v (Value.bool false)]])
    else
    some
    (Sv.tup
    [Sv.v
    (Value.int IntKind.u32
    (cutV
    (IntKind.wrap IntKind.u32
    (IntKind.wrap IntKind.u64
    (IntKind.wrap IntKind.u64 (IntKind.wrap IntKind.u64 (cutV a n) + IntKind.wrap IntKind.u64 (cutV b n)) + b2i c)))
    n)),
    Sv.agg
    [Sv.v
    (Value.bool
    (Int.fdiv
    (IntKind.wrap IntKind.u64
    (IntKind.wrap IntKind.u64 (IntKind.wrap IntKind.u64 (cutV a n) + IntKind.wrap IntKind.u64 (cutV b n)) + b2i c))
    256 !=
    0)),
    Sv.v
    (Value.bool
    (parV
    (cutV
    (IntKind.wrap IntKind.u32
    (IntKind.wrap IntKind.u64
    (IntKind.wrap IntKind.u64 (IntKind.wrap IntKind.u64 (cutV a n) + IntKind.wrap IntKind.u64 (cutV b n)) + b2i c)))
    n))),
    Sv.v
    (Value.bool
    (cutV
    (IntKind.wrap IntKind.u32
    (IntKind.wrap IntKind.u64
    (IntKind.wrap IntKind.u64 (IntKind.wrap IntKind.u64 (cutV a n) + IntKind.wrap IntKind.u64 (cutV b n)) + b2i c)))
    n ==
    0)),
    Sv.v
    (Value.bool
    (topV
    (cutV
    (IntKind.wrap IntKind.u32
    (IntKind.wrap IntKind.u64
    (IntKind.wrap IntKind.u64 (IntKind.wrap IntKind.u64 (cutV a n) + IntKind.wrap IntKind.u64 (cutV b n)) + b2i c)))
    n)
    n)),
    Sv.v (Value.bool false), Sv.v (Value.bool false)]])
    else
    bif decide (n ≤ 3) then
    bif bitsL BinOp.and IntKind.u32 (cutV a n) (tV n) == bitsL BinOp.and IntKind.u32 (cutV b n) (tV n) then
    some
    (Sv.tup
    [Sv.v
    (Value.int IntKind.u32
    (cutV
    (IntKind.wrap IntKind.u32
    (IntKind.wrap IntKind.u64
    (IntKind.wrap IntKind.u64 (IntKind.wrap IntKind.u64 (cutV a n) + IntKind.wrap IntKind.u64 (cutV b n)) + b2i c)))
    n)),
    Sv.agg
    [Sv.v
    (Value.bool
    (Int.fdiv
    (IntKind.wrap IntKind.u64
    (IntKind.wrap IntKind.u64 (IntKind.wrap IntKind.u64 (cutV a n) + IntKind.wrap IntKind.u64 (cutV b n)) + b2i c))
    65536 !=
    0)),
    Sv.v
    (Value.bool
    (parV
    (cutV
    (IntKind.wrap IntKind.u32
    (IntKind.wrap IntKind.u64
    (IntKind.wrap IntKind.u64 (IntKind.wrap IntKind.u64 (cutV a n) + IntKind.wrap IntKind.u64 (cutV b n)) + b2i c)))
    n))),
    Sv.v
    (Value.bool
    (cutV
    (IntKind.wrap IntKind.u32
    (IntKind.wrap IntKind.u64
    (IntKind.wrap IntKind.u64 (IntKind.wrap IntKind.u64 (cutV a n) + IntKind.wrap IntKind.u64 (cutV b n)) + b2i c)))
    n ==
    0)),
    Sv.v
    (Value.bool
    (topV
    (cutV
    (IntKind.wrap IntKind.u32
    (IntKind.wrap IntKind.u64
    (IntKind.wrap IntKind.u64 (IntKind.wrap IntKind.u64 (cutV a n) + IntKind.wrap IntKind.u64 (cutV b n)) + b2i c)))
    n)
    n)),
    Sv.v
    (Value.bool
    (bitsL BinOp.and IntKind.u32
    (cutV
    (IntKind.wrap IntKind.u32
    (IntKind.wrap IntKind.u64
    (IntKind.wrap IntKind.u64 (IntKind.wrap IntKind.u64 (cutV a n) + IntKind.wrap IntKind.u64 (cutV b n)) + b2i c)))
    n)
    (tV n) !=
    bitsL BinOp.and IntKind.u32 (cutV a n) (tV n))),
    Sv.v (Value.bool false)]])
    else
    some
    (Sv.tup
    [Sv.v
    (Value.int IntKind.u32
    (cutV
    (IntKind.wrap IntKind.u32
    (IntKind.wrap IntKind.u64
    (IntKind.wrap IntKind.u64 (IntKind.wrap IntKind.u64 (cutV a n) + IntKind.wrap IntKind.u64 (cutV b n)) + b2i c)))
    n)),
    Sv.agg
    [Sv.v
    (Value.bool
    (Int.fdiv
    (IntKind.wrap IntKind.u64
    (IntKind.wrap IntKind.u64 (IntKind.wrap IntKind.u64 (cutV a n) + IntKind.wrap IntKind.u64 (cutV b n)) + b2i c))
    65536 !=
    0)),
    Sv.v
    (Value.bool
    (parV
    (cutV
    (IntKind.wrap IntKind.u32
    (IntKind.wrap IntKind.u64
    (IntKind.wrap IntKind.u64 (IntKind.wrap IntKind.u64 (cutV a n) + IntKind.wrap IntKind.u64 (cutV b n)) + b2i c)))
    n))),
    Sv.v
    (Value.bool
    (cutV
    (IntKind.wrap IntKind.u32
    (IntKind.wrap IntKind.u64
    (IntKind.wrap IntKind.u64 (IntKind.wrap IntKind.u64 (cutV a n) + IntKind.wrap IntKind.u64 (cutV b n)) + b2i c)))
    n ==
    0)),
    Sv.v
    (Value.bool
    (topV
    (cutV
    (IntKind.wrap IntKind.u32
    (IntKind.wrap IntKind.u64
    (IntKind.wrap IntKind.u64 (IntKind.wrap IntKind.u64 (cutV a n) + IntKind.wrap IntKind.u64 (cutV b n)) + b2i c)))
    n)
    n)),
    Sv.v (Value.bool false), Sv.v (Value.bool false)]])
    else
    bif bitsL BinOp.and IntKind.u32 (cutV a n) (tV n) == bitsL BinOp.and IntKind.u32 (cutV b n) (tV n) then
    some
    (Sv.tup
    [Sv.v
    (Value.int IntKind.u32
    (cutV
    (IntKind.wrap IntKind.u32
    (IntKind.wrap IntKind.u64
    (IntKind.wrap IntKind.u64 (IntKind.wrap IntKind.u64 (cutV a n) + IntKind.wrap IntKind.u64 (cutV b n)) + b2i c)))
    n)),
    Sv.agg
    [Sv.v
    (Value.bool
    (Int.fdiv
    (IntKind.wrap IntKind.u64
    (IntKind.wrap IntKind.u64 (IntKind.wrap IntKind.u64 (cutV a n) + IntKind.wrap IntKind.u64 (cutV b n)) + b2i c))
    4294967296 !=
    0)),
    Sv.v
    (Value.bool
    (parV
    (cutV
    (IntKind.wrap IntKind.u32
    (IntKind.wrap IntKind.u64
    (IntKind.wrap IntKind.u64 (IntKind.wrap IntKind.u64 (cutV a n) + IntKind.wrap IntKind.u64 (cutV b n)) + b2i c)))
    n))),
    Sv.v
    (Value.bool
    (cutV
    (IntKind.wrap IntKind.u32
    (IntKind.wrap IntKind.u64
    (IntKind.wrap IntKind.u64 (IntKind.wrap IntKind.u64 (cutV a n) + IntKind.wrap IntKind.u64 (cutV b n)) + b2i c)))
    n ==
    0)),
    Sv.v
    (Value.bool
    (topV
    (cutV
    (IntKind.wrap IntKind.u32
    (IntKind.wrap IntKind.u64
    (IntKind.wrap IntKind.u64 (IntKind.wrap IntKind.u64 (cutV a n) + IntKind.wrap IntKind.u64 (cutV b n)) + b2i c)))
    n)
    n)),
    Sv.v
    (Value.bool
    (bitsL BinOp.and IntKind.u32
    (cutV
    (IntKind.wrap IntKind.u32
    (IntKind.wrap IntKind.u64
    (IntKind.wrap IntKind.u64 (IntKind.wrap IntKind.u64 (cutV a n) + IntKind.wrap IntKind.u64 (cutV b n)) + b2i c)))
    n)
    (tV n) !=
    bitsL BinOp.and IntKind.u32 (cutV a n) (tV n))),
    Sv.v (Value.bool false)]])
    else
    some
    (Sv.tup
    [Sv.v
    (Value.int IntKind.u32
    (cutV
    (IntKind.wrap IntKind.u32
    (IntKind.wrap IntKind.u64
    (IntKind.wrap IntKind.u64 (IntKind.wrap IntKind.u64 (cutV a n) + IntKind.wrap IntKind.u64 (cutV b n)) + b2i c)))
    n)),
    Sv.agg
    [Sv.v
    (Value.bool
    (Int.fdiv
    (IntKind.wrap IntKind.u64
    (IntKind.wrap IntKind.u64 (IntKind.wrap IntKind.u64 (cutV a n) + IntKind.wrap IntKind.u64 (cutV b n)) + b2i c))
    4294967296 !=
    0)),
    Sv.v
    (Value.bool
    (parV
    (cutV
    (IntKind.wrap IntKind.u32
    (IntKind.wrap IntKind.u64
    (IntKind.wrap IntKind.u64 (IntKind.wrap IntKind.u64 (cutV a n) + IntKind.wrap IntKind.u64 (cutV b n)) + b2i c)))
    n))),
    Sv.v
    (Value.bool
    (cutV
    (IntKind.wrap IntKind.u32
    (IntKind.wrap IntKind.u64
    (IntKind.wrap IntKind.u64 (IntKind.wrap IntKind.u64 (cutV a n) + IntKind.wrap IntKind.u64 (cutV b n)) + b2i c)))
    n ==
    0)),
    Sv.v
    (Value.bool
    (topV
    (cutV
    (IntKind.wrap IntKind.u32
    (IntKind.wrap IntKind.u64
    (IntKind.wrap IntKind.u64 (IntKind.wrap IntKind.u64 (cutV a n) + IntKind.wrap IntKind.u64 (cutV b n)) + b2i c)))
    n)
    n)),
    Sv.v (Value.bool false), Sv.v (Value.bool false)]])
    else none
    else none
    else none) := by kernel_rfl
theorem rsum_nice (a : Int) (b : Int) (n : Int) (c : Bool) (hg : (in32 a && (in32 b)) = true) :
    evF Try.prog ΓAr4 400 16 [.v (.int .u32 a), .v (.int .u32 b), .v (.int .i64 n), .v (.bool c)] [] (fun x _ => some x) (fun _ _ => none) = some (.tup [.v (.int .u32 (addV a b n c)), .agg [.v (.bool (decide (szM n ≤ addS a b n c))), .v (.bool (parV (addV a b n c))), .v (.bool (addV a b n c == 0)), .v (.bool (topV (addV a b n c) n)), .v (.bool (addO a b n c)), .v (.bool false)]]) := by
  rw [rsum_form]
  try simp only [bitsL_eq]
  rw [Bool.and_eq_true] at hg
  obtain ⟨g0, g1⟩ := hg
  have hv := addV_bd a b n c
  have e : addS a b n c % szM n = addV a b n c := rfl
  have ha := cut_bd a n
  have hb := cut_bd b n
  have q1 := and_t_eq n ha.1 ha.2 hb.1 hb.2
  have q2 := and_t_eq n hv.1 hv.2 ha.1 ha.2
  rw [topV_cut, topV_cut] at q1
  rw [topV_cut] at q2
  simp only [g0, g1, add_sum, in32_wr, cut_wrap, e, cond_true, q1, bne, q2]
  have c8 := fun h => @carry8 a b n c h
  have c16 := fun h => @carry16 a b n c h
  have c32 := fun h => @carry32 a b n c h
  simp only [bne] at c8 c16 c32
  unfold addO
  rcases szM_cases n with ⟨e1, h, _⟩ | ⟨e1, e2, h, _⟩ | ⟨e1, e2, h, _⟩
  · simp only [e1, decide_true, cond_true, c8 h]
    cases (topV a n == topV b n) <;> rfl
  · simp only [e1, e2, decide_true, decide_false, cond_true, cond_false, c16 h]
    cases (topV a n == topV b n) <;> rfl
  · simp only [e1, e2, decide_false, cond_false, c32 h]
    cases (topV a n == topV b n) <;> rfl
def rsumS : Nice := fun R args kv => match args with
  | [.v (.int .u32 a), .v (.int .u32 b), .v (.int .i64 n), .v (.bool c)] => bif in32 a && (in32 b) then kv (.tup [.v (.int .u32 (addV a b n c)), .agg [.v (.bool (decide (szM n ≤ addS a b n c))), .v (.bool (parV (addV a b n c))), .v (.bool (addV a b n c == 0)), .v (.bool (topV (addV a b n c) n)), .v (.bool (addO a b n c)), .v (.bool false)]]) else none
  | _ => none
theorem rsumS_ok : NiceOk Try.prog ΓAr4 400 16 rsumS := by
  intro R args kv r h
  unfold rsumS at h
  split at h
  · obtain ⟨hg, h⟩ := cond_some h
    exact ⟨_, h, rfl, rfl, rsum_nice _ _ _ _ hg⟩
  · cases h
theorem rdif_form (a : Int) (b : Int) (n : Int) (c : Bool) :
    evF Try.prog ΓAr4 400 18 [.v (.int .u32 a), .v (.int .u32 b), .v (.int .i64 n), .v (.bool c)] [] (fun x _ => some x) (fun _ _ => none) =
    (bif in32 a then
    bif in32 b then
    bif
    in32 (IntKind.wrap IntKind.u32 (IntKind.wrap IntKind.u32 (cutV a n - cutV b n) - IntKind.wrap IntKind.u32 (b2i c))) then
    bif bitsL BinOp.and IntKind.u32 (cutV a n) (tV n) != bitsL BinOp.and IntKind.u32 (cutV b n) (tV n) then
    some
    (Sv.tup
    [Sv.v
    (Value.int IntKind.u32
    (cutV (IntKind.wrap IntKind.u32 (IntKind.wrap IntKind.u32 (cutV a n - cutV b n) - IntKind.wrap IntKind.u32 (b2i c)))
    n)),
    Sv.agg
    [Sv.v
    (Value.bool
    (decide
    (IntKind.wrap IntKind.u64 (cutV a n) < IntKind.wrap IntKind.u64 (IntKind.wrap IntKind.u64 (cutV b n) + b2i c)))),
    Sv.v
    (Value.bool
    (parV
    (cutV (IntKind.wrap IntKind.u32 (IntKind.wrap IntKind.u32 (cutV a n - cutV b n) - IntKind.wrap IntKind.u32 (b2i c)))
    n))),
    Sv.v
    (Value.bool
    (cutV (IntKind.wrap IntKind.u32 (IntKind.wrap IntKind.u32 (cutV a n - cutV b n) - IntKind.wrap IntKind.u32 (b2i c)))
    n ==
    0)),
    Sv.v
    (Value.bool
    (topV
    (cutV (IntKind.wrap IntKind.u32 (IntKind.wrap IntKind.u32 (cutV a n - cutV b n) - IntKind.wrap IntKind.u32 (b2i c))) n)
    n)),
    Sv.v
    (Value.bool
    (bitsL BinOp.and IntKind.u32
    (cutV (IntKind.wrap IntKind.u32 (IntKind.wrap IntKind.u32 (cutV a n - cutV b n) - IntKind.wrap IntKind.u32 (b2i c))) n)
    (tV n) !=
    bitsL BinOp.and IntKind.u32 (cutV a n) (tV n))),
    Sv.v (Value.bool false)]])
    else
    some
    (Sv.tup
    [Sv.v
    (Value.int IntKind.u32
    (cutV (IntKind.wrap IntKind.u32 (IntKind.wrap IntKind.u32 (cutV a n - cutV b n) - IntKind.wrap IntKind.u32 (b2i c)))
    n)),
    Sv.agg
    [Sv.v
    (Value.bool
    (decide
    (IntKind.wrap IntKind.u64 (cutV a n) < IntKind.wrap IntKind.u64 (IntKind.wrap IntKind.u64 (cutV b n) + b2i c)))),
    Sv.v
    (Value.bool
    (parV
    (cutV (IntKind.wrap IntKind.u32 (IntKind.wrap IntKind.u32 (cutV a n - cutV b n) - IntKind.wrap IntKind.u32 (b2i c)))
    n))),
    Sv.v
    (Value.bool
    (cutV (IntKind.wrap IntKind.u32 (IntKind.wrap IntKind.u32 (cutV a n - cutV b n) - IntKind.wrap IntKind.u32 (b2i c)))
    n ==
    0)),
    Sv.v
    (Value.bool
    (topV
    (cutV (IntKind.wrap IntKind.u32 (IntKind.wrap IntKind.u32 (cutV a n - cutV b n) - IntKind.wrap IntKind.u32 (b2i c))) n)
    n)),
    Sv.v (Value.bool false), Sv.v (Value.bool false)]])
    else none
    else none
    else none) := by kernel_rfl
theorem rdif_nice (a : Int) (b : Int) (n : Int) (c : Bool) (hg : (in32 a && (in32 b)) = true) :
    evF Try.prog ΓAr4 400 18 [.v (.int .u32 a), .v (.int .u32 b), .v (.int .i64 n), .v (.bool c)] [] (fun x _ => some x) (fun _ _ => none) = some (.tup [.v (.int .u32 (subV a b n c)), .agg [.v (.bool (decide (subS a b n c < 0))), .v (.bool (parV (subV a b n c))), .v (.bool (subV a b n c == 0)), .v (.bool (topV (subV a b n c) n)), .v (.bool (subO a b n c)), .v (.bool false)]]) := by
  rw [rdif_form]
  try simp only [bitsL_eq]
  rw [Bool.and_eq_true] at hg
  obtain ⟨g0, g1⟩ := hg
  have hv := subV_bd a b n c
  have ha := cut_bd a n
  have hb := cut_bd b n
  have q1 := and_t_eq n ha.1 ha.2 hb.1 hb.2
  have q2 := and_t_eq n hv.1 hv.2 ha.1 ha.2
  rw [topV_cut, topV_cut] at q1
  rw [topV_cut] at q2
  simp only [g0, g1, sub_dif, sub_less, in32_wr, cond_true, bne, q1, q2]
  unfold subO
  cases (topV a n == topV b n) <;> rfl
def rdifS : Nice := fun R args kv => match args with
  | [.v (.int .u32 a), .v (.int .u32 b), .v (.int .i64 n), .v (.bool c)] => bif in32 a && (in32 b) then kv (.tup [.v (.int .u32 (subV a b n c)), .agg [.v (.bool (decide (subS a b n c < 0))), .v (.bool (parV (subV a b n c))), .v (.bool (subV a b n c == 0)), .v (.bool (topV (subV a b n c) n)), .v (.bool (subO a b n c)), .v (.bool false)]]) else none
  | _ => none
theorem rdifS_ok : NiceOk Try.prog ΓAr4 400 18 rdifS := by
  intro R args kv r h
  unfold rdifS at h
  split at h
  · obtain ⟨hg, h⟩ := cond_some h
    exact ⟨_, h, rfl, rfl, rdif_nice _ _ _ _ hg⟩
  · cases h
def ΓAr5 : Env := ((ΓAr4.add 16 (pureSpec rsumS)).add 18 (pureSpec rdifS))
theorem ΓAr5_ok : EnvOk Try.prog X0 ΓAr5 := ((ΓAr4_ok.add (by kernel_rfl) (specOk_of_nice ΓAr4_ok rsumS_ok)).add (by kernel_rfl) (specOk_of_nice ΓAr4_ok rdifS_ok))
end Go.Proofs.Ytogfgmiofkgomaa
