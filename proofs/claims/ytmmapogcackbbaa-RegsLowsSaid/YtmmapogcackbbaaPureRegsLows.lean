/- RegsLows: the reckoning of the law, and that it is true. -/
import Derived.Test.YtmmapogcackbbaaCRg3
import Derived.Test.YtmmapogcackbbaaNRegs2
namespace Go.Proofs.Ytmmapogcackbbaa.regsLows
open Go Go.Ev
set_option linter.unusedVariables false
set_option linter.unusedSimpArgs false
set_option maxRecDepth 100000
theorem form (a0_0 : Int) (a0_1 : Int) (a0_2 : Int) (a0_3 : Int) (a0_4 : Int) (a0_5 : Int) (a0_6 : Int) (a0_7 : Int) (a0_8 : Int) (a0_9 : Bool) (a0_10 : Bool) (a0_11 : Bool) (a0_12 : Bool) (a0_13 : Bool) (a0_14 : Bool) (a0_15 : Int) (a0_16 : Int) (a0_17 : Int) (a0_18 : Int) (a0_19 : Int) (a0_20 : Int) (a0_21 : Int) (a0_22 : Int) (a1 : Int) (a2 : Int) :
    evF Try.prog ΓRg3 400 5 [.agg [.v (.int .u32 a0_0), .v (.int .u32 a0_1), .v (.int .u32 a0_2), .v (.int .u32 a0_3), .v (.int .u32 a0_4), .v (.int .u32 a0_5), .v (.int .u32 a0_6), .v (.int .u32 a0_7), .v (.int .u32 a0_8), .v (.bool a0_9), .v (.bool a0_10), .v (.bool a0_11), .v (.bool a0_12), .v (.bool a0_13), .v (.bool a0_14), .v (.int .u64 a0_15), .v (.int .u64 a0_16), .v (.int .u64 a0_17), .v (.int .u64 a0_18), .v (.int .u64 a0_19), .v (.int .u64 a0_20), .v (.int .u64 a0_21), .v (.int .u64 a0_22)], .v (.int .u8 a1), .v (.int .u64 a2)] [] isT (fun _ _ => none) =
    (bif
    in32 a0_0 &&
    (in32 a0_1 && (in32 a0_2 && (in32 a0_3 && (in32 a0_4 && (in32 a0_5 && (in32 a0_6 && (in32 a0_7 && true))))))) then
    bif
    in32 a0_0 &&
    (in32 a0_1 && (in32 a0_2 && (in32 a0_3 && (in32 a0_4 && (in32 a0_5 && (in32 a0_6 && (in32 a0_7 && true))))))) then
    bif
    in32 a0_0 &&
    (in32 a0_1 && (in32 a0_2 && (in32 a0_3 && (in32 a0_4 && (in32 a0_5 && (in32 a0_6 && (in32 a0_7 && true))))))) then
    bif in32 a0_0 && (in32 a0_1 && (in32 a0_2 && (in32 a0_3 && in64 a2))) then
    bif
    in32 (setA 2 (IntKind.wrap IntKind.i64 (Int.tmod a1 4)) 0 a0_0 a2) &&
    (in32 (setA 2 (IntKind.wrap IntKind.i64 (Int.tmod a1 4)) 1 a0_1 a2) &&
    (in32 (setA 2 (IntKind.wrap IntKind.i64 (Int.tmod a1 4)) 2 a0_2 a2) &&
    (in32 (setA 2 (IntKind.wrap IntKind.i64 (Int.tmod a1 4)) 3 a0_3 a2) && in64 (Int.fdiv a2 256)))) then
    bif
    bitsL BinOp.and IntKind.u64
    (getV 1 (IntKind.wrap IntKind.i64 (Int.tmod a1 4)) 0 a0_0 a0_1 a0_2 a0_3 a0_4 a0_5 a0_6 a0_7 a0_15 a0_16 a0_17 a0_18
    a0_19 a0_20 a0_21 a0_22)
    65535 ==
    bitsL BinOp.or IntKind.u64
    (IntKind.wrap IntKind.u64
    (getV 2 (IntKind.wrap IntKind.i64 (IntKind.wrap IntKind.i64 (Int.tmod a1 4) + 4)) 0 a0_0 a0_1 a0_2 a0_3 a0_4 a0_5 a0_6
    a0_7 a0_15 a0_16 a0_17 a0_18 a0_19 a0_20 a0_21 a0_22 *
    256))
    (getV 2 (IntKind.wrap IntKind.i64 (Int.tmod a1 4)) 0 a0_0 a0_1 a0_2 a0_3 a0_4 a0_5 a0_6 a0_7 a0_15 a0_16 a0_17 a0_18
    a0_19 a0_20 a0_21 a0_22) then
    bif IntKind.wrap IntKind.i64 (Int.tmod a1 4) == 0 then
    some
    (IntKind.wrap IntKind.u64
    (setA 2 (IntKind.wrap IntKind.i64 (IntKind.wrap IntKind.i64 (Int.tmod a1 4) + 4)) 0
    (setA 2 (IntKind.wrap IntKind.i64 (Int.tmod a1 4)) 0 a0_0 a2) (Int.fdiv a2 256)) ==
    bitsL BinOp.or IntKind.u64
    (bitsL BinOp.andNot IntKind.u64
    (getV 1 (IntKind.wrap IntKind.i64 (Int.tmod a1 4)) 0 a0_0 a0_1 a0_2 a0_3 a0_4 a0_5 a0_6 a0_7 a0_15 a0_16 a0_17 a0_18
    a0_19 a0_20 a0_21 a0_22)
    65535)
    (bitsL BinOp.and IntKind.u64 a2 65535))
    else
    bif IntKind.wrap IntKind.i64 (Int.tmod a1 4) == 1 then
    some
    (IntKind.wrap IntKind.u64
    (setA 2 (IntKind.wrap IntKind.i64 (IntKind.wrap IntKind.i64 (Int.tmod a1 4) + 4)) 1
    (setA 2 (IntKind.wrap IntKind.i64 (Int.tmod a1 4)) 1 a0_1 a2) (Int.fdiv a2 256)) ==
    bitsL BinOp.or IntKind.u64
    (bitsL BinOp.andNot IntKind.u64
    (getV 1 (IntKind.wrap IntKind.i64 (Int.tmod a1 4)) 0 a0_0 a0_1 a0_2 a0_3 a0_4 a0_5 a0_6 a0_7 a0_15 a0_16 a0_17 a0_18
    a0_19 a0_20 a0_21 a0_22)
    65535)
    (bitsL BinOp.and IntKind.u64 a2 65535))
    else
    bif IntKind.wrap IntKind.i64 (Int.tmod a1 4) == 2 then
    some
    (IntKind.wrap IntKind.u64
    (setA 2 (IntKind.wrap IntKind.i64 (IntKind.wrap IntKind.i64 (Int.tmod a1 4) + 4)) 2
    (setA 2 (IntKind.wrap IntKind.i64 (Int.tmod a1 4)) 2 a0_2 a2) (Int.fdiv a2 256)) ==
    bitsL BinOp.or IntKind.u64
    (bitsL BinOp.andNot IntKind.u64
    (getV 1 (IntKind.wrap IntKind.i64 (Int.tmod a1 4)) 0 a0_0 a0_1 a0_2 a0_3 a0_4 a0_5 a0_6 a0_7 a0_15 a0_16 a0_17 a0_18
    a0_19 a0_20 a0_21 a0_22)
    65535)
    (bitsL BinOp.and IntKind.u64 a2 65535))
    else
    bif IntKind.wrap IntKind.i64 (Int.tmod a1 4) == 3 then
    some
    (IntKind.wrap IntKind.u64
    (setA 2 (IntKind.wrap IntKind.i64 (IntKind.wrap IntKind.i64 (Int.tmod a1 4) + 4)) 3
    (setA 2 (IntKind.wrap IntKind.i64 (Int.tmod a1 4)) 3 a0_3 a2) (Int.fdiv a2 256)) ==
    bitsL BinOp.or IntKind.u64
    (bitsL BinOp.andNot IntKind.u64
    (getV 1 (IntKind.wrap IntKind.i64 (Int.tmod a1 4)) 0 a0_0 a0_1 a0_2 a0_3 a0_4 a0_5 a0_6 a0_7 a0_15 a0_16 a0_17 a0_18
    a0_19 a0_20 a0_21 a0_22)
    65535)
    (bitsL BinOp.and IntKind.u64 a2 65535))
    else
    bif IntKind.wrap IntKind.i64 (Int.tmod a1 4) == 4 then
    some
    (IntKind.wrap IntKind.u64
    (setB 2 (IntKind.wrap IntKind.i64 (IntKind.wrap IntKind.i64 (Int.tmod a1 4) + 4)) 4
    (setB 2 (IntKind.wrap IntKind.i64 (Int.tmod a1 4)) 4 a0_4 a2) (Int.fdiv a2 256)) ==
    bitsL BinOp.or IntKind.u64
    (bitsL BinOp.andNot IntKind.u64
    (getV 1 (IntKind.wrap IntKind.i64 (Int.tmod a1 4)) 0 a0_0 a0_1 a0_2 a0_3 a0_4 a0_5 a0_6 a0_7 a0_15 a0_16 a0_17 a0_18
    a0_19 a0_20 a0_21 a0_22)
    65535)
    (bitsL BinOp.and IntKind.u64 a2 65535))
    else
    bif IntKind.wrap IntKind.i64 (Int.tmod a1 4) == 5 then
    some
    (IntKind.wrap IntKind.u64
    (setB 2 (IntKind.wrap IntKind.i64 (IntKind.wrap IntKind.i64 (Int.tmod a1 4) + 4)) 5
    (setB 2 (IntKind.wrap IntKind.i64 (Int.tmod a1 4)) 5 a0_5 a2) (Int.fdiv a2 256)) ==
    bitsL BinOp.or IntKind.u64
    (bitsL BinOp.andNot IntKind.u64
    (getV 1 (IntKind.wrap IntKind.i64 (Int.tmod a1 4)) 0 a0_0 a0_1 a0_2 a0_3 a0_4 a0_5 a0_6 a0_7 a0_15 a0_16 a0_17 a0_18
    a0_19 a0_20 a0_21 a0_22)
    65535)
    (bitsL BinOp.and IntKind.u64 a2 65535))
    else
    bif IntKind.wrap IntKind.i64 (Int.tmod a1 4) == 6 then
    some
    (IntKind.wrap IntKind.u64
    (setB 2 (IntKind.wrap IntKind.i64 (IntKind.wrap IntKind.i64 (Int.tmod a1 4) + 4)) 6
    (setB 2 (IntKind.wrap IntKind.i64 (Int.tmod a1 4)) 6 a0_6 a2) (Int.fdiv a2 256)) ==
    bitsL BinOp.or IntKind.u64
    (bitsL BinOp.andNot IntKind.u64
    (getV 1 (IntKind.wrap IntKind.i64 (Int.tmod a1 4)) 0 a0_0 a0_1 a0_2 a0_3 a0_4 a0_5 a0_6 a0_7 a0_15 a0_16 a0_17 a0_18
    a0_19 a0_20 a0_21 a0_22)
    65535)
    (bitsL BinOp.and IntKind.u64 a2 65535))
    else
    bif IntKind.wrap IntKind.i64 (Int.tmod a1 4) == 7 then
    some
    (IntKind.wrap IntKind.u64
    (setB 2 (IntKind.wrap IntKind.i64 (IntKind.wrap IntKind.i64 (Int.tmod a1 4) + 4)) 7
    (setB 2 (IntKind.wrap IntKind.i64 (Int.tmod a1 4)) 7 a0_7 a2) (Int.fdiv a2 256)) ==
    bitsL BinOp.or IntKind.u64
    (bitsL BinOp.andNot IntKind.u64
    (getV 1 (IntKind.wrap IntKind.i64 (Int.tmod a1 4)) 0 a0_0 a0_1 a0_2 a0_3 a0_4 a0_5 a0_6 a0_7 a0_15 a0_16 a0_17 a0_18
    a0_19 a0_20 a0_21 a0_22)
    65535)
    (bitsL BinOp.and IntKind.u64 a2 65535))
    else none
    else some false
    else none
    else none
    else none
    else none
    else none) := by kernel_rfl
set_option maxHeartbeats 1000000 in
theorem pure (a0_0 : Int) (a0_1 : Int) (a0_2 : Int) (a0_3 : Int) (a0_4 : Int) (a0_5 : Int) (a0_6 : Int) (a0_7 : Int) (a0_8 : Int) (a0_9 : Bool) (a0_10 : Bool) (a0_11 : Bool) (a0_12 : Bool) (a0_13 : Bool) (a0_14 : Bool) (a0_15 : Int) (a0_16 : Int) (a0_17 : Int) (a0_18 : Int) (a0_19 : Int) (a0_20 : Int) (a0_21 : Int) (a0_22 : Int) (a1 : Int) (a2 : Int) (w0_0 : (Lit.int .u32 a0_0).wf = true) (w0_1 : (Lit.int .u32 a0_1).wf = true) (w0_2 : (Lit.int .u32 a0_2).wf = true) (w0_3 : (Lit.int .u32 a0_3).wf = true) (w0_4 : (Lit.int .u32 a0_4).wf = true) (w0_5 : (Lit.int .u32 a0_5).wf = true) (w0_6 : (Lit.int .u32 a0_6).wf = true) (w0_7 : (Lit.int .u32 a0_7).wf = true) (w0_8 : (Lit.int .u32 a0_8).wf = true) (w0_15 : (Lit.int .u64 a0_15).wf = true) (w0_16 : (Lit.int .u64 a0_16).wf = true) (w0_17 : (Lit.int .u64 a0_17).wf = true) (w0_18 : (Lit.int .u64 a0_18).wf = true) (w0_19 : (Lit.int .u64 a0_19).wf = true) (w0_20 : (Lit.int .u64 a0_20).wf = true) (w0_21 : (Lit.int .u64 a0_21).wf = true) (w0_22 : (Lit.int .u64 a0_22).wf = true) (w1 : (Lit.int .u8 a1).wf = true) (w2 : (Lit.int .u64 a2).wf = true) :
    evF Try.prog ΓRg3 400 5 [.agg [.v (.int .u32 a0_0), .v (.int .u32 a0_1), .v (.int .u32 a0_2), .v (.int .u32 a0_3), .v (.int .u32 a0_4), .v (.int .u32 a0_5), .v (.int .u32 a0_6), .v (.int .u32 a0_7), .v (.int .u32 a0_8), .v (.bool a0_9), .v (.bool a0_10), .v (.bool a0_11), .v (.bool a0_12), .v (.bool a0_13), .v (.bool a0_14), .v (.int .u64 a0_15), .v (.int .u64 a0_16), .v (.int .u64 a0_17), .v (.int .u64 a0_18), .v (.int .u64 a0_19), .v (.int .u64 a0_20), .v (.int .u64 a0_21), .v (.int .u64 a0_22)], .v (.int .u8 a1), .v (.int .u64 a2)] [] isT (fun _ _ => none) = some true := by
  rw [form]
  try simp only [bitsL_eq]
  have g0 := in32_iff.2 (wf_u32 w0_0)
  have g1 := in32_iff.2 (wf_u32 w0_1)
  have g2 := in32_iff.2 (wf_u32 w0_2)
  have g3 := in32_iff.2 (wf_u32 w0_3)
  have g4 := in32_iff.2 (wf_u32 w0_4)
  have g5 := in32_iff.2 (wf_u32 w0_5)
  have g6 := in32_iff.2 (wf_u32 w0_6)
  have g7 := in32_iff.2 (wf_u32 w0_7)
  have gv := in64_iff.2 (wf_u64 w2)
  have bv := wf_u64 w2
  have b1 := wf_u8 w1
  have gq : in64 (a2 / 256) = true := in64_iff.2 (by omega)
  have e1 : IntKind.wrap IntKind.i64 (Int.tmod a1 4) = a1 % 4 := by rw [Int.tmod_eq_emod_of_nonneg b1.1, wr_i64_id (by omega) (by omega)]
  rw [e1]
  have hr : a1 % 4 = 0 ∨ a1 % 4 = 1 ∨ a1 % 4 = 2 ∨ a1 % 4 = 3 := by omega
  rcases hr with hr | hr | hr | hr <;> rw [hr]
  · have w4 : IntKind.wrap IntKind.i64 ((0 : Int) + 4) = 4 := rfl
    have p1 : getV 1 0 0 a0_0 a0_1 a0_2 a0_3 a0_4 a0_5 a0_6 a0_7 a0_15 a0_16 a0_17 a0_18 a0_19 a0_20 a0_21 a0_22 = a0_0 := rfl
    have p2 : getV 2 4 0 a0_0 a0_1 a0_2 a0_3 a0_4 a0_5 a0_6 a0_7 a0_15 a0_16 a0_17 a0_18 a0_19 a0_20 a0_21 a0_22 = a0_0 / 256 % 256 := rfl
    have p3 : getV 2 0 0 a0_0 a0_1 a0_2 a0_3 a0_4 a0_5 a0_6 a0_7 a0_15 a0_16 a0_17 a0_18 a0_19 a0_20 a0_21 a0_22 = a0_0 % 256 := rfl
    have s1 : setA 2 0 0 a0_0 a2 = a0_0 - a0_0 % 256 + a2 % 256 := rfl
    have s2 : ∀ y v, setA 2 4 0 y v = y - y / 256 % 256 * 256 + v % 256 * 256 := fun _ _ => rfl
    have i0 := setA_in (k := 2) (r := 0) (i := 0) (v := a2) g0
    have i1 := setA_in (k := 2) (r := 0) (i := 1) (v := a2) g1
    have i2 := setA_in (k := 2) (r := 0) (i := 2) (v := a2) g2
    have i3 := setA_in (k := 2) (r := 0) (i := 3) (v := a2) g3
    simp only [i0, i1, i2, i3]
    simp only [w4, p1, p2, p3, s1, s2, fdiv256, g0, g1, g2, g3, g4, g5, g6, g7, gv, gq, Bool.and_self, Bool.and_true, cond_true, lows_get g0, lows_set g0 gv, beq_self_eq_true]
    try rfl
  · have w4 : IntKind.wrap IntKind.i64 ((1 : Int) + 4) = 5 := rfl
    have p1 : getV 1 1 0 a0_0 a0_1 a0_2 a0_3 a0_4 a0_5 a0_6 a0_7 a0_15 a0_16 a0_17 a0_18 a0_19 a0_20 a0_21 a0_22 = a0_1 := rfl
    have p2 : getV 2 5 0 a0_0 a0_1 a0_2 a0_3 a0_4 a0_5 a0_6 a0_7 a0_15 a0_16 a0_17 a0_18 a0_19 a0_20 a0_21 a0_22 = a0_1 / 256 % 256 := rfl
    have p3 : getV 2 1 0 a0_0 a0_1 a0_2 a0_3 a0_4 a0_5 a0_6 a0_7 a0_15 a0_16 a0_17 a0_18 a0_19 a0_20 a0_21 a0_22 = a0_1 % 256 := rfl
    have s1 : setA 2 1 1 a0_1 a2 = a0_1 - a0_1 % 256 + a2 % 256 := rfl
    have s2 : ∀ y v, setA 2 5 1 y v = y - y / 256 % 256 * 256 + v % 256 * 256 := fun _ _ => rfl
    have i0 := setA_in (k := 2) (r := 1) (i := 0) (v := a2) g0
    have i1 := setA_in (k := 2) (r := 1) (i := 1) (v := a2) g1
    have i2 := setA_in (k := 2) (r := 1) (i := 2) (v := a2) g2
    have i3 := setA_in (k := 2) (r := 1) (i := 3) (v := a2) g3
    simp only [i0, i1, i2, i3]
    simp only [w4, p1, p2, p3, s1, s2, fdiv256, g0, g1, g2, g3, g4, g5, g6, g7, gv, gq, Bool.and_self, Bool.and_true, cond_true, lows_get g1, lows_set g1 gv, beq_self_eq_true]
    try rfl
  · have w4 : IntKind.wrap IntKind.i64 ((2 : Int) + 4) = 6 := rfl
    have p1 : getV 1 2 0 a0_0 a0_1 a0_2 a0_3 a0_4 a0_5 a0_6 a0_7 a0_15 a0_16 a0_17 a0_18 a0_19 a0_20 a0_21 a0_22 = a0_2 := rfl
    have p2 : getV 2 6 0 a0_0 a0_1 a0_2 a0_3 a0_4 a0_5 a0_6 a0_7 a0_15 a0_16 a0_17 a0_18 a0_19 a0_20 a0_21 a0_22 = a0_2 / 256 % 256 := rfl
    have p3 : getV 2 2 0 a0_0 a0_1 a0_2 a0_3 a0_4 a0_5 a0_6 a0_7 a0_15 a0_16 a0_17 a0_18 a0_19 a0_20 a0_21 a0_22 = a0_2 % 256 := rfl
    have s1 : setA 2 2 2 a0_2 a2 = a0_2 - a0_2 % 256 + a2 % 256 := rfl
    have s2 : ∀ y v, setA 2 6 2 y v = y - y / 256 % 256 * 256 + v % 256 * 256 := fun _ _ => rfl
    have i0 := setA_in (k := 2) (r := 2) (i := 0) (v := a2) g0
    have i1 := setA_in (k := 2) (r := 2) (i := 1) (v := a2) g1
    have i2 := setA_in (k := 2) (r := 2) (i := 2) (v := a2) g2
    have i3 := setA_in (k := 2) (r := 2) (i := 3) (v := a2) g3
    simp only [i0, i1, i2, i3]
    simp only [w4, p1, p2, p3, s1, s2, fdiv256, g0, g1, g2, g3, g4, g5, g6, g7, gv, gq, Bool.and_self, Bool.and_true, cond_true, lows_get g2, lows_set g2 gv, beq_self_eq_true]
    try rfl
  · have w4 : IntKind.wrap IntKind.i64 ((3 : Int) + 4) = 7 := rfl
    have p1 : getV 1 3 0 a0_0 a0_1 a0_2 a0_3 a0_4 a0_5 a0_6 a0_7 a0_15 a0_16 a0_17 a0_18 a0_19 a0_20 a0_21 a0_22 = a0_3 := rfl
    have p2 : getV 2 7 0 a0_0 a0_1 a0_2 a0_3 a0_4 a0_5 a0_6 a0_7 a0_15 a0_16 a0_17 a0_18 a0_19 a0_20 a0_21 a0_22 = a0_3 / 256 % 256 := rfl
    have p3 : getV 2 3 0 a0_0 a0_1 a0_2 a0_3 a0_4 a0_5 a0_6 a0_7 a0_15 a0_16 a0_17 a0_18 a0_19 a0_20 a0_21 a0_22 = a0_3 % 256 := rfl
    have s1 : setA 2 3 3 a0_3 a2 = a0_3 - a0_3 % 256 + a2 % 256 := rfl
    have s2 : ∀ y v, setA 2 7 3 y v = y - y / 256 % 256 * 256 + v % 256 * 256 := fun _ _ => rfl
    have i0 := setA_in (k := 2) (r := 3) (i := 0) (v := a2) g0
    have i1 := setA_in (k := 2) (r := 3) (i := 1) (v := a2) g1
    have i2 := setA_in (k := 2) (r := 3) (i := 2) (v := a2) g2
    have i3 := setA_in (k := 2) (r := 3) (i := 3) (v := a2) g3
    simp only [i0, i1, i2, i3]
    simp only [w4, p1, p2, p3, s1, s2, fdiv256, g0, g1, g2, g3, g4, g5, g6, g7, gv, gq, Bool.and_self, Bool.and_true, cond_true, lows_get g3, lows_set g3 gv, beq_self_eq_true]
    try rfl
end Go.Proofs.Ytmmapogcackbbaa.regsLows
