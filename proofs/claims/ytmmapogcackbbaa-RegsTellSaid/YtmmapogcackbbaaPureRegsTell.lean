/- RegsTell: the reckoning of the law, and that it is true. -/
import Derived.Test.YtmmapogcackbbaaCRg3
import Derived.Test.YtmmapogcackbbaaNRegs2
namespace Go.Proofs.Ytmmapogcackbbaa.regsTell
open Go Go.Ev
set_option linter.unusedVariables false
set_option linter.unusedSimpArgs false
set_option maxRecDepth 100000
theorem form (a0_0 : Int) (a0_1 : Int) (a0_2 : Int) (a0_3 : Int) (a0_4 : Int) (a0_5 : Int) (a0_6 : Int) (a0_7 : Int) (a0_8 : Int) (a0_9 : Bool) (a0_10 : Bool) (a0_11 : Bool) (a0_12 : Bool) (a0_13 : Bool) (a0_14 : Bool) (a0_15 : Int) (a0_16 : Int) (a0_17 : Int) (a0_18 : Int) (a0_19 : Int) (a0_20 : Int) (a0_21 : Int) (a0_22 : Int) (a1_0 : Int) (a1_1 : Int) (a1_2 : Int) (a1_3 : Int) (a1_4 : Int) (a1_5 : Int) (a2 : Int) (a3 : Int) (a4 : Int) :
    evF Try.prog ΓRg3 400 3 [.agg [.v (.int .u32 a0_0), .v (.int .u32 a0_1), .v (.int .u32 a0_2), .v (.int .u32 a0_3), .v (.int .u32 a0_4), .v (.int .u32 a0_5), .v (.int .u32 a0_6), .v (.int .u32 a0_7), .v (.int .u32 a0_8), .v (.bool a0_9), .v (.bool a0_10), .v (.bool a0_11), .v (.bool a0_12), .v (.bool a0_13), .v (.bool a0_14), .v (.int .u64 a0_15), .v (.int .u64 a0_16), .v (.int .u64 a0_17), .v (.int .u64 a0_18), .v (.int .u64 a0_19), .v (.int .u64 a0_20), .v (.int .u64 a0_21), .v (.int .u64 a0_22)], .agg [.v (.int .i64 a1_0), .v (.int .i64 a1_1), .v (.int .i64 a1_2), .v (.int .i64 a1_3), .v (.int .i64 a1_4), .v (.int .u32 a1_5)], .v (.int .u8 a2), .v (.int .u8 a3), .v (.int .u64 a4)] [] isT (fun _ _ => none) =
    (bif
    in32 a0_0 &&
    (in32 a0_1 && (in32 a0_2 && (in32 a0_3 && (in32 a0_4 && (in32 a0_5 && (in32 a0_6 && (in32 a0_7 && in32 a1_5))))))) then
    bif
    in32 a0_0 &&
    (in32 a0_1 && (in32 a0_2 && (in32 a0_3 && (in32 a0_4 && (in32 a0_5 && (in32 a0_6 && (in32 a0_7 && in32 a1_5))))))) then
    bif
    getV a1_0 a1_1 a1_5 a0_0 a0_1 a0_2 a0_3 a0_4 a0_5 a0_6 a0_7 a0_15 a0_16 a0_17 a0_18 a0_19 a0_20 a0_21 a0_22 !=
    getV a1_0 a1_1 a1_5 a0_0 a0_1 a0_2 a0_3 a0_4 a0_5 a0_6 a0_7 a0_15 a0_16 a0_17 a0_18 a0_19 a0_20 a0_21 a0_22 then
    some false
    else
    bif in32 a0_0 && (in32 a0_1 && (in32 a0_2 && (in32 a0_3 && in64 a4))) then
    bif in32 a0_0 && (in32 a0_1 && (in32 a0_2 && (in32 a0_3 && in64 a4))) then
    bif
    !(setA a1_0 a1_1 0 a0_0 a4 == setA a1_0 a1_1 0 a0_0 a4 &&
    (setA a1_0 a1_1 1 a0_1 a4 == setA a1_0 a1_1 1 a0_1 a4 &&
    (setA a1_0 a1_1 2 a0_2 a4 == setA a1_0 a1_1 2 a0_2 a4 &&
    (setA a1_0 a1_1 3 a0_3 a4 == setA a1_0 a1_1 3 a0_3 a4 &&
    (setB a1_0 a1_1 4 a0_4 a4 == setB a1_0 a1_1 4 a0_4 a4 &&
    (setB a1_0 a1_1 5 a0_5 a4 == setB a1_0 a1_1 5 a0_5 a4 &&
    (setB a1_0 a1_1 6 a0_6 a4 == setB a1_0 a1_1 6 a0_6 a4 &&
    (setB a1_0 a1_1 7 a0_7 a4 == setB a1_0 a1_1 7 a0_7 a4 && true))))))) &&
    (a0_8 == a0_8 &&
    (a0_9 == a0_9 &&
    (a0_10 == a0_10 && (a0_11 == a0_11 && (a0_12 == a0_12 && (a0_13 == a0_13 && (a0_14 == a0_14 && true))))) &&
    (setX a1_0 a1_1 0 a0_15 a4 == setX a1_0 a1_1 0 a0_15 a4 &&
    (setX a1_0 a1_1 1 a0_16 a4 == setX a1_0 a1_1 1 a0_16 a4 &&
    (setX a1_0 a1_1 2 a0_17 a4 == setX a1_0 a1_1 2 a0_17 a4 &&
    (setX a1_0 a1_1 3 a0_18 a4 == setX a1_0 a1_1 3 a0_18 a4 &&
    (setX a1_0 a1_1 4 a0_19 a4 == setX a1_0 a1_1 4 a0_19 a4 &&
    (setX a1_0 a1_1 5 a0_20 a4 == setX a1_0 a1_1 5 a0_20 a4 &&
    (setX a1_0 a1_1 6 a0_21 a4 == setX a1_0 a1_1 6 a0_21 a4 &&
    (setX a1_0 a1_1 7 a0_22 a4 == setX a1_0 a1_1 7 a0_22 a4 && true))))))) &&
    true)))) then
    some false
    else
    bif
    in32 a0_0 &&
    (in32 a0_1 &&
    (in32 a0_2 &&
    (in32 a0_3 && (in32 a0_4 && (in32 a0_5 && (in32 a0_6 && (in32 a0_7 && in32 (IntKind.wrap IntKind.u32 a4)))))))) then
    bif
    in32 a0_0 &&
    (in32 a0_1 &&
    (in32 a0_2 &&
    (in32 a0_3 && (in32 a0_4 && (in32 a0_5 && (in32 a0_6 && (in32 a0_7 && in32 (IntKind.wrap IntKind.u32 a4)))))))) then
    bif
    getV (IntKind.wrap IntKind.i64 (Int.tmod a2 7))
    (IntKind.wrap IntKind.i64 (IntKind.wrap IntKind.i64 (Int.tmod a3 10) - 1)) (IntKind.wrap IntKind.u32 a4) a0_0 a0_1 a0_2
    a0_3 a0_4 a0_5 a0_6 a0_7 a0_15 a0_16 a0_17 a0_18 a0_19 a0_20 a0_21 a0_22 !=
    getV (IntKind.wrap IntKind.i64 (Int.tmod a2 7))
    (IntKind.wrap IntKind.i64 (IntKind.wrap IntKind.i64 (Int.tmod a3 10) - 1)) (IntKind.wrap IntKind.u32 a4) a0_0 a0_1 a0_2
    a0_3 a0_4 a0_5 a0_6 a0_7 a0_15 a0_16 a0_17 a0_18 a0_19 a0_20 a0_21 a0_22 then
    some false
    else
    bif in32 a0_0 && (in32 a0_1 && (in32 a0_2 && (in32 a0_3 && in64 a4))) then
    bif in32 a0_0 && (in32 a0_1 && (in32 a0_2 && (in32 a0_3 && in64 a4))) then
    bif
    !(setA (IntKind.wrap IntKind.i64 (Int.tmod a2 7))
    (IntKind.wrap IntKind.i64 (IntKind.wrap IntKind.i64 (Int.tmod a3 10) - 1)) 0 a0_0 a4 ==
    setA (IntKind.wrap IntKind.i64 (Int.tmod a2 7))
    (IntKind.wrap IntKind.i64 (IntKind.wrap IntKind.i64 (Int.tmod a3 10) - 1)) 0 a0_0 a4 &&
    (setA (IntKind.wrap IntKind.i64 (Int.tmod a2 7))
    (IntKind.wrap IntKind.i64 (IntKind.wrap IntKind.i64 (Int.tmod a3 10) - 1)) 1 a0_1 a4 ==
    setA (IntKind.wrap IntKind.i64 (Int.tmod a2 7))
    (IntKind.wrap IntKind.i64 (IntKind.wrap IntKind.i64 (Int.tmod a3 10) - 1)) 1 a0_1 a4 &&
    (setA (IntKind.wrap IntKind.i64 (Int.tmod a2 7))
    (IntKind.wrap IntKind.i64 (IntKind.wrap IntKind.i64 (Int.tmod a3 10) - 1)) 2 a0_2 a4 ==
    setA (IntKind.wrap IntKind.i64 (Int.tmod a2 7))
    (IntKind.wrap IntKind.i64 (IntKind.wrap IntKind.i64 (Int.tmod a3 10) - 1)) 2 a0_2 a4 &&
    (setA (IntKind.wrap IntKind.i64 (Int.tmod a2 7))
    (IntKind.wrap IntKind.i64 (IntKind.wrap IntKind.i64 (Int.tmod a3 10) - 1)) 3 a0_3 a4 ==
    setA (IntKind.wrap IntKind.i64 (Int.tmod a2 7))
    (IntKind.wrap IntKind.i64 (IntKind.wrap IntKind.i64 (Int.tmod a3 10) - 1)) 3 a0_3 a4 &&
    (setB (IntKind.wrap IntKind.i64 (Int.tmod a2 7))
    (IntKind.wrap IntKind.i64 (IntKind.wrap IntKind.i64 (Int.tmod a3 10) - 1)) 4 a0_4 a4 ==
    setB (IntKind.wrap IntKind.i64 (Int.tmod a2 7))
    (IntKind.wrap IntKind.i64 (IntKind.wrap IntKind.i64 (Int.tmod a3 10) - 1)) 4 a0_4 a4 &&
    (setB (IntKind.wrap IntKind.i64 (Int.tmod a2 7))
    (IntKind.wrap IntKind.i64 (IntKind.wrap IntKind.i64 (Int.tmod a3 10) - 1)) 5 a0_5 a4 ==
    setB (IntKind.wrap IntKind.i64 (Int.tmod a2 7))
    (IntKind.wrap IntKind.i64 (IntKind.wrap IntKind.i64 (Int.tmod a3 10) - 1)) 5 a0_5 a4 &&
    (setB (IntKind.wrap IntKind.i64 (Int.tmod a2 7))
    (IntKind.wrap IntKind.i64 (IntKind.wrap IntKind.i64 (Int.tmod a3 10) - 1)) 6 a0_6 a4 ==
    setB (IntKind.wrap IntKind.i64 (Int.tmod a2 7))
    (IntKind.wrap IntKind.i64 (IntKind.wrap IntKind.i64 (Int.tmod a3 10) - 1)) 6 a0_6 a4 &&
    (setB (IntKind.wrap IntKind.i64 (Int.tmod a2 7))
    (IntKind.wrap IntKind.i64 (IntKind.wrap IntKind.i64 (Int.tmod a3 10) - 1)) 7 a0_7 a4 ==
    setB (IntKind.wrap IntKind.i64 (Int.tmod a2 7))
    (IntKind.wrap IntKind.i64 (IntKind.wrap IntKind.i64 (Int.tmod a3 10) - 1)) 7 a0_7 a4 &&
    true))))))) &&
    (a0_8 == a0_8 &&
    (a0_9 == a0_9 &&
    (a0_10 == a0_10 && (a0_11 == a0_11 && (a0_12 == a0_12 && (a0_13 == a0_13 && (a0_14 == a0_14 && true))))) &&
    (setX (IntKind.wrap IntKind.i64 (Int.tmod a2 7))
    (IntKind.wrap IntKind.i64 (IntKind.wrap IntKind.i64 (Int.tmod a3 10) - 1)) 0 a0_15 a4 ==
    setX (IntKind.wrap IntKind.i64 (Int.tmod a2 7))
    (IntKind.wrap IntKind.i64 (IntKind.wrap IntKind.i64 (Int.tmod a3 10) - 1)) 0 a0_15 a4 &&
    (setX (IntKind.wrap IntKind.i64 (Int.tmod a2 7))
    (IntKind.wrap IntKind.i64 (IntKind.wrap IntKind.i64 (Int.tmod a3 10) - 1)) 1 a0_16 a4 ==
    setX (IntKind.wrap IntKind.i64 (Int.tmod a2 7))
    (IntKind.wrap IntKind.i64 (IntKind.wrap IntKind.i64 (Int.tmod a3 10) - 1)) 1 a0_16 a4 &&
    (setX (IntKind.wrap IntKind.i64 (Int.tmod a2 7))
    (IntKind.wrap IntKind.i64 (IntKind.wrap IntKind.i64 (Int.tmod a3 10) - 1)) 2 a0_17 a4 ==
    setX (IntKind.wrap IntKind.i64 (Int.tmod a2 7))
    (IntKind.wrap IntKind.i64 (IntKind.wrap IntKind.i64 (Int.tmod a3 10) - 1)) 2 a0_17 a4 &&
    (setX (IntKind.wrap IntKind.i64 (Int.tmod a2 7))
    (IntKind.wrap IntKind.i64 (IntKind.wrap IntKind.i64 (Int.tmod a3 10) - 1)) 3 a0_18 a4 ==
    setX (IntKind.wrap IntKind.i64 (Int.tmod a2 7))
    (IntKind.wrap IntKind.i64 (IntKind.wrap IntKind.i64 (Int.tmod a3 10) - 1)) 3 a0_18 a4 &&
    (setX (IntKind.wrap IntKind.i64 (Int.tmod a2 7))
    (IntKind.wrap IntKind.i64 (IntKind.wrap IntKind.i64 (Int.tmod a3 10) - 1)) 4 a0_19 a4 ==
    setX (IntKind.wrap IntKind.i64 (Int.tmod a2 7))
    (IntKind.wrap IntKind.i64 (IntKind.wrap IntKind.i64 (Int.tmod a3 10) - 1)) 4 a0_19 a4 &&
    (setX (IntKind.wrap IntKind.i64 (Int.tmod a2 7))
    (IntKind.wrap IntKind.i64 (IntKind.wrap IntKind.i64 (Int.tmod a3 10) - 1)) 5 a0_20 a4 ==
    setX (IntKind.wrap IntKind.i64 (Int.tmod a2 7))
    (IntKind.wrap IntKind.i64 (IntKind.wrap IntKind.i64 (Int.tmod a3 10) - 1)) 5 a0_20 a4 &&
    (setX (IntKind.wrap IntKind.i64 (Int.tmod a2 7))
    (IntKind.wrap IntKind.i64 (IntKind.wrap IntKind.i64 (Int.tmod a3 10) - 1)) 6 a0_21 a4 ==
    setX (IntKind.wrap IntKind.i64 (Int.tmod a2 7))
    (IntKind.wrap IntKind.i64 (IntKind.wrap IntKind.i64 (Int.tmod a3 10) - 1)) 6 a0_21 a4 &&
    (setX (IntKind.wrap IntKind.i64 (Int.tmod a2 7))
    (IntKind.wrap IntKind.i64 (IntKind.wrap IntKind.i64 (Int.tmod a3 10) - 1)) 7 a0_22 a4 ==
    setX (IntKind.wrap IntKind.i64 (Int.tmod a2 7))
    (IntKind.wrap IntKind.i64 (IntKind.wrap IntKind.i64 (Int.tmod a3 10) - 1)) 7 a0_22 a4 &&
    true))))))) &&
    true)))) then
    some false
    else some true
    else none
    else none
    else none
    else none
    else none
    else none
    else none
    else none) := by kernel_rfl
set_option maxHeartbeats 1000000 in
theorem pure (a0_0 : Int) (a0_1 : Int) (a0_2 : Int) (a0_3 : Int) (a0_4 : Int) (a0_5 : Int) (a0_6 : Int) (a0_7 : Int) (a0_8 : Int) (a0_9 : Bool) (a0_10 : Bool) (a0_11 : Bool) (a0_12 : Bool) (a0_13 : Bool) (a0_14 : Bool) (a0_15 : Int) (a0_16 : Int) (a0_17 : Int) (a0_18 : Int) (a0_19 : Int) (a0_20 : Int) (a0_21 : Int) (a0_22 : Int) (a1_0 : Int) (a1_1 : Int) (a1_2 : Int) (a1_3 : Int) (a1_4 : Int) (a1_5 : Int) (a2 : Int) (a3 : Int) (a4 : Int) (w0_0 : (Lit.int .u32 a0_0).wf = true) (w0_1 : (Lit.int .u32 a0_1).wf = true) (w0_2 : (Lit.int .u32 a0_2).wf = true) (w0_3 : (Lit.int .u32 a0_3).wf = true) (w0_4 : (Lit.int .u32 a0_4).wf = true) (w0_5 : (Lit.int .u32 a0_5).wf = true) (w0_6 : (Lit.int .u32 a0_6).wf = true) (w0_7 : (Lit.int .u32 a0_7).wf = true) (w0_8 : (Lit.int .u32 a0_8).wf = true) (w0_15 : (Lit.int .u64 a0_15).wf = true) (w0_16 : (Lit.int .u64 a0_16).wf = true) (w0_17 : (Lit.int .u64 a0_17).wf = true) (w0_18 : (Lit.int .u64 a0_18).wf = true) (w0_19 : (Lit.int .u64 a0_19).wf = true) (w0_20 : (Lit.int .u64 a0_20).wf = true) (w0_21 : (Lit.int .u64 a0_21).wf = true) (w0_22 : (Lit.int .u64 a0_22).wf = true) (w1_0 : (Lit.int .i64 a1_0).wf = true) (w1_1 : (Lit.int .i64 a1_1).wf = true) (w1_2 : (Lit.int .i64 a1_2).wf = true) (w1_3 : (Lit.int .i64 a1_3).wf = true) (w1_4 : (Lit.int .i64 a1_4).wf = true) (w1_5 : (Lit.int .u32 a1_5).wf = true) (w2 : (Lit.int .u8 a2).wf = true) (w3 : (Lit.int .u8 a3).wf = true) (w4 : (Lit.int .u64 a4).wf = true) :
    evF Try.prog ΓRg3 400 3 [.agg [.v (.int .u32 a0_0), .v (.int .u32 a0_1), .v (.int .u32 a0_2), .v (.int .u32 a0_3), .v (.int .u32 a0_4), .v (.int .u32 a0_5), .v (.int .u32 a0_6), .v (.int .u32 a0_7), .v (.int .u32 a0_8), .v (.bool a0_9), .v (.bool a0_10), .v (.bool a0_11), .v (.bool a0_12), .v (.bool a0_13), .v (.bool a0_14), .v (.int .u64 a0_15), .v (.int .u64 a0_16), .v (.int .u64 a0_17), .v (.int .u64 a0_18), .v (.int .u64 a0_19), .v (.int .u64 a0_20), .v (.int .u64 a0_21), .v (.int .u64 a0_22)], .agg [.v (.int .i64 a1_0), .v (.int .i64 a1_1), .v (.int .i64 a1_2), .v (.int .i64 a1_3), .v (.int .i64 a1_4), .v (.int .u32 a1_5)], .v (.int .u8 a2), .v (.int .u8 a3), .v (.int .u64 a4)] [] isT (fun _ _ => none) = some true := by
  rw [form]
  try simp only [bitsL_eq]
  have g0 := in32_iff.2 (wf_u32 w0_0)
  have g1 := in32_iff.2 (wf_u32 w0_1)
  have g2 := in32_iff.2 (wf_u32 w0_2)
  have g3 := in32_iff.2 (wf_u32 w0_3)
  have g4 := in32_iff.2 (wf_u32 w0_4)
  have g5 := in32_iff.2 (wf_u32 w0_5)
  have g6 := in32_iff.2 (wf_u32 w0_6)
  have g7 := in32_iff.2 (wf_u32 w0_7)
  have gd := in32_iff.2 (wf_u32 w1_5)
  have gv := in64_iff.2 (wf_u64 w4)
  simp only [g0, g1, g2, g3, g4, g5, g6, g7, gd, gv, in32_wr, Bool.and_self, Bool.and_true, cond_true, cond_false, bne_self_eq_false, beq_self_eq_true, Bool.not_true]
end Go.Proofs.Ytmmapogcackbbaa.regsTell
