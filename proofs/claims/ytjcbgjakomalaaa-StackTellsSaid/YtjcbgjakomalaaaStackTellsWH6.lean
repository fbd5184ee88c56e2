/- StackTells: one way of the reckoning, and that it is true. -/
import Derived.Test.YtjcbgjakomalaaaCTs
import Derived.Test.YtjcbgjakomalaaaNStr
import Derived.Test.YtjcbgjakomalaaaNHold
namespace Go.Proofs.Ytjcbgjakomalaaa.stackTells.H6
open Go Go.Ev
set_option linter.unusedVariables false
set_option linter.unusedSimpArgs false
set_option maxRecDepth 100000
theorem in8b (op : BinOp) (a b : Int) : in8 (bitsL op .u8 a b) = true := by rw [bitsL_eq]; exact in8_iff.2 (wf_u8 (wf_bits _ _ _ _))
theorem k8 {a : Int} (w : (Lit.int .u8 a).wf = true) : in8 a = true := in8_iff.2 (wf_u8 w)
theorem k32 {a : Int} (w : (Lit.int .u32 a).wf = true) : in32 a = true := in32_iff.2 (wf_u32 w)
theorem k64 {a : Int} (w : (Lit.int .u64 a).wf = true) : in64 a = true := in64_iff.2 (wf_u64 w)
theorem in32b (op : BinOp) (a b : Int) : in32 (bitsL op .u32 a b) = true := by rw [bitsL_eq]; exact in32_iff.2 (wf_u32 (wf_bits _ _ _ _))
set_option maxHeartbeats 4000000 in
theorem pure (a0_0 a0_1 a0_2 a0_3 a0_4 a0_5 a0_6 a0_7 a0_8 : Int) (a0_9 a0_10 a0_11 a0_12 a0_13 a0_14 : Bool) (a0_15 a0_16 a0_17 a0_18 a0_19 a0_20 a0_21 a0_22 a1_0 a1_1 a1_2 a1_3 a1_4 a1_5 a1_6 a1_7 a2_0 a2_1 a2_2 a2_3 a2_4 a2_5 a2_6 a2_7 a3 a4 a5 a6 a7 a8 : Int) (w0_0 : (Lit.int .u32 a0_0).wf = true) (w0_1 : (Lit.int .u32 a0_1).wf = true) (w0_2 : (Lit.int .u32 a0_2).wf = true) (w0_3 : (Lit.int .u32 a0_3).wf = true) (w0_4 : (Lit.int .u32 a0_4).wf = true) (w0_5 : (Lit.int .u32 a0_5).wf = true) (w0_6 : (Lit.int .u32 a0_6).wf = true) (w0_7 : (Lit.int .u32 a0_7).wf = true) (w0_8 : (Lit.int .u32 a0_8).wf = true) (w0_15 : (Lit.int .u64 a0_15).wf = true) (w0_16 : (Lit.int .u64 a0_16).wf = true) (w0_17 : (Lit.int .u64 a0_17).wf = true) (w0_18 : (Lit.int .u64 a0_18).wf = true) (w0_19 : (Lit.int .u64 a0_19).wf = true) (w0_20 : (Lit.int .u64 a0_20).wf = true) (w0_21 : (Lit.int .u64 a0_21).wf = true) (w0_22 : (Lit.int .u64 a0_22).wf = true) (w1_0 : (Lit.int .u32 a1_0).wf = true) (w1_1 : (Lit.int .u32 a1_1).wf = true) (w1_2 : (Lit.int .u32 a1_2).wf = true) (w1_3 : (Lit.int .u32 a1_3).wf = true) (w1_4 : (Lit.int .u32 a1_4).wf = true) (w1_5 : (Lit.int .u32 a1_5).wf = true) (w1_6 : (Lit.int .u32 a1_6).wf = true) (w1_7 : (Lit.int .u32 a1_7).wf = true) (w2_0 : (Lit.int .u64 a2_0).wf = true) (w2_1 : (Lit.int .u64 a2_1).wf = true) (w2_2 : (Lit.int .u64 a2_2).wf = true) (w2_3 : (Lit.int .u64 a2_3).wf = true) (w2_4 : (Lit.int .u64 a2_4).wf = true) (w2_5 : (Lit.int .u64 a2_5).wf = true) (w2_6 : (Lit.int .u64 a2_6).wf = true) (w2_7 : (Lit.int .u64 a2_7).wf = true) (w3 : (Lit.int .u8 a3).wf = true) (w4 : (Lit.int .u8 a4).wf = true) (w5 : (Lit.int .u8 a5).wf = true) (w6 : (Lit.int .u8 a6).wf = true) (w7 : (Lit.int .u32 a7).wf = true) (w8 : (Lit.int .u32 a8).wf = true) (hw : Int.tmod a5 11 = 6 ∨ Int.tmod a5 11 = 7) :
    evF Try.prog (ΓTs.add 41 (onlySpec (headIn [201, 104]) one8S)) 400 13 [.agg [.v (.int .u32 a0_0), .v (.int .u32 a0_1), .v (.int .u32 a0_2), .v (.int .u32 a0_3), .v (.int .u32 a0_4), .v (.int .u32 a0_5), .v (.int .u32 a0_6), .v (.int .u32 a0_7), .v (.int .u32 a0_8), .v (.bool a0_9), .v (.bool a0_10), .v (.bool a0_11), .v (.bool a0_12), .v (.bool a0_13), .v (.bool a0_14), .v (.int .u64 a0_15), .v (.int .u64 a0_16), .v (.int .u64 a0_17), .v (.int .u64 a0_18), .v (.int .u64 a0_19), .v (.int .u64 a0_20), .v (.int .u64 a0_21), .v (.int .u64 a0_22)], .agg [.v (.int .u32 a1_0), .v (.int .u32 a1_1), .v (.int .u32 a1_2), .v (.int .u32 a1_3), .v (.int .u32 a1_4), .v (.int .u32 a1_5), .v (.int .u32 a1_6), .v (.int .u32 a1_7)], .agg [.v (.int .u64 a2_0), .v (.int .u64 a2_1), .v (.int .u64 a2_2), .v (.int .u64 a2_3), .v (.int .u64 a2_4), .v (.int .u64 a2_5), .v (.int .u64 a2_6), .v (.int .u64 a2_7)], .v (.int .u8 a3), .v (.int .u8 a4), .v (.int .u8 a5), .v (.int .u8 a6), .v (.int .u32 a7), .v (.int .u32 a8)] [] isT (fun _ _ => none) = some true := by
  obtain ⟨x1, ex1⟩ : ∃ x : Int, x = (Int.tmod a5 11) := ⟨_, rfl⟩
  obtain ⟨x2, ex2⟩ : ∃ x : Bool, x = (x1 == 9) := ⟨_, rfl⟩
  obtain ⟨x3, ex3⟩ : ∃ x : Bool, x = (x1 == 10) := ⟨_, rfl⟩
  obtain ⟨x4, ex4⟩ : ∃ x : Option Bool, x = (bif x3 then none else none) := ⟨_, rfl⟩
  obtain ⟨x5, ex5⟩ : ∃ x : Option Bool, x = (bif x2 then x4 else x4) := ⟨_, rfl⟩
  obtain ⟨x6, ex6⟩ : ∃ x : Int, x = (bitsL BinOp.andNot IntKind.u8 (bitsL BinOp.or IntKind.u8 a6 48) 8) := ⟨_, rfl⟩
  obtain ⟨x7, ex7⟩ : ∃ x : Bool, x = (0 == 0) := ⟨_, rfl⟩
  obtain ⟨x8, ex8⟩ : ∃ x : Bool, x = (in8 (IntKind.wrap IntKind.u8 a7) && (x7 && (x7 && (x7 && (x7 && x7))))) := ⟨_, rfl⟩
  obtain ⟨x9, ex9⟩ : ∃ x : Bool, x = (true && (true && (true && (true && (in8 x6 && x8))))) := ⟨_, rfl⟩
  obtain ⟨x10, ex10⟩ : ∃ x : Bool, x = (201 == 80) := ⟨_, rfl⟩
  obtain ⟨x11, ex11⟩ : ∃ x : Bool, x = (in32 a1_0 && (in32 a1_1 && (in32 a1_2 && (in32 a1_3 && (in32 a1_4 && (in32 a1_5 && (in32 a1_6 && (in32 a1_7 && (in64 a2_0 && (in64 a2_1 && (in64 a2_2 && (in64 a2_3 && (in64 a2_4 && (in64 a2_5 && (in64 a2_6 && (in64 a2_7 && (in8 a3 && in8 a4))))))))))))))))) := ⟨_, rfl⟩
  obtain ⟨x12, ex12⟩ : ∃ x : Int, x = (bitsL BinOp.or IntKind.u8 a4 48) := ⟨_, rfl⟩
  obtain ⟨x13, ex13⟩ : ∃ x : Bool, x = (in32 a1_0 && (in32 a1_1 && (in32 a1_2 && (in32 a1_3 && (in32 a1_4 && (in32 a1_5 && (in32 a1_6 && (in32 a1_7 && (in64 a2_0 && (in64 a2_1 && (in64 a2_2 && (in64 a2_3 && (in64 a2_4 && (in64 a2_5 && (in64 a2_6 && (in64 a2_7 && (in8 a3 && in8 x12))))))))))))))))) := ⟨_, rfl⟩
  obtain ⟨x14, ex14⟩ : ∃ x : Bool, x = (in32 (stRV (stBit a4 1) a1_0)) := ⟨_, rfl⟩
  obtain ⟨x15, ex15⟩ : ∃ x : Bool, x = (in32 (stRV (stBit a4 2) a1_1)) := ⟨_, rfl⟩
  obtain ⟨x16, ex16⟩ : ∃ x : Bool, x = (in32 (stRV (stBit a4 4) a1_2)) := ⟨_, rfl⟩
  obtain ⟨x17, ex17⟩ : ∃ x : Bool, x = (in32 (stRV (stBit a4 8) a1_3)) := ⟨_, rfl⟩
  obtain ⟨x18, ex18⟩ : ∃ x : Bool, x = (in32 (stRV (stBit a4 16) a1_4)) := ⟨_, rfl⟩
  obtain ⟨x19, ex19⟩ : ∃ x : Bool, x = (in32 (stRV (stBit a4 32) a1_5)) := ⟨_, rfl⟩
  obtain ⟨x20, ex20⟩ : ∃ x : Bool, x = (in32 (stRV (stBit a4 64) a1_6)) := ⟨_, rfl⟩
  obtain ⟨x21, ex21⟩ : ∃ x : Bool, x = (in32 (stRV (stBit a4 128) a1_7)) := ⟨_, rfl⟩
  obtain ⟨x22, ex22⟩ : ∃ x : Bool, x = (in32 (stRV (stBit x12 1) a1_0)) := ⟨_, rfl⟩
  obtain ⟨x23, ex23⟩ : ∃ x : Bool, x = (in32 (stRV (stBit x12 2) a1_1)) := ⟨_, rfl⟩
  obtain ⟨x24, ex24⟩ : ∃ x : Bool, x = (in32 (stRV (stBit x12 4) a1_2)) := ⟨_, rfl⟩
  obtain ⟨x25, ex25⟩ : ∃ x : Bool, x = (in32 (stRV (stBit x12 8) a1_3)) := ⟨_, rfl⟩
  obtain ⟨x26, ex26⟩ : ∃ x : Bool, x = (in32 (stRV (stBit x12 16) a1_4)) := ⟨_, rfl⟩
  obtain ⟨x27, ex27⟩ : ∃ x : Bool, x = (in32 (stRV (stBit x12 32) a1_5)) := ⟨_, rfl⟩
  obtain ⟨x28, ex28⟩ : ∃ x : Bool, x = (in32 (stRV (stBit x12 64) a1_6)) := ⟨_, rfl⟩
  obtain ⟨x29, ex29⟩ : ∃ x : Bool, x = (in32 (stRV (stBit x12 128) a1_7)) := ⟨_, rfl⟩
  obtain ⟨x30, ex30⟩ : ∃ x : Bool, x = (in32 a7 && (true && (true && (true && (true && (true && (true && true))))))) := ⟨_, rfl⟩
  obtain ⟨x31, ex31⟩ : ∃ x : Option Bool, x = (bif x11 then bif x13 then bif in32 a0_0 && (in32 a0_1 && (in32 a0_2 && (in32 a0_3 && (in32 a0_4 && (in32 a0_5 && (in32 a0_6 && (in32 a0_7 && (x14 && (x15 && (x16 && (x17 && (x18 && (x19 && (x20 && (x21 && (x22 && (x23 && (x24 && (x25 && (x26 && (x27 && (x28 && (x29 && (true && x30)))))))))))))))))))))))) then some true else none else none else none) := ⟨_, rfl⟩
  obtain ⟨x32, ex32⟩ : ∃ x : Bool, x = (201 == 81) := ⟨_, rfl⟩
  obtain ⟨x33, ex33⟩ : ∃ x : Bool, x = (201 == 84) := ⟨_, rfl⟩
  obtain ⟨x34, ex34⟩ : ∃ x : Bool, x = (201 == 88) := ⟨_, rfl⟩
  obtain ⟨x35, ex35⟩ : ∃ x : Bool, x = (201 == 92) := ⟨_, rfl⟩
  obtain ⟨x36, ex36⟩ : ∃ x : Bool, x = (201 == 93) := ⟨_, rfl⟩
  obtain ⟨x37, ex37⟩ : ∃ x : Bool, x = (201 == 201) := ⟨_, rfl⟩
  obtain ⟨x38, ex38⟩ : ∃ x : Bool, x = (201 == 104) := ⟨_, rfl⟩
  obtain ⟨x39, ex39⟩ : ∃ x : Int, x = (IntKind.wrap IntKind.u32 (IntKind.wrap IntKind.u32 (IntKind.wrap IntKind.u8 a7) * 256)) := ⟨_, rfl⟩
  obtain ⟨x40, ex40⟩ : ∃ x : Option Bool, x = (bif x11 then bif x13 then bif in32 a0_0 && (in32 a0_1 && (in32 a0_2 && (in32 a0_3 && (in32 a0_4 && (in32 a0_5 && (in32 a0_6 && (in32 a0_7 && (x14 && (x15 && (x16 && (x17 && (x18 && (x19 && (x20 && (x21 && (x22 && (x23 && (x24 && (x25 && (x26 && (x27 && (x28 && (x29 && (in32 (bitsL BinOp.or IntKind.u32 (bitsL BinOp.or IntKind.u32 (bitsL BinOp.or IntKind.u32 (IntKind.wrap IntKind.u32 x6) x39) 0) 0) && x30)))))))))))))))))))))))) then some true else none else none else none) := ⟨_, rfl⟩
  obtain ⟨x41, ex41⟩ : ∃ x : Bool, x = (201 == 106) := ⟨_, rfl⟩
  obtain ⟨x42, ex42⟩ : ∃ x : Option Bool, x = (bif x11 then bif x13 then bif in32 a0_0 && (in32 a0_1 && (in32 a0_2 && (in32 a0_3 && (in32 a0_4 && (in32 a0_5 && (in32 a0_6 && (in32 a0_7 && (x14 && (x15 && (x16 && (x17 && (x18 && (x19 && (x20 && (x21 && (x22 && (x23 && (x24 && (x25 && (x26 && (x27 && (x28 && (x29 && (in32 (IntKind.wrap IntKind.u32 (IntKind.wrap IntKind.i32 (IntKind.wrap IntKind.i8 x6))) && x30)))))))))))))))))))))))) then some true else none else none else none) := ⟨_, rfl⟩
  obtain ⟨x43, ex43⟩ : ∃ x : Bool, x = (201 == 143) := ⟨_, rfl⟩
  obtain ⟨x44, ex44⟩ : ∃ x : Option (Sv × List SObj), x = (on8fT x6 (IntKind.wrap IntKind.u8 a7) 5) := ⟨_, rfl⟩
  obtain ⟨x45, ex45⟩ : ∃ x : Int, x = (ansI x44 0) := ⟨_, rfl⟩
  obtain ⟨x46, ex46⟩ : ∃ x : Option Bool, x = (bif x11 then bif x13 then bif in32 a0_0 && (in32 a0_1 && (in32 a0_2 && (in32 a0_3 && (in32 a0_4 && (in32 a0_5 && (in32 a0_6 && (in32 a0_7 && (x14 && (x15 && (x16 && (x17 && (x18 && (x19 && (x20 && (x21 && (x22 && (x23 && (x24 && (x25 && (x26 && (x27 && (x28 && (x29 && (in32 (ansI x44 8) && x30)))))))))))))))))))))))) then some true else none else none else none) := ⟨_, rfl⟩
  obtain ⟨x47, ex47⟩ : ∃ x : Option Bool, x = (bif ansI x44 18 != 0 then some true else bif x45 == 23 then x46 else bif x45 == 24 then x46 else bif !x45 == 49 then some true else x46) := ⟨_, rfl⟩
  obtain ⟨x48, ex48⟩ : ∃ x : Bool, x = (201 == 255) := ⟨_, rfl⟩
  obtain ⟨x49, ex49⟩ : ∃ x : Option (Sv × List SObj), x = (onffT x6 (IntKind.wrap IntKind.u8 a7) 5) := ⟨_, rfl⟩
  obtain ⟨x50, ex50⟩ : ∃ x : Int, x = (ansI x49 0) := ⟨_, rfl⟩
  obtain ⟨x51, ex51⟩ : ∃ x : Option Bool, x = (bif x11 then bif x13 then bif in32 a0_0 && (in32 a0_1 && (in32 a0_2 && (in32 a0_3 && (in32 a0_4 && (in32 a0_5 && (in32 a0_6 && (in32 a0_7 && (x14 && (x15 && (x16 && (x17 && (x18 && (x19 && (x20 && (x21 && (x22 && (x23 && (x24 && (x25 && (x26 && (x27 && (x28 && (x29 && (in32 (ansI x49 8) && x30)))))))))))))))))))))))) then some true else none else none else none) := ⟨_, rfl⟩
  obtain ⟨x52, ex52⟩ : ∃ x : Option Bool, x = (bif ansI x49 18 != 0 then some true else bif x50 == 23 then x51 else bif x50 == 24 then x51 else bif !x50 == 49 then some true else x51) := ⟨_, rfl⟩
  obtain ⟨x53, ex53⟩ : ∃ x : Option Bool, x = (bif x9 then bif x10 then x31 else bif x32 then x31 else bif x33 then x31 else bif x34 then x31 else bif x35 then x31 else bif x36 then x31 else bif x37 then x31 else bif x38 then x40 else bif x41 then x42 else bif x43 then x47 else bif x48 then x52 else none else none) := ⟨_, rfl⟩
  obtain ⟨x54, ex54⟩ : ∃ x : Int, x = (bitsL BinOp.andNot IntKind.u8 a6 56) := ⟨_, rfl⟩
  obtain ⟨x55, ex55⟩ : ∃ x : Bool, x = (true && (true && (true && (true && (in8 x54 && x8))))) := ⟨_, rfl⟩
  obtain ⟨x56, ex56⟩ : ∃ x : Option Bool, x = (bif x11 then bif x13 then bif in32 a0_0 && (in32 a0_1 && (in32 a0_2 && (in32 a0_3 && (in32 a0_4 && (in32 a0_5 && (in32 a0_6 && (in32 a0_7 && (x14 && (x15 && (x16 && (x17 && (x18 && (x19 && (x20 && (x21 && (x22 && (x23 && (x24 && (x25 && (x26 && (x27 && (x28 && (x29 && (in32 (bitsL BinOp.or IntKind.u32 (bitsL BinOp.or IntKind.u32 (bitsL BinOp.or IntKind.u32 (IntKind.wrap IntKind.u32 x54) x39) 0) 0) && x30)))))))))))))))))))))))) then some true else none else none else none) := ⟨_, rfl⟩
  obtain ⟨x57, ex57⟩ : ∃ x : Option Bool, x = (bif x11 then bif x13 then bif in32 a0_0 && (in32 a0_1 && (in32 a0_2 && (in32 a0_3 && (in32 a0_4 && (in32 a0_5 && (in32 a0_6 && (in32 a0_7 && (x14 && (x15 && (x16 && (x17 && (x18 && (x19 && (x20 && (x21 && (x22 && (x23 && (x24 && (x25 && (x26 && (x27 && (x28 && (x29 && (in32 (IntKind.wrap IntKind.u32 (IntKind.wrap IntKind.i32 (IntKind.wrap IntKind.i8 x54))) && x30)))))))))))))))))))))))) then some true else none else none else none) := ⟨_, rfl⟩
  obtain ⟨x58, ex58⟩ : ∃ x : Option (Sv × List SObj), x = (on8fT x54 (IntKind.wrap IntKind.u8 a7) 5) := ⟨_, rfl⟩
  obtain ⟨x59, ex59⟩ : ∃ x : Int, x = (ansI x58 0) := ⟨_, rfl⟩
  obtain ⟨x60, ex60⟩ : ∃ x : Option Bool, x = (bif x11 then bif x13 then bif in32 a0_0 && (in32 a0_1 && (in32 a0_2 && (in32 a0_3 && (in32 a0_4 && (in32 a0_5 && (in32 a0_6 && (in32 a0_7 && (x14 && (x15 && (x16 && (x17 && (x18 && (x19 && (x20 && (x21 && (x22 && (x23 && (x24 && (x25 && (x26 && (x27 && (x28 && (x29 && (in32 (ansI x58 8) && x30)))))))))))))))))))))))) then some true else none else none else none) := ⟨_, rfl⟩
  obtain ⟨x61, ex61⟩ : ∃ x : Option Bool, x = (bif ansI x58 18 != 0 then some true else bif x59 == 23 then x60 else bif x59 == 24 then x60 else bif !x59 == 49 then some true else x60) := ⟨_, rfl⟩
  obtain ⟨x62, ex62⟩ : ∃ x : Option (Sv × List SObj), x = (onffT x54 (IntKind.wrap IntKind.u8 a7) 5) := ⟨_, rfl⟩
  obtain ⟨x63, ex63⟩ : ∃ x : Int, x = (ansI x62 0) := ⟨_, rfl⟩
  obtain ⟨x64, ex64⟩ : ∃ x : Option Bool, x = (bif x11 then bif x13 then bif in32 a0_0 && (in32 a0_1 && (in32 a0_2 && (in32 a0_3 && (in32 a0_4 && (in32 a0_5 && (in32 a0_6 && (in32 a0_7 && (x14 && (x15 && (x16 && (x17 && (x18 && (x19 && (x20 && (x21 && (x22 && (x23 && (x24 && (x25 && (x26 && (x27 && (x28 && (x29 && (in32 (ansI x62 8) && x30)))))))))))))))))))))))) then some true else none else none else none) := ⟨_, rfl⟩
  obtain ⟨x65, ex65⟩ : ∃ x : Option Bool, x = (bif ansI x62 18 != 0 then some true else bif x63 == 23 then x64 else bif x63 == 24 then x64 else bif !x63 == 49 then some true else x64) := ⟨_, rfl⟩
  obtain ⟨x66, ex66⟩ : ∃ x : Bool, x = (true && (true && (true && (true && (in8 a6 && (in8 (IntKind.wrap IntKind.u8 a7) && true)))))) := ⟨_, rfl⟩
  obtain ⟨x67, ex67⟩ : ∃ x : Bool, x = (104 == 80) := ⟨_, rfl⟩
  obtain ⟨x68, ex68⟩ : ∃ x : Bool, x = (104 == 81) := ⟨_, rfl⟩
  obtain ⟨x69, ex69⟩ : ∃ x : Bool, x = (104 == 84) := ⟨_, rfl⟩
  obtain ⟨x70, ex70⟩ : ∃ x : Bool, x = (104 == 88) := ⟨_, rfl⟩
  obtain ⟨x71, ex71⟩ : ∃ x : Bool, x = (104 == 92) := ⟨_, rfl⟩
  obtain ⟨x72, ex72⟩ : ∃ x : Bool, x = (104 == 93) := ⟨_, rfl⟩
  obtain ⟨x73, ex73⟩ : ∃ x : Bool, x = (104 == 201) := ⟨_, rfl⟩
  obtain ⟨x74, ex74⟩ : ∃ x : Bool, x = (104 == 104) := ⟨_, rfl⟩
  obtain ⟨x75, ex75⟩ : ∃ x : Bool, x = (104 == 106) := ⟨_, rfl⟩
  obtain ⟨x76, ex76⟩ : ∃ x : Bool, x = (104 == 143) := ⟨_, rfl⟩
  obtain ⟨x77, ex77⟩ : ∃ x : Bool, x = (104 == 255) := ⟨_, rfl⟩
  obtain ⟨x78, ex78⟩ : ∃ x : Option Bool, x = (bif x9 then bif x67 then x31 else bif x68 then x31 else bif x69 then x31 else bif x70 then x31 else bif x71 then x31 else bif x72 then x31 else bif x73 then x31 else bif x74 then x40 else bif x75 then x42 else bif x76 then x47 else bif x77 then x52 else none else none) := ⟨_, rfl⟩
  refine Eq.trans (b := (bif x1 == 0 then x5 else bif x1 == 1 then x5 else bif x1 == 2 then x5 else bif x1 == 3 then x5 else bif x1 == 4 then x5 else bif x1 == 5 then x5 else bif x1 == 6 then bif x2 then bif x3 then x53 else bif x55 then bif x10 then x31 else bif x32 then x31 else bif x33 then x31 else bif x34 then x31 else bif x35 then x31 else bif x36 then x31 else bif x37 then x31 else bif x38 then x56 else bif x41 then x57 else bif x43 then x61 else bif x48 then x65 else none else none else bif x3 then x53 else bif x66 then x31 else none else bif x1 == 7 then bif x2 then bif x3 then x78 else bif x55 then bif x67 then x31 else bif x68 then x31 else bif x69 then x31 else bif x70 then x31 else bif x71 then x31 else bif x72 then x31 else bif x73 then x31 else bif x74 then x56 else bif x75 then x57 else bif x76 then x61 else bif x77 then x65 else none else none else bif x3 then x78 else bif x66 then bif x11 then bif x13 then bif in32 a0_0 && (in32 a0_1 && (in32 a0_2 && (in32 a0_3 && (in32 a0_4 && (in32 a0_5 && (in32 a0_6 && (in32 a0_7 && (x14 && (x15 && (x16 && (x17 && (x18 && (x19 && (x20 && (x21 && (x22 && (x23 && (x24 && (x25 && (x26 && (x27 && (x28 && (x29 && (in32 (bitsL BinOp.or IntKind.u32 (bitsL BinOp.or IntKind.u32 (bitsL BinOp.or IntKind.u32 (IntKind.wrap IntKind.u32 a6) x39) 0) 0) && x30)))))))))))))))))))))))) then some true else none else none else none else none else bif x1 == 8 then x5 else bif x2 then x5 else bif x3 then x5 else none)) (by
    subst ex1
    subst ex2
    subst ex3
    subst ex4
    subst ex5
    subst ex6
    subst ex7
    subst ex8
    subst ex9
    subst ex10
    subst ex11
    subst ex12
    subst ex13
    subst ex14
    subst ex15
    subst ex16
    subst ex17
    subst ex18
    subst ex19
    subst ex20
    subst ex21
    subst ex22
    subst ex23
    subst ex24
    subst ex25
    subst ex26
    subst ex27
    subst ex28
    subst ex29
    subst ex30
    subst ex31
    subst ex32
    subst ex33
    subst ex34
    subst ex35
    subst ex36
    subst ex37
    subst ex38
    subst ex39
    subst ex40
    subst ex41
    subst ex42
    subst ex43
    subst ex44
    subst ex45
    subst ex46
    subst ex47
    subst ex48
    subst ex49
    subst ex50
    subst ex51
    subst ex52
    subst ex53
    subst ex54
    subst ex55
    subst ex56
    subst ex57
    subst ex58
    subst ex59
    subst ex60
    subst ex61
    subst ex62
    subst ex63
    subst ex64
    subst ex65
    subst ex66
    subst ex67
    subst ex68
    subst ex69
    subst ex70
    subst ex71
    subst ex72
    subst ex73
    subst ex74
    subst ex75
    subst ex76
    subst ex77
    subst ex78
    kernel_rfl) ?_
  subst ex1
  subst ex2
  subst ex3
  subst ex4
  subst ex5
  subst ex6
  subst ex7
  subst ex8
  subst ex9
  subst ex10
  subst ex11
  subst ex12
  subst ex13
  subst ex14
  subst ex15
  subst ex16
  subst ex17
  subst ex18
  subst ex19
  subst ex20
  subst ex21
  subst ex22
  subst ex23
  subst ex24
  subst ex25
  subst ex26
  subst ex27
  subst ex28
  subst ex29
  subst ex30
  subst ex31
  subst ex32
  subst ex33
  subst ex34
  subst ex35
  subst ex36
  subst ex37
  subst ex38
  subst ex39
  subst ex40
  subst ex41
  subst ex42
  subst ex43
  subst ex44
  subst ex45
  subst ex46
  subst ex47
  subst ex48
  subst ex49
  subst ex50
  subst ex51
  subst ex52
  subst ex53
  subst ex54
  subst ex55
  subst ex56
  subst ex57
  subst ex58
  subst ex59
  subst ex60
  subst ex61
  subst ex62
  subst ex63
  subst ex64
  subst ex65
  subst ex66
  subst ex67
  subst ex68
  subst ex69
  subst ex70
  subst ex71
  subst ex72
  subst ex73
  subst ex74
  subst ex75
  subst ex76
  subst ex77
  subst ex78
  rcases hw with hw | hw
  · simp only [hw, show ((6 : Int) == 0) = false from rfl, show ((6 : Int) == 1) = false from rfl, show ((6 : Int) == 2) = false from rfl, show ((6 : Int) == 3) = false from rfl, show ((6 : Int) == 4) = false from rfl, show ((6 : Int) == 5) = false from rfl, show ((6 : Int) == 6) = true from rfl, show ((6 : Int) == 7) = false from rfl, show ((6 : Int) == 8) = false from rfl, show ((6 : Int) == 9) = false from rfl, show ((6 : Int) == 10) = false from rfl, show ((0 : Int) == 0) = true from rfl, k32 w0_0, k32 w0_1, k32 w0_2, k32 w0_3, k32 w0_4, k32 w0_5, k32 w0_6, k32 w0_7, k32 w0_8, k64 w0_15, k64 w0_16, k64 w0_17, k64 w0_18, k64 w0_19, k64 w0_20, k64 w0_21, k64 w0_22, k32 w1_0, k32 w1_1, k32 w1_2, k32 w1_3, k32 w1_4, k32 w1_5, k32 w1_6, k32 w1_7, k64 w2_0, k64 w2_1, k64 w2_2, k64 w2_3, k64 w2_4, k64 w2_5, k64 w2_6, k64 w2_7, k8 w3, k8 w4, k8 w5, k8 w6, k32 w7, k32 w8, in8b, in32b, in8_wr, in32_wr, stRV_in _ (k32 w1_0), stRV_in _ (k32 w1_1), stRV_in _ (k32 w1_2), stRV_in _ (k32 w1_3), stRV_in _ (k32 w1_4), stRV_in _ (k32 w1_5), stRV_in _ (k32 w1_6), stRV_in _ (k32 w1_7), on8f_in, onff_in, Bool.and_self, Bool.and_true, Bool.true_and, cond_true, cond_false, Bool.cond_self]
    try rfl
  · simp only [hw, show ((7 : Int) == 0) = false from rfl, show ((7 : Int) == 1) = false from rfl, show ((7 : Int) == 2) = false from rfl, show ((7 : Int) == 3) = false from rfl, show ((7 : Int) == 4) = false from rfl, show ((7 : Int) == 5) = false from rfl, show ((7 : Int) == 6) = false from rfl, show ((7 : Int) == 7) = true from rfl, show ((7 : Int) == 8) = false from rfl, show ((7 : Int) == 9) = false from rfl, show ((7 : Int) == 10) = false from rfl, show ((0 : Int) == 0) = true from rfl, k32 w0_0, k32 w0_1, k32 w0_2, k32 w0_3, k32 w0_4, k32 w0_5, k32 w0_6, k32 w0_7, k32 w0_8, k64 w0_15, k64 w0_16, k64 w0_17, k64 w0_18, k64 w0_19, k64 w0_20, k64 w0_21, k64 w0_22, k32 w1_0, k32 w1_1, k32 w1_2, k32 w1_3, k32 w1_4, k32 w1_5, k32 w1_6, k32 w1_7, k64 w2_0, k64 w2_1, k64 w2_2, k64 w2_3, k64 w2_4, k64 w2_5, k64 w2_6, k64 w2_7, k8 w3, k8 w4, k8 w5, k8 w6, k32 w7, k32 w8, in8b, in32b, in8_wr, in32_wr, stRV_in _ (k32 w1_0), stRV_in _ (k32 w1_1), stRV_in _ (k32 w1_2), stRV_in _ (k32 w1_3), stRV_in _ (k32 w1_4), stRV_in _ (k32 w1_5), stRV_in _ (k32 w1_6), stRV_in _ (k32 w1_7), on8f_in, onff_in, Bool.and_self, Bool.and_true, Bool.true_and, cond_true, cond_false, Bool.cond_self]
    try rfl

end Go.Proofs.Ytjcbgjakomalaaa.stackTells.H6
