/- FlowTells: one way of the reckoning, and that it is true. -/
import Derived.Test.YtpgdpoloipifeaaCFs
import Derived.Test.YtpgdpoloipifeaaCOf
import Derived.Test.YtpgdpoloipifeaaNStr
namespace Go.Proofs.Ytpgdpoloipifeaa.flowTells.A
open Go Go.Ev
set_option linter.unusedVariables false
set_option linter.unusedSimpArgs false
set_option maxRecDepth 100000
theorem in8b (op : BinOp) (a b : Int) : in8 (bitsL op .u8 a b) = true := by rw [bitsL_eq]; exact in8_iff.2 (wf_u8 (wf_bits _ _ _ _))
theorem in32b (op : BinOp) (a b : Int) : in32 (bitsL op .u32 a b) = true := by rw [bitsL_eq]; exact in32_iff.2 (wf_u32 (wf_bits _ _ _ _))
theorem form (a0_0 : Int) (a0_1 : Int) (a0_2 : Int) (a0_3 : Int) (a0_4 : Int) (a0_5 : Int) (a0_6 : Int) (a0_7 : Int) (a0_8 : Int) (a0_9 : Bool) (a0_10 : Bool) (a0_11 : Bool) (a0_12 : Bool) (a0_13 : Bool) (a0_14 : Bool) (a0_15 : Int) (a0_16 : Int) (a0_17 : Int) (a0_18 : Int) (a0_19 : Int) (a0_20 : Int) (a0_21 : Int) (a0_22 : Int) (a1_0 : Int) (a1_1 : Int) (a1_2 : Int) (a1_3 : Int) (a1_4 : Int) (a1_5 : Int) (a1_6 : Int) (a1_7 : Int) (a2 : Int) (a3 : Int) (a4 : Int) (a5 : Int) (a6 : Int) (a7 : Int) (a8 : Int)
    (x1 : Int) (ex1 : x1 = (Int.tmod a4 12))
    (x2 : Bool) (ex2 : x2 = (x1 == 8))
    (x3 : Bool) (ex3 : x3 = (x1 == 9))
    (x4 : Bool) (ex4 : x4 = (in32 a1_0 && (in32 a1_1 && (in32 a1_2 && (in32 a1_3 && (in32 a1_4 && (in32 a1_5 && (in32 a1_6 && (in32 a1_7 && (true && (true && (true && (true && (true && (true && (true && (true && (in8 a2 && in8 a3))))))))))))))))))
    (x5 : Int) (ex5 : x5 = (bitsL BinOp.or IntKind.u8 a3 16))
    (x6 : Bool) (ex6 : x6 = (in32 a1_0 && (in32 a1_1 && (in32 a1_2 && (in32 a1_3 && (in32 a1_4 && (in32 a1_5 && (in32 a1_6 && (in32 a1_7 && (true && (true && (true && (true && (true && (true && (true && (true && (in8 a2 && in8 x5))))))))))))))))))
    (x7 : Bool) (ex7 : x7 = (in32 (stRV (stBit a3 1) a1_0)))
    (x8 : Bool) (ex8 : x8 = (in32 (stRV (stBit a3 2) a1_1)))
    (x9 : Bool) (ex9 : x9 = (in32 (stRV (stBit a3 4) a1_2)))
    (x10 : Bool) (ex10 : x10 = (in32 (stRV (stBit a3 8) a1_3)))
    (x11 : Bool) (ex11 : x11 = (in32 (stRV (stBit a3 16) a1_4)))
    (x12 : Bool) (ex12 : x12 = (in32 (stRV (stBit a3 32) a1_5)))
    (x13 : Bool) (ex13 : x13 = (in32 (stRV (stBit a3 64) a1_6)))
    (x14 : Bool) (ex14 : x14 = (in32 (stRV (stBit a3 128) a1_7)))
    (x15 : Bool) (ex15 : x15 = (in32 (stRV (stBit x5 1) a1_0)))
    (x16 : Bool) (ex16 : x16 = (in32 (stRV (stBit x5 2) a1_1)))
    (x17 : Bool) (ex17 : x17 = (in32 (stRV (stBit x5 4) a1_2)))
    (x18 : Bool) (ex18 : x18 = (in32 (stRV (stBit x5 8) a1_3)))
    (x19 : Bool) (ex19 : x19 = (in32 (stRV (stBit x5 16) a1_4)))
    (x20 : Bool) (ex20 : x20 = (in32 (stRV (stBit x5 32) a1_5)))
    (x21 : Bool) (ex21 : x21 = (in32 (stRV (stBit x5 64) a1_6)))
    (x22 : Bool) (ex22 : x22 = (in32 (stRV (stBit x5 128) a1_7)))
    (x23 : Int) (ex23 : x23 = (bitsL BinOp.and IntKind.u8 a5 199))
    (x24 : Int) (ex24 : x24 = (bitsL BinOp.or IntKind.u8 x23 32))
    (x25 : Bool) (ex25 : x25 = (true && (true && (true && (true && (true && (true && true)))))))
    (x26 : Option Bool) (ex26 : x26 = (bif x4 then bif x6 then bif in32 a0_0 && (in32 a0_1 && (in32 a0_2 && (in32 a0_3 && (in32 a0_4 && (in32 a0_5 && (in32 a0_6 && (in32 a0_7 && (x7 && (x8 && (x9 && (x10 && (x11 && (x12 && (x13 && (x14 && (x15 && (x16 && (x17 && (x18 && (x19 && (x20 && (x21 && (x22 && (in32 (IntKind.wrap IntKind.u32 (IntKind.wrap IntKind.i32 (IntKind.wrap IntKind.i8 x24))) && x25)))))))))))))))))))))))) then some true else none else none else none))
    (x27 : Int) (ex27 : x27 = (bitsL BinOp.or IntKind.u8 x23 16))
    (x28 : Option Bool) (ex28 : x28 = (bif x2 then bif x3 then x26 else bif x4 then bif x6 then bif in32 a0_0 && (in32 a0_1 && (in32 a0_2 && (in32 a0_3 && (in32 a0_4 && (in32 a0_5 && (in32 a0_6 && (in32 a0_7 && (x7 && (x8 && (x9 && (x10 && (x11 && (x12 && (x13 && (x14 && (x15 && (x16 && (x17 && (x18 && (x19 && (x20 && (x21 && (x22 && (in32 (IntKind.wrap IntKind.u32 (IntKind.wrap IntKind.i32 (IntKind.wrap IntKind.i8 x27))) && x25)))))))))))))))))))))))) then some true else none else none else none else bif x3 then x26 else bif x4 then bif x6 then bif in32 a0_0 && (in32 a0_1 && (in32 a0_2 && (in32 a0_3 && (in32 a0_4 && (in32 a0_5 && (in32 a0_6 && (in32 a0_7 && (x7 && (x8 && (x9 && (x10 && (x11 && (x12 && (x13 && (x14 && (x15 && (x16 && (x17 && (x18 && (x19 && (x20 && (x21 && (x22 && (in32 (IntKind.wrap IntKind.u32 (IntKind.wrap IntKind.i32 (IntKind.wrap IntKind.i8 a5))) && x25)))))))))))))))))))))))) then some true else none else none else none))
    (x29 : Int) (ex29 : x29 = (IntKind.wrap IntKind.u32 (IntKind.wrap IntKind.u32 (IntKind.wrap IntKind.u8 a6) * 256)))
    (x30 : Int) (ex30 : x30 = (IntKind.wrap IntKind.u32 (IntKind.wrap IntKind.u32 (IntKind.wrap IntKind.u8 (Int.fdiv a6 256)) * 65536)))
    (x31 : Int) (ex31 : x31 = (IntKind.wrap IntKind.u32 (IntKind.wrap IntKind.u32 (IntKind.wrap IntKind.u8 (Int.fdiv a6 65536)) * 16777216)))
    (x32 : Option Bool) (ex32 : x32 = (bif x4 then bif x6 then bif in32 a0_0 && (in32 a0_1 && (in32 a0_2 && (in32 a0_3 && (in32 a0_4 && (in32 a0_5 && (in32 a0_6 && (in32 a0_7 && (x7 && (x8 && (x9 && (x10 && (x11 && (x12 && (x13 && (x14 && (x15 && (x16 && (x17 && (x18 && (x19 && (x20 && (x21 && (x22 && (in32 (bitsL BinOp.or IntKind.u32 (bitsL BinOp.or IntKind.u32 (bitsL BinOp.or IntKind.u32 (IntKind.wrap IntKind.u32 x24) x29) x30) x31) && x25)))))))))))))))))))))))) then some true else none else none else none))
    (x33 : Option Bool) (ex33 : x33 = (bif x2 then bif x3 then x32 else bif x4 then bif x6 then bif in32 a0_0 && (in32 a0_1 && (in32 a0_2 && (in32 a0_3 && (in32 a0_4 && (in32 a0_5 && (in32 a0_6 && (in32 a0_7 && (x7 && (x8 && (x9 && (x10 && (x11 && (x12 && (x13 && (x14 && (x15 && (x16 && (x17 && (x18 && (x19 && (x20 && (x21 && (x22 && (in32 (bitsL BinOp.or IntKind.u32 (bitsL BinOp.or IntKind.u32 (bitsL BinOp.or IntKind.u32 (IntKind.wrap IntKind.u32 x27) x29) x30) x31) && x25)))))))))))))))))))))))) then some true else none else none else none else bif x3 then x32 else bif x4 then bif x6 then bif in32 a0_0 && (in32 a0_1 && (in32 a0_2 && (in32 a0_3 && (in32 a0_4 && (in32 a0_5 && (in32 a0_6 && (in32 a0_7 && (x7 && (x8 && (x9 && (x10 && (x11 && (x12 && (x13 && (x14 && (x15 && (x16 && (x17 && (x18 && (x19 && (x20 && (x21 && (x22 && (in32 (bitsL BinOp.or IntKind.u32 (bitsL BinOp.or IntKind.u32 (bitsL BinOp.or IntKind.u32 (IntKind.wrap IntKind.u32 a5) x29) x30) x31) && x25)))))))))))))))))))))))) then some true else none else none else none))
    (x34 : Option Bool) (ex34 : x34 = (bif x3 then none else none))
    (x35 : Option Bool) (ex35 : x35 = (bif x2 then x34 else x34)) :
    evF Try.prog (ΓFs.add 14 (orSpec (headIs 112) of70S (orSpec (headIs 116) of74S (orSpec (headIs 127) of7fS (orSpec (headIs 232) ofe8S ofe9S))))) 400 5 [.agg [.v (.int .u32 a0_0), .v (.int .u32 a0_1), .v (.int .u32 a0_2), .v (.int .u32 a0_3), .v (.int .u32 a0_4), .v (.int .u32 a0_5), .v (.int .u32 a0_6), .v (.int .u32 a0_7), .v (.int .u32 a0_8), .v (.bool a0_9), .v (.bool a0_10), .v (.bool a0_11), .v (.bool a0_12), .v (.bool a0_13), .v (.bool a0_14), .v (.int .u64 a0_15), .v (.int .u64 a0_16), .v (.int .u64 a0_17), .v (.int .u64 a0_18), .v (.int .u64 a0_19), .v (.int .u64 a0_20), .v (.int .u64 a0_21), .v (.int .u64 a0_22)], .agg [.v (.int .u32 a1_0), .v (.int .u32 a1_1), .v (.int .u32 a1_2), .v (.int .u32 a1_3), .v (.int .u32 a1_4), .v (.int .u32 a1_5), .v (.int .u32 a1_6), .v (.int .u32 a1_7)], .v (.int .u8 a2), .v (.int .u8 a3), .v (.int .u8 a4), .v (.int .u8 a5), .v (.int .u32 a6), .v (.int .u32 a7), .v (.int .u32 a8)] [] isT (fun _ _ => none) =
    (bif x1 == 0 then x28 else bif x1 == 1 then x28 else bif x1 == 2 then x28 else bif x1 == 3 then x33 else bif x1 == 4 then x33 else bif x1 == 5 then x35 else bif x1 == 6 then x35 else bif x1 == 7 then x35 else bif x2 then x35 else bif x3 then x35 else bif x1 == 10 then x35 else bif x1 == 11 then x35 else none) := by
  subst ex1
  subst ex2
  subst ex3
  subst ex4
  subst ex5
  subst ex6
  subst ex7
  subst ex8
  subst ex9
  subst ex10
  subst ex11
  subst ex12
  subst ex13
  subst ex14
  subst ex15
  subst ex16
  subst ex17
  subst ex18
  subst ex19
  subst ex20
  subst ex21
  subst ex22
  subst ex23
  subst ex24
  subst ex25
  subst ex26
  subst ex27
  subst ex28
  subst ex29
  subst ex30
  subst ex31
  subst ex32
  subst ex33
  subst ex34
  subst ex35
  kernel_rfl
set_option maxHeartbeats 4000000 in
theorem pure (a0_0 : Int) (a0_1 : Int) (a0_2 : Int) (a0_3 : Int) (a0_4 : Int) (a0_5 : Int) (a0_6 : Int) (a0_7 : Int) (a0_8 : Int) (a0_9 : Bool) (a0_10 : Bool) (a0_11 : Bool) (a0_12 : Bool) (a0_13 : Bool) (a0_14 : Bool) (a0_15 : Int) (a0_16 : Int) (a0_17 : Int) (a0_18 : Int) (a0_19 : Int) (a0_20 : Int) (a0_21 : Int) (a0_22 : Int) (a1_0 : Int) (a1_1 : Int) (a1_2 : Int) (a1_3 : Int) (a1_4 : Int) (a1_5 : Int) (a1_6 : Int) (a1_7 : Int) (a2 : Int) (a3 : Int) (a4 : Int) (a5 : Int) (a6 : Int) (a7 : Int) (a8 : Int) (w0_0 : (Lit.int .u32 a0_0).wf = true) (w0_1 : (Lit.int .u32 a0_1).wf = true) (w0_2 : (Lit.int .u32 a0_2).wf = true) (w0_3 : (Lit.int .u32 a0_3).wf = true) (w0_4 : (Lit.int .u32 a0_4).wf = true) (w0_5 : (Lit.int .u32 a0_5).wf = true) (w0_6 : (Lit.int .u32 a0_6).wf = true) (w0_7 : (Lit.int .u32 a0_7).wf = true) (w0_8 : (Lit.int .u32 a0_8).wf = true) (w0_15 : (Lit.int .u64 a0_15).wf = true) (w0_16 : (Lit.int .u64 a0_16).wf = true) (w0_17 : (Lit.int .u64 a0_17).wf = true) (w0_18 : (Lit.int .u64 a0_18).wf = true) (w0_19 : (Lit.int .u64 a0_19).wf = true) (w0_20 : (Lit.int .u64 a0_20).wf = true) (w0_21 : (Lit.int .u64 a0_21).wf = true) (w0_22 : (Lit.int .u64 a0_22).wf = true) (w1_0 : (Lit.int .u32 a1_0).wf = true) (w1_1 : (Lit.int .u32 a1_1).wf = true) (w1_2 : (Lit.int .u32 a1_2).wf = true) (w1_3 : (Lit.int .u32 a1_3).wf = true) (w1_4 : (Lit.int .u32 a1_4).wf = true) (w1_5 : (Lit.int .u32 a1_5).wf = true) (w1_6 : (Lit.int .u32 a1_6).wf = true) (w1_7 : (Lit.int .u32 a1_7).wf = true) (w2 : (Lit.int .u8 a2).wf = true) (w3 : (Lit.int .u8 a3).wf = true) (w4 : (Lit.int .u8 a4).wf = true) (w5 : (Lit.int .u8 a5).wf = true) (w6 : (Lit.int .u32 a6).wf = true) (w7 : (Lit.int .u32 a7).wf = true) (w8 : (Lit.int .u32 a8).wf = true) (hw : Int.tmod a4 12 = 0 ∨ Int.tmod a4 12 = 1 ∨ Int.tmod a4 12 = 2 ∨ Int.tmod a4 12 = 3 ∨ Int.tmod a4 12 = 4) :
    evF Try.prog (ΓFs.add 14 (orSpec (headIs 112) of70S (orSpec (headIs 116) of74S (orSpec (headIs 127) of7fS (orSpec (headIs 232) ofe8S ofe9S))))) 400 5 [.agg [.v (.int .u32 a0_0), .v (.int .u32 a0_1), .v (.int .u32 a0_2), .v (.int .u32 a0_3), .v (.int .u32 a0_4), .v (.int .u32 a0_5), .v (.int .u32 a0_6), .v (.int .u32 a0_7), .v (.int .u32 a0_8), .v (.bool a0_9), .v (.bool a0_10), .v (.bool a0_11), .v (.bool a0_12), .v (.bool a0_13), .v (.bool a0_14), .v (.int .u64 a0_15), .v (.int .u64 a0_16), .v (.int .u64 a0_17), .v (.int .u64 a0_18), .v (.int .u64 a0_19), .v (.int .u64 a0_20), .v (.int .u64 a0_21), .v (.int .u64 a0_22)], .agg [.v (.int .u32 a1_0), .v (.int .u32 a1_1), .v (.int .u32 a1_2), .v (.int .u32 a1_3), .v (.int .u32 a1_4), .v (.int .u32 a1_5), .v (.int .u32 a1_6), .v (.int .u32 a1_7)], .v (.int .u8 a2), .v (.int .u8 a3), .v (.int .u8 a4), .v (.int .u8 a5), .v (.int .u32 a6), .v (.int .u32 a7), .v (.int .u32 a8)] [] isT (fun _ _ => none) = some true := by
  obtain ⟨x1, ex1⟩ : ∃ x : Int, x = (Int.tmod a4 12) := ⟨_, rfl⟩
  obtain ⟨x2, ex2⟩ : ∃ x : Bool, x = (x1 == 8) := ⟨_, rfl⟩
  obtain ⟨x3, ex3⟩ : ∃ x : Bool, x = (x1 == 9) := ⟨_, rfl⟩
  obtain ⟨x4, ex4⟩ : ∃ x : Bool, x = (in32 a1_0 && (in32 a1_1 && (in32 a1_2 && (in32 a1_3 && (in32 a1_4 && (in32 a1_5 && (in32 a1_6 && (in32 a1_7 && (true && (true && (true && (true && (true && (true && (true && (true && (in8 a2 && in8 a3))))))))))))))))) := ⟨_, rfl⟩
  obtain ⟨x5, ex5⟩ : ∃ x : Int, x = (bitsL BinOp.or IntKind.u8 a3 16) := ⟨_, rfl⟩
  obtain ⟨x6, ex6⟩ : ∃ x : Bool, x = (in32 a1_0 && (in32 a1_1 && (in32 a1_2 && (in32 a1_3 && (in32 a1_4 && (in32 a1_5 && (in32 a1_6 && (in32 a1_7 && (true && (true && (true && (true && (true && (true && (true && (true && (in8 a2 && in8 x5))))))))))))))))) := ⟨_, rfl⟩
  obtain ⟨x7, ex7⟩ : ∃ x : Bool, x = (in32 (stRV (stBit a3 1) a1_0)) := ⟨_, rfl⟩
  obtain ⟨x8, ex8⟩ : ∃ x : Bool, x = (in32 (stRV (stBit a3 2) a1_1)) := ⟨_, rfl⟩
  obtain ⟨x9, ex9⟩ : ∃ x : Bool, x = (in32 (stRV (stBit a3 4) a1_2)) := ⟨_, rfl⟩
  obtain ⟨x10, ex10⟩ : ∃ x : Bool, x = (in32 (stRV (stBit a3 8) a1_3)) := ⟨_, rfl⟩
  obtain ⟨x11, ex11⟩ : ∃ x : Bool, x = (in32 (stRV (stBit a3 16) a1_4)) := ⟨_, rfl⟩
  obtain ⟨x12, ex12⟩ : ∃ x : Bool, x = (in32 (stRV (stBit a3 32) a1_5)) := ⟨_, rfl⟩
  obtain ⟨x13, ex13⟩ : ∃ x : Bool, x = (in32 (stRV (stBit a3 64) a1_6)) := ⟨_, rfl⟩
  obtain ⟨x14, ex14⟩ : ∃ x : Bool, x = (in32 (stRV (stBit a3 128) a1_7)) := ⟨_, rfl⟩
  obtain ⟨x15, ex15⟩ : ∃ x : Bool, x = (in32 (stRV (stBit x5 1) a1_0)) := ⟨_, rfl⟩
  obtain ⟨x16, ex16⟩ : ∃ x : Bool, x = (in32 (stRV (stBit x5 2) a1_1)) := ⟨_, rfl⟩
  obtain ⟨x17, ex17⟩ : ∃ x : Bool, x = (in32 (stRV (stBit x5 4) a1_2)) := ⟨_, rfl⟩
  obtain ⟨x18, ex18⟩ : ∃ x : Bool, x = (in32 (stRV (stBit x5 8) a1_3)) := ⟨_, rfl⟩
  obtain ⟨x19, ex19⟩ : ∃ x : Bool, x = (in32 (stRV (stBit x5 16) a1_4)) := ⟨_, rfl⟩
  obtain ⟨x20, ex20⟩ : ∃ x : Bool, x = (in32 (stRV (stBit x5 32) a1_5)) := ⟨_, rfl⟩
  obtain ⟨x21, ex21⟩ : ∃ x : Bool, x = (in32 (stRV (stBit x5 64) a1_6)) := ⟨_, rfl⟩
  obtain ⟨x22, ex22⟩ : ∃ x : Bool, x = (in32 (stRV (stBit x5 128) a1_7)) := ⟨_, rfl⟩
  obtain ⟨x23, ex23⟩ : ∃ x : Int, x = (bitsL BinOp.and IntKind.u8 a5 199) := ⟨_, rfl⟩
  obtain ⟨x24, ex24⟩ : ∃ x : Int, x = (bitsL BinOp.or IntKind.u8 x23 32) := ⟨_, rfl⟩
  obtain ⟨x25, ex25⟩ : ∃ x : Bool, x = (true && (true && (true && (true && (true && (true && true)))))) := ⟨_, rfl⟩
  obtain ⟨x26, ex26⟩ : ∃ x : Option Bool, x = (bif x4 then bif x6 then bif in32 a0_0 && (in32 a0_1 && (in32 a0_2 && (in32 a0_3 && (in32 a0_4 && (in32 a0_5 && (in32 a0_6 && (in32 a0_7 && (x7 && (x8 && (x9 && (x10 && (x11 && (x12 && (x13 && (x14 && (x15 && (x16 && (x17 && (x18 && (x19 && (x20 && (x21 && (x22 && (in32 (IntKind.wrap IntKind.u32 (IntKind.wrap IntKind.i32 (IntKind.wrap IntKind.i8 x24))) && x25)))))))))))))))))))))))) then some true else none else none else none) := ⟨_, rfl⟩
  obtain ⟨x27, ex27⟩ : ∃ x : Int, x = (bitsL BinOp.or IntKind.u8 x23 16) := ⟨_, rfl⟩
  obtain ⟨x28, ex28⟩ : ∃ x : Option Bool, x = (bif x2 then bif x3 then x26 else bif x4 then bif x6 then bif in32 a0_0 && (in32 a0_1 && (in32 a0_2 && (in32 a0_3 && (in32 a0_4 && (in32 a0_5 && (in32 a0_6 && (in32 a0_7 && (x7 && (x8 && (x9 && (x10 && (x11 && (x12 && (x13 && (x14 && (x15 && (x16 && (x17 && (x18 && (x19 && (x20 && (x21 && (x22 && (in32 (IntKind.wrap IntKind.u32 (IntKind.wrap IntKind.i32 (IntKind.wrap IntKind.i8 x27))) && x25)))))))))))))))))))))))) then some true else none else none else none else bif x3 then x26 else bif x4 then bif x6 then bif in32 a0_0 && (in32 a0_1 && (in32 a0_2 && (in32 a0_3 && (in32 a0_4 && (in32 a0_5 && (in32 a0_6 && (in32 a0_7 && (x7 && (x8 && (x9 && (x10 && (x11 && (x12 && (x13 && (x14 && (x15 && (x16 && (x17 && (x18 && (x19 && (x20 && (x21 && (x22 && (in32 (IntKind.wrap IntKind.u32 (IntKind.wrap IntKind.i32 (IntKind.wrap IntKind.i8 a5))) && x25)))))))))))))))))))))))) then some true else none else none else none) := ⟨_, rfl⟩
  obtain ⟨x29, ex29⟩ : ∃ x : Int, x = (IntKind.wrap IntKind.u32 (IntKind.wrap IntKind.u32 (IntKind.wrap IntKind.u8 a6) * 256)) := ⟨_, rfl⟩
  obtain ⟨x30, ex30⟩ : ∃ x : Int, x = (IntKind.wrap IntKind.u32 (IntKind.wrap IntKind.u32 (IntKind.wrap IntKind.u8 (Int.fdiv a6 256)) * 65536)) := ⟨_, rfl⟩
  obtain ⟨x31, ex31⟩ : ∃ x : Int, x = (IntKind.wrap IntKind.u32 (IntKind.wrap IntKind.u32 (IntKind.wrap IntKind.u8 (Int.fdiv a6 65536)) * 16777216)) := ⟨_, rfl⟩
  obtain ⟨x32, ex32⟩ : ∃ x : Option Bool, x = (bif x4 then bif x6 then bif in32 a0_0 && (in32 a0_1 && (in32 a0_2 && (in32 a0_3 && (in32 a0_4 && (in32 a0_5 && (in32 a0_6 && (in32 a0_7 && (x7 && (x8 && (x9 && (x10 && (x11 && (x12 && (x13 && (x14 && (x15 && (x16 && (x17 && (x18 && (x19 && (x20 && (x21 && (x22 && (in32 (bitsL BinOp.or IntKind.u32 (bitsL BinOp.or IntKind.u32 (bitsL BinOp.or IntKind.u32 (IntKind.wrap IntKind.u32 x24) x29) x30) x31) && x25)))))))))))))))))))))))) then some true else none else none else none) := ⟨_, rfl⟩
  obtain ⟨x33, ex33⟩ : ∃ x : Option Bool, x = (bif x2 then bif x3 then x32 else bif x4 then bif x6 then bif in32 a0_0 && (in32 a0_1 && (in32 a0_2 && (in32 a0_3 && (in32 a0_4 && (in32 a0_5 && (in32 a0_6 && (in32 a0_7 && (x7 && (x8 && (x9 && (x10 && (x11 && (x12 && (x13 && (x14 && (x15 && (x16 && (x17 && (x18 && (x19 && (x20 && (x21 && (x22 && (in32 (bitsL BinOp.or IntKind.u32 (bitsL BinOp.or IntKind.u32 (bitsL BinOp.or IntKind.u32 (IntKind.wrap IntKind.u32 x27) x29) x30) x31) && x25)))))))))))))))))))))))) then some true else none else none else none else bif x3 then x32 else bif x4 then bif x6 then bif in32 a0_0 && (in32 a0_1 && (in32 a0_2 && (in32 a0_3 && (in32 a0_4 && (in32 a0_5 && (in32 a0_6 && (in32 a0_7 && (x7 && (x8 && (x9 && (x10 && (x11 && (x12 && (x13 && (x14 && (x15 && (x16 && (x17 && (x18 && (x19 && (x20 && (x21 && (x22 && (in32 (bitsL BinOp.or IntKind.u32 (bitsL BinOp.or IntKind.u32 (bitsL BinOp.or IntKind.u32 (IntKind.wrap IntKind.u32 a5) x29) x30) x31) && x25)))))))))))))))))))))))) then some true else none else none else none) := ⟨_, rfl⟩
  obtain ⟨x34, ex34⟩ : ∃ x : Option Bool, x = (bif x3 then none else none) := ⟨_, rfl⟩
  obtain ⟨x35, ex35⟩ : ∃ x : Option Bool, x = (bif x2 then x34 else x34) := ⟨_, rfl⟩
  rw [form a0_0 a0_1 a0_2 a0_3 a0_4 a0_5 a0_6 a0_7 a0_8 a0_9 a0_10 a0_11 a0_12 a0_13 a0_14 a0_15 a0_16 a0_17 a0_18 a0_19 a0_20 a0_21 a0_22 a1_0 a1_1 a1_2 a1_3 a1_4 a1_5 a1_6 a1_7 a2 a3 a4 a5 a6 a7 a8 x1 ex1 x2 ex2 x3 ex3 x4 ex4 x5 ex5 x6 ex6 x7 ex7 x8 ex8 x9 ex9 x10 ex10 x11 ex11 x12 ex12 x13 ex13 x14 ex14 x15 ex15 x16 ex16 x17 ex17 x18 ex18 x19 ex19 x20 ex20 x21 ex21 x22 ex22 x23 ex23 x24 ex24 x25 ex25 x26 ex26 x27 ex27 x28 ex28 x29 ex29 x30 ex30 x31 ex31 x32 ex32 x33 ex33 x34 ex34 x35 ex35]
  have i0_0 : in32 a0_0 = true := in32_iff.2 (wf_u32 w0_0)
  have i0_1 : in32 a0_1 = true := in32_iff.2 (wf_u32 w0_1)
  have i0_2 : in32 a0_2 = true := in32_iff.2 (wf_u32 w0_2)
  have i0_3 : in32 a0_3 = true := in32_iff.2 (wf_u32 w0_3)
  have i0_4 : in32 a0_4 = true := in32_iff.2 (wf_u32 w0_4)
  have i0_5 : in32 a0_5 = true := in32_iff.2 (wf_u32 w0_5)
  have i0_6 : in32 a0_6 = true := in32_iff.2 (wf_u32 w0_6)
  have i0_7 : in32 a0_7 = true := in32_iff.2 (wf_u32 w0_7)
  have i1_0 : in32 a1_0 = true := in32_iff.2 (wf_u32 w1_0)
  have i1_1 : in32 a1_1 = true := in32_iff.2 (wf_u32 w1_1)
  have i1_2 : in32 a1_2 = true := in32_iff.2 (wf_u32 w1_2)
  have i1_3 : in32 a1_3 = true := in32_iff.2 (wf_u32 w1_3)
  have i1_4 : in32 a1_4 = true := in32_iff.2 (wf_u32 w1_4)
  have i1_5 : in32 a1_5 = true := in32_iff.2 (wf_u32 w1_5)
  have i1_6 : in32 a1_6 = true := in32_iff.2 (wf_u32 w1_6)
  have i1_7 : in32 a1_7 = true := in32_iff.2 (wf_u32 w1_7)
  have j2 : in8 a2 = true := in8_iff.2 (wf_u8 w2)
  have j3 : in8 a3 = true := in8_iff.2 (wf_u8 w3)
  have j5 : in8 a5 = true := in8_iff.2 (wf_u8 w5)
  subst ex1
  subst ex2
  subst ex3
  subst ex4
  subst ex5
  subst ex6
  subst ex7
  subst ex8
  subst ex9
  subst ex10
  subst ex11
  subst ex12
  subst ex13
  subst ex14
  subst ex15
  subst ex16
  subst ex17
  subst ex18
  subst ex19
  subst ex20
  subst ex21
  subst ex22
  subst ex23
  subst ex24
  subst ex25
  subst ex26
  subst ex27
  subst ex28
  subst ex29
  subst ex30
  subst ex31
  subst ex32
  subst ex33
  subst ex34
  subst ex35
  rcases hw with hw | hw | hw | hw | hw
  · simp only [hw, show ((0 : Int) == 0) = true from rfl, show ((0 : Int) == 1) = false from rfl, show ((0 : Int) == 2) = false from rfl, show ((0 : Int) == 3) = false from rfl, show ((0 : Int) == 4) = false from rfl, show ((0 : Int) == 5) = false from rfl, show ((0 : Int) == 6) = false from rfl, show ((0 : Int) == 7) = false from rfl, show ((0 : Int) == 8) = false from rfl, show ((0 : Int) == 9) = false from rfl, show ((0 : Int) == 10) = false from rfl, show ((0 : Int) == 11) = false from rfl, i0_0, i0_1, i0_2, i0_3, i0_4, i0_5, i0_6, i0_7, i1_0, i1_1, i1_2, i1_3, i1_4, i1_5, i1_6, i1_7, j2, j3, j5, in8b, in32b, in8_wr, in32_wr, stRV_in _ i1_0, stRV_in _ i1_1, stRV_in _ i1_2, stRV_in _ i1_3, stRV_in _ i1_4, stRV_in _ i1_5, stRV_in _ i1_6, stRV_in _ i1_7, Bool.and_self, Bool.and_true, Bool.true_and, cond_true, cond_false, Bool.cond_self]
  · simp only [hw, show ((1 : Int) == 0) = false from rfl, show ((1 : Int) == 1) = true from rfl, show ((1 : Int) == 2) = false from rfl, show ((1 : Int) == 3) = false from rfl, show ((1 : Int) == 4) = false from rfl, show ((1 : Int) == 5) = false from rfl, show ((1 : Int) == 6) = false from rfl, show ((1 : Int) == 7) = false from rfl, show ((1 : Int) == 8) = false from rfl, show ((1 : Int) == 9) = false from rfl, show ((1 : Int) == 10) = false from rfl, show ((1 : Int) == 11) = false from rfl, i0_0, i0_1, i0_2, i0_3, i0_4, i0_5, i0_6, i0_7, i1_0, i1_1, i1_2, i1_3, i1_4, i1_5, i1_6, i1_7, j2, j3, j5, in8b, in32b, in8_wr, in32_wr, stRV_in _ i1_0, stRV_in _ i1_1, stRV_in _ i1_2, stRV_in _ i1_3, stRV_in _ i1_4, stRV_in _ i1_5, stRV_in _ i1_6, stRV_in _ i1_7, Bool.and_self, Bool.and_true, Bool.true_and, cond_true, cond_false, Bool.cond_self]
  · simp only [hw, show ((2 : Int) == 0) = false from rfl, show ((2 : Int) == 1) = false from rfl, show ((2 : Int) == 2) = true from rfl, show ((2 : Int) == 3) = false from rfl, show ((2 : Int) == 4) = false from rfl, show ((2 : Int) == 5) = false from rfl, show ((2 : Int) == 6) = false from rfl, show ((2 : Int) == 7) = false from rfl, show ((2 : Int) == 8) = false from rfl, show ((2 : Int) == 9) = false from rfl, show ((2 : Int) == 10) = false from rfl, show ((2 : Int) == 11) = false from rfl, i0_0, i0_1, i0_2, i0_3, i0_4, i0_5, i0_6, i0_7, i1_0, i1_1, i1_2, i1_3, i1_4, i1_5, i1_6, i1_7, j2, j3, j5, in8b, in32b, in8_wr, in32_wr, stRV_in _ i1_0, stRV_in _ i1_1, stRV_in _ i1_2, stRV_in _ i1_3, stRV_in _ i1_4, stRV_in _ i1_5, stRV_in _ i1_6, stRV_in _ i1_7, Bool.and_self, Bool.and_true, Bool.true_and, cond_true, cond_false, Bool.cond_self]
  · simp only [hw, show ((3 : Int) == 0) = false from rfl, show ((3 : Int) == 1) = false from rfl, show ((3 : Int) == 2) = false from rfl, show ((3 : Int) == 3) = true from rfl, show ((3 : Int) == 4) = false from rfl, show ((3 : Int) == 5) = false from rfl, show ((3 : Int) == 6) = false from rfl, show ((3 : Int) == 7) = false from rfl, show ((3 : Int) == 8) = false from rfl, show ((3 : Int) == 9) = false from rfl, show ((3 : Int) == 10) = false from rfl, show ((3 : Int) == 11) = false from rfl, i0_0, i0_1, i0_2, i0_3, i0_4, i0_5, i0_6, i0_7, i1_0, i1_1, i1_2, i1_3, i1_4, i1_5, i1_6, i1_7, j2, j3, j5, in8b, in32b, in8_wr, in32_wr, stRV_in _ i1_0, stRV_in _ i1_1, stRV_in _ i1_2, stRV_in _ i1_3, stRV_in _ i1_4, stRV_in _ i1_5, stRV_in _ i1_6, stRV_in _ i1_7, Bool.and_self, Bool.and_true, Bool.true_and, cond_true, cond_false, Bool.cond_self]
  · simp only [hw, show ((4 : Int) == 0) = false from rfl, show ((4 : Int) == 1) = false from rfl, show ((4 : Int) == 2) = false from rfl, show ((4 : Int) == 3) = false from rfl, show ((4 : Int) == 4) = true from rfl, show ((4 : Int) == 5) = false from rfl, show ((4 : Int) == 6) = false from rfl, show ((4 : Int) == 7) = false from rfl, show ((4 : Int) == 8) = false from rfl, show ((4 : Int) == 9) = false from rfl, show ((4 : Int) == 10) = false from rfl, show ((4 : Int) == 11) = false from rfl, i0_0, i0_1, i0_2, i0_3, i0_4, i0_5, i0_6, i0_7, i1_0, i1_1, i1_2, i1_3, i1_4, i1_5, i1_6, i1_7, j2, j3, j5, in8b, in32b, in8_wr, in32_wr, stRV_in _ i1_0, stRV_in _ i1_1, stRV_in _ i1_2, stRV_in _ i1_3, stRV_in _ i1_4, stRV_in _ i1_5, stRV_in _ i1_6, stRV_in _ i1_7, Bool.and_self, Bool.and_true, Bool.true_and, cond_true, cond_false, Bool.cond_self]

end Go.Proofs.Ytpgdpoloipifeaa.flowTells.A
