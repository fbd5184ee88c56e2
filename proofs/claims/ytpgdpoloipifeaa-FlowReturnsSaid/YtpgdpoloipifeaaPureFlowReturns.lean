/- FlowReturns: the reckoning of the law, and that it is true. -/
import Derived.Test.YtpgdpoloipifeaaCKn18
import Derived.Test.YtpgdpoloipifeaaNStr
namespace Go.Proofs.Ytpgdpoloipifeaa.flowReturns
open Go Go.Ev
set_option linter.unusedVariables false
set_option linter.unusedSimpArgs false
set_option maxRecDepth 100000
theorem ld_stV (M : Int → Int) {q v : Int} (h0 : 0 ≤ q) (h1 : q + 4 ≤ 256) (hv : 0 ≤ v) (hv2 : v < 4294967296) : ldV (stV M 36864 256 q 4 v true) 36864 256 q 4 true = v := by
  unfold ldV stV
  rw [seg4 h0 h1]
  show ldGo (stB M (IntKind.wrap .u32 (36864 + q)) v 4) (IntKind.wrap .u32 (36864 + q)) 4 0 = v
  rw [ld_st M _ v 4 (by omega) hv (by omega)]
  show v % 4294967296 = v
  omega
theorem ld4b {b0 b1 b2 b3 : Int} (h0 : 0 ≤ b0 ∧ b0 < 256) (h1 : 0 ≤ b1 ∧ b1 < 256) (h2 : 0 ≤ b2 ∧ b2 < 256) (h3 : 0 ≤ b3 ∧ b3 < 256) :
    bitsL .or .u32 (bitsL .or .u32 (bitsL .or .u32 (IntKind.wrap .u32 b0) (IntKind.wrap .u32 (IntKind.wrap .u32 b1 * 256))) (IntKind.wrap .u32 (IntKind.wrap .u32 b2 * 65536))) (IntKind.wrap .u32 (IntKind.wrap .u32 b3 * 16777216)) = b0 + b1 * 256 + b2 * 65536 + b3 * 16777216 := by
  rw [wr_u32_id (n := b0) (by omega) (by omega), wr_u32_id (n := b1) (by omega) (by omega), wr_u32_id (n := b2) (by omega) (by omega), wr_u32_id (n := b3) (by omega) (by omega), wr_u32_id (n := b1 * 256) (by omega) (by omega), wr_u32_id (n := b2 * 65536) (by omega) (by omega), wr_u32_id (n := b3 * 16777216) (by omega) (by omega)]
  simp only [bitsL_eq]
  have j1 := or_join 8 (l := b0) (h := b1) (by omega) (by show b0 < 256; omega) (by omega) (by show b0 + b1 * 256 < _; omega)
  have j2 := or_join 16 (l := b0 + b1 * 256) (h := b2) (by omega) (by show b0 + b1 * 256 < 65536; omega) (by omega) (by show b0 + b1 * 256 + b2 * 65536 < _; omega)
  have j3 := or_join 24 (l := b0 + b1 * 256 + b2 * 65536) (h := b3) (by omega) (by show b0 + b1 * 256 + b2 * 65536 < 16777216; omega) (by omega) (by show b0 + b1 * 256 + b2 * 65536 + b3 * 16777216 < _; omega)
  rw [show (2 : Int) ^ 8 = 256 from rfl] at j1
  rw [show (2 : Int) ^ 16 = 65536 from rfl] at j2
  rw [show (2 : Int) ^ 24 = 16777216 from rfl] at j3
  rw [j1, j2, j3]
theorem ld2b {b0 b1 : Int} (h0 : 0 ≤ b0 ∧ b0 < 256) (h1 : 0 ≤ b1 ∧ b1 < 256) :
    bitsL .or .u32 (IntKind.wrap .u32 b0) (IntKind.wrap .u32 (IntKind.wrap .u32 b1 * 256)) = b0 + b1 * 256 := by
  rw [wr_u32_id (n := b0) (by omega) (by omega), wr_u32_id (n := b1) (by omega) (by omega), wr_u32_id (n := b1 * 256) (by omega) (by omega)]
  simp only [bitsL_eq]
  have j1 := or_join 8 (l := b0) (h := b1) (by omega) (by show b0 < 256; omega) (by omega) (by show b0 + b1 * 256 < _; omega)
  rw [show (2 : Int) ^ 8 = 256 from rfl] at j1
  rw [j1]
theorem form (a0 : Int) (a1 : Int) (a2 : Int) (a3 : Int)
    (x1 : Int) (ex1 : x1 = (IntKind.wrap IntKind.u32 (IntKind.wrap IntKind.u32 (Int.tmod a2 250) + 4)))
    (x2 : Int) (ex2 : x2 = (bitsL BinOp.or IntKind.u32 (bitsL BinOp.or IntKind.u32 (bitsL BinOp.or IntKind.u32 (IntKind.wrap IntKind.u32 (IntKind.wrap IntKind.u8 a1)) (IntKind.wrap IntKind.u32 (IntKind.wrap IntKind.u32 (IntKind.wrap IntKind.u8 (Int.fdiv a1 256)) * 256))) (IntKind.wrap IntKind.u32 (IntKind.wrap IntKind.u32 (IntKind.wrap IntKind.u8 (Int.fdiv a1 65536)) * 65536))) (IntKind.wrap IntKind.u32 (IntKind.wrap IntKind.u32 (IntKind.wrap IntKind.u8 (Int.fdiv a1 16777216)) * 16777216))))
    (x3 : Int) (ex3 : x3 = (-1))
    (x4 : Option (Sv × List SObj)) (ex4 : x4 = (flPT 16384 4096 false false true 36864 256 true true false 115 (wrM (fun x => 0) 36864 (rowF (fun x => 0) (fillB 1) 256) 256) 0 0 0 0 x1 0 0 0 a0 false false false false false false 0 0 0 0 0 0 0 0 33 0 0 4 0 x3 x3 1 x2 0 0 x3 x3 1 0 0 false 5))
    (x5 : Int) (ex5 : x5 = (ansI x4 0))
    (x6 : Int) (ex6 : x6 = (ansI x4 1))
    (x7 : Int) (ex7 : x7 = (ansI x4 2))
    (x8 : Int) (ex8 : x8 = (ansI x4 3))
    (x9 : Int) (ex9 : x9 = (ansI x4 4))
    (x10 : Int) (ex10 : x10 = (ansI x4 5))
    (x11 : Int) (ex11 : x11 = (ansI x4 6))
    (x12 : Int) (ex12 : x12 = (ansI x4 7))
    (x13 : Int) (ex13 : x13 = (bitsL BinOp.or IntKind.u32 (IntKind.wrap IntKind.u32 (IntKind.wrap IntKind.u8 a3)) (IntKind.wrap IntKind.u32 (IntKind.wrap IntKind.u32 (IntKind.wrap IntKind.u8 (Int.fdiv a3 256)) * 256))))
    (x14 : Int) (ex14 : x14 = (ansI x4 8))
    (x15 : Option (Sv × List SObj)) (ex15 : x15 = (flPT 16384 4096 false false true 36864 256 true true false 115 (ansM x4 1) x5 x6 x7 x8 x9 x10 x11 x12 x14 (ansB x4 9) (ansB x4 10) (ansB x4 11) (ansB x4 12) (ansB x4 13) (ansB x4 14) (ansI x4 15) (ansI x4 16) (ansI x4 17) (ansI x4 18) (ansI x4 19) (ansI x4 20) (ansI x4 21) (ansI x4 22) 34 0 0 4 0 x3 x3 1 x13 0 0 x3 x3 1 0 0 false 3))
    (x16 : Int) (ex16 : x16 = (IntKind.wrap IntKind.u32 (a0 + 5))) :
    evF Try.prog ΓK18 400 3 [.v (.int .u32 a0), .v (.int .u32 a1), .v (.int .u8 a2), .v (.int .u16 a3)] [] isT (fun _ _ => none) =
    (bif in32 0 && (in32 0 && (in32 0 && (in32 0 && (in32 x1 && (in32 0 && (in32 0 && (in32 0 && (true && (true && in32 x2))))))))) && true then bif in32 x5 && (in32 x6 && (in32 x7 && (in32 x8 && (in32 x9 && (in32 x10 && (in32 x11 && (in32 x12 && (true && (true && in32 x13))))))))) && true then bif ansI x4 23 == 0 then bif ansI x15 23 == 0 then bif x14 == IntKind.wrap IntKind.u32 (x16 + a1) then bif ansI x15 8 == x16 then some (ansI x15 4 == IntKind.wrap IntKind.u32 (x1 + IntKind.wrap IntKind.u32 a3)) else some false else some false else some false else some false else none else none) := by
  subst ex1
  subst ex2
  subst ex3
  subst ex4
  subst ex5
  subst ex6
  subst ex7
  subst ex8
  subst ex9
  subst ex10
  subst ex11
  subst ex12
  subst ex13
  subst ex14
  subst ex15
  subst ex16
  kernel_rfl
set_option maxHeartbeats 1000000 in
theorem pure (a0 : Int) (a1 : Int) (a2 : Int) (a3 : Int) (w0 : (Lit.int .u32 a0).wf = true) (w1 : (Lit.int .u32 a1).wf = true) (w2 : (Lit.int .u8 a2).wf = true) (w3 : (Lit.int .u16 a3).wf = true) :
    evF Try.prog ΓK18 400 3 [.v (.int .u32 a0), .v (.int .u32 a1), .v (.int .u8 a2), .v (.int .u16 a3)] [] isT (fun _ _ => none) = some true := by
  obtain ⟨x1, ex1⟩ : ∃ x : Int, x = (IntKind.wrap IntKind.u32 (IntKind.wrap IntKind.u32 (Int.tmod a2 250) + 4)) := ⟨_, rfl⟩
  obtain ⟨x2, ex2⟩ : ∃ x : Int, x = (bitsL BinOp.or IntKind.u32 (bitsL BinOp.or IntKind.u32 (bitsL BinOp.or IntKind.u32 (IntKind.wrap IntKind.u32 (IntKind.wrap IntKind.u8 a1)) (IntKind.wrap IntKind.u32 (IntKind.wrap IntKind.u32 (IntKind.wrap IntKind.u8 (Int.fdiv a1 256)) * 256))) (IntKind.wrap IntKind.u32 (IntKind.wrap IntKind.u32 (IntKind.wrap IntKind.u8 (Int.fdiv a1 65536)) * 65536))) (IntKind.wrap IntKind.u32 (IntKind.wrap IntKind.u32 (IntKind.wrap IntKind.u8 (Int.fdiv a1 16777216)) * 16777216))) := ⟨_, rfl⟩
  obtain ⟨x3, ex3⟩ : ∃ x : Int, x = (-1) := ⟨_, rfl⟩
  obtain ⟨x4, ex4⟩ : ∃ x : Option (Sv × List SObj), x = (flPT 16384 4096 false false true 36864 256 true true false 115 (wrM (fun x => 0) 36864 (rowF (fun x => 0) (fillB 1) 256) 256) 0 0 0 0 x1 0 0 0 a0 false false false false false false 0 0 0 0 0 0 0 0 33 0 0 4 0 x3 x3 1 x2 0 0 x3 x3 1 0 0 false 5) := ⟨_, rfl⟩
  obtain ⟨x5, ex5⟩ : ∃ x : Int, x = (ansI x4 0) := ⟨_, rfl⟩
  obtain ⟨x6, ex6⟩ : ∃ x : Int, x = (ansI x4 1) := ⟨_, rfl⟩
  obtain ⟨x7, ex7⟩ : ∃ x : Int, x = (ansI x4 2) := ⟨_, rfl⟩
  obtain ⟨x8, ex8⟩ : ∃ x : Int, x = (ansI x4 3) := ⟨_, rfl⟩
  obtain ⟨x9, ex9⟩ : ∃ x : Int, x = (ansI x4 4) := ⟨_, rfl⟩
  obtain ⟨x10, ex10⟩ : ∃ x : Int, x = (ansI x4 5) := ⟨_, rfl⟩
  obtain ⟨x11, ex11⟩ : ∃ x : Int, x = (ansI x4 6) := ⟨_, rfl⟩
  obtain ⟨x12, ex12⟩ : ∃ x : Int, x = (ansI x4 7) := ⟨_, rfl⟩
  obtain ⟨x13, ex13⟩ : ∃ x : Int, x = (bitsL BinOp.or IntKind.u32 (IntKind.wrap IntKind.u32 (IntKind.wrap IntKind.u8 a3)) (IntKind.wrap IntKind.u32 (IntKind.wrap IntKind.u32 (IntKind.wrap IntKind.u8 (Int.fdiv a3 256)) * 256))) := ⟨_, rfl⟩
  obtain ⟨x14, ex14⟩ : ∃ x : Int, x = (ansI x4 8) := ⟨_, rfl⟩
  obtain ⟨x15, ex15⟩ : ∃ x : Option (Sv × List SObj), x = (flPT 16384 4096 false false true 36864 256 true true false 115 (ansM x4 1) x5 x6 x7 x8 x9 x10 x11 x12 x14 (ansB x4 9) (ansB x4 10) (ansB x4 11) (ansB x4 12) (ansB x4 13) (ansB x4 14) (ansI x4 15) (ansI x4 16) (ansI x4 17) (ansI x4 18) (ansI x4 19) (ansI x4 20) (ansI x4 21) (ansI x4 22) 34 0 0 4 0 x3 x3 1 x13 0 0 x3 x3 1 0 0 false 3) := ⟨_, rfl⟩
  obtain ⟨x16, ex16⟩ : ∃ x : Int, x = (IntKind.wrap IntKind.u32 (a0 + 5)) := ⟨_, rfl⟩
  rw [form a0 a1 a2 a3 x1 ex1 x2 ex2 x3 ex3 x4 ex4 x5 ex5 x6 ex6 x7 ex7 x8 ex8 x9 ex9 x10 ex10 x11 ex11 x12 ex12 x13 ex13 x14 ex14 x15 ex15 x16 ex16]
  have b0 := wf_u32 w0
  have b1 := wf_u32 w1
  have b2 := wf_u8 w2
  have b3 := wf_u16 w3
  have q1 : x1 = a2 % 250 + 4 := by rw [ex1, Int.tmod_eq_emod_of_nonneg b2.1, wr_u32_id (n := a2 % 250) (by omega) (by omega), wr_u32_id (by omega) (by omega)]
  have p0 : 4 ≤ x1 := by omega
  have p1 : x1 < 254 := by omega
  have ix : in32 x1 = true := in32_iff.2 (by omega)
  have iy : in32 (x1 - 4) = true := in32_iff.2 (by omega)
  have w4 : IntKind.wrap .u32 (x1 - 4) = x1 - 4 := wr_u32_id (by omega) (by omega)
  have q2 : x2 = a1 := by
    rw [ex2]
    have e0 : IntKind.wrap .u8 a1 = a1 % 256 := wr_u8 _
    have e1 : IntKind.wrap .u8 (Int.fdiv a1 256) = a1 / 256 % 256 := by rw [wr_u8, Int.fdiv_eq_ediv_of_nonneg _ (by decide)]
    have e2 : IntKind.wrap .u8 (Int.fdiv a1 65536) = a1 / 65536 % 256 := by rw [wr_u8, Int.fdiv_eq_ediv_of_nonneg _ (by decide)]
    have e3 : IntKind.wrap .u8 (Int.fdiv a1 16777216) = a1 / 16777216 % 256 := by rw [wr_u8, Int.fdiv_eq_ediv_of_nonneg _ (by decide)]
    rw [e0, e1, e2, e3, ld4b (by omega) (by omega) (by omega) (by omega)]
    omega
  have q13 : x13 = a3 := by
    rw [ex13]
    have e0 : IntKind.wrap .u8 a3 = a3 % 256 := wr_u8 _
    have e1 : IntKind.wrap .u8 (Int.fdiv a3 256) = a3 / 256 % 256 := by rw [wr_u8, Int.fdiv_eq_ediv_of_nonneg _ (by decide)]
    rw [e0, e1, ld2b (by omega) (by omega)]
    omega
  have i2 : in32 x2 = true := by rw [q2]; exact in32_iff.2 b1
  have i13 : in32 x13 = true := by rw [q13]; exact in32_iff.2 (by omega)
  have m1 : mayV true true false 1 = true := rfl
  have m0 : mayV true true false 0 = true := rfl
  have hok : skOk 36864 256 (x1 - 4) true = true := by
    unfold skOk
    have := seg4 (p := x1 - 4) (by omega) (by omega)
    rw [show ((bytesN 4 : Nat) : Int) = 4 from rfl] at this
    rw [this]; rfl
  have i0 : in32 0 = true := rfl
  have id : in32 36864 = true := rfl
  have is : in32 256 = true := rfl
  have iw : in32 (IntKind.wrap .u32 (IntKind.wrap .u32 (a0 + 5) + x2)) = true := in32_wr _
  obtain ⟨M0, hM0⟩ : ∃ M0, M0 = wrM (fun x => 0) 36864 (rowF (fun x => 0) (fillB 1) 256) 256 := ⟨_, rfl⟩
  rw [← hM0] at ex4
  have w16 : in32 x16 = true := by rw [ex16]; exact in32_wr _
  have h4 : x4 = some (.tup [.agg [.v (.int .u32 0), .v (.int .u32 0), .v (.int .u32 0), .v (.int .u32 0), .v (.int .u32 (x1 - 4)), .v (.int .u32 0), .v (.int .u32 0), .v (.int .u32 0), .v (.int .u32 (IntKind.wrap .u32 (x16 + x2))), .v (.bool false), .v (.bool false), .v (.bool false), .v (.bool false), .v (.bool false), .v (.bool false), .v (.int .u64 0), .v (.int .u64 0), .v (.int .u64 0), .v (.int .u64 0), .v (.int .u64 0), .v (.int .u64 0), .v (.int .u64 0), .v (.int .u64 0)], .v (.int .i64 0)], [.cells [.ptr 1 0, .v (.int .u32 16384), .v (.int .u32 4096), .v (.bool false), .v (.bool false), .v (.bool true), .v (.int .u32 36864), .v (.int .u32 256), .v (.bool true), .v (.bool true), .v (.bool false)] 115, .ext 0 (stV M0 36864 256 (x1 - 4) 4 (IntKind.wrap .u64 x16) true)]) := by
    rw [ex4, flP_tree]
    simp only [show ((33 : Int) == 34) = false from rfl, show decide ((33 : Int) < 31) = false from rfl, show decide ((33 : Int) > 33) = false from rfl, show ((4 : Int) != 4) = false from rfl, show ((33 : Int) == 31) = false from rfl, show ((33 : Int) == 33) = true from rfl, w4, m1, hok, i0, ix, i2, w16, id, is, in32_wr, beq_self_eq_true, show (endV true == 0) = true from rfl, puV, show IntKind.wrap .u32 5 = 5 from rfl, ← ex16, Bool.and_self, Bool.not_true, cond_true, cond_false]
    rfl
  have b16 := in32_iff.1 w16
  have hv : IntKind.wrap .u64 x16 = x16 := wr_u64_id b16.1 (by omega)
  rw [hv] at h4
  have k_x5 : x5 = 0 := by rw [ex5, h4]; rfl
  have k_x6 : x6 = 0 := by rw [ex6, h4]; rfl
  have k_x7 : x7 = 0 := by rw [ex7, h4]; rfl
  have k_x8 : x8 = 0 := by rw [ex8, h4]; rfl
  have k_x9 : x9 = x1 - 4 := by rw [ex9, h4]; rfl
  have k_x10 : x10 = 0 := by rw [ex10, h4]; rfl
  have k_x11 : x11 = 0 := by rw [ex11, h4]; rfl
  have k_x12 : x12 = 0 := by rw [ex12, h4]; rfl
  have k_x14 : x14 = IntKind.wrap .u32 (x16 + x2) := by rw [ex14, h4]; rfl
  have kb9 : ansB x4 9 = false := by rw [h4]; rfl
  have kb10 : ansB x4 10 = false := by rw [h4]; rfl
  have kb11 : ansB x4 11 = false := by rw [h4]; rfl
  have kb12 : ansB x4 12 = false := by rw [h4]; rfl
  have kb13 : ansB x4 13 = false := by rw [h4]; rfl
  have kb14 : ansB x4 14 = false := by rw [h4]; rfl
  have kx15 : ansI x4 15 = 0 := by rw [h4]; rfl
  have kx16 : ansI x4 16 = 0 := by rw [h4]; rfl
  have kx17 : ansI x4 17 = 0 := by rw [h4]; rfl
  have kx18 : ansI x4 18 = 0 := by rw [h4]; rfl
  have kx19 : ansI x4 19 = 0 := by rw [h4]; rfl
  have kx20 : ansI x4 20 = 0 := by rw [h4]; rfl
  have kx21 : ansI x4 21 = 0 := by rw [h4]; rfl
  have kx22 : ansI x4 22 = 0 := by rw [h4]; rfl
  have kM : ansM x4 1 = stV M0 36864 256 (x1 - 4) 4 x16 true := by rw [h4]; rfl
  have hld := ld_stV M0 (q := x1 - 4) (v := x16) (by omega) (by omega) b16.1 b16.2
  have hlw : IntKind.wrap .u32 x16 = x16 := wr_u32_id b16.1 b16.2
  have hp : poV (x1 - 4) true = x1 := by show IntKind.wrap .u32 (x1 - 4 + 4) = x1; rw [wr_u32_id (by omega) (by omega)]; omega
  have h15 : x15 = some (.tup [.agg [.v (.int .u32 0), .v (.int .u32 0), .v (.int .u32 0), .v (.int .u32 0), .v (.int .u32 (IntKind.wrap .u32 (x1 + x13))), .v (.int .u32 0), .v (.int .u32 0), .v (.int .u32 0), .v (.int .u32 (x16)), .v (.bool false), .v (.bool false), .v (.bool false), .v (.bool false), .v (.bool false), .v (.bool false), .v (.int .u64 0), .v (.int .u64 0), .v (.int .u64 0), .v (.int .u64 0), .v (.int .u64 0), .v (.int .u64 0), .v (.int .u64 0), .v (.int .u64 0)], .v (.int .i64 0)], [.cells [.ptr 1 0, .v (.int .u32 16384), .v (.int .u32 4096), .v (.bool false), .v (.bool false), .v (.bool true), .v (.int .u32 36864), .v (.int .u32 256), .v (.bool true), .v (.bool true), .v (.bool false)] 115, .ext 0 (stV M0 36864 256 (x1 - 4) 4 x16 true)]) := by
    rw [ex15, k_x5, k_x6, k_x7, k_x8, k_x9, k_x10, k_x11, k_x12, k_x14, kM, kb9, kb10, kb11, kb12, kb13, kb14, kx15, kx16, kx17, kx18, kx19, kx20, kx21, kx22, flP_tree]
    simp only [show ((34 : Int) == 34) = true from rfl, show ((4 : Int) == 4) = true from rfl, w4, m0, hok, hld, hlw, hp, orV, i0, ix, iy, i13, id, is, in32_wr, beq_self_eq_true, show (endV true != 0) = false from rfl, Bool.and_self, Bool.not_true, cond_true, cond_false]
    try rfl
  have e4 : ansI x4 23 = 0 := by rw [h4]; rfl
  have e15 : ansI x15 23 = 0 := by rw [h15]; rfl
  have f4 : ansI x15 4 = IntKind.wrap .u32 (x1 + x13) := by rw [h15]; rfl
  have f8 : ansI x15 8 = x16 := by rw [h15]; rfl
  have g3 : IntKind.wrap .u32 a3 = a3 := wr_u32_id b3.1 (by omega)
  rw [e4, e15, f4, f8, k_x5, k_x6, k_x7, k_x8, k_x9, k_x10, k_x11, k_x12, k_x14, q13, g3, q2]
  rw [q2] at i2
  rw [q13] at i13
  simp only [i0, ix, iy, i2, i13, Bool.and_self, Bool.and_true, cond_true, beq_self_eq_true]
end Go.Proofs.Ytpgdpoloipifeaa.flowReturns
