/- FpuMoves: the reckoning of the law, and that it is true. -/
import Derived.Test.YtpgdpoloipifeaaCMv
import Derived.Test.YtpgdpoloipifeaaCMu
import Derived.Test.YtpgdpoloipifeaaNStr
namespace Go.Proofs.Ytpgdpoloipifeaa.fpuMoves
open Go Go.Ev
set_option linter.unusedVariables false
set_option linter.unusedSimpArgs false
set_option maxRecDepth 100000
theorem jm : ∀ n : Fin 256, (let a : Int := ((n : Nat) : Int)
    let x := bitsL BinOp.and IntKind.u8 a 7
    let y := bitsL BinOp.or IntKind.u8 5 (IntKind.wrap IntKind.u8 (x * 8))
    (decide (0 ≤ x) && decide (x < 8)) && (y == 5 || y == 13 || y == 21 || y == 29 || y == 37 || y == 45 || y == 53 || y == 61) && (IntKind.wrap IntKind.i64 (bitsL BinOp.and IntKind.u8 (Int.fdiv y 8) 7) == x)) = true := by decide +kernel
theorem jm_of {a : Int} (h0 : 0 ≤ a) (h1 : a < 256) : ((decide (0 ≤ bitsL BinOp.and IntKind.u8 a 7) && decide (bitsL BinOp.and IntKind.u8 a 7 < 8)) && (bitsL BinOp.or IntKind.u8 5 (IntKind.wrap IntKind.u8 (bitsL BinOp.and IntKind.u8 a 7 * 8)) == 5 || bitsL BinOp.or IntKind.u8 5 (IntKind.wrap IntKind.u8 (bitsL BinOp.and IntKind.u8 a 7 * 8)) == 13 || bitsL BinOp.or IntKind.u8 5 (IntKind.wrap IntKind.u8 (bitsL BinOp.and IntKind.u8 a 7 * 8)) == 21 || bitsL BinOp.or IntKind.u8 5 (IntKind.wrap IntKind.u8 (bitsL BinOp.and IntKind.u8 a 7 * 8)) == 29 || bitsL BinOp.or IntKind.u8 5 (IntKind.wrap IntKind.u8 (bitsL BinOp.and IntKind.u8 a 7 * 8)) == 37 || bitsL BinOp.or IntKind.u8 5 (IntKind.wrap IntKind.u8 (bitsL BinOp.and IntKind.u8 a 7 * 8)) == 45 || bitsL BinOp.or IntKind.u8 5 (IntKind.wrap IntKind.u8 (bitsL BinOp.and IntKind.u8 a 7 * 8)) == 53 || bitsL BinOp.or IntKind.u8 5 (IntKind.wrap IntKind.u8 (bitsL BinOp.and IntKind.u8 a 7 * 8)) == 61) && (IntKind.wrap IntKind.i64 (bitsL BinOp.and IntKind.u8 (Int.fdiv (bitsL BinOp.or IntKind.u8 5 (IntKind.wrap IntKind.u8 (bitsL BinOp.and IntKind.u8 a 7 * 8))) 8) 7) == bitsL BinOp.and IntKind.u8 a 7)) = true := by
  have h := jm ⟨a.toNat, by omega⟩
  have ha : ((a.toNat : Nat) : Int) = a := by omega
  simp only [ha] at h
  exact h
theorem eight {r : Int} (h0 : 0 ≤ r) (h1 : r < 8) : r = 0 ∨ r = 1 ∨ r = 2 ∨ r = 3 ∨ r = 4 ∨ r = 5 ∨ r = 6 ∨ r = 7 := by omega
theorem selB {r a : Int} (h0 : 0 ≤ r) (h1 : r < 8) (d y0 y1 y2 y3 y4 y5 y6 y7 : Int) : getV 5 r d y0 y1 y2 y3 y4 y5 y6 y7 (bif r == 0 then a else 0) (bif r == 1 then a else 0) (bif r == 2 then a else 0) (bif r == 3 then a else 0) (bif r == 4 then a else 0) (bif r == 5 then a else 0) (bif r == 6 then a else 0) (bif r == 7 then a else 0) = a := by
  rcases eight h0 h1 with rfl | rfl | rfl | rfl | rfl | rfl | rfl | rfl <;> rfl
theorem selX {r a : Int} (h0 : 0 ≤ r) (h1 : r < 8) (y0 y1 y2 y3 y4 y5 y6 y7 : Int) : selL r 0 [bif r == 0 then a else y0, bif r == 1 then a else y1, bif r == 2 then a else y2, bif r == 3 then a else y3, bif r == 4 then a else y4, bif r == 5 then a else y5, bif r == 6 then a else y6, bif r == 7 then a else y7] = a := by
  rcases eight h0 h1 with rfl | rfl | rfl | rfl | rfl | rfl | rfl | rfl <;> rfl
theorem seg8 {p : Int} (h0 : 0 ≤ p) (h1 : p + 8 ≤ 256) : segE 36864 256 p 8 true = 0 := segE_ok (by rw [show clampN 8 = 8 from rfl]; omega) (by decide)
theorem ld_st8 (M : Int → Int) {q v : Int} (h0 : 0 ≤ q) (h1 : q + 8 ≤ 256) (hv : 0 ≤ v) (hv2 : v < 18446744073709551616) : ldV (stV M 36864 256 q 8 v true) 36864 256 q 8 true = v := by
  unfold ldV stV
  have hs : segE 36864 256 q ((bytesN 8 : Nat) : Int) true = 0 := seg8 h0 h1
  rw [hs]
  show ldGo (stB M (IntKind.wrap .u32 (36864 + q)) v 8) (IntKind.wrap .u32 (36864 + q)) 8 0 = v
  rw [ld_st M _ v 8 (by omega) hv (by omega)]
  show v % 18446744073709551616 = v
  omega
theorem or0 {x : Int} (h0 : 0 ≤ x) (h1 : x < 4294967296) : bitsL .or .u32 x 0 = x := by
  rw [bitsL_eq]
  have := or_join 32 (l := x) (h := 0) h0 h1 (by omega) (by omega)
  simpa using this
theorem of_none {d : Int} (L : List Int) (h : in32 d = true) : ofV (-1) (-1) 1 d L = d := by
  rw [in32_iff] at h
  unfold ofV heldV
  rw [show isV (-1) = false from rfl]
  simp only [Bool.false_eq_true, cond_false, if_false, wr_u32]
  omega
theorem form (a0 : Int) (a1 : Int) (a2 : Int) (a3 : Int)
    (x1 : Int) (ex1 : x1 = (bitsL BinOp.and IntKind.u8 a1 7))
    (x3 : Int) (ex3 : x3 = (bitsL BinOp.or IntKind.u8 5 (IntKind.wrap IntKind.u8 (x1 * 8))))
    (x4 : Int) (ex4 : x4 = (bitsL BinOp.and IntKind.u8 a2 7))
    (x5 : Int) (ex5 : x5 = (bitsL BinOp.or IntKind.u8 5 (IntKind.wrap IntKind.u8 (x4 * 8))))
    (x6 : Int) (ex6 : x6 = (IntKind.wrap IntKind.u32 (Int.tmod a3 248)))
    (x7 : Int) (ex7 : x7 = (bitsL BinOp.or IntKind.u32 (bitsL BinOp.or IntKind.u32 (bitsL BinOp.or IntKind.u32 x6 0) 0) 0))
    (x8 : Bool) (ex8 : x8 = (in32 x7))
    (x9 : Int) (ex9 : x9 = (bif x1 == 0 then a0 else 0))
    (x10 : Int) (ex10 : x10 = (bif x1 == 1 then a0 else 0))
    (x11 : Int) (ex11 : x11 = (bif x1 == 2 then a0 else 0))
    (x12 : Int) (ex12 : x12 = (bif x1 == 3 then a0 else 0))
    (x13 : Int) (ex13 : x13 = (bif x1 == 4 then a0 else 0))
    (x14 : Int) (ex14 : x14 = (bif x1 == 5 then a0 else 0))
    (x15 : Int) (ex15 : x15 = (bif x1 == 6 then a0 else 0))
    (x16 : Int) (ex16 : x16 = (bif x1 == 7 then a0 else 0))
    (x17 : Bool) (ex17 : x17 = (in64 x9 && (in64 x10 && (in64 x11 && (in64 x12 && (in64 x13 && (in64 x14 && (in64 x15 && (in64 x16 && true)))))))))
    (x18 : Int) (ex18 : x18 = (-1))
    (x19 : Int) (ex19 : x19 = (ofV x18 x18 1 x7 [0, 0, 0, 0, 0, 0, 0, 0]))
    (x20 : Bool) (ex20 : x20 = (segE 36864 256 x19 8 true == 0))
    (x21 : Bool) (ex21 : x21 = (endF x20 == 0))
    (x22 : Int) (ex22 : x22 = (IntKind.wrap IntKind.i64 (bitsL BinOp.and IntKind.u8 (Int.fdiv x5 8) 7)))
    (x23 : Int → Int) (ex23 : x23 = (stV (wrM (fun x => 0) 36864 (rowF (fun x => 0) (fillB 2) 256) 256) 36864 256 x19 8 (getV 5 (IntKind.wrap IntKind.i64 (bitsL BinOp.and IntKind.u8 (Int.fdiv x3 8) 7)) 0 0 0 0 0 0 0 0 0 x9 x10 x11 x12 x13 x14 x15 x16) true))
    (x24 : Int) (ex24 : x24 = (ldV x23 36864 256 x19 8 true)) :
    evF Try.prog (ΓMv.add 26 mvB) 400 7 [.v (.int .u64 a0), .v (.int .u8 a1), .v (.int .u8 a2), .v (.int .u8 a3)] [] isT (fun _ _ => none) =
    (bif decide (0 ≤ x1) && decide (x1 < 8) then bif (x3 == 5 || x3 == 13 || x3 == 21 || x3 == 29 || x3 == 37 || x3 == 45 || x3 == 53 || x3 == 61) && true then bif (x5 == 5 || x5 == 13 || x5 == 21 || x5 == 29 || x5 == 37 || x5 == 45 || x5 == 53 || x5 == 61) && true then bif true && (true && (true && (true && (true && (true && (true && (true && (true && (true && (x8 && (true && x17))))))))))) && true then bif true && (true && (true && (true && (true && (true && (true && (true && (true && (true && (true && (x8 && x17))))))))))) && true then bif true && (true && in32 x6) && true then bif x21 then bif x21 then bif segE 36864 256 x6 8 true == 0 then bif true && (true && (true && (x9 == x9 && (x10 == x10 && (x11 == x11 && (x12 == x12 && (x13 == x13 && (x14 == x14 && (x15 == x15 && (x16 == x16 && true))))))) && true))) then bif decide (0 ≤ x4) && decide (x4 < 8) then bif selL x4 0 [bif x20 then bif x22 == 0 then x24 else x9 else x9, bif x20 then bif x22 == 1 then x24 else x10 else x10, bif x20 then bif x22 == 2 then x24 else x11 else x11, bif x20 then bif x22 == 3 then x24 else x12 else x12, bif x20 then bif x22 == 4 then x24 else x13 else x13, bif x20 then bif x22 == 5 then x24 else x14 else x14, bif x20 then bif x22 == 6 then x24 else x15 else x15, bif x20 then bif x22 == 7 then x24 else x16 else x16] == a0 then bif ldV x23 36864 256 x6 8 true == a0 then some true else some false else some false else none else some false else some false else some false else some false else none else none else none else none else none else none) := by
  subst ex1
  subst ex3
  subst ex4
  subst ex5
  subst ex6
  subst ex7
  subst ex8
  subst ex9
  subst ex10
  subst ex11
  subst ex12
  subst ex13
  subst ex14
  subst ex15
  subst ex16
  subst ex17
  subst ex18
  subst ex19
  subst ex20
  subst ex21
  subst ex22
  subst ex23
  subst ex24
  kernel_rfl
set_option maxHeartbeats 1000000 in
theorem pure (a0 : Int) (a1 : Int) (a2 : Int) (a3 : Int) (w0 : (Lit.int .u64 a0).wf = true) (w1 : (Lit.int .u8 a1).wf = true) (w2 : (Lit.int .u8 a2).wf = true) (w3 : (Lit.int .u8 a3).wf = true) :
    evF Try.prog (ΓMv.add 26 mvB) 400 7 [.v (.int .u64 a0), .v (.int .u8 a1), .v (.int .u8 a2), .v (.int .u8 a3)] [] isT (fun _ _ => none) = some true := by
  obtain ⟨x1, ex1⟩ : ∃ x : Int, x = (bitsL BinOp.and IntKind.u8 a1 7) := ⟨_, rfl⟩
  obtain ⟨x3, ex3⟩ : ∃ x : Int, x = (bitsL BinOp.or IntKind.u8 5 (IntKind.wrap IntKind.u8 (x1 * 8))) := ⟨_, rfl⟩
  obtain ⟨x4, ex4⟩ : ∃ x : Int, x = (bitsL BinOp.and IntKind.u8 a2 7) := ⟨_, rfl⟩
  obtain ⟨x5, ex5⟩ : ∃ x : Int, x = (bitsL BinOp.or IntKind.u8 5 (IntKind.wrap IntKind.u8 (x4 * 8))) := ⟨_, rfl⟩
  obtain ⟨x6, ex6⟩ : ∃ x : Int, x = (IntKind.wrap IntKind.u32 (Int.tmod a3 248)) := ⟨_, rfl⟩
  obtain ⟨x7, ex7⟩ : ∃ x : Int, x = (bitsL BinOp.or IntKind.u32 (bitsL BinOp.or IntKind.u32 (bitsL BinOp.or IntKind.u32 x6 0) 0) 0) := ⟨_, rfl⟩
  obtain ⟨x8, ex8⟩ : ∃ x : Bool, x = (in32 x7) := ⟨_, rfl⟩
  obtain ⟨x9, ex9⟩ : ∃ x : Int, x = (bif x1 == 0 then a0 else 0) := ⟨_, rfl⟩
  obtain ⟨x10, ex10⟩ : ∃ x : Int, x = (bif x1 == 1 then a0 else 0) := ⟨_, rfl⟩
  obtain ⟨x11, ex11⟩ : ∃ x : Int, x = (bif x1 == 2 then a0 else 0) := ⟨_, rfl⟩
  obtain ⟨x12, ex12⟩ : ∃ x : Int, x = (bif x1 == 3 then a0 else 0) := ⟨_, rfl⟩
  obtain ⟨x13, ex13⟩ : ∃ x : Int, x = (bif x1 == 4 then a0 else 0) := ⟨_, rfl⟩
  obtain ⟨x14, ex14⟩ : ∃ x : Int, x = (bif x1 == 5 then a0 else 0) := ⟨_, rfl⟩
  obtain ⟨x15, ex15⟩ : ∃ x : Int, x = (bif x1 == 6 then a0 else 0) := ⟨_, rfl⟩
  obtain ⟨x16, ex16⟩ : ∃ x : Int, x = (bif x1 == 7 then a0 else 0) := ⟨_, rfl⟩
  obtain ⟨x17, ex17⟩ : ∃ x : Bool, x = (in64 x9 && (in64 x10 && (in64 x11 && (in64 x12 && (in64 x13 && (in64 x14 && (in64 x15 && (in64 x16 && true)))))))) := ⟨_, rfl⟩
  obtain ⟨x18, ex18⟩ : ∃ x : Int, x = (-1) := ⟨_, rfl⟩
  obtain ⟨x19, ex19⟩ : ∃ x : Int, x = (ofV x18 x18 1 x7 [0, 0, 0, 0, 0, 0, 0, 0]) := ⟨_, rfl⟩
  obtain ⟨x20, ex20⟩ : ∃ x : Bool, x = (segE 36864 256 x19 8 true == 0) := ⟨_, rfl⟩
  obtain ⟨x21, ex21⟩ : ∃ x : Bool, x = (endF x20 == 0) := ⟨_, rfl⟩
  obtain ⟨x22, ex22⟩ : ∃ x : Int, x = (IntKind.wrap IntKind.i64 (bitsL BinOp.and IntKind.u8 (Int.fdiv x5 8) 7)) := ⟨_, rfl⟩
  obtain ⟨x23, ex23⟩ : ∃ x : Int → Int, x = (stV (wrM (fun x => 0) 36864 (rowF (fun x => 0) (fillB 2) 256) 256) 36864 256 x19 8 (getV 5 (IntKind.wrap IntKind.i64 (bitsL BinOp.and IntKind.u8 (Int.fdiv x3 8) 7)) 0 0 0 0 0 0 0 0 0 x9 x10 x11 x12 x13 x14 x15 x16) true) := ⟨_, rfl⟩
  obtain ⟨x24, ex24⟩ : ∃ x : Int, x = (ldV x23 36864 256 x19 8 true) := ⟨_, rfl⟩
  rw [form a0 a1 a2 a3 x1 ex1 x3 ex3 x4 ex4 x5 ex5 x6 ex6 x7 ex7 x8 ex8 x9 ex9 x10 ex10 x11 ex11 x12 ex12 x13 ex13 x14 ex14 x15 ex15 x16 ex16 x17 ex17 x18 ex18 x19 ex19 x20 ex20 x21 ex21 x22 ex22 x23 ex23 x24 ex24]
  have b0 := wf_u64 w0
  have b1 := wf_u8 w1
  have b2 := wf_u8 w2
  have b3 := wf_u8 w3
  have j1 := jm_of b1.1 b1.2
  have j2 := jm_of b2.1 b2.2
  rw [← ex1, ← ex3] at j1
  rw [← ex4, ← ex5] at j2
  simp only [Bool.and_eq_true, beq_iff_eq (a := IntKind.wrap .i64 _)] at j1 j2
  obtain ⟨⟨⟨j11, j12⟩, j13⟩, j14⟩ := j1
  obtain ⟨⟨⟨j21, j22⟩, j23⟩, j24⟩ := j2
  have q0 := of_decide_eq_true j11
  have q1 := of_decide_eq_true j12
  have q2 := of_decide_eq_true j21
  have q3 := of_decide_eq_true j22
  have q6 : x6 = a3 % 248 := by rw [ex6, Int.tmod_eq_emod_of_nonneg b3.1, wr_u32_id (by omega) (by omega)]
  have q0' : bitsL .or .u32 x6 0 = x6 := or0 (by omega) (by omega)
  have q7 : x7 = x6 := by rw [ex7, q0', q0', q0']
  have i6 : in32 x6 = true := in32_iff.2 (by omega)
  have i7 : x8 = true := by rw [ex8, q7]; exact i6
  have ia : in64 a0 = true := in64_iff.2 b0
  have i0 : in32 0 = true := rfl
  have i60 : in64 0 = true := rfl
  have id : in32 36864 = true := rfl
  have is : in32 256 = true := rfl
  have hini : ini64 51 = true := rfl
  have i9 : in64 x9 = true := by rw [ex9]; exact in64_bif ia rfl
  have i10 : in64 x10 = true := by rw [ex10]; exact in64_bif ia rfl
  have i11 : in64 x11 = true := by rw [ex11]; exact in64_bif ia rfl
  have i12 : in64 x12 = true := by rw [ex12]; exact in64_bif ia rfl
  have i13 : in64 x13 = true := by rw [ex13]; exact in64_bif ia rfl
  have i14 : in64 x14 = true := by rw [ex14]; exact in64_bif ia rfl
  have i15 : in64 x15 = true := by rw [ex15]; exact in64_bif ia rfl
  have i16 : in64 x16 = true := by rw [ex16]; exact in64_bif ia rfl
  have hof : x19 = x6 := by rw [ex19, q7, ex18]; exact of_none _ i6
  have hok := seg8 (p := x6) (by omega) (by omega)
  have k20 : x20 = true := by rw [ex20, hof, hok]; rfl
  have k21 : x21 = true := by rw [ex21, k20]; rfl
  have hg : getV 5 x1 0 0 0 0 0 0 0 0 0 x9 x10 x11 x12 x13 x14 x15 x16 = a0 := by
    rw [ex9, ex10, ex11, ex12, ex13, ex14, ex15, ex16]; exact selB q0 q1 _ _ _ _ _ _ _ _ _
  rw [j14, hg, hof] at ex23
  have k24 : x24 = a0 := by rw [ex24, ex23, hof]; exact ld_st8 _ (by omega) (by omega) b0.1 b0.2
  have k17 : x17 = true := by rw [ex17, i9, i10, i11, i12, i13, i14, i15, i16]; rfl
  have hm : ldV x23 36864 256 x6 8 true = a0 := by rw [ex23]; exact ld_st8 _ (by omega) (by omega) b0.1 b0.2
  rw [j24] at ex22
  rw [hm, k24, k21, k20, k17, i7, ex22, i6, hok, j11, j12, j21, j22]
  simp only [j13, j23, beq_self_eq_true, Bool.and_self, Bool.and_true, Bool.true_and, cond_true, selX q2 q3]
end Go.Proofs.Ytpgdpoloipifeaa.fpuMoves
