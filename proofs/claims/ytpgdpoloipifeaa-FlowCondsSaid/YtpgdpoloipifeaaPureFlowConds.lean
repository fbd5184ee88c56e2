/- FlowConds: the reckoning of the law, and that it is true. -/
import Derived.Test.YtpgdpoloipifeaaCOj
import Derived.Test.YtpgdpoloipifeaaNStr
namespace Go.Proofs.Ytpgdpoloipifeaa.flowConds
open Go Go.Ev
set_option linter.unusedVariables false
set_option linter.unusedSimpArgs false
set_option maxRecDepth 100000
theorem jc : ∀ n : Fin 256, (let a : Int := ((n : Nat) : Int)
    let p := bitsL BinOp.or IntKind.u8 112 (bitsL BinOp.and IntKind.u8 a 15)
    let q := bitsL BinOp.or IntKind.u8 112 (bitsL BinOp.and IntKind.u8 (bitsL BinOp.xor IntKind.u8 a 1) 15)
    (decide (112 ≤ p) && decide (p < 128)) && (decide (112 ≤ q) && decide (q < 128)) && (IntKind.wrap IntKind.i64 (bitsL BinOp.and IntKind.u8 p 15) == a % 16) && (IntKind.wrap IntKind.i64 (bitsL BinOp.and IntKind.u8 q 15) == (if a % 2 = 0 then a % 16 + 1 else a % 16 - 1))) = true := by decide +kernel
theorem holds_turn {k : Int} (h0 : 0 ≤ k) (h1 : k < 16) (fc fp fz fs fo : Bool) : holdsV (if k % 2 = 0 then k + 1 else k - 1) fc fp fz fs fo = !holdsV k fc fp fz fs fo := by
  rcases cond16 h0 h1 with rfl | rfl | rfl | rfl | rfl | rfl | rfl | rfl | rfl | rfl | rfl | rfl | rfl | rfl | rfl | rfl <;>
    (cases fc <;> cases fp <;> cases fz <;> cases fs <;> cases fo <;> rfl)
theorem form (a0 : Int) (a1 : Int) (a2 : Int) (a3_0 : Bool) (a3_1 : Bool) (a3_2 : Bool) (a3_3 : Bool) (a3_4 : Bool) (a3_5 : Bool)
    (x1 : Int) (ex1 : x1 = (bitsL BinOp.or IntKind.u8 112 (bitsL BinOp.and IntKind.u8 a0 15)))
    (x2 : Int) (ex2 : x2 = (bitsL BinOp.or IntKind.u8 112 (bitsL BinOp.and IntKind.u8 (bitsL BinOp.xor IntKind.u8 a0 1) 15)))
    (x3 : Int) (ex3 : x3 = (IntKind.wrap IntKind.u32 (IntKind.wrap IntKind.i32 (IntKind.wrap IntKind.i8 a1))))
    (x4 : Bool) (ex4 : x4 = (true && (true && (true && (true && (true && (true && (true && (true && (true && (true && in32 x3))))))))) && !1 + 12 == 1 + 6))
    (x5 : Int) (ex5 : x5 = (-1))
    (x6 : Option (Sv × List SObj)) (ex6 : x6 = (flPT 16384 4096 false false true 36864 256 true true false 115 (wrM (fun x => 0) 36864 (rowF (fun x => 0) (fillB 1) 256) 256) 0 0 0 0 0 0 0 0 a2 a3_0 a3_1 a3_2 a3_3 a3_4 a3_5 0 0 0 0 0 0 0 0 31 (IntKind.wrap IntKind.i64 (bitsL BinOp.and IntKind.u8 x1 15)) 0 4 0 x5 x5 1 x3 0 0 x5 x5 1 0 0 false 2))
    (x7 : Option (Sv × List SObj)) (ex7 : x7 = (flPT 16384 4096 false false true 36864 256 true true false 115 (ansM x6 1) 0 0 0 0 0 0 0 0 a2 a3_0 a3_1 a3_2 a3_3 a3_4 a3_5 0 0 0 0 0 0 0 0 31 (IntKind.wrap IntKind.i64 (bitsL BinOp.and IntKind.u8 x2 15)) 0 4 0 x5 x5 1 x3 0 0 x5 x5 1 0 0 false 2))
    (x8 : Int) (ex8 : x8 = (ansI x6 8))
    (x9 : Int) (ex9 : x9 = (IntKind.wrap IntKind.u32 (a2 + 2)))
    (x10 : Int) (ex10 : x10 = (IntKind.wrap IntKind.u32 (x9 + x3)))
    (x11 : Int) (ex11 : x11 = (ansI x7 8))
    (x12 : Option Bool) (ex12 : x12 = (some (ansB x6 9 == a3_0 && (ansB x6 10 == a3_1 && (ansB x6 11 == a3_2 && (ansB x6 12 == a3_3 && (ansB x6 13 == a3_4 && (ansB x6 14 == a3_5 && true))))))))
    (x13 : Option Bool) (ex13 : x13 = (bif x8 == x9 then bif x11 == x10 then x12 else some false else some false)) :
    evF Try.prog ΓOj 400 4 [.v (.int .u8 a0), .v (.int .u8 a1), .v (.int .u32 a2), .agg [.v (.bool a3_0), .v (.bool a3_1), .v (.bool a3_2), .v (.bool a3_3), .v (.bool a3_4), .v (.bool a3_5)]] [] isT (fun _ _ => none) =
    (bif true && (true && (true && (decide (112 ≤ x1) && decide (x1 < 128)))) then bif true && (true && (true && (decide (112 ≤ x2) && decide (x2 < 128)))) then bif x4 then bif x4 then bif ansI x6 23 == 0 then bif ansI x7 23 == 0 then bif x8 == x10 then bif x11 == x9 then x12 else x13 else x13 else some false else some false else none else none else none else none) := by
  subst ex1
  subst ex2
  subst ex3
  subst ex4
  subst ex5
  subst ex6
  subst ex7
  subst ex8
  subst ex9
  subst ex10
  subst ex11
  subst ex12
  subst ex13
  kernel_rfl
set_option maxHeartbeats 1000000 in
theorem pure (a0 : Int) (a1 : Int) (a2 : Int) (a3_0 : Bool) (a3_1 : Bool) (a3_2 : Bool) (a3_3 : Bool) (a3_4 : Bool) (a3_5 : Bool) (w0 : (Lit.int .u8 a0).wf = true) (w1 : (Lit.int .u8 a1).wf = true) (w2 : (Lit.int .u32 a2).wf = true) :
    evF Try.prog ΓOj 400 4 [.v (.int .u8 a0), .v (.int .u8 a1), .v (.int .u32 a2), .agg [.v (.bool a3_0), .v (.bool a3_1), .v (.bool a3_2), .v (.bool a3_3), .v (.bool a3_4), .v (.bool a3_5)]] [] isT (fun _ _ => none) = some true := by
  obtain ⟨x1, ex1⟩ : ∃ x : Int, x = (bitsL BinOp.or IntKind.u8 112 (bitsL BinOp.and IntKind.u8 a0 15)) := ⟨_, rfl⟩
  obtain ⟨x2, ex2⟩ : ∃ x : Int, x = (bitsL BinOp.or IntKind.u8 112 (bitsL BinOp.and IntKind.u8 (bitsL BinOp.xor IntKind.u8 a0 1) 15)) := ⟨_, rfl⟩
  obtain ⟨x3, ex3⟩ : ∃ x : Int, x = (IntKind.wrap IntKind.u32 (IntKind.wrap IntKind.i32 (IntKind.wrap IntKind.i8 a1))) := ⟨_, rfl⟩
  obtain ⟨x4, ex4⟩ : ∃ x : Bool, x = (true && (true && (true && (true && (true && (true && (true && (true && (true && (true && in32 x3))))))))) && !1 + 12 == 1 + 6) := ⟨_, rfl⟩
  obtain ⟨x5, ex5⟩ : ∃ x : Int, x = (-1) := ⟨_, rfl⟩
  obtain ⟨x6, ex6⟩ : ∃ x : Option (Sv × List SObj), x = (flPT 16384 4096 false false true 36864 256 true true false 115 (wrM (fun x => 0) 36864 (rowF (fun x => 0) (fillB 1) 256) 256) 0 0 0 0 0 0 0 0 a2 a3_0 a3_1 a3_2 a3_3 a3_4 a3_5 0 0 0 0 0 0 0 0 31 (IntKind.wrap IntKind.i64 (bitsL BinOp.and IntKind.u8 x1 15)) 0 4 0 x5 x5 1 x3 0 0 x5 x5 1 0 0 false 2) := ⟨_, rfl⟩
  obtain ⟨x7, ex7⟩ : ∃ x : Option (Sv × List SObj), x = (flPT 16384 4096 false false true 36864 256 true true false 115 (ansM x6 1) 0 0 0 0 0 0 0 0 a2 a3_0 a3_1 a3_2 a3_3 a3_4 a3_5 0 0 0 0 0 0 0 0 31 (IntKind.wrap IntKind.i64 (bitsL BinOp.and IntKind.u8 x2 15)) 0 4 0 x5 x5 1 x3 0 0 x5 x5 1 0 0 false 2) := ⟨_, rfl⟩
  obtain ⟨x8, ex8⟩ : ∃ x : Int, x = (ansI x6 8) := ⟨_, rfl⟩
  obtain ⟨x9, ex9⟩ : ∃ x : Int, x = (IntKind.wrap IntKind.u32 (a2 + 2)) := ⟨_, rfl⟩
  obtain ⟨x10, ex10⟩ : ∃ x : Int, x = (IntKind.wrap IntKind.u32 (x9 + x3)) := ⟨_, rfl⟩
  obtain ⟨x11, ex11⟩ : ∃ x : Int, x = (ansI x7 8) := ⟨_, rfl⟩
  obtain ⟨x12, ex12⟩ : ∃ x : Option Bool, x = (some (ansB x6 9 == a3_0 && (ansB x6 10 == a3_1 && (ansB x6 11 == a3_2 && (ansB x6 12 == a3_3 && (ansB x6 13 == a3_4 && (ansB x6 14 == a3_5 && true))))))) := ⟨_, rfl⟩
  obtain ⟨x13, ex13⟩ : ∃ x : Option Bool, x = (bif x8 == x9 then bif x11 == x10 then x12 else some false else some false) := ⟨_, rfl⟩
  rw [form a0 a1 a2 a3_0 a3_1 a3_2 a3_3 a3_4 a3_5 x1 ex1 x2 ex2 x3 ex3 x4 ex4 x5 ex5 x6 ex6 x7 ex7 x8 ex8 x9 ex9 x10 ex10 x11 ex11 x12 ex12 x13 ex13]
  have b0 := wf_u8 w0
  have hj := jc ⟨a0.toNat, by omega⟩
  have ha : ((a0.toNat : Nat) : Int) = a0 := by omega
  simp only [ha] at hj
  rw [← ex1, ← ex2] at hj
  simp only [Bool.and_eq_true, beq_iff_eq] at hj
  obtain ⟨⟨⟨⟨j1, j2⟩, j3, j4⟩, j5⟩, j6⟩ := hj
  have i3 : in32 x3 = true := by rw [ex3]; exact in32_wr _
  have i0 : in32 0 = true := rfl
  have id : in32 36864 = true := rfl
  have is : in32 256 = true := rfl
  obtain ⟨M0, hM0⟩ : ∃ M0, M0 = wrM (fun x => 0) 36864 (rowF (fun x => 0) (fillB 1) 256) 256 := ⟨_, rfl⟩
  rw [← hM0] at ex6
  have ht := holds_turn (k := a0 % 16) (by omega) (by omega) a3_0 a3_1 a3_2 a3_3 a3_4
  have hk : (if a0 % 16 % 2 = 0 then a0 % 16 + 1 else a0 % 16 - 1) = (if a0 % 2 = 0 then a0 % 16 + 1 else a0 % 16 - 1) := by
    have : a0 % 16 % 2 = a0 % 2 := by omega
    rw [this]
  rw [hk] at ht
  rw [j5] at ex6
  rw [j6] at ex7
  generalize (if a0 % 2 = 0 then a0 % 16 + 1 else a0 % 16 - 1) = c2 at ht ex7
  generalize a0 % 16 = c1 at ht ex6
  have two : ∀ (c : Int) (M : Int → Int), flPT 16384 4096 false false true 36864 256 true true false 115 M 0 0 0 0 0 0 0 0 a2 a3_0 a3_1 a3_2 a3_3 a3_4 a3_5 0 0 0 0 0 0 0 0 31 c 0 4 0 x5 x5 1 x3 0 0 x5 x5 1 0 0 false 2 = (bif !holdsV c a3_0 a3_1 a3_2 a3_3 a3_4 then some (.tup [.agg [.v (.int .u32 0), .v (.int .u32 0), .v (.int .u32 0), .v (.int .u32 0), .v (.int .u32 (0)), .v (.int .u32 0), .v (.int .u32 0), .v (.int .u32 0), .v (.int .u32 (x9)), .v (.bool a3_0), .v (.bool a3_1), .v (.bool a3_2), .v (.bool a3_3), .v (.bool a3_4), .v (.bool a3_5), .v (.int .u64 0), .v (.int .u64 0), .v (.int .u64 0), .v (.int .u64 0), .v (.int .u64 0), .v (.int .u64 0), .v (.int .u64 0), .v (.int .u64 0)], .v (.int .i64 0)], [.cells [.ptr 1 0, .v (.int .u32 16384), .v (.int .u32 4096), .v (.bool false), .v (.bool false), .v (.bool true), .v (.int .u32 36864), .v (.int .u32 256), .v (.bool true), .v (.bool true), .v (.bool false)] 115, .ext 0 M]) else some (.tup [.agg [.v (.int .u32 0), .v (.int .u32 0), .v (.int .u32 0), .v (.int .u32 0), .v (.int .u32 (0)), .v (.int .u32 0), .v (.int .u32 0), .v (.int .u32 0), .v (.int .u32 (x10)), .v (.bool a3_0), .v (.bool a3_1), .v (.bool a3_2), .v (.bool a3_3), .v (.bool a3_4), .v (.bool a3_5), .v (.int .u64 0), .v (.int .u64 0), .v (.int .u64 0), .v (.int .u64 0), .v (.int .u64 0), .v (.int .u64 0), .v (.int .u64 0), .v (.int .u64 0)], .v (.int .i64 0)], [.cells [.ptr 1 0, .v (.int .u32 16384), .v (.int .u32 4096), .v (.bool false), .v (.bool false), .v (.bool true), .v (.int .u32 36864), .v (.int .u32 256), .v (.bool true), .v (.bool true), .v (.bool false)] 115, .ext 0 M])) := fun c M => by
    rw [flP_tree]
    simp only [show ((31 : Int) == 34) = false from rfl, show decide ((31 : Int) < 31) = false from rfl, show decide ((31 : Int) > 33) = false from rfl, show ((4 : Int) != 4) = false from rfl, show ((31 : Int) == 31) = true from rfl, show ((31 : Int) == 33) = false from rfl, i0, i3, id, is, in32_wr, show IntKind.wrap .u32 2 = 2 from rfl, ← ex9, Bool.and_self, Bool.not_true, cond_true, cond_false]
    cases holdsV c a3_0 a3_1 a3_2 a3_3 a3_4 <;> (simp only [Bool.not_true, Bool.not_false, cond_true, cond_false, ex10]; try rfl)
  rw [two] at ex6 ex7
  rw [ht] at ex7
  have i4 : x4 = true := by rw [ex4, i3]; rfl
  simp only [j1, j2, j3, j4, i4, Bool.and_self, cond_true]
  rw [ex13, ex12, ex11, ex8]
  cases hH : holdsV c1 a3_0 a3_1 a3_2 a3_3 a3_4 <;> rw [hH] at ex6 ex7 <;> simp only [Bool.not_true, Bool.not_false, cond_true, cond_false] at ex6 ex7
  · have a0 : ansI x6 23 = 0 := by rw [ex6]; rfl
    have a1 : ansI x7 23 = 0 := by rw [ex7]; rfl
    have a2 : ansI x6 8 = x9 := by rw [ex6]; rfl
    have a3 : ansI x7 8 = x10 := by rw [ex7]; rfl
    have g0 : ansB x6 9 = a3_0 := by rw [ex6]; rfl
    have g1 : ansB x6 10 = a3_1 := by rw [ex6]; rfl
    have g2 : ansB x6 11 = a3_2 := by rw [ex6]; rfl
    have g3 : ansB x6 12 = a3_3 := by rw [ex6]; rfl
    have g4 : ansB x6 13 = a3_4 := by rw [ex6]; rfl
    have g5 : ansB x6 14 = a3_5 := by rw [ex6]; rfl
    rw [a0, a1, a2, a3, g0, g1, g2, g3, g4, g5]
    cases (x9 == x10) <;> cases (x10 == x9) <;> simp only [beq_self_eq_true, cond_true, cond_false, Bool.and_self]
  · have a0 : ansI x6 23 = 0 := by rw [ex6]; rfl
    have a1 : ansI x7 23 = 0 := by rw [ex7]; rfl
    have a2 : ansI x6 8 = x10 := by rw [ex6]; rfl
    have a3 : ansI x7 8 = x9 := by rw [ex7]; rfl
    have g0 : ansB x6 9 = a3_0 := by rw [ex6]; rfl
    have g1 : ansB x6 10 = a3_1 := by rw [ex6]; rfl
    have g2 : ansB x6 11 = a3_2 := by rw [ex6]; rfl
    have g3 : ansB x6 12 = a3_3 := by rw [ex6]; rfl
    have g4 : ansB x6 13 = a3_4 := by rw [ex6]; rfl
    have g5 : ansB x6 14 = a3_5 := by rw [ex6]; rfl
    rw [a0, a1, a2, a3, g0, g1, g2, g3, g4, g5]
    cases (x9 == x10) <;> cases (x10 == x9) <;> simp only [beq_self_eq_true, cond_true, cond_false, Bool.and_self]
end Go.Proofs.Ytpgdpoloipifeaa.flowConds
