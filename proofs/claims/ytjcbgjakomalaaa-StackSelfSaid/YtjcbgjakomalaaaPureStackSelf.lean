/- StackSelf: the reckoning of the law, and that it is true. -/
import Derived.Test.YtjcbgjakomalaaaCSk4
import Derived.Test.YtjcbgjakomalaaaNStr
namespace Go.Proofs.Ytjcbgjakomalaaa.stackSelf
open Go Go.Ev
set_option linter.unusedVariables false
set_option linter.unusedSimpArgs false
set_option maxRecDepth 100000
theorem ld_stV (M : Int → Int) {q v : Int} (h0 : 0 ≤ q) (h1 : q + 4 ≤ 256) (hv : 0 ≤ v) (hv2 : v < 4294967296) : ldV (stV M 36864 256 q 4 v true) 36864 256 q 4 true = v := by
  unfold ldV stV
  rw [seg4 h0 h1]
  show ldGo (stB M (IntKind.wrap .u32 (36864 + q)) v 4) (IntKind.wrap .u32 (36864 + q)) 4 0 = v
  rw [ld_st M _ v 4 (by omega) hv (by omega)]
  show v % 4294967296 = v
  omega
theorem form (a0 : Int) (a1 : Int)
    (x1 : Int) (ex1 : x1 = (IntKind.wrap IntKind.u32 (IntKind.wrap IntKind.u32 (Int.tmod a0 200) + 8)))
    (x2 : Int) (ex2 : x2 = (-1))
    (x3 : Option (Sv × List SObj)) (ex3 : x3 = (skPT 16384 4096 false false true 36864 256 true true false 103 (wrM (fun x => 0) 36864 (rowF (fun x => 0) (fillB a1) 256) 256) 0 0 0 0 x1 0 0 0 0 false false false false false false 0 0 0 0 0 0 0 0 23 0 4 1 4 x2 x2 1 0 0 0 x2 x2 1 0 0 false 1))
    (x4 : Int) (ex4 : x4 = (ansI x3 0))
    (x5 : Int) (ex5 : x5 = (ansI x3 1))
    (x6 : Int) (ex6 : x6 = (ansI x3 2))
    (x7 : Int) (ex7 : x7 = (ansI x3 3))
    (x8 : Int) (ex8 : x8 = (ansI x3 4))
    (x9 : Int) (ex9 : x9 = (ansI x3 5))
    (x10 : Int) (ex10 : x10 = (ansI x3 6))
    (x11 : Int) (ex11 : x11 = (ansI x3 7))
    (x12 : Option (Sv × List SObj)) (ex12 : x12 = (skPT 16384 4096 false false true 36864 256 true true false 103 (ansM x3 1) x4 x5 x6 x7 x8 x9 x10 x11 (ansI x3 8) (ansB x3 9) (ansB x3 10) (ansB x3 11) (ansB x3 12) (ansB x3 13) (ansB x3 14) (ansI x3 15) (ansI x3 16) (ansI x3 17) (ansI x3 18) (ansI x3 19) (ansI x3 20) (ansI x3 21) (ansI x3 22) 24 0 4 1 4 x2 x2 1 0 0 0 x2 x2 1 0 0 false 1)) :
    evF Try.prog ΓSk4 400 12 [.v (.int .u8 a0), .v (.int .u32 a1)] [] isT (fun _ _ => none) =
    (bif in32 0 && (in32 0 && (in32 0 && (in32 0 && (in32 x1 && (in32 0 && (in32 0 && (in32 0 && true))))))) && true then bif in32 x4 && (in32 x5 && (in32 x6 && (in32 x7 && (in32 x8 && (in32 x9 && (in32 x10 && (in32 x11 && true))))))) && true then bif ansI x3 23 == 0 then bif ansI x12 23 == 0 then bif x8 == IntKind.wrap IntKind.u32 (x1 - 4) then some (ansI x12 0 == 0 && (ansI x12 1 == 0 && (ansI x12 2 == 0 && (ansI x12 3 == 0 && (ansI x12 4 == x1 && (ansI x12 5 == 0 && (ansI x12 6 == 0 && (ansI x12 7 == 0 && true))))))) && (ansI x12 8 == 0 && (ansB x12 9 == false && (ansB x12 10 == false && (ansB x12 11 == false && (ansB x12 12 == false && (ansB x12 13 == false && (ansB x12 14 == false && true))))) && (ansI x12 15 == 0 && (ansI x12 16 == 0 && (ansI x12 17 == 0 && (ansI x12 18 == 0 && (ansI x12 19 == 0 && (ansI x12 20 == 0 && (ansI x12 21 == 0 && (ansI x12 22 == 0 && true))))))) && true)))) else some false else some false else some false else none else none) := by
  subst ex1
  subst ex2
  subst ex3
  subst ex4
  subst ex5
  subst ex6
  subst ex7
  subst ex8
  subst ex9
  subst ex10
  subst ex11
  subst ex12
  kernel_rfl
set_option maxHeartbeats 1000000 in
theorem pure (a0 : Int) (a1 : Int) (w0 : (Lit.int .u8 a0).wf = true) (w1 : (Lit.int .u32 a1).wf = true) :
    evF Try.prog ΓSk4 400 12 [.v (.int .u8 a0), .v (.int .u32 a1)] [] isT (fun _ _ => none) = some true := by
  obtain ⟨x1, ex1⟩ : ∃ x : Int, x = (IntKind.wrap IntKind.u32 (IntKind.wrap IntKind.u32 (Int.tmod a0 200) + 8)) := ⟨_, rfl⟩
  obtain ⟨x2, ex2⟩ : ∃ x : Int, x = (-1) := ⟨_, rfl⟩
  obtain ⟨x3, ex3⟩ : ∃ x : Option (Sv × List SObj), x = (skPT 16384 4096 false false true 36864 256 true true false 103 (wrM (fun x => 0) 36864 (rowF (fun x => 0) (fillB a1) 256) 256) 0 0 0 0 x1 0 0 0 0 false false false false false false 0 0 0 0 0 0 0 0 23 0 4 1 4 x2 x2 1 0 0 0 x2 x2 1 0 0 false 1) := ⟨_, rfl⟩
  obtain ⟨x4, ex4⟩ : ∃ x : Int, x = (ansI x3 0) := ⟨_, rfl⟩
  obtain ⟨x5, ex5⟩ : ∃ x : Int, x = (ansI x3 1) := ⟨_, rfl⟩
  obtain ⟨x6, ex6⟩ : ∃ x : Int, x = (ansI x3 2) := ⟨_, rfl⟩
  obtain ⟨x7, ex7⟩ : ∃ x : Int, x = (ansI x3 3) := ⟨_, rfl⟩
  obtain ⟨x8, ex8⟩ : ∃ x : Int, x = (ansI x3 4) := ⟨_, rfl⟩
  obtain ⟨x9, ex9⟩ : ∃ x : Int, x = (ansI x3 5) := ⟨_, rfl⟩
  obtain ⟨x10, ex10⟩ : ∃ x : Int, x = (ansI x3 6) := ⟨_, rfl⟩
  obtain ⟨x11, ex11⟩ : ∃ x : Int, x = (ansI x3 7) := ⟨_, rfl⟩
  obtain ⟨x12, ex12⟩ : ∃ x : Option (Sv × List SObj), x = (skPT 16384 4096 false false true 36864 256 true true false 103 (ansM x3 1) x4 x5 x6 x7 x8 x9 x10 x11 (ansI x3 8) (ansB x3 9) (ansB x3 10) (ansB x3 11) (ansB x3 12) (ansB x3 13) (ansB x3 14) (ansI x3 15) (ansI x3 16) (ansI x3 17) (ansI x3 18) (ansI x3 19) (ansI x3 20) (ansI x3 21) (ansI x3 22) 24 0 4 1 4 x2 x2 1 0 0 0 x2 x2 1 0 0 false 1) := ⟨_, rfl⟩
  rw [form a0 a1 x1 ex1 x2 ex2 x3 ex3 x4 ex4 x5 ex5 x6 ex6 x7 ex7 x8 ex8 x9 ex9 x10 ex10 x11 ex11 x12 ex12]
  have b0 := wf_u8 w0
  have q1 : x1 = a0 % 200 + 8 := by rw [ex1, Int.tmod_eq_emod_of_nonneg b0.1, wr_u32_id (n := a0 % 200) (by omega) (by omega), wr_u32_id (by omega) (by omega)]
  have p0 : 8 ≤ x1 := by omega
  have p1 : x1 < 208 := by omega
  have ix : in32 x1 = true := in32_iff.2 (by omega)
  have iy : in32 (x1 - 4) = true := in32_iff.2 (by omega)
  have w4 : IntKind.wrap .u32 (x1 - 4) = x1 - 4 := wr_u32_id (by omega) (by omega)
  have m0 : mayV true true false 0 = true := rfl
  have m1 : mayV true true false 1 = true := rfl
  have hok : skOk 36864 256 (x1 - 4) true = true := by
    unfold skOk
    have := seg4 (p := x1 - 4) (by omega) (by omega)
    rw [show ((bytesN 4 : Nat) : Int) = 4 from rfl] at this
    rw [this]; rfl
  have i0 : in32 0 = true := rfl
  have id : in32 36864 = true := rfl
  have is : in32 256 = true := rfl
  have r1 : ∀ e : Int, erW 1 e = 0 := fun _ => rfl
  have r2 : ∀ x y : Int, ldW 1 x y = y := fun _ _ => rfl
  have r3 : ∀ M N : Int → Int, memW 1 M N = N := fun _ _ => rfl
  have hv : IntKind.wrap .u64 (IntKind.wrap .u32 x1) = x1 := by rw [wr_u32_id (n := x1) (by omega) (by omega), wr_u64_id (by omega) (by omega)]
  have hg : ∀ y0 y1 y2 y3 y4 y5 y6 y7 : Int, getV 1 4 0 0 0 0 0 x1 0 0 0 y0 y1 y2 y3 y4 y5 y6 y7 = x1 := fun _ _ _ _ _ _ _ _ => rfl
  obtain ⟨M0, hM0⟩ : ∃ M0, M0 = wrM (fun x => 0) 36864 (rowF (fun x => 0) (fillB a1) 256) 256 := ⟨_, rfl⟩
  rw [← hM0] at ex3
  have h3 : x3 = some (.tup [.agg [.v (.int .u32 0), .v (.int .u32 0), .v (.int .u32 0), .v (.int .u32 0), .v (.int .u32 (x1 - 4)), .v (.int .u32 0), .v (.int .u32 0), .v (.int .u32 0), .v (.int .u32 0), .v (.bool false), .v (.bool false), .v (.bool false), .v (.bool false), .v (.bool false), .v (.bool false), .v (.int .u64 0), .v (.int .u64 0), .v (.int .u64 0), .v (.int .u64 0), .v (.int .u64 0), .v (.int .u64 0), .v (.int .u64 0), .v (.int .u64 0)], .v (.int .i64 0)], [.cells [.ptr 1 0, .v (.int .u32 16384), .v (.int .u32 4096), .v (.bool false), .v (.bool false), .v (.bool true), .v (.int .u32 36864), .v (.int .u32 256), .v (.bool true), .v (.bool true), .v (.bool false)] 103, .ext 0 (stV M0 36864 256 (x1 - 4) 4 x1 true)]) := by
    rw [ex3, skP_tree]
    simp only [show ((23 : Int) == 23) = true from rfl, w4, m0, m1, hok, r1, r2, hg, hv, i0, ix, id, is, in32_wr, beq_self_eq_true, show (endV true == 0) = true from rfl, puV, Bool.and_self, Bool.not_true, cond_true, cond_false]
  have k4 : x4 = 0 := by rw [ex4, h3]; rfl
  have k5 : x5 = 0 := by rw [ex5, h3]; rfl
  have k6 : x6 = 0 := by rw [ex6, h3]; rfl
  have k7 : x7 = 0 := by rw [ex7, h3]; rfl
  have k8 : x8 = x1 - 4 := by rw [ex8, h3]; rfl
  have k9 : x9 = 0 := by rw [ex9, h3]; rfl
  have k10 : x10 = 0 := by rw [ex10, h3]; rfl
  have k11 : x11 = 0 := by rw [ex11, h3]; rfl
  have kM : ansM x3 1 = stV M0 36864 256 (x1 - 4) 4 x1 true := by rw [h3]; rfl
  have hld := ld_stV M0 (q := x1 - 4) (v := x1) (by omega) (by omega) (by omega) (by omega)
  have s44 : ∀ y v : Int, setB 1 4 4 y v = v % 4294967296 := fun _ _ => rfl
  have hr : IntKind.wrap .u64 (IntKind.wrap .u32 x1) % 4294967296 = x1 := by rw [hv]; omega
  have ip : in32 (poV (x1 - 4) true) = true := poV_in iy true
  have h12 : x12 = some (.tup [.agg [.v (.int .u32 0), .v (.int .u32 0), .v (.int .u32 0), .v (.int .u32 0), .v (.int .u32 (x1)), .v (.int .u32 0), .v (.int .u32 0), .v (.int .u32 0), .v (.int .u32 0), .v (.bool false), .v (.bool false), .v (.bool false), .v (.bool false), .v (.bool false), .v (.bool false), .v (.int .u64 0), .v (.int .u64 0), .v (.int .u64 0), .v (.int .u64 0), .v (.int .u64 0), .v (.int .u64 0), .v (.int .u64 0), .v (.int .u64 0)], .v (.int .i64 0)], [.cells [.ptr 1 0, .v (.int .u32 16384), .v (.int .u32 4096), .v (.bool false), .v (.bool false), .v (.bool true), .v (.int .u32 36864), .v (.int .u32 256), .v (.bool true), .v (.bool true), .v (.bool false)] 103, .ext 0 (stV M0 36864 256 (x1 - 4) 4 x1 true)]) := by
    rw [ex12, kM, k4, k5, k6, k7, k8, k9, k10, k11, h3, skP_tree]
    simp only [show ((24 : Int) == 23) = false from rfl, show ((24 : Int) == 49) = false from rfl, m0, m1, hok, r1, r2, r3, hld, hr, s44, orV, i0, iy, id, is, ip, in64_wr, in32_wr, beq_self_eq_true, show (endV true == 0) = true from rfl, Bool.and_self, Bool.not_true, cond_true, cond_false]
    rfl
  have e3 : ansI x3 23 = 0 := by rw [h3]; rfl
  have f0 : ansI x12 0 = 0 := by rw [h12]; rfl
  have f1 : ansI x12 1 = 0 := by rw [h12]; rfl
  have f2 : ansI x12 2 = 0 := by rw [h12]; rfl
  have f3 : ansI x12 3 = 0 := by rw [h12]; rfl
  have f4 : ansI x12 4 = x1 := by rw [h12]; rfl
  have f5 : ansI x12 5 = 0 := by rw [h12]; rfl
  have f6 : ansI x12 6 = 0 := by rw [h12]; rfl
  have f7 : ansI x12 7 = 0 := by rw [h12]; rfl
  have f8 : ansI x12 8 = 0 := by rw [h12]; rfl
  have f15 : ansI x12 15 = 0 := by rw [h12]; rfl
  have f16 : ansI x12 16 = 0 := by rw [h12]; rfl
  have f17 : ansI x12 17 = 0 := by rw [h12]; rfl
  have f18 : ansI x12 18 = 0 := by rw [h12]; rfl
  have f19 : ansI x12 19 = 0 := by rw [h12]; rfl
  have f20 : ansI x12 20 = 0 := by rw [h12]; rfl
  have f21 : ansI x12 21 = 0 := by rw [h12]; rfl
  have f22 : ansI x12 22 = 0 := by rw [h12]; rfl
  have f23 : ansI x12 23 = 0 := by rw [h12]; rfl
  have f9 : ansB x12 9 = false := by rw [h12]; rfl
  have f10 : ansB x12 10 = false := by rw [h12]; rfl
  have f11 : ansB x12 11 = false := by rw [h12]; rfl
  have f12 : ansB x12 12 = false := by rw [h12]; rfl
  have f13 : ansB x12 13 = false := by rw [h12]; rfl
  have f14 : ansB x12 14 = false := by rw [h12]; rfl
  rw [e3, k4, k5, k6, k7, k8, k9, k10, k11, w4]
  simp only [f0, f1, f2, f3, f4, f5, f6, f7, f8, f15, f16, f17, f18, f19, f20, f21, f22, f23, f9, f10, f11, f12, f13, f14, i0, ix, iy, Bool.and_self, Bool.and_true, cond_true, beq_self_eq_true]
end Go.Proofs.Ytjcbgjakomalaaa.stackSelf
