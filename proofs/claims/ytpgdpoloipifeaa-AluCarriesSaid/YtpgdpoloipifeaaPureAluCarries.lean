/- AluCarries: the reckoning of the law, and that it is true. -/
import Derived.Test.YtpgdpoloipifeaaCKn15
import Derived.Test.YtpgdpoloipifeaaCAq
import Derived.Test.YtpgdpoloipifeaaNStr
namespace Go.Proofs.Ytpgdpoloipifeaa.aluCarries
open Go Go.Ev
set_option linter.unusedVariables false
set_option linter.unusedSimpArgs false
set_option maxRecDepth 100000
theorem or64 {h l : Int} (h0 : 0 ≤ h) (h1 : h < 4294967296) (l0 : 0 ≤ l) (l1 : l < 4294967296) : bitsL .or .u64 (h * 4294967296) l = h * 4294967296 + l := by
  rw [bitsL_eq]
  exact or_64 32 l0 (by simpa using l1) h0 (by simpa using (show h * 4294967296 + l < 18446744073709551616 by omega))
section
variable {a0 a1 A B C D : Int}
theorem ca1 {u : Int} (ha : a0 = C * 4294967296 + A) (hb : a1 = D * 4294967296 + B) (bA : 0 ≤ A ∧ A < 4294967296) (bB : 0 ≤ B ∧ B < 4294967296) (bC : 0 ≤ C ∧ C < 4294967296) (bD : 0 ≤ D ∧ D < 4294967296) (hu : (u = 1 ∧ 4294967296 ≤ A + B) ∨ (u = 0 ∧ A + B < 4294967296)) :
    (C + D + u) % 4294967296 * 4294967296 + (A + B) % 4294967296 = (a0 + a1) % 18446744073709551616 := by
  rcases hu with ⟨rfl, h⟩ | ⟨rfl, h⟩
  · by_cases h2 : 4294967296 ≤ C + D + 1
    · have e1 : (C + D + 1) % 4294967296 = C + D + 1 - 4294967296 := by omega
      have e2 : (A + B) % 4294967296 = A + B - 4294967296 := by omega
      have e3 : (a0 + a1) % 18446744073709551616 = a0 + a1 - 18446744073709551616 := by omega
      omega
    · have e1 : (C + D + 1) % 4294967296 = C + D + 1 := by omega
      have e2 : (A + B) % 4294967296 = A + B - 4294967296 := by omega
      have e3 : (a0 + a1) % 18446744073709551616 = a0 + a1 := by omega
      omega
  · by_cases h2 : 4294967296 ≤ C + D + 0
    · have e1 : (C + D + 0) % 4294967296 = C + D - 4294967296 := by omega
      have e2 : (A + B) % 4294967296 = A + B := by omega
      have e3 : (a0 + a1) % 18446744073709551616 = a0 + a1 - 18446744073709551616 := by omega
      omega
    · have e1 : (C + D + 0) % 4294967296 = C + D := by omega
      have e2 : (A + B) % 4294967296 = A + B := by omega
      have e3 : (a0 + a1) % 18446744073709551616 = a0 + a1 := by omega
      omega
theorem ca2 {v : Int} (ha : a0 = C * 4294967296 + A) (hb : a1 = D * 4294967296 + B) (bA : 0 ≤ A ∧ A < 4294967296) (bB : 0 ≤ B ∧ B < 4294967296) (bC : 0 ≤ C ∧ C < 4294967296) (bD : 0 ≤ D ∧ D < 4294967296) (hv : (v = 1 ∧ A < B) ∨ (v = 0 ∧ B ≤ A)) :
    (C - D - v) % 4294967296 * 4294967296 + (A - B) % 4294967296 = (a0 - a1) % 18446744073709551616 := by
  rcases hv with ⟨rfl, h⟩ | ⟨rfl, h⟩
  · by_cases h2 : C - D - 1 < 0
    · have e1 : (C - D - 1) % 4294967296 = C - D - 1 + 4294967296 := by omega
      have e2 : (A - B) % 4294967296 = A - B + 4294967296 := by omega
      have e3 : (a0 - a1) % 18446744073709551616 = a0 - a1 + 18446744073709551616 := by omega
      omega
    · have e1 : (C - D - 1) % 4294967296 = C - D - 1 := by omega
      have e2 : (A - B) % 4294967296 = A - B + 4294967296 := by omega
      have e3 : (a0 - a1) % 18446744073709551616 = a0 - a1 := by omega
      omega
  · by_cases h2 : C - D - 0 < 0
    · have e1 : (C - D - 0) % 4294967296 = C - D + 4294967296 := by omega
      have e2 : (A - B) % 4294967296 = A - B := by omega
      have e3 : (a0 - a1) % 18446744073709551616 = a0 - a1 + 18446744073709551616 := by omega
      omega
    · have e1 : (C - D - 0) % 4294967296 = C - D := by omega
      have e2 : (A - B) % 4294967296 = A - B := by omega
      have e3 : (a0 - a1) % 18446744073709551616 = a0 - a1 := by omega
      omega
theorem ca3 {u : Int} (ha : a0 = C * 4294967296 + A) (hb : a1 = D * 4294967296 + B) (bA : 0 ≤ A ∧ A < 4294967296) (bB : 0 ≤ B ∧ B < 4294967296) (bC : 0 ≤ C ∧ C < 4294967296) (bD : 0 ≤ D ∧ D < 4294967296) (hu : (u = 1 ∧ 4294967296 ≤ A + B) ∨ (u = 0 ∧ A + B < 4294967296)) :
    4294967296 ≤ C + D + u ↔ (a0 + a1) % 18446744073709551616 < a0 := by
  by_cases h : a0 + a1 < 18446744073709551616
  · rw [show (a0 + a1) % 18446744073709551616 = a0 + a1 by omega]
    rcases hu with ⟨rfl, h⟩ | ⟨rfl, h⟩ <;> omega
  · rw [show (a0 + a1) % 18446744073709551616 = a0 + a1 - 18446744073709551616 by omega]
    rcases hu with ⟨rfl, h⟩ | ⟨rfl, h⟩ <;> omega
theorem ca4 {v : Int} (ha : a0 = C * 4294967296 + A) (hb : a1 = D * 4294967296 + B) (bA : 0 ≤ A ∧ A < 4294967296) (bB : 0 ≤ B ∧ B < 4294967296) (bC : 0 ≤ C ∧ C < 4294967296) (bD : 0 ≤ D ∧ D < 4294967296) (hv : (v = 1 ∧ A < B) ∨ (v = 0 ∧ B ≤ A)) :
    C - D - v < 0 ↔ a0 < a1 := by rcases hv with ⟨rfl, h⟩ | ⟨rfl, h⟩ <;> omega
end
theorem dec_if {p : Prop} [Decidable p] {u : Int} {q : Bool} (h : q = decide p) (hu : u = b2i q) : (u = 1 ∧ p) ∨ (u = 0 ∧ ¬ p) := by
  subst h hu
  by_cases h : p
  · rw [decide_eq_true h]; exact .inl ⟨rfl, h⟩
  · rw [decide_eq_false h]; exact .inr ⟨rfl, h⟩
theorem md {x : Int} (h : 0 ≤ x ∧ x < 4294967296) : x % 4294967296 = x := Int.emod_eq_of_lt h.1 h.2
theorem orS {h l : Int} (bh : 0 ≤ h ∧ h < 4294967296) (bl : 0 ≤ l ∧ l < 4294967296) : bitsL .or .u64 (IntKind.wrap .u64 (IntKind.wrap .u64 h * 4294967296)) (IntKind.wrap .u64 l) = h * 4294967296 + l := by
  rw [wr_u64_id (n := h) (by omega) (by omega), wr_u64_id (n := h * 4294967296) (by omega) (by omega), wr_u64_id (n := l) (by omega) (by omega), or64 bh.1 bh.2 bl.1 bl.2]
theorem wu {x : Int} : IntKind.wrap .u64 (x % 4294967296) % 4294967296 = x % 4294967296 := by rw [wr_u64]; omega
theorem form (a0 : Int) (a1 : Int)
    (x1 : Int) (ex1 : x1 = (IntKind.wrap IntKind.u32 (Int.fdiv a0 4294967296)))
    (x2 : Bool) (ex2 : x2 = (in32 x1))
    (x3 : Int) (ex3 : x3 = (IntKind.wrap IntKind.u32 (Int.fdiv a1 4294967296)))
    (x4 : Bool) (ex4 : x4 = (in32 x3))
    (x5 : Bool) (ex5 : x5 = (in32 (IntKind.wrap IntKind.u32 a0) && (in32 (IntKind.wrap IntKind.u32 a1) && (x2 && (x4 && true))) && true))
    (x6 : Int → Int) (ex6 : x6 = (wrM (fun x => 0) 36864 (rowF (fun x => 0) (fillB 1) 256) 256))
    (x7 : Int) (ex7 : x7 = (-1))
    (x8 : Int) (ex8 : x8 = (ldV x6 36864 256 (ofV x7 x7 1 0 [IntKind.wrap IntKind.u32 a0, IntKind.wrap IntKind.u32 a1, x1, x3, 0, 0, 0, 0]) 4 true))
    (x9 : Int) (ex9 : x9 = (lvlV 1 x8 (getV 1 0 0 (IntKind.wrap IntKind.u32 a0) (IntKind.wrap IntKind.u32 a1) x1 x3 0 0 0 0 0 0 0 0 0 0 0 0)))
    (x10 : Int) (ex10 : x10 = (lvlV 1 x8 (getV 1 1 0 (IntKind.wrap IntKind.u32 a0) (IntKind.wrap IntKind.u32 a1) x1 x3 0 0 0 0 0 0 0 0 0 0 0 0)))
    (x11 : Int) (ex11 : x11 = (IntKind.wrap IntKind.u64 (twoV 1 false x9 x10 4) % 4294967296))
    (x12 : Bool) (ex12 : x12 = (in32 (IntKind.wrap IntKind.u32 a1) && (x2 && (x4 && (in32 0 && (in32 0 && (in32 0 && (in32 0 && true))))))))
    (x13 : Int) (ex13 : x13 = (IntKind.wrap IntKind.u64 (twoV 6 false x9 x10 4) % 4294967296))
    (x14 : Bool) (ex14 : x14 = (twoC 1 false x9 x10 4))
    (x15 : Int) (ex15 : x15 = (ldV x6 36864 256 (ofV x7 x7 1 0 [x11, IntKind.wrap IntKind.u32 a1, x1, x3, 0, 0, 0, 0]) 4 true))
    (x16 : Int) (ex16 : x16 = (lvlV 1 x15 (getV 1 2 0 x11 (IntKind.wrap IntKind.u32 a1) x1 x3 0 0 0 0 0 0 0 0 0 0 0 0)))
    (x17 : Int) (ex17 : x17 = (lvlV 1 x15 (getV 1 3 0 x11 (IntKind.wrap IntKind.u32 a1) x1 x3 0 0 0 0 0 0 0 0 0 0 0 0)))
    (x18 : Int) (ex18 : x18 = (IntKind.wrap IntKind.u64 (a0 + a1)))
    (x19 : Bool) (ex19 : x19 = (twoC 6 false x9 x10 4))
    (x20 : Int) (ex20 : x20 = (ldV x6 36864 256 (ofV x7 x7 1 0 [x13, IntKind.wrap IntKind.u32 a1, x1, x3, 0, 0, 0, 0]) 4 true))
    (x21 : Int) (ex21 : x21 = (lvlV 1 x20 (getV 1 2 0 x13 (IntKind.wrap IntKind.u32 a1) x1 x3 0 0 0 0 0 0 0 0 0 0 0 0)))
    (x22 : Int) (ex22 : x22 = (lvlV 1 x20 (getV 1 3 0 x13 (IntKind.wrap IntKind.u32 a1) x1 x3 0 0 0 0 0 0 0 0 0 0 0 0))) :
    evF Try.prog (ΓK15.add 34 alqS) 400 10 [.v (.int .u64 a0), .v (.int .u64 a1)] [] isT (fun _ _ => none) =
    (bif x5 then bif in32 x11 && x12 && true then bif x5 then bif in32 x13 && x12 && true then bif bitsL BinOp.or IntKind.u64 (IntKind.wrap IntKind.u64 (IntKind.wrap IntKind.u64 (IntKind.wrap IntKind.u64 (twoV 3 x14 x16 x17 4) % 4294967296) * 4294967296)) (IntKind.wrap IntKind.u64 x11) == x18 then bif bitsL BinOp.or IntKind.u64 (IntKind.wrap IntKind.u64 (IntKind.wrap IntKind.u64 (IntKind.wrap IntKind.u64 (twoV 4 x19 x21 x22 4) % 4294967296) * 4294967296)) (IntKind.wrap IntKind.u64 x13) == IntKind.wrap IntKind.u64 (a0 - a1) then bif twoC 3 x14 x16 x17 4 == decide (x18 < a0) then some (twoC 4 x19 x21 x22 4 == decide (a0 < a1)) else some false else some false else some false else none else none else none else none) := by
  subst ex1
  subst ex2
  subst ex3
  subst ex4
  subst ex5
  subst ex6
  subst ex7
  subst ex8
  subst ex9
  subst ex10
  subst ex11
  subst ex12
  subst ex13
  subst ex14
  subst ex15
  subst ex16
  subst ex17
  subst ex18
  subst ex19
  subst ex20
  subst ex21
  subst ex22
  kernel_rfl
set_option maxHeartbeats 1000000 in
theorem pure (a0 : Int) (a1 : Int) (w0 : (Lit.int .u64 a0).wf = true) (w1 : (Lit.int .u64 a1).wf = true) :
    evF Try.prog (ΓK15.add 34 alqS) 400 10 [.v (.int .u64 a0), .v (.int .u64 a1)] [] isT (fun _ _ => none) = some true := by
  obtain ⟨x1, ex1⟩ : ∃ x : Int, x = (IntKind.wrap IntKind.u32 (Int.fdiv a0 4294967296)) := ⟨_, rfl⟩
  obtain ⟨x2, ex2⟩ : ∃ x : Bool, x = (in32 x1) := ⟨_, rfl⟩
  obtain ⟨x3, ex3⟩ : ∃ x : Int, x = (IntKind.wrap IntKind.u32 (Int.fdiv a1 4294967296)) := ⟨_, rfl⟩
  obtain ⟨x4, ex4⟩ : ∃ x : Bool, x = (in32 x3) := ⟨_, rfl⟩
  obtain ⟨x5, ex5⟩ : ∃ x : Bool, x = (in32 (IntKind.wrap IntKind.u32 a0) && (in32 (IntKind.wrap IntKind.u32 a1) && (x2 && (x4 && true))) && true) := ⟨_, rfl⟩
  obtain ⟨x6, ex6⟩ : ∃ x : Int → Int, x = (wrM (fun x => 0) 36864 (rowF (fun x => 0) (fillB 1) 256) 256) := ⟨_, rfl⟩
  obtain ⟨x7, ex7⟩ : ∃ x : Int, x = (-1) := ⟨_, rfl⟩
  obtain ⟨x8, ex8⟩ : ∃ x : Int, x = (ldV x6 36864 256 (ofV x7 x7 1 0 [IntKind.wrap IntKind.u32 a0, IntKind.wrap IntKind.u32 a1, x1, x3, 0, 0, 0, 0]) 4 true) := ⟨_, rfl⟩
  obtain ⟨x9, ex9⟩ : ∃ x : Int, x = (lvlV 1 x8 (getV 1 0 0 (IntKind.wrap IntKind.u32 a0) (IntKind.wrap IntKind.u32 a1) x1 x3 0 0 0 0 0 0 0 0 0 0 0 0)) := ⟨_, rfl⟩
  obtain ⟨x10, ex10⟩ : ∃ x : Int, x = (lvlV 1 x8 (getV 1 1 0 (IntKind.wrap IntKind.u32 a0) (IntKind.wrap IntKind.u32 a1) x1 x3 0 0 0 0 0 0 0 0 0 0 0 0)) := ⟨_, rfl⟩
  obtain ⟨x11, ex11⟩ : ∃ x : Int, x = (IntKind.wrap IntKind.u64 (twoV 1 false x9 x10 4) % 4294967296) := ⟨_, rfl⟩
  obtain ⟨x12, ex12⟩ : ∃ x : Bool, x = (in32 (IntKind.wrap IntKind.u32 a1) && (x2 && (x4 && (in32 0 && (in32 0 && (in32 0 && (in32 0 && true))))))) := ⟨_, rfl⟩
  obtain ⟨x13, ex13⟩ : ∃ x : Int, x = (IntKind.wrap IntKind.u64 (twoV 6 false x9 x10 4) % 4294967296) := ⟨_, rfl⟩
  obtain ⟨x14, ex14⟩ : ∃ x : Bool, x = (twoC 1 false x9 x10 4) := ⟨_, rfl⟩
  obtain ⟨x15, ex15⟩ : ∃ x : Int, x = (ldV x6 36864 256 (ofV x7 x7 1 0 [x11, IntKind.wrap IntKind.u32 a1, x1, x3, 0, 0, 0, 0]) 4 true) := ⟨_, rfl⟩
  obtain ⟨x16, ex16⟩ : ∃ x : Int, x = (lvlV 1 x15 (getV 1 2 0 x11 (IntKind.wrap IntKind.u32 a1) x1 x3 0 0 0 0 0 0 0 0 0 0 0 0)) := ⟨_, rfl⟩
  obtain ⟨x17, ex17⟩ : ∃ x : Int, x = (lvlV 1 x15 (getV 1 3 0 x11 (IntKind.wrap IntKind.u32 a1) x1 x3 0 0 0 0 0 0 0 0 0 0 0 0)) := ⟨_, rfl⟩
  obtain ⟨x18, ex18⟩ : ∃ x : Int, x = (IntKind.wrap IntKind.u64 (a0 + a1)) := ⟨_, rfl⟩
  obtain ⟨x19, ex19⟩ : ∃ x : Bool, x = (twoC 6 false x9 x10 4) := ⟨_, rfl⟩
  obtain ⟨x20, ex20⟩ : ∃ x : Int, x = (ldV x6 36864 256 (ofV x7 x7 1 0 [x13, IntKind.wrap IntKind.u32 a1, x1, x3, 0, 0, 0, 0]) 4 true) := ⟨_, rfl⟩
  obtain ⟨x21, ex21⟩ : ∃ x : Int, x = (lvlV 1 x20 (getV 1 2 0 x13 (IntKind.wrap IntKind.u32 a1) x1 x3 0 0 0 0 0 0 0 0 0 0 0 0)) := ⟨_, rfl⟩
  obtain ⟨x22, ex22⟩ : ∃ x : Int, x = (lvlV 1 x20 (getV 1 3 0 x13 (IntKind.wrap IntKind.u32 a1) x1 x3 0 0 0 0 0 0 0 0 0 0 0 0)) := ⟨_, rfl⟩
  rw [form a0 a1 x1 ex1 x2 ex2 x3 ex3 x4 ex4 x5 ex5 x6 ex6 x7 ex7 x8 ex8 x9 ex9 x10 ex10 x11 ex11 x12 ex12 x13 ex13 x14 ex14 x15 ex15 x16 ex16 x17 ex17 x18 ex18 x19 ex19 x20 ex20 x21 ex21 x22 ex22]
  have b0 := wf_u64 w0
  have b1 := wf_u64 w1
  obtain ⟨A, hA⟩ : ∃ A, A = a0 % 4294967296 := ⟨_, rfl⟩
  obtain ⟨B, hB⟩ : ∃ B, B = a1 % 4294967296 := ⟨_, rfl⟩
  obtain ⟨C, hC⟩ : ∃ C, C = a0 / 4294967296 := ⟨_, rfl⟩
  obtain ⟨D, hD⟩ : ∃ D, D = a1 / 4294967296 := ⟨_, rfl⟩
  have ha : a0 = C * 4294967296 + A := by omega
  have hb : a1 = D * 4294967296 + B := by omega
  have bA : 0 ≤ A ∧ A < 4294967296 := by omega
  have bB : 0 ≤ B ∧ B < 4294967296 := by omega
  have bC : 0 ≤ C ∧ C < 4294967296 := by omega
  have bD : 0 ≤ D ∧ D < 4294967296 := by omega
  have g0 : IntKind.wrap .u32 a0 = A := by rw [wr_u32, hA]
  have g1 : IntKind.wrap .u32 a1 = B := by rw [wr_u32, hB]
  have k1 : x1 = C := by rw [ex1, hC, Int.fdiv_eq_ediv_of_nonneg _ (by decide), wr_u32]; exact md (by rw [← hC]; exact bC)
  have k3 : x3 = D := by rw [ex3, hD, Int.fdiv_eq_ediv_of_nonneg _ (by decide), wr_u32]; exact md (by rw [← hD]; exact bD)
  have wA : IntKind.wrap .u32 A = A := by rw [wr_u32]; exact md bA
  have wB : IntKind.wrap .u32 B = B := by rw [wr_u32]; exact md bB
  have wC : IntKind.wrap .u32 C = C := by rw [wr_u32]; exact md bC
  have wD : IntKind.wrap .u32 D = D := by rw [wr_u32]; exact md bD
  have k9 : x9 = A := by rw [ex9, g0, g1, k1, k3]; exact wA
  have k10 : x10 = B := by rw [ex10, g0, g1, k1, k3]; exact wB
  have k11 : x11 = (A + B) % 4294967296 := by
    rw [ex11, k9, k10]
    show IntKind.wrap .u64 ((A % 4294967296 + B % 4294967296 + 0) % 4294967296) % 4294967296 = _
    rw [wu, md bA, md bB, Int.add_zero]
  have k13 : x13 = (A - B) % 4294967296 := by
    rw [ex13, k9, k10]
    show IntKind.wrap .u64 ((A % 4294967296 - B % 4294967296 - 0) % 4294967296) % 4294967296 = _
    rw [wu, md bA, md bB, Int.sub_zero]
  have k14 : x14 = decide (4294967296 ≤ A + B) := by
    rw [ex14, k9, k10]
    show decide (4294967296 ≤ A % 4294967296 + B % 4294967296 + 0) = _
    rw [md bA, md bB, Int.add_zero]
  have k19 : x19 = decide (A - B < 0) := by
    rw [ex19, k9, k10]
    show decide (A % 4294967296 - B % 4294967296 - 0 < 0) = _
    rw [md bA, md bB, Int.sub_zero]
  have k16 : x16 = C := by rw [ex16, g1, k1, k3]; exact wC
  have k17 : x17 = D := by rw [ex17, g1, k1, k3]; exact wD
  have k21 : x21 = C := by rw [ex21, g1, k1, k3]; exact wC
  have k22 : x22 = D := by rw [ex22, g1, k1, k3]; exact wD
  have iA : in32 A = true := in32_iff.2 bA
  have iB : in32 B = true := in32_iff.2 bB
  have iC : in32 C = true := in32_iff.2 bC
  have iD : in32 D = true := in32_iff.2 bD
  have i0 : in32 0 = true := rfl
  have k2 : x2 = true := by rw [ex2, k1]; exact iC
  have k4 : x4 = true := by rw [ex4, k3]; exact iD
  have k5 : x5 = true := by rw [ex5, g0, g1, k2, k4, iA, iB]; rfl
  have k12 : x12 = true := by rw [ex12, g1, k2, k4, iB, i0]; rfl
  have e11 : 0 ≤ x11 ∧ x11 < 4294967296 := by rw [k11]; exact ⟨Int.emod_nonneg _ (by decide), Int.emod_lt_of_pos _ (by decide)⟩
  have e13 : 0 ≤ x13 ∧ x13 < 4294967296 := by rw [k13]; exact ⟨Int.emod_nonneg _ (by decide), Int.emod_lt_of_pos _ (by decide)⟩
  have i11 : in32 x11 = true := in32_iff.2 e11
  have i13 : in32 x13 = true := in32_iff.2 e13
  have t3 : IntKind.wrap .u64 (twoV 3 x14 x16 x17 4) % 4294967296 = (C + D + b2i x14) % 4294967296 := by
    rw [k16, k17]
    show IntKind.wrap .u64 ((C % 4294967296 + D % 4294967296 + b2i x14) % 4294967296) % 4294967296 = _
    rw [wu, md bC, md bD]
  have t4 : IntKind.wrap .u64 (twoV 4 x19 x21 x22 4) % 4294967296 = (C - D - b2i x19) % 4294967296 := by
    rw [k21, k22]
    show IntKind.wrap .u64 ((C % 4294967296 - D % 4294967296 - b2i x19) % 4294967296) % 4294967296 = _
    rw [wu, md bC, md bD]
  have c3 : twoC 3 x14 x16 x17 4 = decide (4294967296 ≤ C + D + b2i x14) := by
    rw [k16, k17]
    show decide (4294967296 ≤ C % 4294967296 + D % 4294967296 + b2i x14) = _
    rw [md bC, md bD]
  have c4 : twoC 4 x19 x21 x22 4 = decide (C - D - b2i x19 < 0) := by
    rw [k21, k22]
    show decide (C % 4294967296 - D % 4294967296 - b2i x19 < 0) = _
    rw [md bC, md bD]
  obtain ⟨u, hu⟩ : ∃ u, u = b2i x14 := ⟨_, rfl⟩
  obtain ⟨v, hv⟩ : ∃ v, v = b2i x19 := ⟨_, rfl⟩
  have hu' := dec_if k14 hu
  have hv' := dec_if k19 hv
  rw [← hu] at t3 c3
  rw [← hv] at t4 c4
  have q1 := ca1 (u := u) ha hb bA bB bC bD (hu'.imp id fun h => ⟨h.1, Int.not_le.1 h.2⟩)
  have q2 := ca2 (v := v) ha hb bA bB bC bD (hv'.imp (fun h => ⟨h.1, Int.lt_of_sub_neg h.2⟩) fun h => ⟨h.1, Int.le_of_sub_nonneg (Int.not_lt.1 h.2)⟩)
  have q3 := ca3 (u := u) ha hb bA bB bC bD (hu'.imp id fun h => ⟨h.1, Int.not_le.1 h.2⟩)
  have q4 := ca4 (v := v) ha hb bA bB bC bD (hv'.imp (fun h => ⟨h.1, Int.lt_of_sub_neg h.2⟩) fun h => ⟨h.1, Int.le_of_sub_nonneg (Int.not_lt.1 h.2)⟩)
  have bS : 0 ≤ (C + D + u) % 4294967296 ∧ (C + D + u) % 4294967296 < 4294967296 := ⟨Int.emod_nonneg _ (by decide), Int.emod_lt_of_pos _ (by decide)⟩
  have bT : 0 ≤ (C - D - v) % 4294967296 ∧ (C - D - v) % 4294967296 < 4294967296 := ⟨Int.emod_nonneg _ (by decide), Int.emod_lt_of_pos _ (by decide)⟩
  rw [t3, t4, c3, c4, k5, k12, i11, i13]
  clear t3 t4 c3 c4 hu' hv'
  generalize (C + D + u) % 4294967296 = S at *
  generalize (C - D - v) % 4294967296 = T at *
  rw [← k11] at q1
  rw [← k13] at q2
  have e18 : x18 = (a0 + a1) % 18446744073709551616 := by rw [ex18, wr_u64]
  rw [← e18] at q1 q3
  have s1 : bitsL .or .u64 (IntKind.wrap .u64 (IntKind.wrap .u64 S * 4294967296)) (IntKind.wrap .u64 x11) = x18 := by
    rw [orS bS e11]; exact q1
  have s2 : bitsL .or .u64 (IntKind.wrap .u64 (IntKind.wrap .u64 T * 4294967296)) (IntKind.wrap .u64 x13) = IntKind.wrap .u64 (a0 - a1) := by
    rw [orS bT e13, wr_u64]; exact q2
  have s3 : decide (4294967296 ≤ C + D + u) = decide (x18 < a0) := decide_eq_decide.2 q3
  have s4 : decide (C - D - v < 0) = decide (a0 < a1) := decide_eq_decide.2 q4
  rw [s1, s2, s3, s4]
  simp only [beq_self_eq_true, Bool.and_self, cond_true]
end Go.Proofs.Ytpgdpoloipifeaa.aluCarries
