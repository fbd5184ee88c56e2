/- StrsRows: the reckoning of the law, and that it is true. -/
import Derived.Test.YtjcbgjakomalaaaCRo2
namespace Go.Proofs.Ytjcbgjakomalaaa.strsRows
open Go Go.Ev
set_option linter.unusedVariables false
set_option linter.unusedSimpArgs false
set_option maxRecDepth 100000
theorem form (a0 : Int) (a1 : Int) (a2 : Int) (a3 : Bool) (a4 : Int)
    (x1 : Int) (ex1 : x1 = (Int.tmod a1 100))
    (x2 : Int) (ex2 : x2 = (IntKind.wrap IntKind.i64 (IntKind.wrap IntKind.i64 x1 + 50)))
    (x3 : Int) (ex3 : x3 = (Int.tmod a2 100))
    (x4 : Int) (ex4 : x4 = (IntKind.wrap IntKind.i64 (IntKind.wrap IntKind.i64 x3 + 50)))
    (x5 : Bool) (ex5 : x5 = (true && (true && (true && (true && true)))))
    (x6 : Int) (ex6 : x6 = (IntKind.wrap IntKind.u32 (Int.tmod a0 40)))
    (x8 : Int) (ex8 : x8 = (IntKind.wrap IntKind.u32 (IntKind.wrap IntKind.u32 x3 + 50)))
    (x9 : Int) (ex9 : x9 = (IntKind.wrap IntKind.u32 (IntKind.wrap IntKind.u32 x1 + 50)))
    (x15 : Nat) (ex15 : x15 = (toN x6))
    (x16 : Nat) (ex16 : x16 = (modN a0 40))
    (x17 : Int → Int) (ex17 : x17 = (wrM (fun x => 0) 36864 (rowF (fun x => 0) (fillB a4) 256) 256)) :
    evF Try.prog ΓRo2 400 10 [.v (.int .u8 a0), .v (.int .u8 a1), .v (.int .u8 a2), .v (.bool a3), .v (.int .u32 a4)] [] isT (fun _ _ => none) =
    (bif decide (0 ≤ a0) && (decide (a0 < 256) && (decide (50 ≤ x2) && (decide (x2 < 150) && (decide (50 ≤ x4) && (decide (x4 < 150) && x5))))) then bif decide (0 ≤ x6) && (decide (x6 < 40) && (decide (50 ≤ x9) && (decide (x9 < 150) && (decide (50 ≤ x8) && (decide (x8 < 150) && (in32 0 && (in32 0 && (in32 0 && (in32 0 && (in32 0 && (in32 x9 && (in32 x8 && (true && (true && (true && (true && (true && (true && (true && (true && (true && (true && (true && x5))))))))))))))))))))))) then bif x6 - ↑x15 == 0 then bif aI a3 x9 x15 == IntKind.wrap IntKind.u32 (aI a3 x2 x16) then bif aI a3 x8 x15 == IntKind.wrap IntKind.u32 (aI a3 x4 x16) then some (strEq (bstr (rowF (fun x => 0) (rdB (rowsM x17 (aI a3 x9) (aI a3 x8) x15) 36864) 256) 0 256) (bstr (rowsF (rowF (fun x => 0) (rdB x17 36864) 256) (aI a3 x2) (aI a3 x4) x16) 0 256)) else some false else some false else some false else none else none) := by
  subst ex1
  subst ex2
  subst ex3
  subst ex4
  subst ex5
  subst ex6
  subst ex8
  subst ex9
  subst ex15
  subst ex16
  subst ex17
  kernel_rfl
set_option maxHeartbeats 1000000 in
theorem pure (a0 : Int) (a1 : Int) (a2 : Int) (a3 : Bool) (a4 : Int) (w0 : (Lit.int .u8 a0).wf = true) (w1 : (Lit.int .u8 a1).wf = true) (w2 : (Lit.int .u8 a2).wf = true) (w4 : (Lit.int .u32 a4).wf = true) :
    evF Try.prog ΓRo2 400 10 [.v (.int .u8 a0), .v (.int .u8 a1), .v (.int .u8 a2), .v (.bool a3), .v (.int .u32 a4)] [] isT (fun _ _ => none) = some true := by
  obtain ⟨x1, ex1⟩ : ∃ x : Int, x = (Int.tmod a1 100) := ⟨_, rfl⟩
  obtain ⟨x2, ex2⟩ : ∃ x : Int, x = (IntKind.wrap IntKind.i64 (IntKind.wrap IntKind.i64 x1 + 50)) := ⟨_, rfl⟩
  obtain ⟨x3, ex3⟩ : ∃ x : Int, x = (Int.tmod a2 100) := ⟨_, rfl⟩
  obtain ⟨x4, ex4⟩ : ∃ x : Int, x = (IntKind.wrap IntKind.i64 (IntKind.wrap IntKind.i64 x3 + 50)) := ⟨_, rfl⟩
  obtain ⟨x5, ex5⟩ : ∃ x : Bool, x = (true && (true && (true && (true && true)))) := ⟨_, rfl⟩
  obtain ⟨x6, ex6⟩ : ∃ x : Int, x = (IntKind.wrap IntKind.u32 (Int.tmod a0 40)) := ⟨_, rfl⟩
  obtain ⟨x8, ex8⟩ : ∃ x : Int, x = (IntKind.wrap IntKind.u32 (IntKind.wrap IntKind.u32 x3 + 50)) := ⟨_, rfl⟩
  obtain ⟨x9, ex9⟩ : ∃ x : Int, x = (IntKind.wrap IntKind.u32 (IntKind.wrap IntKind.u32 x1 + 50)) := ⟨_, rfl⟩
  obtain ⟨x15, ex15⟩ : ∃ x : Nat, x = (toN x6) := ⟨_, rfl⟩
  obtain ⟨x16, ex16⟩ : ∃ x : Nat, x = (modN a0 40) := ⟨_, rfl⟩
  obtain ⟨x17, ex17⟩ : ∃ x : Int → Int, x = (wrM (fun x => 0) 36864 (rowF (fun x => 0) (fillB a4) 256) 256) := ⟨_, rfl⟩
  rw [form a0 a1 a2 a3 a4 x1 ex1 x2 ex2 x3 ex3 x4 ex4 x5 ex5 x6 ex6 x8 ex8 x9 ex9 x15 ex15 x16 ex16 x17 ex17]
  have b0 := wf_u8 w0
  have b1 := wf_u8 w1
  have b2 := wf_u8 w2
  have q1 : x1 = a1 % 100 := by rw [ex1, Int.tmod_eq_emod_of_nonneg b1.1]
  have q3 : x3 = a2 % 100 := by rw [ex3, Int.tmod_eq_emod_of_nonneg b2.1]
  have q2 : x2 = a1 % 100 + 50 := by rw [ex2, q1, wr_i64_id (n := a1 % 100) (by omega) (by omega), wr_i64_id (by omega) (by omega)]
  have q4 : x4 = a2 % 100 + 50 := by rw [ex4, q3, wr_i64_id (n := a2 % 100) (by omega) (by omega), wr_i64_id (by omega) (by omega)]
  have q6 : x6 = a0 % 40 := by rw [ex6, Int.tmod_eq_emod_of_nonneg b0.1, wr_u32_id (by omega) (by omega)]
  have q8 : x8 = a2 % 100 + 50 := by rw [ex8, q3, wr_u32_id (n := a2 % 100) (by omega) (by omega), wr_u32_id (by omega) (by omega)]
  have q9 : x9 = a1 % 100 + 50 := by rw [ex9, q1, wr_u32_id (n := a1 % 100) (by omega) (by omega), wr_u32_id (by omega) (by omega)]
  have q15 : x15 = (a0 % 40).toNat := by rw [ex15, q6]; rfl
  have q16 : x16 = (a0 % 40).toNat := by rw [ex16]; rfl
  have q5 : x5 = true := by rw [ex5]; rfl
  have hM : isBy x17 := by rw [ex17]; exact isBy_fill a4
  clear ex1 ex2 ex3 ex4 ex5 ex6 ex8 ex9 ex15 ex16 ex17
  subst q1 q2 q3 q4 q5 q6 q8 q9 q15 q16
  obtain ⟨A, hA⟩ : ∃ A, A = a1 % 100 + 50 := ⟨_, rfl⟩
  obtain ⟨C, hC⟩ : ∃ C, C = a2 % 100 + 50 := ⟨_, rfl⟩
  obtain ⟨n, hn⟩ : ∃ n, n = (a0 % 40).toNat := ⟨_, rfl⟩
  rw [← hA, ← hC, ← hn]
  have e6 : a0 % 40 = (n : Int) := by omega
  rw [e6]
  have hn40 : n < 40 := by omega
  have A0 : 50 ≤ A := by omega
  have A1 : A < 150 := by omega
  have C0 : 50 ≤ C := by omega
  have C1 : C < 150 := by omega
  have iA : in32 A = true := in32_iff.2 (by omega)
  have iC : in32 C = true := in32_iff.2 (by omega)
  have d1 : decide (0 ≤ (n : Int)) = true := decide_eq_true (by omega)
  have d2 : decide ((n : Int) < 40) = true := decide_eq_true (by omega)
  have d3 : ((n : Int) - (n : Int) == 0) = true := by simp
  simp only [decide_eq_true b0.1, decide_eq_true b0.2, decide_eq_true A0, decide_eq_true A1, decide_eq_true C0, decide_eq_true C1, iA, iC, d1, d2, d3, show in32 0 = true from rfl, Bool.and_self, cond_true]
  obtain ⟨p0, p1⟩ := aI_in (bk := a3) (i := n) A0 A1 (by omega)
  obtain ⟨r0, r1⟩ := aI_in (bk := a3) (i := n) C0 C1 (by omega)
  rw [wr_u32_id (n := aI a3 A n) (by omega) (by omega), wr_u32_id (n := aI a3 C n) (by omega) (by omega)]
  simp only [beq_self_eq_true, cond_true]
  obtain ⟨_, hr⟩ := rows_eq (M := x17) (F := rowF (fun _ => 0) (rdB x17 36864) 256) (a := aI a3 A) (c := aI a3 C) hM (fun p h0 h1 => data_row p h0 h1) n (fun j hj => by
    have h1 := aI_in (bk := a3) (i := j) A0 A1 (by omega)
    have h2 := aI_in (bk := a3) (i := j) C0 C1 (by omega)
    omega)
  have e : bstr (rowF (fun _ => 0) (rdB (rowsM x17 (aI a3 A) (aI a3 C) n) 36864) 256) 0 256 = bstr (rowsF (rowF (fun _ => 0) (rdB x17 36864) 256) (aI a3 A) (aI a3 C) n) 0 256 := bstr_congr fun i hi => by
    rw [data_row (i : Int) (by omega) (by omega), hr (i : Int) (by omega) (by omega)]
  rw [e, strEq_self]
end Go.Proofs.Ytjcbgjakomalaaa.strsRows
