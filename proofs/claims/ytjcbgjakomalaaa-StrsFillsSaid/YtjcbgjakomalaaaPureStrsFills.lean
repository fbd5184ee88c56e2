/- StrsFills: the reckoning of the law, and that it is true. -/
import Derived.Test.YtjcbgjakomalaaaCRo5
namespace Go.Proofs.Ytjcbgjakomalaaa.strsFills
open Go Go.Ev
set_option linter.unusedVariables false
set_option linter.unusedSimpArgs false
set_option maxRecDepth 100000
theorem form (a0 : Int) (a1 : Int) (a2 : Int) (a3 : Bool)
    (x1 : Int) (ex1 : x1 = (IntKind.wrap IntKind.i64 (Int.tmod a0 30)))
    (x2 : Bool) (ex2 : x2 = (decide (0 ≤ a1) && (decide (a1 < 256) && (decide (0 ≤ x1) && (decide (x1 < 30) && (true && (true && (true && (true && (true && true))))))))))
    (x3 : Int) (ex3 : x3 = (IntKind.wrap IntKind.u32 x1))
    (x5 : Int) (ex5 : x5 = (IntKind.wrap IntKind.u32 (Int.tmod a1 100)))
    (x9 : Bool) (ex9 : x9 = (decide (0 ≤ x3) && (decide (x3 < 30) && (decide (0 ≤ x5) && (decide (x5 < 100) && (true && (in32 a2 && (in32 0 && (in32 0 && (in32 0 && (in32 0 && (in32 0 && (in32 x5 && (true && (true && true)))))))))))))))
    (x10 : Nat) (ex10 : x10 = (toN x3))
    (x11 : Int) (ex11 : x11 = (↑x10))
    (x12 : Bool) (ex12 : x12 = (x3 - x11 == 0))
    (x13 : Int) (ex13 : x13 = (x1 * 4))
    (x14 : Int → Int) (ex14 : x14 = (wrM (fun x => 0) 36864 (rowF (fun x => 0) (fillB 3) 256) 256))
    (x15 : Int → Int) (ex15 : x15 = (rowF (fun x => 0) (rdB x14 36864) 256))
    (x16 : Int) (ex16 : x16 = (Int.tmod a1 100))
    (x17 : Int) (ex17 : x17 = (x1 * 1)) :
    evF Try.prog ΓRo5 400 11 [.v (.int .u8 a0), .v (.int .u8 a1), .v (.int .u32 a2), .v (.bool a3)] [] isT (fun _ _ => none) =
    (bif a3 then bif x2 then bif x9 then bif x12 then bif x5 + 4 * x11 == IntKind.wrap IntKind.u32 (x5 + IntKind.wrap IntKind.u32 (IntKind.wrap IntKind.i64 x13)) then some (strEq (bstr (rowF (fun x => 0) (rdB (rowMem x14 x5 4 a2 x10) 36864) 256) 0 256) (bstr (fillF x15 x16 4 a2 (toN x13)) 0 256)) else some false else some false else none else none else bif x2 then bif x9 then bif x12 then bif x5 + 1 * x11 == IntKind.wrap IntKind.u32 (x5 + IntKind.wrap IntKind.u32 (IntKind.wrap IntKind.i64 x17)) then some (strEq (bstr (rowF (fun x => 0) (rdB (rowMem x14 x5 1 a2 x10) 36864) 256) 0 256) (bstr (fillF x15 x16 1 a2 (toN x17)) 0 256)) else some false else some false else none else none) := by
  subst ex1
  subst ex2
  subst ex3
  subst ex5
  subst ex9
  subst ex10
  subst ex11
  subst ex12
  subst ex13
  subst ex14
  subst ex15
  subst ex16
  subst ex17
  kernel_rfl
set_option maxHeartbeats 1000000 in
theorem pure (a0 : Int) (a1 : Int) (a2 : Int) (a3 : Bool) (w0 : (Lit.int .u8 a0).wf = true) (w1 : (Lit.int .u8 a1).wf = true) (w2 : (Lit.int .u32 a2).wf = true) :
    evF Try.prog ΓRo5 400 11 [.v (.int .u8 a0), .v (.int .u8 a1), .v (.int .u32 a2), .v (.bool a3)] [] isT (fun _ _ => none) = some true := by
  obtain ⟨x1, ex1⟩ : ∃ x : Int, x = (IntKind.wrap IntKind.i64 (Int.tmod a0 30)) := ⟨_, rfl⟩
  obtain ⟨x2, ex2⟩ : ∃ x : Bool, x = (decide (0 ≤ a1) && (decide (a1 < 256) && (decide (0 ≤ x1) && (decide (x1 < 30) && (true && (true && (true && (true && (true && true))))))))) := ⟨_, rfl⟩
  obtain ⟨x3, ex3⟩ : ∃ x : Int, x = (IntKind.wrap IntKind.u32 x1) := ⟨_, rfl⟩
  obtain ⟨x5, ex5⟩ : ∃ x : Int, x = (IntKind.wrap IntKind.u32 (Int.tmod a1 100)) := ⟨_, rfl⟩
  obtain ⟨x9, ex9⟩ : ∃ x : Bool, x = (decide (0 ≤ x3) && (decide (x3 < 30) && (decide (0 ≤ x5) && (decide (x5 < 100) && (true && (in32 a2 && (in32 0 && (in32 0 && (in32 0 && (in32 0 && (in32 0 && (in32 x5 && (true && (true && true)))))))))))))) := ⟨_, rfl⟩
  obtain ⟨x10, ex10⟩ : ∃ x : Nat, x = (toN x3) := ⟨_, rfl⟩
  obtain ⟨x11, ex11⟩ : ∃ x : Int, x = (↑x10) := ⟨_, rfl⟩
  obtain ⟨x12, ex12⟩ : ∃ x : Bool, x = (x3 - x11 == 0) := ⟨_, rfl⟩
  obtain ⟨x13, ex13⟩ : ∃ x : Int, x = (x1 * 4) := ⟨_, rfl⟩
  obtain ⟨x14, ex14⟩ : ∃ x : Int → Int, x = (wrM (fun x => 0) 36864 (rowF (fun x => 0) (fillB 3) 256) 256) := ⟨_, rfl⟩
  obtain ⟨x15, ex15⟩ : ∃ x : Int → Int, x = (rowF (fun x => 0) (rdB x14 36864) 256) := ⟨_, rfl⟩
  obtain ⟨x16, ex16⟩ : ∃ x : Int, x = (Int.tmod a1 100) := ⟨_, rfl⟩
  obtain ⟨x17, ex17⟩ : ∃ x : Int, x = (x1 * 1) := ⟨_, rfl⟩
  rw [form a0 a1 a2 a3 x1 ex1 x2 ex2 x3 ex3 x5 ex5 x9 ex9 x10 ex10 x11 ex11 x12 ex12 x13 ex13 x14 ex14 x15 ex15 x16 ex16 x17 ex17]
  have b0 := wf_u8 w0
  have b1 := wf_u8 w1
  have b2 := wf_u32 w2
  have q1 : x1 = a0 % 30 := by rw [ex1, Int.tmod_eq_emod_of_nonneg b0.1, wr_i64_id (by omega) (by omega)]
  have q3 : x3 = a0 % 30 := by rw [ex3, q1, wr_u32_id (by omega) (by omega)]
  have q16 : x16 = a1 % 100 := by rw [ex16, Int.tmod_eq_emod_of_nonneg b1.1]
  have q5 : x5 = a1 % 100 := by rw [ex5, Int.tmod_eq_emod_of_nonneg b1.1, wr_u32_id (by omega) (by omega)]
  obtain ⟨n, hn⟩ : ∃ n, n = (a0 % 30).toNat := ⟨_, rfl⟩
  have e6 : a0 % 30 = (n : Int) := by omega
  have q10 : x10 = n := by rw [ex10, q3, hn]; rfl
  have q11 : x11 = (n : Int) := by rw [ex11, q10]
  have q13 : x13 = 4 * (n : Int) := by rw [ex13, q1, e6]; omega
  have q17 : x17 = (n : Int) := by rw [ex17, q1, e6]; omega
  have hn30 : n < 30 := by omega
  obtain ⟨p, hp⟩ : ∃ p, p = a1 % 100 := ⟨_, rfl⟩
  have p0 : 0 ≤ p := by omega
  have p1 : p < 100 := by omega
  have i2 : in32 a2 = true := in32_iff.2 b2
  have t2 : x2 = true := by rw [ex2, q1]; simp; omega
  have t9 : x9 = true := by
    have ip : in32 p = true := in32_iff.2 (by omega)
    have d1 : decide (0 ≤ (n : Int)) = true := decide_eq_true (by omega)
    have d2 : decide ((n : Int) < 30) = true := decide_eq_true (by omega)
    rw [ex9, q3, q5, e6, ← hp, i2, ip, d1, d2, decide_eq_true p0, decide_eq_true p1]; rfl
  have t12 : x12 = true := by rw [ex12, q3, q11, e6]; simp
  have hF : ∀ q : Int, 0 ≤ q → q < 256 → x15 q = x14 (36864 + q) := fun q h0 h1 => by rw [ex15]; exact data_row q h0 h1
  have n1 : toN (4 * (n : Int)) = 4 * n := by unfold toN; omega
  have n2 : toN (n : Int) = n := by unfold toN; omega
  have w1 : IntKind.wrap .u32 (p + IntKind.wrap .u32 (IntKind.wrap .i64 (4 * (n : Int)))) = p + 4 * (n : Int) := by
    rw [wr_i64_id (by omega) (by omega), wr_u32_id (n := 4 * (n : Int)) (by omega) (by omega), wr_u32_id (by omega) (by omega)]
  have w2' : IntKind.wrap .u32 (p + IntKind.wrap .u32 (IntKind.wrap .i64 (n : Int))) = p + 1 * (n : Int) := by
    rw [wr_i64_id (by omega) (by omega), wr_u32_id (n := (n : Int)) (by omega) (by omega), wr_u32_id (by omega) (by omega)]; omega
  clear ex1 ex2 ex3 ex5 ex9 ex10 ex11 ex12 ex13 ex15 ex16 ex17
  rw [t2, t9, t12, q5, q16, q10, q11, q13, q17, ← hp, w1, w2', n1, n2]
  simp only [beq_self_eq_true, cond_true]
  have e4 : bstr (rowF (fun _ => 0) (rdB (rowMem x14 p 4 a2 n) 36864) 256) 0 256 = bstr (fillF x15 p 4 a2 (4 * n)) 0 256 := bstr_congr fun i hi => by
    rw [data_row (i : Int) (by omega) (by omega), fill4_eq p0 b2.1 b2.2 hF n (by omega) (i : Int) (by omega) (by omega)]
  have e1 : bstr (rowF (fun _ => 0) (rdB (rowMem x14 p 1 a2 n) 36864) 256) 0 256 = bstr (fillF x15 p 1 a2 n) 0 256 := bstr_congr fun i hi => by
    rw [data_row (i : Int) (by omega) (by omega), fill1_eq p0 b2.1 b2.2 hF n (by omega) (i : Int) (by omega) (by omega)]
  rw [e4, e1, strEq_self, strEq_self]
  cases a3 <;> rfl
end Go.Proofs.Ytjcbgjakomalaaa.strsFills
