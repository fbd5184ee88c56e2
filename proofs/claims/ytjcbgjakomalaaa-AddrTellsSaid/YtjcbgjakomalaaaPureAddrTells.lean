/- AddrTells: the reckoning of the law, and that it is true. -/
import Derived.Test.YtjcbgjakomalaaaCAt4
namespace Go.Proofs.Ytjcbgjakomalaaa.addrTells
open Go Go.Ev
set_option linter.unusedVariables false
set_option linter.unusedSimpArgs false
set_option maxRecDepth 100000
theorem form (a0_0 : Int) (a0_1 : Int) (a0_2 : Int) (a0_3 : Int) (a0_4 : Int) (a0_5 : Int) (a0_6 : Int) (a0_7 : Int) (a0_8 : Int) (a0_9 : Bool) (a0_10 : Bool) (a0_11 : Bool) (a0_12 : Bool) (a0_13 : Bool) (a0_14 : Bool) (a0_15 : Int) (a0_16 : Int) (a0_17 : Int) (a0_18 : Int) (a0_19 : Int) (a0_20 : Int) (a0_21 : Int) (a0_22 : Int) (a1_0 : Int) (a1_1 : Int) (a1_2 : Int) (a1_3 : Int) (a1_4 : Int) (a1_5 : Int) (a2 : Int) (a3 : Int) (a4 : Int) (a5 : Int) (a6 : Int) (a7 : Int) (a8 : Int)
    (x1 : Int) (ex1 : x1 = (Int.tmod a4 4))
    (x2 : Bool) (ex2 : x2 = (in64 a7 && (true && (true && (true && (true && (true && (true && (true && (true && (true && true)))))))))))
    (x3 : Bool) (ex3 : x3 = (in32 a0_0 && (in32 a0_1 && (in32 a0_2 && (in32 a0_3 && (in32 a0_4 && (in32 a0_5 && (in32 a0_6 && (in32 a0_7 && (in32 (Int.tmod a5 300) && x2)))))))))) :
    evF Try.prog ΓAt 400 7 [.agg [.v (.int .u32 a0_0), .v (.int .u32 a0_1), .v (.int .u32 a0_2), .v (.int .u32 a0_3), .v (.int .u32 a0_4), .v (.int .u32 a0_5), .v (.int .u32 a0_6), .v (.int .u32 a0_7), .v (.int .u32 a0_8), .v (.bool a0_9), .v (.bool a0_10), .v (.bool a0_11), .v (.bool a0_12), .v (.bool a0_13), .v (.bool a0_14), .v (.int .u64 a0_15), .v (.int .u64 a0_16), .v (.int .u64 a0_17), .v (.int .u64 a0_18), .v (.int .u64 a0_19), .v (.int .u64 a0_20), .v (.int .u64 a0_21), .v (.int .u64 a0_22)], .agg [.v (.int .i64 a1_0), .v (.int .i64 a1_1), .v (.int .i64 a1_2), .v (.int .i64 a1_3), .v (.int .i64 a1_4), .v (.int .u32 a1_5)], .v (.int .u8 a2), .v (.int .u8 a3), .v (.int .u8 a4), .v (.int .u32 a5), .v (.int .i64 a6), .v (.int .u64 a7), .v (.int .u32 a8)] [] isT (fun _ _ => none) =
    (bif decide (0 ≤ x1) then bif in32 a0_0 && (in32 a0_1 && (in32 a0_2 && (in32 a0_3 && (in32 a0_4 && (in32 a0_5 && (in32 a0_6 && (in32 a0_7 && (in32 a1_5 && x2)))))))) then bif in32 a0_0 && (in32 a0_1 && (in32 a0_2 && (in32 a0_3 && (in32 a0_4 && (in32 a0_5 && (in32 a0_6 && (in32 a0_7 && (in32 a5 && x2)))))))) then bif x3 then bif x3 then some true else none else none else none else none else none) := by
  subst ex1
  subst ex2
  subst ex3
  kernel_rfl
set_option maxHeartbeats 1000000 in
theorem pure (a0_0 : Int) (a0_1 : Int) (a0_2 : Int) (a0_3 : Int) (a0_4 : Int) (a0_5 : Int) (a0_6 : Int) (a0_7 : Int) (a0_8 : Int) (a0_9 : Bool) (a0_10 : Bool) (a0_11 : Bool) (a0_12 : Bool) (a0_13 : Bool) (a0_14 : Bool) (a0_15 : Int) (a0_16 : Int) (a0_17 : Int) (a0_18 : Int) (a0_19 : Int) (a0_20 : Int) (a0_21 : Int) (a0_22 : Int) (a1_0 : Int) (a1_1 : Int) (a1_2 : Int) (a1_3 : Int) (a1_4 : Int) (a1_5 : Int) (a2 : Int) (a3 : Int) (a4 : Int) (a5 : Int) (a6 : Int) (a7 : Int) (a8 : Int) (w0_0 : (Lit.int .u32 a0_0).wf = true) (w0_1 : (Lit.int .u32 a0_1).wf = true) (w0_2 : (Lit.int .u32 a0_2).wf = true) (w0_3 : (Lit.int .u32 a0_3).wf = true) (w0_4 : (Lit.int .u32 a0_4).wf = true) (w0_5 : (Lit.int .u32 a0_5).wf = true) (w0_6 : (Lit.int .u32 a0_6).wf = true) (w0_7 : (Lit.int .u32 a0_7).wf = true) (w0_8 : (Lit.int .u32 a0_8).wf = true) (w0_15 : (Lit.int .u64 a0_15).wf = true) (w0_16 : (Lit.int .u64 a0_16).wf = true) (w0_17 : (Lit.int .u64 a0_17).wf = true) (w0_18 : (Lit.int .u64 a0_18).wf = true) (w0_19 : (Lit.int .u64 a0_19).wf = true) (w0_20 : (Lit.int .u64 a0_20).wf = true) (w0_21 : (Lit.int .u64 a0_21).wf = true) (w0_22 : (Lit.int .u64 a0_22).wf = true) (w1_0 : (Lit.int .i64 a1_0).wf = true) (w1_1 : (Lit.int .i64 a1_1).wf = true) (w1_2 : (Lit.int .i64 a1_2).wf = true) (w1_3 : (Lit.int .i64 a1_3).wf = true) (w1_4 : (Lit.int .i64 a1_4).wf = true) (w1_5 : (Lit.int .u32 a1_5).wf = true) (w2 : (Lit.int .u8 a2).wf = true) (w3 : (Lit.int .u8 a3).wf = true) (w4 : (Lit.int .u8 a4).wf = true) (w5 : (Lit.int .u32 a5).wf = true) (w6 : (Lit.int .i64 a6).wf = true) (w7 : (Lit.int .u64 a7).wf = true) (w8 : (Lit.int .u32 a8).wf = true) :
    evF Try.prog ΓAt 400 7 [.agg [.v (.int .u32 a0_0), .v (.int .u32 a0_1), .v (.int .u32 a0_2), .v (.int .u32 a0_3), .v (.int .u32 a0_4), .v (.int .u32 a0_5), .v (.int .u32 a0_6), .v (.int .u32 a0_7), .v (.int .u32 a0_8), .v (.bool a0_9), .v (.bool a0_10), .v (.bool a0_11), .v (.bool a0_12), .v (.bool a0_13), .v (.bool a0_14), .v (.int .u64 a0_15), .v (.int .u64 a0_16), .v (.int .u64 a0_17), .v (.int .u64 a0_18), .v (.int .u64 a0_19), .v (.int .u64 a0_20), .v (.int .u64 a0_21), .v (.int .u64 a0_22)], .agg [.v (.int .i64 a1_0), .v (.int .i64 a1_1), .v (.int .i64 a1_2), .v (.int .i64 a1_3), .v (.int .i64 a1_4), .v (.int .u32 a1_5)], .v (.int .u8 a2), .v (.int .u8 a3), .v (.int .u8 a4), .v (.int .u32 a5), .v (.int .i64 a6), .v (.int .u64 a7), .v (.int .u32 a8)] [] isT (fun _ _ => none) = some true := by
  obtain ⟨x1, ex1⟩ : ∃ x : Int, x = (Int.tmod a4 4) := ⟨_, rfl⟩
  obtain ⟨x2, ex2⟩ : ∃ x : Bool, x = (in64 a7 && (true && (true && (true && (true && (true && (true && (true && (true && (true && true)))))))))) := ⟨_, rfl⟩
  obtain ⟨x3, ex3⟩ : ∃ x : Bool, x = (in32 a0_0 && (in32 a0_1 && (in32 a0_2 && (in32 a0_3 && (in32 a0_4 && (in32 a0_5 && (in32 a0_6 && (in32 a0_7 && (in32 (Int.tmod a5 300) && x2))))))))) := ⟨_, rfl⟩
  rw [form a0_0 a0_1 a0_2 a0_3 a0_4 a0_5 a0_6 a0_7 a0_8 a0_9 a0_10 a0_11 a0_12 a0_13 a0_14 a0_15 a0_16 a0_17 a0_18 a0_19 a0_20 a0_21 a0_22 a1_0 a1_1 a1_2 a1_3 a1_4 a1_5 a2 a3 a4 a5 a6 a7 a8 x1 ex1 x2 ex2 x3 ex3]
  have i0_0 : in32 a0_0 = true := in32_iff.2 (wf_u32 w0_0)
  have i0_1 : in32 a0_1 = true := in32_iff.2 (wf_u32 w0_1)
  have i0_2 : in32 a0_2 = true := in32_iff.2 (wf_u32 w0_2)
  have i0_3 : in32 a0_3 = true := in32_iff.2 (wf_u32 w0_3)
  have i0_4 : in32 a0_4 = true := in32_iff.2 (wf_u32 w0_4)
  have i0_5 : in32 a0_5 = true := in32_iff.2 (wf_u32 w0_5)
  have i0_6 : in32 a0_6 = true := in32_iff.2 (wf_u32 w0_6)
  have i0_7 : in32 a0_7 = true := in32_iff.2 (wf_u32 w0_7)
  have i1_5 : in32 a1_5 = true := in32_iff.2 (wf_u32 w1_5)
  have i5 : in32 a5 = true := in32_iff.2 (wf_u32 w5)
  have i7 : in64 a7 = true := in64_iff.2 (wf_u64 w7)
  have i6 : in32 (Int.tmod a5 300) = true := by rw [in32_iff] at i5 ⊢; rw [Int.tmod_eq_emod_of_nonneg i5.1]; omega
  have b4 := wf_u8 w4
  have d1 : decide (0 ≤ x1) = true := decide_eq_true (by rw [ex1, Int.tmod_eq_emod_of_nonneg b4.1]; omega)
  have t2 : x2 = true := by rw [ex2, i7]; rfl
  have t3 : x3 = true := by rw [ex3, t2]; simp only [i0_0, i0_1, i0_2, i0_3, i0_4, i0_5, i0_6, i0_7, i6, Bool.and_self]
  simp only [d1, t2, t3, i0_0, i0_1, i0_2, i0_3, i0_4, i0_5, i0_6, i0_7, i1_5, i5, Bool.and_self, cond_true]
end Go.Proofs.Ytjcbgjakomalaaa.addrTells
