/- DivBack: the reckoning of the law, and that it is true. -/
import Derived.Test.YtllfmajphmfehaaCMul
namespace Go.Proofs.Ytllfmajphmfehaa.divBack
open Go Go.Ev
set_option linter.unusedVariables false
set_option linter.unusedSimpArgs false
set_option maxRecDepth 100000
theorem form (a0 : Int) (a1 : Int) (a2 : Int) :
    evF Try.prog ΓMul 400 5 [.v (.int .u32 a0), .v (.int .u32 a1), .v (.int .u32 a2)] [] isT (fun _ _ => none) =
    (bif a1 == 0 then some true
    else
      bif a1 == 0 then none
      else
        bif in32 a0 && in32 a1 then
          bif
              in32
                  (IntKind.wrap IntKind.u32
                    (Int.fdiv
                      (IntKind.wrap IntKind.u64
                        (bits BinOp.or IntKind.u64
                            (IntKind.wrap IntKind.u64 (IntKind.wrap IntKind.u64 (mulHi a0 a1) * 4294967296))
                            (IntKind.wrap IntKind.u64 (mulLo a0 a1)) +
                          IntKind.wrap IntKind.u64 (Int.tmod a2 a1)))
                      4294967296)) &&
                (in32
                    (IntKind.wrap IntKind.u32
                      (IntKind.wrap IntKind.u64
                        (bits BinOp.or IntKind.u64
                            (IntKind.wrap IntKind.u64 (IntKind.wrap IntKind.u64 (mulHi a0 a1) * 4294967296))
                            (IntKind.wrap IntKind.u64 (mulLo a0 a1)) +
                          IntKind.wrap IntKind.u64 (Int.tmod a2 a1)))) &&
                  in32 a1) then
            bif
                decide
                  (IntKind.wrap IntKind.u32
                      (Int.fdiv
                        (IntKind.wrap IntKind.u64
                          (bits BinOp.or IntKind.u64
                              (IntKind.wrap IntKind.u64
                                (IntKind.wrap IntKind.u64 (mulHi a0 a1) *
                                  2 ^ min (Int.toNat 32) (IntKind.bits IntKind.u64)))
                              (IntKind.wrap IntKind.u64 (mulLo a0 a1)) +
                            IntKind.wrap IntKind.u64 (Int.tmod a2 a1)))
                        (2 ^ min (Int.toNat 32) (IntKind.bits IntKind.u64))) <
                    a1) then
              bif
                  divQ
                      (IntKind.wrap IntKind.u32
                        (Int.fdiv
                          (IntKind.wrap IntKind.u64
                            (bits BinOp.or IntKind.u64
                                (IntKind.wrap IntKind.u64 (IntKind.wrap IntKind.u64 (mulHi a0 a1) * 4294967296))
                                (IntKind.wrap IntKind.u64 (mulLo a0 a1)) +
                              IntKind.wrap IntKind.u64 (Int.tmod a2 a1)))
                          4294967296))
                      (IntKind.wrap IntKind.u32
                        (IntKind.wrap IntKind.u64
                          (bits BinOp.or IntKind.u64
                              (IntKind.wrap IntKind.u64 (IntKind.wrap IntKind.u64 (mulHi a0 a1) * 4294967296))
                              (IntKind.wrap IntKind.u64 (mulLo a0 a1)) +
                            IntKind.wrap IntKind.u64 (Int.tmod a2 a1))))
                      a1 ==
                    a0 then
                some
                  (divR
                      (IntKind.wrap IntKind.u32
                        (Int.fdiv
                          (IntKind.wrap IntKind.u64
                            (bits BinOp.or IntKind.u64
                                (IntKind.wrap IntKind.u64 (IntKind.wrap IntKind.u64 (mulHi a0 a1) * 4294967296))
                                (IntKind.wrap IntKind.u64 (mulLo a0 a1)) +
                              IntKind.wrap IntKind.u64 (Int.tmod a2 a1)))
                          4294967296))
                      (IntKind.wrap IntKind.u32
                        (IntKind.wrap IntKind.u64
                          (bits BinOp.or IntKind.u64
                              (IntKind.wrap IntKind.u64 (IntKind.wrap IntKind.u64 (mulHi a0 a1) * 4294967296))
                              (IntKind.wrap IntKind.u64 (mulLo a0 a1)) +
                            IntKind.wrap IntKind.u64 (Int.tmod a2 a1))))
                      a1 ==
                    Int.tmod a2 a1)
              else some false
            else some false
          else none
        else none) := by kernel_rfl
theorem pure (a0 : Int) (a1 : Int) (a2 : Int) (w0 : (Lit.int .u32 a0).wf = true) (w1 : (Lit.int .u32 a1).wf = true) (w2 : (Lit.int .u32 a2).wf = true) :
    evF Try.prog ΓMul 400 5 [.v (.int .u32 a0), .v (.int .u32 a1), .v (.int .u32 a2)] [] isT (fun _ _ => none) = some true := by
  rw [form]
  have b0 := wf_u32 w0
  have b1 := wf_u32 w1
  have g0 := in32_iff.2 b0
  have g1 := in32_iff.2 b1
  have b2 := wf_u32 w2
  by_cases h : a1 = 0
  · simp [h]
  · have hz : (a1 == 0) = false := by simpa using h
    have hm := mul_bd b0.1 b0.2 b1.1 b1.2
    have hh := mulHi_bd b0.1 b0.2 b1.1 b1.2
    have hl := mulLo_bd a0 a1
    have hs : mulHi a0 a1 * 4294967296 + mulLo a0 a1 = a0 * a1 := by unfold mulHi mulLo; omega
    have hr : 0 ≤ a2 % a1 ∧ a2 % a1 < a1 := ⟨Int.emod_nonneg _ h, Int.emod_lt_of_pos _ (by omega)⟩
    have e0 : Int.tmod a2 a1 = a2 % a1 := Int.tmod_eq_emod_of_nonneg b2.1
    have hp : a0 * a1 ≤ 4294967295 * a1 := Int.mul_le_mul_of_nonneg_right (by omega) b1.1
    have e1 : IntKind.wrap IntKind.u64 (bits BinOp.or IntKind.u64 (IntKind.wrap IntKind.u64 (IntKind.wrap IntKind.u64 (mulHi a0 a1) * 4294967296)) (IntKind.wrap IntKind.u64 (mulLo a0 a1)) + IntKind.wrap IntKind.u64 (a2 % a1)) = a0 * a1 + a2 % a1 := by
      rw [wr_u64_id hh.1 (by omega), wr_u64_id hl.1 (by omega), wr_u64_id (n := mulHi a0 a1 * 4294967296) (by omega) (by omega), or_halves hh.1 hh.2 hl.1 hl.2, hs, wr_u64_id (n := a2 % a1) hr.1 (by omega)]
      exact wr_u64_id (by omega) (by omega)
    have e6 : (2 : Int) ^ min (Int.toNat 32) (IntKind.bits IntKind.u64) = 4294967296 := rfl
    simp only [e6, e0, e1, hz, g0, g1, Bool.and_self, cond_true, cond_false]
    have e2 : Int.fdiv (a0 * a1 + a2 % a1) 4294967296 = (a0 * a1 + a2 % a1) / 4294967296 := Int.fdiv_eq_ediv_of_nonneg _ (by omega)
    have e3 : IntKind.wrap IntKind.u32 ((a0 * a1 + a2 % a1) / 4294967296) = (a0 * a1 + a2 % a1) / 4294967296 := wr_u32_id (by omega) (by omega)
    have e4 : IntKind.wrap IntKind.u32 (a0 * a1 + a2 % a1) = (a0 * a1 + a2 % a1) % 4294967296 := wr_u32 _
    have lt : (a0 * a1 + a2 % a1) / 4294967296 < a1 := by
      have h1 : a0 * a1 + a2 % a1 < 4294967296 * a1 := by omega
      exact Int.ediv_lt_of_lt_mul (by decide) (by omega)
    have i1 : in32 ((a0 * a1 + a2 % a1) / 4294967296) = true := in32_iff.2 ⟨by omega, by omega⟩
    have i2 : in32 ((a0 * a1 + a2 % a1) % 4294967296) = true := in32_iff.2 ⟨by omega, by omega⟩
    have e5 : (a0 * a1 + a2 % a1) / 4294967296 * 4294967296 + (a0 * a1 + a2 % a1) % 4294967296 = a0 * a1 + a2 % a1 := by omega
    have q1 : divQ ((a0 * a1 + a2 % a1) / 4294967296) ((a0 * a1 + a2 % a1) % 4294967296) a1 = a0 := by
      unfold divQ
      rw [if_pos lt, e5, Int.add_comm, Int.add_mul_ediv_right _ _ h, Int.ediv_eq_zero_of_lt hr.1 hr.2]
      omega
    have q2 : divR ((a0 * a1 + a2 % a1) / 4294967296) ((a0 * a1 + a2 % a1) % 4294967296) a1 = a2 % a1 := by
      unfold divR
      rw [if_pos lt, e5, Int.add_comm, Int.add_mul_emod_self_right]
      exact Int.emod_eq_of_lt hr.1 hr.2
    simp only [e2, e3, e4, i1, i2, g1, q1, q2, decide_eq_true lt, Bool.and_self, cond_true, beq_self_eq_true]
end Go.Proofs.Ytllfmajphmfehaa.divBack
