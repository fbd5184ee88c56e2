/- MulSigns: the reckoning of the law, and that it is true. -/
import Derived.Test.YtllfmajphmfehaaCMul
namespace Go.Proofs.Ytllfmajphmfehaa.mulSigns
open Go Go.Ev
set_option linter.unusedVariables false
set_option linter.unusedSimpArgs false
set_option maxRecDepth 100000
theorem form (a0 : Int) (a1 : Int) (a2_0 : Bool) (a2_1 : Bool) (a2_2 : Bool) (a2_3 : Bool) (a2_4 : Bool) (a2_5 : Bool) :
    evF Try.prog ΓMul 400 9 [.v (.int .u32 a0), .v (.int .u32 a1), .agg [.v (.bool a2_0), .v (.bool a2_1), .v (.bool a2_2), .v (.bool a2_3), .v (.bool a2_4), .v (.bool a2_5)]] [] isT (fun _ _ => none) =
    (bif in32 a0 && in32 a1 then
      bif in32 a0 && in32 a1 then
        bif decide (IntKind.wrap IntKind.i32 a0 < 0) then
          bif decide (IntKind.wrap IntKind.i32 a1 < 0) then
            bif mulLo a0 a1 == imulLo a0 a1 then
              bif imulHi a0 a1 == IntKind.wrap IntKind.u32 (IntKind.wrap IntKind.u32 (mulHi a0 a1 - a1) - a0) then
                bif
                    imulOver a0 a1 ==
                      (imulHi a0 a1 !=
                        IntKind.wrap IntKind.u32 (Int.fdiv (IntKind.wrap IntKind.i32 (imulLo a0 a1)) 2147483648)) then
                  bif imulOver a0 a1 == imulOver a0 a1 then some (a2_2 == a2_2) else some false
                else some false
              else some false
            else some false
          else
            bif mulLo a0 a1 == imulLo a0 a1 then
              bif imulHi a0 a1 == IntKind.wrap IntKind.u32 (mulHi a0 a1 - a1) then
                bif
                    imulOver a0 a1 ==
                      (imulHi a0 a1 !=
                        IntKind.wrap IntKind.u32 (Int.fdiv (IntKind.wrap IntKind.i32 (imulLo a0 a1)) 2147483648)) then
                  bif imulOver a0 a1 == imulOver a0 a1 then some (a2_2 == a2_2) else some false
                else some false
              else some false
            else some false
        else
          bif decide (IntKind.wrap IntKind.i32 a1 < 0) then
            bif mulLo a0 a1 == imulLo a0 a1 then
              bif imulHi a0 a1 == IntKind.wrap IntKind.u32 (mulHi a0 a1 - a0) then
                bif
                    imulOver a0 a1 ==
                      (imulHi a0 a1 !=
                        IntKind.wrap IntKind.u32 (Int.fdiv (IntKind.wrap IntKind.i32 (imulLo a0 a1)) 2147483648)) then
                  bif imulOver a0 a1 == imulOver a0 a1 then some (a2_2 == a2_2) else some false
                else some false
              else some false
            else some false
          else
            bif mulLo a0 a1 == imulLo a0 a1 then
              bif imulHi a0 a1 == mulHi a0 a1 then
                bif
                    imulOver a0 a1 ==
                      (imulHi a0 a1 !=
                        IntKind.wrap IntKind.u32 (Int.fdiv (IntKind.wrap IntKind.i32 (imulLo a0 a1)) 2147483648)) then
                  bif imulOver a0 a1 == imulOver a0 a1 then some (a2_2 == a2_2) else some false
                else some false
              else some false
            else some false
      else none
    else none) := by kernel_rfl
theorem pure (a0 : Int) (a1 : Int) (a2_0 : Bool) (a2_1 : Bool) (a2_2 : Bool) (a2_3 : Bool) (a2_4 : Bool) (a2_5 : Bool) (w0 : (Lit.int .u32 a0).wf = true) (w1 : (Lit.int .u32 a1).wf = true) :
    evF Try.prog ΓMul 400 9 [.v (.int .u32 a0), .v (.int .u32 a1), .agg [.v (.bool a2_0), .v (.bool a2_1), .v (.bool a2_2), .v (.bool a2_3), .v (.bool a2_4), .v (.bool a2_5)]] [] isT (fun _ _ => none) = some true := by
  rw [form]
  have b0 := wf_u32 w0
  have b1 := wf_u32 w1
  have g0 := in32_iff.2 b0
  have g1 := in32_iff.2 b1
  have m1 := s32_bd b0.1 b0.2
  have m2 := s32_bd b1.1 b1.2
  have hp := smul_bd m1.1 m1.2 m2.1 m2.2
  have key : imulOver a0 a1 = (imulHi a0 a1 != IntKind.wrap IntKind.u32 (Int.fdiv (IntKind.wrap IntKind.i32 (imulLo a0 a1)) 2147483648)) := by
    unfold imulOver imulHi imulLo
    generalize s32 a0 * s32 a1 = p at *
    rw [wr_i32, wr_u32, Int.fdiv_eq_ediv_of_nonneg _ (by omega), Bool.eq_iff_iff]
    simp
    omega
  have lo : mulLo a0 a1 = imulLo a0 a1 ∧ (IntKind.wrap IntKind.i32 a0 < 0 → IntKind.wrap IntKind.i32 a1 < 0 → imulHi a0 a1 = IntKind.wrap IntKind.u32 (IntKind.wrap IntKind.u32 (mulHi a0 a1 - a1) - a0)) ∧
      (IntKind.wrap IntKind.i32 a0 < 0 → ¬ IntKind.wrap IntKind.i32 a1 < 0 → imulHi a0 a1 = IntKind.wrap IntKind.u32 (mulHi a0 a1 - a1)) ∧
      (¬ IntKind.wrap IntKind.i32 a0 < 0 → IntKind.wrap IntKind.i32 a1 < 0 → imulHi a0 a1 = IntKind.wrap IntKind.u32 (mulHi a0 a1 - a0)) ∧
      (¬ IntKind.wrap IntKind.i32 a0 < 0 → ¬ IntKind.wrap IntKind.i32 a1 < 0 → imulHi a0 a1 = mulHi a0 a1) := by
    have hm := mul_bd b0.1 b0.2 b1.1 b1.2
    rw [wr_i32_s b0.1 b0.2, wr_i32_s b1.1 b1.2]
    simp only [wr_u32]
    unfold mulLo imulLo imulHi mulHi s32
    by_cases h1 : a0 < 2147483648 <;> by_cases h2 : a1 < 2147483648 <;> simp only [h1, h2, if_true, if_false]
    · refine ⟨trivial, fun h => ?_, fun h => ?_, fun h => ?_, fun h h' => ?_⟩
      · exfalso; omega
      · exfalso; omega
      · intro h'; exfalso; omega
      · omega
    · have e : a0 * (a1 - 4294967296) = a0 * a1 - 4294967296 * a0 := by rw [Int.mul_sub]; omega
      rw [e]; omega
    · have e : (a0 - 4294967296) * a1 = a0 * a1 - 4294967296 * a1 := by rw [Int.sub_mul]
      rw [e]; omega
    · have e : (a0 - 4294967296) * (a1 - 4294967296) = a0 * a1 - 4294967296 * a0 - 4294967296 * a1 + 18446744073709551616 := by rw [Int.sub_mul, Int.mul_sub, Int.mul_sub]; omega
      rw [e]; omega
  obtain ⟨l0, l1, l2, l3, l4⟩ := lo
  rw [← key]
  by_cases h1 : IntKind.wrap IntKind.i32 a0 < 0 <;> by_cases h2 : IntKind.wrap IntKind.i32 a1 < 0
  · simp [g0, g1, h1, h2, l0, ← l1 h1 h2]
  · simp [g0, g1, h1, h2, l0, ← l2 h1 h2]
  · simp [g0, g1, h1, h2, l0, ← l3 h1 h2]
  · simp [g0, g1, h1, h2, l0, ← l4 h1 h2]
end Go.Proofs.Ytllfmajphmfehaa.mulSigns
