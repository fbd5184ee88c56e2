/- SegEdges: the reckoning of the law, and that it is true. -/
import Derived.Test.YtllfmajphmfehaaCSeg
namespace Go.Proofs.Ytllfmajphmfehaa.segEdges
open Go Go.Ev
set_option linter.unusedVariables false
set_option linter.unusedSimpArgs false
set_option maxRecDepth 100000
theorem form (a0 : Int) (a1 : Int) (a2 : Int) :
    evF Try.prog ΓSeg 400 4 [.v (.int .u16 a0), .v (.int .u8 a1), .v (.int .u32 a2)] [] isT (fun _ _ => none) =
    (bif
        in32 (IntKind.wrap IntKind.u32 (0 - IntKind.wrap IntKind.u32 (IntKind.wrap IntKind.u32 a0 + 16))) &&
          (in32 (IntKind.wrap IntKind.u32 (IntKind.wrap IntKind.u32 a0 + 16)) &&
            in32
              (IntKind.wrap IntKind.u32
                (IntKind.wrap IntKind.u32 (IntKind.wrap IntKind.u32 a0 + 16) -
                  IntKind.wrap IntKind.u32
                    (IntKind.wrap IntKind.i64 (IntKind.wrap IntKind.i64 (Int.tmod a1 16) + 1))))) then
      bif
          in32 (IntKind.wrap IntKind.u32 (0 - IntKind.wrap IntKind.u32 (IntKind.wrap IntKind.u32 a0 + 16))) &&
            (in32 (IntKind.wrap IntKind.u32 (IntKind.wrap IntKind.u32 a0 + 16)) &&
              in32
                (IntKind.wrap IntKind.u32
                  (IntKind.wrap IntKind.u32
                      (IntKind.wrap IntKind.u32 (IntKind.wrap IntKind.u32 a0 + 16) -
                        IntKind.wrap IntKind.u32
                          (IntKind.wrap IntKind.i64 (IntKind.wrap IntKind.i64 (Int.tmod a1 16) + 1))) +
                    1))) then
        bif
            in32 (IntKind.wrap IntKind.u32 (0 - IntKind.wrap IntKind.u32 (IntKind.wrap IntKind.u32 a0 + 16))) &&
              (in32 (IntKind.wrap IntKind.u32 (IntKind.wrap IntKind.u32 a0 + 16)) &&
                in32 (IntKind.wrap IntKind.u32 (4294967295 - Int.tmod a2 16))) then
          bif
              in32 (IntKind.wrap IntKind.u32 (0 - IntKind.wrap IntKind.u32 (IntKind.wrap IntKind.u32 a0 + 16))) &&
                (in32 (IntKind.wrap IntKind.u32 (IntKind.wrap IntKind.u32 (IntKind.wrap IntKind.u32 a0 + 16) + 1)) &&
                  true) then
            bif
                in32 (IntKind.wrap IntKind.u32 (0 - IntKind.wrap IntKind.u32 (IntKind.wrap IntKind.u32 a0 + 16))) &&
                  in32 (IntKind.wrap IntKind.u32 (IntKind.wrap IntKind.u32 a0 + 16)) then
              bif
                  segR (IntKind.wrap IntKind.u32 (0 - IntKind.wrap IntKind.u32 (IntKind.wrap IntKind.u32 a0 + 16)))
                    (IntKind.wrap IntKind.u32 (IntKind.wrap IntKind.u32 a0 + 16)) then
                bif
                    in32 (IntKind.wrap IntKind.u32 (0 - IntKind.wrap IntKind.u32 (IntKind.wrap IntKind.u32 a0 + 16))) &&
                      in32 (IntKind.wrap IntKind.u32 (IntKind.wrap IntKind.u32 (IntKind.wrap IntKind.u32 a0 + 16) + 1)) then
                  bif
                      !segR (IntKind.wrap IntKind.u32 (0 - IntKind.wrap IntKind.u32 (IntKind.wrap IntKind.u32 a0 + 16)))
                          (IntKind.wrap IntKind.u32 (IntKind.wrap IntKind.u32 (IntKind.wrap IntKind.u32 a0 + 16) + 1)) then
                    bif
                        atE (IntKind.wrap IntKind.u32 (0 - IntKind.wrap IntKind.u32 (IntKind.wrap IntKind.u32 a0 + 16)))
                            (IntKind.wrap IntKind.u32 (IntKind.wrap IntKind.u32 a0 + 16)) true true true
                            (IntKind.wrap IntKind.u32
                              (IntKind.wrap IntKind.u32 (IntKind.wrap IntKind.u32 a0 + 16) -
                                IntKind.wrap IntKind.u32
                                  (IntKind.wrap IntKind.i64 (IntKind.wrap IntKind.i64 (Int.tmod a1 16) + 1))))
                            (IntKind.wrap IntKind.i64 (IntKind.wrap IntKind.i64 (Int.tmod a1 16) + 1)) 1 ==
                          0 then
                      bif
                          atP (IntKind.wrap IntKind.u32 (0 - IntKind.wrap IntKind.u32 (IntKind.wrap IntKind.u32 a0 + 16)))
                              (IntKind.wrap IntKind.u32 (IntKind.wrap IntKind.u32 a0 + 16)) true true true
                              (IntKind.wrap IntKind.u32
                                (IntKind.wrap IntKind.u32 (IntKind.wrap IntKind.u32 a0 + 16) -
                                  IntKind.wrap IntKind.u32
                                    (IntKind.wrap IntKind.i64 (IntKind.wrap IntKind.i64 (Int.tmod a1 16) + 1))))
                              (IntKind.wrap IntKind.i64 (IntKind.wrap IntKind.i64 (Int.tmod a1 16) + 1)) 1 ==
                            IntKind.wrap IntKind.u32
                              (0 -
                                IntKind.wrap IntKind.u32
                                  (IntKind.wrap IntKind.i64 (IntKind.wrap IntKind.i64 (Int.tmod a1 16) + 1))) then
                        bif
                            atE (IntKind.wrap IntKind.u32 (0 - IntKind.wrap IntKind.u32 (IntKind.wrap IntKind.u32 a0 + 16)))
                                (IntKind.wrap IntKind.u32 (IntKind.wrap IntKind.u32 a0 + 16)) true true true
                                (IntKind.wrap IntKind.u32
                                  (IntKind.wrap IntKind.u32
                                      (IntKind.wrap IntKind.u32 (IntKind.wrap IntKind.u32 a0 + 16) -
                                        IntKind.wrap IntKind.u32
                                          (IntKind.wrap IntKind.i64 (IntKind.wrap IntKind.i64 (Int.tmod a1 16) + 1))) +
                                    1))
                                (IntKind.wrap IntKind.i64 (IntKind.wrap IntKind.i64 (Int.tmod a1 16) + 1)) 1 ==
                              24 then
                          bif
                              atE
                                  (IntKind.wrap IntKind.u32
                                    (0 - IntKind.wrap IntKind.u32 (IntKind.wrap IntKind.u32 a0 + 16)))
                                  (IntKind.wrap IntKind.u32 (IntKind.wrap IntKind.u32 a0 + 16)) true true true
                                  (IntKind.wrap IntKind.u32 (4294967295 - Int.tmod a2 16))
                                  (IntKind.wrap IntKind.i64 (IntKind.wrap IntKind.i64 (Int.tmod a1 16) + 1)) 2 ==
                                24 then
                            some
                              (atE
                                  (IntKind.wrap IntKind.u32
                                    (0 - IntKind.wrap IntKind.u32 (IntKind.wrap IntKind.u32 a0 + 16)))
                                  (IntKind.wrap IntKind.u32
                                    (IntKind.wrap IntKind.u32 (IntKind.wrap IntKind.u32 a0 + 16) + 1))
                                  true true true 0 1 0 ==
                                24)
                          else some false
                        else some false
                      else some false
                    else some false
                  else some false
                else none
              else some false
            else none
          else none
        else none
      else none
    else none) := by kernel_rfl
theorem pure (a0 : Int) (a1 : Int) (a2 : Int) (w0 : (Lit.int .u16 a0).wf = true) (w1 : (Lit.int .u8 a1).wf = true) (w2 : (Lit.int .u32 a2).wf = true) :
    evF Try.prog ΓSeg 400 4 [.v (.int .u16 a0), .v (.int .u8 a1), .v (.int .u32 a2)] [] isT (fun _ _ => none) = some true := by
  rw [form]
  have b0 := wf_u16 w0
  have b1 := wf_u8 w1
  have b2 := wf_u32 w2
  have eK : IntKind.wrap IntKind.i64 (IntKind.wrap IntKind.i64 (Int.tmod a1 16) + 1) = a1 % 16 + 1 := by
    rw [Int.tmod_eq_emod_of_nonneg b1.1, wr_i64_id (n := a1 % 16) (by omega) (by omega), wr_i64_id (by omega) (by omega)]
  have eZ : IntKind.wrap IntKind.u32 (IntKind.wrap IntKind.u32 a0 + 16) = a0 + 16 := by
    rw [wr_u32_id (n := a0) (by omega) (by omega), wr_u32_id (by omega) (by omega)]
  have eR : Int.tmod a2 16 = a2 % 16 := Int.tmod_eq_emod_of_nonneg b2.1
  rw [eK, eZ, eR]
  generalize hk : a1 % 16 + 1 = k
  generalize hz : a0 + 16 = z
  generalize hr : a2 % 16 = r
  have k0 : 1 ≤ k ∧ k ≤ 16 := by omega
  have z0 : 16 ≤ z ∧ z < 65552 := by omega
  have r0 : 0 ≤ r ∧ r < 16 := by omega
  have eB : IntKind.wrap IntKind.u32 (0 - z) = 4294967296 - z := by rw [wr_u32]; omega
  have ek : IntKind.wrap IntKind.u32 k = k := wr_u32_id (by omega) (by omega)
  have eO : IntKind.wrap IntKind.u32 (z - k) = z - k := wr_u32_id (by omega) (by omega)
  have eO2 : IntKind.wrap IntKind.u32 (z - k + 1) = z - k + 1 := wr_u32_id (by omega) (by omega)
  have eO3 : IntKind.wrap IntKind.u32 (4294967295 - r) = 4294967295 - r := wr_u32_id (by omega) (by omega)
  have eZ1 : IntKind.wrap IntKind.u32 (z + 1) = z + 1 := wr_u32_id (by omega) (by omega)
  have eM : IntKind.wrap IntKind.u32 (0 - k) = 4294967296 - k := by rw [wr_u32]; omega
  rw [eB, ek, eO, eO2, eO3, eZ1, eM]
  have i1 : in32 (4294967296 - z) = true := in32_iff.2 (by omega)
  have i2 : in32 z = true := in32_iff.2 (by omega)
  have i3 : in32 (z - k) = true := in32_iff.2 (by omega)
  have i4 : in32 (z - k + 1) = true := in32_iff.2 (by omega)
  have i5 : in32 (4294967295 - r) = true := in32_iff.2 (by omega)
  have i6 : in32 (z + 1) = true := in32_iff.2 (by omega)
  have cK : clampN k = k := by unfold clampN; split <;> split <;> omega
  have c1 : clampN 1 = 1 := by decide
  have s1 : segR (4294967296 - z) z = true := by unfold segR; exact decide_eq_true (by omega)
  have s2 : segR (4294967296 - z) (z + 1) = false := by unfold segR; exact decide_eq_false (by omega)
  have f1 : decide (z - k + k ≤ z) = true := decide_eq_true (by omega)
  have f2 : decide (z - k + 1 + k ≤ z) = false := decide_eq_false (by omega)
  have f3 : decide (4294967295 - r + k ≤ z) = false := decide_eq_false (by omega)
  have m0 : mayV 0 true true true = true := by decide
  have m1 : mayV 1 true true true = true := by decide
  have m2 : mayV 2 true true true = true := by decide
  have e1 : (4294967296 - z + (z - k)) % 4294967296 = 4294967296 - k := by omega
  simp only [i1, i2, i3, i4, i5, i6, s1, s2, atE, atP, atOk, cK, c1, f1, f2, f3, m0, m1, m2, e1, Bool.and_self, Bool.and_true, Bool.and_false, Bool.false_and, Bool.true_and, Bool.not_false, Bool.not_true, cond_true, cond_false, beq_self_eq_true]
end Go.Proofs.Ytllfmajphmfehaa.segEdges
