/- IdivSigns: the reckoning of the law, and that it is true. -/
import Derived.Test.YtllfmajphmfehaaCMul
namespace Go.Proofs.Ytllfmajphmfehaa.idivSigns
open Go Go.Ev
set_option linter.unusedVariables false
set_option linter.unusedSimpArgs false
set_option maxRecDepth 100000
theorem form (a0 : Int) (a1 : Int) :
    evF Try.prog ΓMul 400 13 [.v (.int .i32 a0), .v (.int .i32 a1)] [] isT (fun _ _ => none) =
    (bif
        in32 (IntKind.wrap IntKind.u32 (Int.fdiv a0 2147483648)) &&
          (in32 (IntKind.wrap IntKind.u32 a0) && in32 (IntKind.wrap IntKind.u32 a1)) then
      bif a1 == 0 then
        bif
            !idivOk (IntKind.wrap IntKind.u32 (Int.fdiv a0 2147483648)) (IntKind.wrap IntKind.u32 a0)
                (IntKind.wrap IntKind.u32 a1) then
          bif
              idivQ (IntKind.wrap IntKind.u32 (Int.fdiv a0 2147483648)) (IntKind.wrap IntKind.u32 a0)
                  (IntKind.wrap IntKind.u32 a1) ==
                0 then
            some
              (idivR (IntKind.wrap IntKind.u32 (Int.fdiv a0 2147483648)) (IntKind.wrap IntKind.u32 a0)
                  (IntKind.wrap IntKind.u32 a1) ==
                0)
          else some false
        else some false
      else
        bif a0 == -2147483648 then
          bif a1 == -1 then
            bif
                !idivOk (IntKind.wrap IntKind.u32 (Int.fdiv a0 2147483648)) (IntKind.wrap IntKind.u32 a0)
                    (IntKind.wrap IntKind.u32 a1) then
              bif
                  idivQ (IntKind.wrap IntKind.u32 (Int.fdiv a0 2147483648)) (IntKind.wrap IntKind.u32 a0)
                      (IntKind.wrap IntKind.u32 a1) ==
                    0 then
                some
                  (idivR (IntKind.wrap IntKind.u32 (Int.fdiv a0 2147483648)) (IntKind.wrap IntKind.u32 a0)
                      (IntKind.wrap IntKind.u32 a1) ==
                    0)
              else some false
            else some false
          else
            bif
                idivOk (IntKind.wrap IntKind.u32 (Int.fdiv a0 2147483648)) (IntKind.wrap IntKind.u32 a0)
                  (IntKind.wrap IntKind.u32 a1) then
              bif
                  IntKind.wrap IntKind.i64
                      (IntKind.wrap IntKind.i64
                          (IntKind.wrap IntKind.i64
                              (IntKind.wrap IntKind.i32
                                (idivQ (IntKind.wrap IntKind.u32 (Int.fdiv a0 2147483648)) (IntKind.wrap IntKind.u32 a0)
                                  (IntKind.wrap IntKind.u32 a1))) *
                            IntKind.wrap IntKind.i64 a1) +
                        IntKind.wrap IntKind.i64
                          (IntKind.wrap IntKind.i32
                            (idivR (IntKind.wrap IntKind.u32 (Int.fdiv a0 2147483648)) (IntKind.wrap IntKind.u32 a0)
                              (IntKind.wrap IntKind.u32 a1)))) ==
                    IntKind.wrap IntKind.i64 a0 then
                bif
                    idivR (IntKind.wrap IntKind.u32 (Int.fdiv a0 2147483648)) (IntKind.wrap IntKind.u32 a0)
                        (IntKind.wrap IntKind.u32 a1) ==
                      0 then
                  some true
                else
                  some
                    (decide
                        (IntKind.wrap IntKind.i32
                            (idivR
                              (IntKind.wrap IntKind.u32 (Int.fdiv a0 (2 ^ min (Int.toNat 31) (IntKind.bits IntKind.i32))))
                              (IntKind.wrap IntKind.u32 a0) (IntKind.wrap IntKind.u32 a1)) <
                          0) ==
                      decide (a0 < 0))
              else some false
            else some false
        else
          bif
              idivOk (IntKind.wrap IntKind.u32 (Int.fdiv a0 2147483648)) (IntKind.wrap IntKind.u32 a0)
                (IntKind.wrap IntKind.u32 a1) then
            bif
                IntKind.wrap IntKind.i64
                    (IntKind.wrap IntKind.i64
                        (IntKind.wrap IntKind.i64
                            (IntKind.wrap IntKind.i32
                              (idivQ (IntKind.wrap IntKind.u32 (Int.fdiv a0 2147483648)) (IntKind.wrap IntKind.u32 a0)
                                (IntKind.wrap IntKind.u32 a1))) *
                          IntKind.wrap IntKind.i64 a1) +
                      IntKind.wrap IntKind.i64
                        (IntKind.wrap IntKind.i32
                          (idivR (IntKind.wrap IntKind.u32 (Int.fdiv a0 2147483648)) (IntKind.wrap IntKind.u32 a0)
                            (IntKind.wrap IntKind.u32 a1)))) ==
                  IntKind.wrap IntKind.i64 a0 then
              bif
                  idivR (IntKind.wrap IntKind.u32 (Int.fdiv a0 2147483648)) (IntKind.wrap IntKind.u32 a0)
                      (IntKind.wrap IntKind.u32 a1) ==
                    0 then
                some true
              else
                some
                  (decide
                      (IntKind.wrap IntKind.i32
                          (idivR
                            (IntKind.wrap IntKind.u32 (Int.fdiv a0 (2 ^ min (Int.toNat 31) (IntKind.bits IntKind.i32))))
                            (IntKind.wrap IntKind.u32 a0) (IntKind.wrap IntKind.u32 a1)) <
                        0) ==
                    decide (a0 < 0))
            else some false
          else some false
    else none) := by kernel_rfl
theorem pure (a0 : Int) (a1 : Int) (w0 : (Lit.int .i32 a0).wf = true) (w1 : (Lit.int .i32 a1).wf = true) :
    evF Try.prog ΓMul 400 13 [.v (.int .i32 a0), .v (.int .i32 a1)] [] isT (fun _ _ => none) = some true := by
  rw [form]
  have b0 := wf_i32 w0
  have b1 := wf_i32 w1
  have eN : idivN (IntKind.wrap IntKind.u32 (Int.fdiv a0 2147483648)) (IntKind.wrap IntKind.u32 a0) = a0 := by
    rw [wr_u32, wr_u32, Int.fdiv_eq_ediv_of_nonneg _ (by omega)]
    unfold idivN s64
    split <;> omega
  have eS : s32 (IntKind.wrap IntKind.u32 a1) = a1 := by rw [wr_u32]; unfold s32; split <;> omega
  have e6 : (2 : Int) ^ min (Int.toNat 31) (IntKind.bits IntKind.i32) = 2147483648 := rfl
  simp only [e6, in32_wr, Bool.and_self, cond_true]
  have hok : idivOk (IntKind.wrap IntKind.u32 (Int.fdiv a0 2147483648)) (IntKind.wrap IntKind.u32 a0) (IntKind.wrap IntKind.u32 a1) = (!(a1 == 0) && !(a0 == -2147483648 && a1 == -1)) := by
    unfold idivOk
    rw [eN, eS]
    by_cases hz : a1 = 0
    · simp [hz]
    · have hq := natAbs_tdiv_le' a0 a1
      have m1 : (a0 == -9223372036854775808) = false := by simp; omega
      have hz' : (a1 == 0) = false := by simpa using hz
      rw [m1, hz']
      by_cases hc : a0 = -2147483648 ∧ a1 = -1
      · obtain ⟨rfl, rfl⟩ := hc
        simp
      · have hr : -2147483648 ≤ a0.tdiv a1 ∧ a0.tdiv a1 < 2147483648 := by
          by_cases e : a0 = -2147483648
          · refine ⟨by omega, ?_⟩
            rcases Int.lt_or_le (a0.tdiv a1) 2147483648 with h' | h'
            · exact h'
            · exfalso
              have e1 : (a0.tdiv a1).natAbs = 2147483648 := by omega
              rw [Int.natAbs_tdiv] at e1
              have e2 : a0.natAbs = 2147483648 := by omega
              rw [e2] at e1
              have e1' : 2147483648 / a1.natAbs = 2147483648 := e1
              have e3 : a1.natAbs = 1 := by
                by_cases h1 : a1.natAbs = 1
                · exact h1
                · exfalso
                  have := Nat.div_lt_self (n := 2147483648) (k := a1.natAbs) (by omega) (by omega)
                  rw [e1'] at this
                  exact absurd this (Nat.lt_irrefl _)
              have e4 : a1 = 1 := by omega
              subst e4
              rw [Int.tdiv_one] at h'
              omega
          · omega
        have hc' : (a0 == -2147483648 && a1 == -1) = false := by simpa using hc
        rw [hc']
        simp [hr]
  by_cases hz : a1 = 0
  · have hz' : (a1 == 0) = true := by simpa using hz
    have hk : idivOk (IntKind.wrap IntKind.u32 (Int.fdiv a0 2147483648)) (IntKind.wrap IntKind.u32 a0) (IntKind.wrap IntKind.u32 a1) = false := by rw [hok, hz']; rfl
    unfold idivQ idivR
    simp only [hk, hz']
    rfl
  · have hz' : (a1 == 0) = false := by simpa using hz
    by_cases hc : a0 = -2147483648 ∧ a1 = -1
    · obtain ⟨rfl, rfl⟩ := hc
      unfold idivQ idivR
      simp only [hok]
      rfl
    · have hc' : (a0 == -2147483648 && a1 == -1) = false := by simpa using hc
      have hk : idivOk (IntKind.wrap IntKind.u32 (Int.fdiv a0 2147483648)) (IntKind.wrap IntKind.u32 a0) (IntKind.wrap IntKind.u32 a1) = true := by rw [hok, hz', hc']; rfl
      have hq : -2147483648 ≤ a0.tdiv a1 ∧ a0.tdiv a1 < 2147483648 := by
        have h2 := hk
        unfold idivOk at h2
        rw [eN, eS] at h2
        simp at h2
        omega
      have hr := tmod_in (n := a0) (d := a1) (by omega) (by omega) b1.1 b1.2 hz
      have q1 : IntKind.wrap IntKind.i32 (idivQ (IntKind.wrap IntKind.u32 (Int.fdiv a0 2147483648)) (IntKind.wrap IntKind.u32 a0) (IntKind.wrap IntKind.u32 a1)) = a0.tdiv a1 := by
        unfold idivQ; rw [hk, eN, eS, wr_i32]; simp only [if_true]; omega
      have q2 : IntKind.wrap IntKind.i32 (idivR (IntKind.wrap IntKind.u32 (Int.fdiv a0 2147483648)) (IntKind.wrap IntKind.u32 a0) (IntKind.wrap IntKind.u32 a1)) = a0.tmod a1 := by
        unfold idivR; rw [hk, eN, eS, wr_i32]; simp only [if_true]; omega
      have q3 : (idivR (IntKind.wrap IntKind.u32 (Int.fdiv a0 2147483648)) (IntKind.wrap IntKind.u32 a0) (IntKind.wrap IntKind.u32 a1) == 0) = (a0.tmod a1 == 0) := by
        unfold idivR; rw [hk, eN, eS, Bool.eq_iff_iff]; simp; omega
      have hsum : a0.tdiv a1 * a1 + a0.tmod a1 = a0 := by
        have := Int.mul_tdiv_add_tmod a0 a1
        rw [Int.mul_comm] at this; exact this
      have i0 : ∀ x : Int, -2147483648 ≤ x → x < 2147483648 → IntKind.wrap IntKind.i64 x = x := fun x h h' => wr_i64_id (by omega) (by omega)
      have e9 : IntKind.wrap IntKind.i64 (IntKind.wrap IntKind.i64 (a0.tdiv a1 * a1) + a0.tmod a1) = a0 := by
        rw [wr_i64_id (n := a0.tdiv a1 * a1) (by omega) (by omega), hsum]; exact i0 a0 b0.1 b0.2
      have sg : (a0.tmod a1 == 0) = true ∨ (decide (a0.tmod a1 < 0) == decide (a0 < 0)) = true := by
        by_cases h0 : 0 ≤ a0
        · have := Int.tmod_nonneg a1 h0
          right
          have n1 : ¬ a0.tmod a1 < 0 := by omega
          have n2 : ¬ a0 < 0 := by omega
          simp [n1, n2]
        · have := Int.tmod_nonneg a1 (show 0 ≤ -a0 by omega)
          rw [Int.neg_tmod] at this
          by_cases h1 : a0.tmod a1 = 0
          · left; simpa using h1
          · right
            have n1 : a0.tmod a1 < 0 := by omega
            have n2 : a0 < 0 := by omega
            simp [n1, n2]
      simp only [hk, hz', q1, q2, q3, i0 _ hq.1 hq.2, i0 a1 b1.1 b1.2, i0 a0 b0.1 b0.2, i0 (a0.tmod a1) (by omega) hr.2, e9, cond_true, cond_false, beq_self_eq_true]
      cases ha : (a0 == -2147483648) <;> cases hb : (a1 == -1) <;> cases hc2 : (a0.tmod a1 == 0) <;> simp_all
end Go.Proofs.Ytllfmajphmfehaa.idivSigns
