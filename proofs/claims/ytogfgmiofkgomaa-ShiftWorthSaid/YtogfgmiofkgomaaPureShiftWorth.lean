/- ShiftWorth: the reckoning of the law, and that it is true. -/
import Derived.Test.YtogfgmiofkgomaaCSh3
import Derived.Test.YtogfgmiofkgomaaNShLaw
namespace Go.Proofs.Ytogfgmiofkgomaa.shiftWorth
open Go Go.Ev
set_option linter.unusedVariables false
set_option linter.unusedSimpArgs false
set_option maxRecDepth 100000
theorem form (a0 : Int) (a1 : Int) :
    evF Try.prog ΓSh3 400 11 [.v (.int .u32 a0), .v (.int .u8 a1)] [] isT (fun _ _ => none) =
    (bif in32 a0 && in32 (IntKind.wrap IntKind.u32 (Int.tmod a1 31)) then
    bif in32 a0 && in32 (IntKind.wrap IntKind.u32 (Int.tmod a1 31)) then
    bif in32 a0 && in32 (IntKind.wrap IntKind.u32 (Int.tmod a1 31)) then
    bif decide (0 ≤ IntKind.wrap IntKind.u32 (Int.tmod a1 31)) then
    bif IntKind.wrap IntKind.i64 (1 * 2 ^ min (Int.toNat (IntKind.wrap IntKind.u32 (Int.tmod a1 31))) 64) == 0 then none
    else
    bif IntKind.wrap IntKind.i64 (1 * 2 ^ min (Int.toNat (IntKind.wrap IntKind.u32 (Int.tmod a1 31))) 64) == 0 then none
    else
    bif
    decide
    (Int.tmod (IntKind.wrap IntKind.i64 (IntKind.wrap IntKind.i32 a0))
    (IntKind.wrap IntKind.i64 (1 * 2 ^ min (Int.toNat (IntKind.wrap IntKind.u32 (Int.tmod a1 31))) 64)) <
    0) then
    bif
    rV 28 a0 (IntKind.wrap IntKind.u32 (Int.tmod a1 31)) ==
    IntKind.wrap IntKind.u32
    (a0 *
    IntKind.wrap IntKind.u32
    (IntKind.wrap IntKind.i64 (1 * 2 ^ min (Int.toNat (IntKind.wrap IntKind.u32 (Int.tmod a1 31))) 64))) then
    bif
    IntKind.wrap IntKind.u32
    (IntKind.wrap IntKind.i64 (1 * 2 ^ min (Int.toNat (IntKind.wrap IntKind.u32 (Int.tmod a1 31))) 64)) ==
    0 then
    none
    else
    bif
    rV 29 a0 (IntKind.wrap IntKind.u32 (Int.tmod a1 31)) ==
    IntKind.wrap IntKind.u32
    (Int.tdiv a0
    (IntKind.wrap IntKind.u32
    (IntKind.wrap IntKind.i64 (1 * 2 ^ min (Int.toNat (IntKind.wrap IntKind.u32 (Int.tmod a1 31))) 64)))) then
    some
    (IntKind.wrap IntKind.i64 (IntKind.wrap IntKind.i32 (rV 30 a0 (IntKind.wrap IntKind.u32 (Int.tmod a1 31)))) ==
    IntKind.wrap IntKind.i64
    (IntKind.wrap IntKind.i64
    (Int.tdiv (IntKind.wrap IntKind.i64 (IntKind.wrap IntKind.i32 a0))
    (IntKind.wrap IntKind.i64 (1 * 2 ^ min (Int.toNat (IntKind.wrap IntKind.u32 (Int.tmod a1 31))) 64))) -
    1))
    else some false
    else some false
    else
    bif
    rV 28 a0 (IntKind.wrap IntKind.u32 (Int.tmod a1 31)) ==
    IntKind.wrap IntKind.u32
    (a0 *
    IntKind.wrap IntKind.u32
    (IntKind.wrap IntKind.i64 (1 * 2 ^ min (Int.toNat (IntKind.wrap IntKind.u32 (Int.tmod a1 31))) 64))) then
    bif
    IntKind.wrap IntKind.u32
    (IntKind.wrap IntKind.i64 (1 * 2 ^ min (Int.toNat (IntKind.wrap IntKind.u32 (Int.tmod a1 31))) 64)) ==
    0 then
    none
    else
    bif
    rV 29 a0 (IntKind.wrap IntKind.u32 (Int.tmod a1 31)) ==
    IntKind.wrap IntKind.u32
    (Int.tdiv a0
    (IntKind.wrap IntKind.u32
    (IntKind.wrap IntKind.i64 (1 * 2 ^ min (Int.toNat (IntKind.wrap IntKind.u32 (Int.tmod a1 31))) 64)))) then
    some
    (IntKind.wrap IntKind.i64 (IntKind.wrap IntKind.i32 (rV 30 a0 (IntKind.wrap IntKind.u32 (Int.tmod a1 31)))) ==
    IntKind.wrap IntKind.i64
    (Int.tdiv (IntKind.wrap IntKind.i64 (IntKind.wrap IntKind.i32 a0))
    (IntKind.wrap IntKind.i64 (1 * 2 ^ min (Int.toNat (IntKind.wrap IntKind.u32 (Int.tmod a1 31))) 64))))
    else some false
    else some false
    else none
    else none
    else none
    else none) := by kernel_rfl
set_option maxHeartbeats 1000000 in
theorem pure (a0 : Int) (a1 : Int) (w0 : (Lit.int .u32 a0).wf = true) (w1 : (Lit.int .u8 a1).wf = true) :
    evF Try.prog ΓSh3 400 11 [.v (.int .u32 a0), .v (.int .u8 a1)] [] isT (fun _ _ => none) = some true := by
  rw [form]
  try simp only [bitsL_eq]
  have b0 := wf_u32 w0
  have b1 := wf_u8 w1
  have g0 := in32_iff.2 b0
  have t1 : Int.tmod a1 31 = a1 % 31 := Int.tmod_eq_emod_of_nonneg b1.1
  obtain ⟨k, hk⟩ : ∃ k, k = a1 % 31 := ⟨_, rfl⟩
  have kb : 0 ≤ k ∧ k ≤ 30 := by omega
  have ek : IntKind.wrap IntKind.u32 (Int.tmod a1 31) = k := by rw [t1, wr_u32_id (by omega) (by omega), hk]
  have gk : in32 k = true := in32_iff.2 (by omega)
  have dk : decide (0 ≤ k) = true := decide_eq_true kb.1
  have em : min (Int.toNat k) 64 = shK k := by unfold shK; omega
  have kl : shK k ≤ 30 := by unfold shK; omega
  obtain ⟨d, hd⟩ : ∃ d : Int, d = 2 ^ shK k := ⟨_, rfl⟩
  have db : 0 < d ∧ d ≤ 1073741824 := by
    rw [hd]
    exact ⟨Int.pow_pos (by decide), by
      have := Nat.pow_le_pow_right (show 0 < 2 by decide) kl
      have e : ((2 : Int) ^ shK k) = ((2 ^ shK k : Nat) : Int) := by simp
      rw [e]; simp at this ⊢; omega⟩
  have e1 : IntKind.wrap IntKind.i64 (1 * d) = d := by rw [Int.one_mul, wr_i64_id (by omega) (by omega)]
  have e2 : IntKind.wrap IntKind.u32 d = d := wr_u32_id (by omega) (by omega)
  have nz : (d == 0) = false := by simpa using (show d ≠ 0 by omega)
  have s28 : rV 28 a0 k = IntKind.wrap IntKind.u32 (a0 * d) := by rw [rV_eq rfl b0.1 b0.2, wr_u32, hd]; rfl
  have q29 : Int.tdiv a0 d = a0 / d := Int.tdiv_eq_ediv_of_nonneg b0.1
  have s29 : rV 29 a0 k = IntKind.wrap IntKind.u32 (a0 / d) := by
    rw [wr_u32_id (Int.ediv_nonneg b0.1 (by omega)) (Int.lt_of_le_of_lt (Int.ediv_le_self _ b0.1) b0.2), rV_eq rfl b0.1 b0.2, hd]; rfl
  have sb := s32_bd b0.1 b0.2
  have e3 : IntKind.wrap IntKind.i32 a0 = s32 a0 := wr_i32_s b0.1 b0.2
  have e4 : IntKind.wrap IntKind.i64 (s32 a0) = s32 a0 := wr_i64_id (by omega) (by omega)
  have fb : -2147483648 ≤ s32 a0 / d ∧ s32 a0 / d ≤ 2147483647 := by
    refine ⟨Int.le_ediv_of_mul_le db.1 (by omega), ?_⟩
    exact Int.le_of_lt_add_one (Int.ediv_lt_of_lt_mul db.1 (by omega))
  have s30 : rV 30 a0 k = s32 a0 / d % 4294967296 := by rw [rV_eq rfl b0.1 b0.2, hd]; rfl
  have e5 : IntKind.wrap IntKind.i32 (rV 30 a0 k) = s32 a0 / d := by rw [s30, wr_i32]; omega
  have e6 : IntKind.wrap IntKind.i64 (s32 a0 / d) = s32 a0 / d := wr_i64_id (by omega) (by omega)
  have hf := floor_t (s32 a0) db.1
  simp only [ek, g0, gk, dk, em, ← hd, e1, e2, nz, e3, e4, s28, q29, s29, e5, e6, Bool.and_self, cond_true, cond_false, beq_self_eq_true]
  by_cases hn : Int.tmod (s32 a0) d < 0
  · rw [decide_eq_true hn, cond_true] at hf
    have hq : IntKind.wrap IntKind.i64 (Int.tdiv (s32 a0) d) = Int.tdiv (s32 a0) d := wr_i64_id (by omega) (by omega)
    rw [decide_eq_true hn, cond_true, hq, hf, e6, beq_self_eq_true]
  · rw [decide_eq_false hn, cond_false] at hf
    rw [decide_eq_false hn, cond_false, hf, e6, beq_self_eq_true]
end Go.Proofs.Ytogfgmiofkgomaa.shiftWorth
