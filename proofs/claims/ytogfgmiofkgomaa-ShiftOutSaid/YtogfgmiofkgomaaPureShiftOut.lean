/- ShiftOut: the reckoning of the law, and that it is true. -/
import Derived.Test.YtogfgmiofkgomaaCSh3
import Derived.Test.YtogfgmiofkgomaaNShLaw
namespace Go.Proofs.Ytogfgmiofkgomaa.shiftOut
open Go Go.Ev
set_option linter.unusedVariables false
set_option linter.unusedSimpArgs false
set_option maxRecDepth 100000
theorem form (a0 : Int) (a1 : Int) (a2_0 : Bool) (a2_1 : Bool) (a2_2 : Bool) (a2_3 : Bool) (a2_4 : Bool) (a2_5 : Bool) :
    evF Try.prog ΓSh3 400 12 [.v (.int .u32 a0), .v (.int .u8 a1), .agg [.v (.bool a2_0), .v (.bool a2_1), .v (.bool a2_2), .v (.bool a2_3), .v (.bool a2_4), .v (.bool a2_5)]] [] isT (fun _ _ => none) =
    (bif in32 a0 && in32 (IntKind.wrap IntKind.u32 (IntKind.wrap IntKind.u32 (Int.tmod a1 31) + 1)) then
    bif in32 a0 && in32 (IntKind.wrap IntKind.u32 (IntKind.wrap IntKind.u32 (Int.tmod a1 31) + 1)) then
    bif in32 a0 && in32 (IntKind.wrap IntKind.u32 (IntKind.wrap IntKind.u32 (Int.tmod a1 31) + 1)) then
    bif
    decide
    (0 ≤ IntKind.wrap IntKind.u32 (32 - IntKind.wrap IntKind.u32 (IntKind.wrap IntKind.u32 (Int.tmod a1 31) + 1))) then
    bif
    rC 28 a0 (IntKind.wrap IntKind.u32 (IntKind.wrap IntKind.u32 (Int.tmod a1 31) + 1)) a2_0 ==
    (bitsL BinOp.and IntKind.u32
    (Int.fdiv a0
    (2 ^
    min
    (Int.toNat (IntKind.wrap IntKind.u32 (32 - IntKind.wrap IntKind.u32 (IntKind.wrap IntKind.u32 (Int.tmod a1 31) + 1))))
    32))
    1 ==
    1) then
    bif
    decide
    (0 ≤ IntKind.wrap IntKind.u32 (IntKind.wrap IntKind.u32 (IntKind.wrap IntKind.u32 (Int.tmod a1 31) + 1) - 1)) then
    bif
    rC 29 a0 (IntKind.wrap IntKind.u32 (IntKind.wrap IntKind.u32 (Int.tmod a1 31) + 1)) a2_0 ==
    (bitsL BinOp.and IntKind.u32
    (Int.fdiv a0
    (2 ^
    min
    (Int.toNat (IntKind.wrap IntKind.u32 (IntKind.wrap IntKind.u32 (IntKind.wrap IntKind.u32 (Int.tmod a1 31) + 1) - 1)))
    32))
    1 ==
    1) then
    bif
    rC 30 a0 (IntKind.wrap IntKind.u32 (IntKind.wrap IntKind.u32 (Int.tmod a1 31) + 1)) a2_0 ==
    rC 29 a0 (IntKind.wrap IntKind.u32 (IntKind.wrap IntKind.u32 (Int.tmod a1 31) + 1)) a2_0 then
    bif a2_5 == a2_5 then some !rO 30 a0 (IntKind.wrap IntKind.u32 (IntKind.wrap IntKind.u32 (Int.tmod a1 31) + 1)) a2_4
    else some false
    else some false
    else some false
    else none
    else some false
    else none
    else none
    else none
    else none) := by kernel_rfl
set_option maxHeartbeats 1000000 in
theorem pure (a0 : Int) (a1 : Int) (a2_0 : Bool) (a2_1 : Bool) (a2_2 : Bool) (a2_3 : Bool) (a2_4 : Bool) (a2_5 : Bool) (w0 : (Lit.int .u32 a0).wf = true) (w1 : (Lit.int .u8 a1).wf = true) :
    evF Try.prog ΓSh3 400 12 [.v (.int .u32 a0), .v (.int .u8 a1), .agg [.v (.bool a2_0), .v (.bool a2_1), .v (.bool a2_2), .v (.bool a2_3), .v (.bool a2_4), .v (.bool a2_5)]] [] isT (fun _ _ => none) = some true := by
  rw [form]
  try simp only [bitsL_eq]
  have b0 := wf_u32 w0
  have b1 := wf_u8 w1
  have g0 := in32_iff.2 b0
  have et : Int.tmod a1 31 = a1 % 31 := Int.tmod_eq_emod_of_nonneg b1.1
  obtain ⟨k, hk⟩ : ∃ k, k = a1 % 31 + 1 := ⟨_, rfl⟩
  have kb : 1 ≤ k ∧ k ≤ 31 := by omega
  have e1 : IntKind.wrap IntKind.u32 (IntKind.wrap IntKind.u32 (Int.tmod a1 31) + 1) = k := by rw [et, wr_u32_id (n := a1 % 31) (by omega) (by omega), wr_u32_id (by omega) (by omega), hk]
  have gk : in32 k = true := in32_iff.2 (by omega)
  have e2 : IntKind.wrap IntKind.u32 (32 - k) = 32 - k := wr_u32_id (by omega) (by omega)
  have e3 : IntKind.wrap IntKind.u32 (k - 1) = k - 1 := wr_u32_id (by omega) (by omega)
  have d2 : decide (0 ≤ 32 - k) = true := decide_eq_true (by omega)
  have d3 : decide (0 ≤ k - 1) = true := decide_eq_true (by omega)
  have hm : k % 32 = k := by omega
  have n2 : min (Int.toNat (32 - k)) 32 = 32 - shK k := by have := shK_min' k; rw [hm] at this; exact this
  have n3 : min (Int.toNat (k - 1)) 32 = shK k - 1 := by have := shK_min1 k; rw [hm] at this; exact this
  have hp : 0 < shK k := by have := shK_eq k; omega
  have on : ∀ op, knownV op = true → shOn op k = true := fun op ho => by
    unfold shOn; rw [ho, hm]; have : (k == 0) = false := by simpa using (show k ≠ 0 by omega)
    rw [this]; rfl
  have c28 : rC 28 a0 k a2_0 = (a0 / 2 ^ (32 - shK k) % 2 == 1) := by unfold rC; rw [on 28 rfl, cond_true, shC28 a0 hp]
  have c29 : rC 29 a0 k a2_0 = (a0 / 2 ^ (shK k - 1) % 2 == 1) := by unfold rC; rw [on 29 rfl, cond_true, shC29 a0 hp]
  have c30 : rC 30 a0 k a2_0 = (a0 / 2 ^ (shK k - 1) % 2 == 1) := by unfold rC; rw [on 30 rfl, cond_true, shC30 a0 hp]
  have o30 : rO 30 a0 k a2_4 = false := by unfold rO; rw [on 30 rfl, cond_true]; rfl
  have p2 : ∀ j : Nat, (0 : Int) < 2 ^ j := fun j => Int.pow_pos (by decide)
  have c1 : ∀ j : Nat, bits BinOp.and IntKind.u32 (a0 / 2 ^ j) 1 = a0 / 2 ^ j % 2 := fun j => and_1 (Int.ediv_nonneg b0.1 (Int.le_of_lt (p2 j))) (Int.lt_of_le_of_lt (Int.ediv_le_self _ b0.1) b0.2)
  simp only [e1, g0, gk, e2, e3, d2, d3, n2, n3, fdiv_pow, c1, c28, c29, c30, o30, Bool.and_self, cond_true, beq_self_eq_true, Bool.not_false]
end Go.Proofs.Ytogfgmiofkgomaa.shiftOut
