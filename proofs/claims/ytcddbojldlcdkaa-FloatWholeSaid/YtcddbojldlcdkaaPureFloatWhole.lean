/- FloatWhole: the reckoning of the law, and that it is true. -/
import Derived.Test.YtcddbojldlcdkaaCFl4
import Derived.Test.YtcddbojldlcdkaaNFlt6
namespace Go.Proofs.Ytcddbojldlcdkaa.floatWhole
open Go Go.Ev
set_option linter.unusedVariables false
set_option linter.unusedSimpArgs false
set_option maxRecDepth 100000
theorem form (a0 : Int) (a1 : Int) :
    evF Try.prog ΓF4 400 11 [.v (.int .i32 a0), .v (.int .i32 a1)] [] isT (fun _ _ => none) =
    (bif in32 (IntKind.wrap IntKind.u32 (Int.fdiv a0 4)) then
    bif in32 (IntKind.wrap IntKind.u32 (Int.fdiv a1 4)) then
    bif
    true &&
    (in64 (fromV (IntKind.wrap IntKind.u32 (Int.fdiv a0 4))) &&
    in64 (fromV (IntKind.wrap IntKind.u32 (Int.fdiv a1 4)))) then
    bif
    in64 (doV 52 (fromV (IntKind.wrap IntKind.u32 (Int.fdiv a0 4))) (fromV (IntKind.wrap IntKind.u32 (Int.fdiv a1 4)))) then
    bif
    IntKind.wrap IntKind.i32
    (toV (doV 52 (fromV (IntKind.wrap IntKind.u32 (Int.fdiv a0 4))) (fromV (IntKind.wrap IntKind.u32 (Int.fdiv a1 4))))) !=
    IntKind.wrap IntKind.i32 (Int.fdiv a0 4 + Int.fdiv a1 4) then
    some false
    else
    bif
    true &&
    (in64 (fromV (IntKind.wrap IntKind.u32 (Int.fdiv a0 4))) &&
    in64 (fromV (IntKind.wrap IntKind.u32 (Int.fdiv a1 4)))) then
    bif
    in64 (doV 54 (fromV (IntKind.wrap IntKind.u32 (Int.fdiv a0 4))) (fromV (IntKind.wrap IntKind.u32 (Int.fdiv a1 4)))) then
    bif
    IntKind.wrap IntKind.i32
    (toV (doV 54 (fromV (IntKind.wrap IntKind.u32 (Int.fdiv a0 4))) (fromV (IntKind.wrap IntKind.u32 (Int.fdiv a1 4))))) !=
    IntKind.wrap IntKind.i32 (Int.fdiv a0 4 - Int.fdiv a1 4) then
    some false
    else
    bif in32 (IntKind.wrap IntKind.u32 (Int.fdiv a0 65536)) then
    bif in32 (IntKind.wrap IntKind.u32 (Int.fdiv a1 131072)) then
    bif
    true &&
    (in64 (fromV (IntKind.wrap IntKind.u32 (Int.fdiv a0 65536))) &&
    in64 (fromV (IntKind.wrap IntKind.u32 (Int.fdiv a1 131072)))) then
    bif
    in64
    (doV 53 (fromV (IntKind.wrap IntKind.u32 (Int.fdiv a0 65536)))
    (fromV (IntKind.wrap IntKind.u32 (Int.fdiv a1 131072)))) then
    bif
    IntKind.wrap IntKind.i32
    (toV
    (doV 53 (fromV (IntKind.wrap IntKind.u32 (Int.fdiv a0 65536)))
    (fromV (IntKind.wrap IntKind.u32 (Int.fdiv a1 131072))))) !=
    IntKind.wrap IntKind.i32 (Int.fdiv a0 65536 * Int.fdiv a1 131072) then
    some false
    else
    bif
    in64 (fromV (IntKind.wrap IntKind.u32 (Int.fdiv a0 4))) && in64 (fromV (IntKind.wrap IntKind.u32 (Int.fdiv a1 4))) then
    bif
    cC (fromV (IntKind.wrap IntKind.u32 (Int.fdiv a0 4))) (fromV (IntKind.wrap IntKind.u32 (Int.fdiv a1 4))) ==
    decide (Int.fdiv a0 4 < Int.fdiv a1 4) then
    bif
    cZ (fromV (IntKind.wrap IntKind.u32 (Int.fdiv a0 4))) (fromV (IntKind.wrap IntKind.u32 (Int.fdiv a1 4))) ==
    (Int.fdiv a0 4 == Int.fdiv a1 4) then
    some !cP (fromV (IntKind.wrap IntKind.u32 (Int.fdiv a0 4))) (fromV (IntKind.wrap IntKind.u32 (Int.fdiv a1 4)))
    else some false
    else some false
    else none
    else none
    else none
    else none
    else none
    else none
    else none
    else none
    else none
    else none
    else none) := by kernel_rfl
set_option maxHeartbeats 1000000 in
theorem pure (a0 : Int) (a1 : Int) (w0 : (Lit.int .i32 a0).wf = true) (w1 : (Lit.int .i32 a1).wf = true) :
    evF Try.prog ΓF4 400 11 [.v (.int .i32 a0), .v (.int .i32 a1)] [] isT (fun _ _ => none) = some true := by
  rw [form]
  try simp only [bitsL_eq]
  have b0 := wf_i32 w0
  have b1 := wf_i32 w1
  have fd : ∀ (x k : Int), 0 < k → Int.fdiv x k = x / k := fun x k h => Int.fdiv_eq_ediv_of_nonneg _ (by omega)
  have wi : ∀ x : Int, -2147483648 ≤ x → x ≤ 2147483647 → IntKind.wrap .i32 x = x := fun x h1 h2 => by rw [IntKind.wrap_i32]; omega
  have wi2 : ∀ x : Int, -2147483648 ≤ x → x ≤ 2147483647 → IntKind.wrap .i32 (IntKind.wrap .u32 x) = x := fun x h1 h2 => by rw [IntKind.wrap_i32, IntKind.wrap_u32]; omega
  rw [fd a0 4 (by omega), fd a1 4 (by omega), fd a0 65536 (by omega), fd a1 131072 (by omega)]
  obtain ⟨x, hx⟩ : ∃ x, x = a0 / 4 := ⟨_, rfl⟩
  obtain ⟨y, hy⟩ : ∃ y, y = a1 / 4 := ⟨_, rfl⟩
  obtain ⟨p, hp⟩ : ∃ p, p = a0 / 65536 := ⟨_, rfl⟩
  obtain ⟨q, hq⟩ : ∃ q, q = a1 / 131072 := ⟨_, rfl⟩
  rw [← hx, ← hy, ← hp, ← hq]
  have ix := fromV_int (n := x) (by omega) (by omega)
  have iy := fromV_int (n := y) (by omega) (by omega)
  have ip := fromV_int (n := p) (by omega) (by omega)
  have iq := fromV_int (n := q) (by omega) (by omega)
  have hpq : -1073741824 ≤ p * q ∧ p * q ≤ 1073741824 := by
    have h1 : (p * q).natAbs ≤ 32768 * 16384 := by
      rw [Int.natAbs_mul]
      exact Nat.mul_le_mul (by omega) (by omega)
    omega
  obtain ⟨k1, r1⟩ := ix.add iy (by omega)
  obtain ⟨k2, r2⟩ := ix.sub iy (by omega)
  obtain ⟨k3, r3⟩ := ip.mul iq (by omega)
  have o1 : doV 52 (fromV (IntKind.wrap .u32 x)) (fromV (IntKind.wrap .u32 y)) = (fval .add (fromV (IntKind.wrap .u32 x)).toNat (fromV (IntKind.wrap .u32 y)).toNat : Int) := by
    simp [doV, arV, ix.nan, iy.nan, k1]
  have o2 : doV 54 (fromV (IntKind.wrap .u32 x)) (fromV (IntKind.wrap .u32 y)) = (fval .sub (fromV (IntKind.wrap .u32 x)).toNat (fromV (IntKind.wrap .u32 y)).toNat : Int) := by
    simp [doV, arV, ix.nan, iy.nan, k2]
  have o3 : doV 53 (fromV (IntKind.wrap .u32 p)) (fromV (IntKind.wrap .u32 q)) = (fval .mul (fromV (IntKind.wrap .u32 p)).toNat (fromV (IntKind.wrap .u32 q)).toNat : Int) := by
    simp [doV, arV, ip.nan, iq.nan, k3]
  have c1 : cC (fromV (IntKind.wrap .u32 x)) (fromV (IntKind.wrap .u32 y)) = decide (x < y) := by simp [cC, cP, ix.nan, iy.nan, ix.lt' iy]
  have c2 : cZ (fromV (IntKind.wrap .u32 x)) (fromV (IntKind.wrap .u32 y)) = (x == y) := by
    simp [cZ, cP, ix.nan, iy.nan, ix.eq' iy]
    rfl
  have c3 : cP (fromV (IntKind.wrap .u32 x)) (fromV (IntKind.wrap .u32 y)) = false := by simp [cP, ix.nan, iy.nan]
  have g1 := in64_iff.2 ⟨r1.pos, r1.lt⟩
  have g2 := in64_iff.2 ⟨r2.pos, r2.lt⟩
  have g3 := in64_iff.2 ⟨r3.pos, r3.lt⟩
  simp only [o1, o2, o3, c1, c2, c3, g1, g2, g3, r1.toV (by omega) (by omega), r2.toV (by omega) (by omega), r3.toV (by omega) (by omega), fromV_in, in32_wr, Bool.and_self, cond_true]
  rw [wi2 (x + y) (by omega) (by omega), wi2 (x - y) (by omega) (by omega), wi2 (p * q) (by omega) (by omega), wi (x + y) (by omega) (by omega), wi (x - y) (by omega) (by omega), wi (p * q) (by omega) (by omega)]
  simp
end Go.Proofs.Ytcddbojldlcdkaa.floatWhole
