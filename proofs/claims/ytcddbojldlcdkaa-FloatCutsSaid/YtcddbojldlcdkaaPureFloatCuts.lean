/- FloatCuts: the reckoning of the law, and that it is true. -/
import Derived.Test.YtcddbojldlcdkaaCFl4
import Derived.Test.YtcddbojldlcdkaaNFlt6
namespace Go.Proofs.Ytcddbojldlcdkaa.floatCuts
open Go Go.Ev
set_option linter.unusedVariables false
set_option linter.unusedSimpArgs false
set_option maxRecDepth 100000
theorem form (a0 : Int) (a1 : Int) :
    evF Try.prog ΓF4 400 12 [.v (.int .i32 a0), .v (.int .u8 a1)] [] isT (fun _ _ => none) =
    (bif in32 (IntKind.wrap IntKind.u32 (IntKind.wrap IntKind.i32 (IntKind.wrap IntKind.i32 (Int.tmod a1 7) + 1))) then
    bif in32 (IntKind.wrap IntKind.u32 a0) then
    bif
    true &&
    (in64 (fromV (IntKind.wrap IntKind.u32 a0)) &&
    in64 (fromV (IntKind.wrap IntKind.u32 (IntKind.wrap IntKind.i32 (IntKind.wrap IntKind.i32 (Int.tmod a1 7) + 1))))) then
    bif in32 (IntKind.wrap IntKind.u32 (IntKind.wrap IntKind.u32 (Int.tmod a1 5) + 2)) then
    bif true && (true && in64 (fromV (IntKind.wrap IntKind.u32 (IntKind.wrap IntKind.u32 (Int.tmod a1 5) + 2)))) then
    bif
    in64
    (doV 56 (fromV (IntKind.wrap IntKind.u32 a0))
    (fromV (IntKind.wrap IntKind.u32 (IntKind.wrap IntKind.i32 (IntKind.wrap IntKind.i32 (Int.tmod a1 7) + 1))))) then
    bif IntKind.wrap IntKind.i32 (IntKind.wrap IntKind.i32 (Int.tmod a1 7) + 1) == 0 then none
    else
    bif
    IntKind.wrap IntKind.i32
    (toV
    (doV 56 (fromV (IntKind.wrap IntKind.u32 a0))
    (fromV (IntKind.wrap IntKind.u32 (IntKind.wrap IntKind.i32 (IntKind.wrap IntKind.i32 (Int.tmod a1 7) + 1)))))) ==
    IntKind.wrap IntKind.i32 (Int.tdiv a0 (IntKind.wrap IntKind.i32 (IntKind.wrap IntKind.i32 (Int.tmod a1 7) + 1))) then
    bif
    in64 (doV 53 4742290407621132288 (fromV (IntKind.wrap IntKind.u32 (IntKind.wrap IntKind.u32 (Int.tmod a1 5) + 2)))) then
    bif
    toV (doV 53 4742290407621132288 (fromV (IntKind.wrap IntKind.u32 (IntKind.wrap IntKind.u32 (Int.tmod a1 5) + 2)))) ==
    2147483648 then
    some true
    else some false
    else none
    else some false
    else none
    else none
    else none
    else none
    else none
    else none) := by kernel_rfl
set_option maxHeartbeats 1000000 in
theorem pure (a0 : Int) (a1 : Int) (w0 : (Lit.int .i32 a0).wf = true) (w1 : (Lit.int .u8 a1).wf = true) :
    evF Try.prog ΓF4 400 12 [.v (.int .i32 a0), .v (.int .u8 a1)] [] isT (fun _ _ => none) = some true := by
  rw [form]
  try simp only [bitsL_eq]
  have b0 := wf_i32 w0
  have b1 := wf_u8 w1
  have e7 : Int.tmod a1 7 = a1 % 7 := Int.tmod_eq_emod_of_nonneg b1.1
  have e5 : Int.tmod a1 5 = a1 % 5 := Int.tmod_eq_emod_of_nonneg b1.1
  have wi : ∀ x : Int, -2147483648 ≤ x → x ≤ 2147483647 → IntKind.wrap .i32 x = x := fun x h1 h2 => by rw [IntKind.wrap_i32]; omega
  have wi2 : ∀ x : Int, -2147483648 ≤ x → x ≤ 2147483647 → IntKind.wrap .i32 (IntKind.wrap .u32 x) = x := fun x h1 h2 => by rw [IntKind.wrap_i32, IntKind.wrap_u32]; omega
  rw [e7, e5, wi (a1 % 7) (by omega) (by omega), wi (a1 % 7 + 1) (by omega) (by omega)]
  obtain ⟨k, hk⟩ : ∃ k, k = a1 % 7 + 1 := ⟨_, rfl⟩
  rw [← hk]
  have w5 : IntKind.wrap .u32 (IntKind.wrap .u32 (a1 % 5) + 2) = IntKind.wrap .u32 (a1 % 5 + 2) := by rw [IntKind.wrap_u32, IntKind.wrap_u32, IntKind.wrap_u32]; omega
  rw [w5]
  have ix := fromV_int (n := a0) (by omega) (by omega)
  have ik := fromV_int (n := k) (by omega) (by omega)
  have i5 := fromV_int (n := a1 % 5 + 2) (by omega) (by omega)
  have ib : IntD 4742290407621132288 1073741824 := ⟨by omega, by omega, false, const_fin (m := 4503599627370496) (i := -22) (by decide) (by decide) (by decide +kernel), by decide⟩
  have hq : -2147483648 ≤ a0.tdiv k ∧ a0.tdiv k ≤ 2147483647 := by
    have h1 : (a0.tdiv k).natAbs ≤ a0.natAbs := by rw [Int.natAbs_tdiv]; exact Nat.div_le_self _ _
    have h2 : 0 ≤ a0 → 0 ≤ a0.tdiv k := fun h => Int.tdiv_nonneg h (by omega)
    have h3 : a0 ≤ 0 → a0.tdiv k ≤ 0 := fun h => by
      have := Int.tdiv_nonneg (a := -a0) (b := k) (by omega) (by omega)
      rw [Int.neg_tdiv] at this; omega
    omega
  obtain ⟨k1, r1⟩ := ix.quo ik (by omega) (by omega) (by omega) hq.2
  obtain ⟨k2, r2⟩ := ib.mul i5 (by
    have : (1073741824 * (a1 % 5 + 2)).natAbs ≤ 1073741824 * 6 := by rw [Int.natAbs_mul]; exact Nat.mul_le_mul_left _ (by omega)
    omega)
  have o1 : doV 56 (fromV (IntKind.wrap .u32 a0)) (fromV (IntKind.wrap .u32 k)) = (fval .quo (fromV (IntKind.wrap .u32 a0)).toNat (fromV (IntKind.wrap .u32 k)).toNat : Int) := by
    simp [doV, arV, ix.nan, ik.nan, k1]
  have o2 : doV 53 4742290407621132288 (fromV (IntKind.wrap .u32 (a1 % 5 + 2))) = (fval .mul (4742290407621132288 : Int).toNat (fromV (IntKind.wrap .u32 (a1 % 5 + 2))).toNat : Int) := by
    simp only [doV, arV, ib.nan, i5.nan, k2]; rfl
  have g1 : in64 (fval .quo (fromV (IntKind.wrap .u32 a0)).toNat (fromV (IntKind.wrap .u32 k)).toNat : Int) = true := by
    have := fval_lt .quo (fromV (IntKind.wrap .u32 a0)).toNat (fromV (IntKind.wrap .u32 k)).toNat
    rw [in64_iff]; omega
  have g2 := in64_iff.2 ⟨r2.pos, r2.lt⟩
  have hk0 : (k == 0) = false := by simp; omega
  simp only [o1, o2, g1, g2, r1, r2.toV_big (by omega), fromV_in, in32_wr, hk0, Bool.and_self, Bool.and_true, Bool.true_and, cond_true, cond_false, beq_self_eq_true]
  rw [wi2 _ hq.1 hq.2, wi _ hq.1 hq.2]
  simp
end Go.Proofs.Ytcddbojldlcdkaa.floatCuts
