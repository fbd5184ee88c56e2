/- FloatRoots: the reckoning of the law, and that it is true. -/
import Derived.Test.YtcddbojldlcdkaaCFl4
import Derived.Test.YtcddbojldlcdkaaNFlt6
namespace Go.Proofs.Ytcddbojldlcdkaa.floatRoots
open Go Go.Ev
set_option linter.unusedVariables false
set_option linter.unusedSimpArgs false
set_option maxRecDepth 100000
theorem form (a0 : Int) (a1 : Int) :
    evF Try.prog ΓF4 400 13 [.v (.int .i32 a0), .v (.int .u64 a1)] [] isT (fun _ _ => none) =
    (bif in32 (IntKind.wrap IntKind.u32 (Int.fdiv a0 64)) then
    bif
    true &&
    (in64 (fromV (IntKind.wrap IntKind.u32 (Int.fdiv a0 64))) &&
    in64 (fromV (IntKind.wrap IntKind.u32 (Int.fdiv a0 64)))) then
    bif
    true &&
    (in64 a1 &&
    in64
    (doV 53 (fromV (IntKind.wrap IntKind.u32 (Int.fdiv a0 64))) (fromV (IntKind.wrap IntKind.u32 (Int.fdiv a0 64))))) then
    bif decide (Int.fdiv a0 64 < 0) then
    bif
    in32
    (IntKind.wrap IntKind.u32
    (IntKind.wrap IntKind.i32 (IntKind.wrap IntKind.i32 (0 - IntKind.wrap IntKind.i32 (0 - Int.fdiv a0 64)) - 1))) then
    bif
    true &&
    (in64 a1 &&
    in64
    (fromV
    (IntKind.wrap IntKind.u32
    (IntKind.wrap IntKind.i32 (IntKind.wrap IntKind.i32 (0 - IntKind.wrap IntKind.i32 (0 - Int.fdiv a0 64)) - 1))))) then
    bif in32 (IntKind.wrap IntKind.u32 (IntKind.wrap IntKind.i32 (0 - Int.fdiv a0 64))) then
    bif
    doV 58 a1
    (doV 53 (fromV (IntKind.wrap IntKind.u32 (Int.fdiv a0 64))) (fromV (IntKind.wrap IntKind.u32 (Int.fdiv a0 64)))) ==
    fromV (IntKind.wrap IntKind.u32 (IntKind.wrap IntKind.i32 (0 - Int.fdiv a0 64))) then
    some
    (doV 58 a1
    (fromV
    (IntKind.wrap IntKind.u32
    (IntKind.wrap IntKind.i32 (IntKind.wrap IntKind.i32 (0 - IntKind.wrap IntKind.i32 (0 - Int.fdiv a0 64)) - 1)))) ==
    18444492273895866368)
    else some false
    else none
    else none
    else none
    else
    bif in32 (IntKind.wrap IntKind.u32 (IntKind.wrap IntKind.i32 (IntKind.wrap IntKind.i32 (0 - Int.fdiv a0 64) - 1))) then
    bif
    true &&
    (in64 a1 &&
    in64
    (fromV (IntKind.wrap IntKind.u32 (IntKind.wrap IntKind.i32 (IntKind.wrap IntKind.i32 (0 - Int.fdiv a0 64) - 1))))) then
    bif in32 (IntKind.wrap IntKind.u32 (Int.fdiv a0 64)) then
    bif
    doV 58 a1
    (doV 53 (fromV (IntKind.wrap IntKind.u32 (Int.fdiv a0 64))) (fromV (IntKind.wrap IntKind.u32 (Int.fdiv a0 64)))) ==
    fromV (IntKind.wrap IntKind.u32 (Int.fdiv a0 64)) then
    some
    (doV 58 a1
    (fromV (IntKind.wrap IntKind.u32 (IntKind.wrap IntKind.i32 (IntKind.wrap IntKind.i32 (0 - Int.fdiv a0 64) - 1)))) ==
    18444492273895866368)
    else some false
    else none
    else none
    else none
    else none
    else none
    else none) := by kernel_rfl
set_option maxHeartbeats 1000000 in
theorem pure (a0 : Int) (a1 : Int) (w0 : (Lit.int .i32 a0).wf = true) (w1 : (Lit.int .u64 a1).wf = true) :
    evF Try.prog ΓF4 400 13 [.v (.int .i32 a0), .v (.int .u64 a1)] [] isT (fun _ _ => none) = some true := by
  rw [form]
  try simp only [bitsL_eq]
  have b0 := wf_i32 w0
  have g1 := in64_iff.2 (wf_u64 w1)
  have fd : Int.fdiv a0 64 = a0 / 64 := Int.fdiv_eq_ediv_of_nonneg _ (by omega)
  have wi : ∀ x : Int, -2147483648 ≤ x → x ≤ 2147483647 → IntKind.wrap .i32 x = x := fun x h1 h2 => by rw [IntKind.wrap_i32]; omega
  rw [fd]
  obtain ⟨k, hk⟩ : ∃ k, k = a0 / 64 := ⟨_, rfl⟩
  rw [← hk]
  have i0 := IntD.zero
  have neg : ∀ n : Int, -2147483648 ≤ n → n < 0 → doV 58 a1 (fromV (IntKind.wrap .u32 n)) = 18444492273895866368 := fun n h1 h2 => by
    have h := fromV_int (n := n) h1 (by omega)
    have hl := h.lt' i0
    have hn := h.nan
    have hf := fsqok_eq (a := (fromV (IntKind.wrap .u32 n)).toNat) (by rw [fnan_nanI h.pos]; exact hn)
    have h0 : (0 : Int).toNat = 0 := rfl
    rw [h0] at hl
    rw [hl, decide_eq_true h2] at hf
    simp [doV, sqV, hn, hf, plainI]
  have root : ∀ n : Int, -33554432 ≤ n → n ≤ 33554432 → doV 58 a1 (doV 53 (fromV (IntKind.wrap .u32 n)) (fromV (IntKind.wrap .u32 n))) = fromV (IntKind.wrap .u32 n.natAbs) ∧ in64 (doV 53 (fromV (IntKind.wrap .u32 n)) (fromV (IntKind.wrap .u32 n))) = true := fun n h1 h2 => by
    by_cases hn0 : n = 0
    · subst hn0
      have e : doV 53 (fromV (IntKind.wrap .u32 0)) (fromV (IntKind.wrap .u32 0)) = 0 := by decide +kernel
      rw [e]
      have e2 : ∀ a, doV 58 a 0 = 0 := fun a => by
        have h3 : sqV 0 = 0 := by decide +kernel
        show sqV 0 = 0
        exact h3
      exact ⟨by rw [e2]; decide +kernel, by decide⟩
    · have h := fromV_int (n := n) (by omega) (by omega)
      have hnn : (n * n).natAbs ≤ 33554432 * 33554432 := by rw [Int.natAbs_mul]; exact Nat.mul_le_mul (by omega) (by omega)
      obtain ⟨k1, r1⟩ := h.mul h (by omega)
      have o1 : doV 53 (fromV (IntKind.wrap .u32 n)) (fromV (IntKind.wrap .u32 n)) = (fval .mul (fromV (IntKind.wrap .u32 n)).toNat (fromV (IntKind.wrap .u32 n)).toNat : Int) := by
        simp [doV, arV, h.nan, k1]
      rw [o1]
      refine ⟨?_, in64_iff.2 ⟨r1.pos, r1.lt⟩⟩
      obtain ⟨s, hf, hs⟩ := r1.fin
      have hpos : 0 < n * n := by
        rcases (show n < 0 ∨ 0 < n by omega) with h | h
        · exact Int.mul_pos_of_neg_of_neg h h
        · exact Int.mul_pos h h
      have hsf : s = false := by
        cases s with
        | false => rfl
        | true => simp [sgV] at hs; omega
      subst hsf
      rw [Int.natAbs_mul] at hf
      obtain ⟨q1, q2⟩ := root_fin hf (by omega) (by omega)
      have hnan := r1.nan
      have o2 : ∀ a b : Int, nanI b = false → fsqok b.toNat = true → doV 58 a b = (fsqrt b.toNat : Int) := fun a b h1 h2 => by
        simp [doV, sqV, h1, h2]
      rw [o2 _ _ hnan q1]
      obtain ⟨t, hf2, hs2⟩ := (fromV_int (n := (n.natAbs : Int)) (by omega) (by omega)).fin
      have htf : t = false := by
        cases t with
        | false => rfl
        | true => simp [sgV] at hs2; omega
      subst htf
      have hin := in64_iff.1 (fromV_in (IntKind.wrap .u32 (n.natAbs : Int)))
      have hfin : FinD (fromV (IntKind.wrap .u32 (n.natAbs : Int))).toNat false (n.natAbs * unitV) := by
        have e : ((n.natAbs : Int)).natAbs = n.natAbs := Int.natAbs_natCast _
        rw [e] at hf2; exact hf2
      have hval := q2.inj hfin (fsqrt_lt _) ((Int.toNat_lt hin.1).2 hin.2)
      rw [hval]
      exact Int.toNat_of_nonneg hin.1
  obtain ⟨r1, r2⟩ := root k (by omega) (by omega)
  by_cases hneg : k < 0
  · have e1 : IntKind.wrap .i32 (0 - k) = -k := by rw [wi _ (by omega) (by omega)]; omega
    have e2 : IntKind.wrap .i32 (IntKind.wrap .i32 (0 - IntKind.wrap .i32 (0 - k)) - 1) = k - 1 := by rw [e1, wi (0 - -k) (by omega) (by omega), wi _ (by omega) (by omega)]; omega
    have e3 : -k = (k.natAbs : Int) := by omega
    rw [e2, e1]
    simp only [r1, r2, neg (k - 1) (by omega) (by omega), decide_eq_true hneg, g1, fromV_in, in32_wr, Bool.and_self, Bool.and_true, Bool.true_and, cond_true, e3, beq_self_eq_true]
  · have e1 : IntKind.wrap .i32 (IntKind.wrap .i32 (0 - k) - 1) = -k - 1 := by rw [wi (0 - k) (by omega) (by omega), wi _ (by omega) (by omega)]; omega
    have e3 : (k.natAbs : Int) = k := by omega
    rw [e3] at r1
    rw [e1]
    simp only [r1, r2, neg (-k - 1) (by omega) (by omega), decide_eq_false hneg, g1, fromV_in, in32_wr, Bool.and_self, Bool.and_true, Bool.true_and, cond_true, cond_false, beq_self_eq_true]
end Go.Proofs.Ytcddbojldlcdkaa.floatRoots
