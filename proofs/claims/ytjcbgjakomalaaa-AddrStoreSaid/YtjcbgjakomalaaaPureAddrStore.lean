/- AddrStore: the reckoning of the law, and that it is true. -/
import Derived.Test.YtjcbgjakomalaaaCMm6
import Derived.Test.YtjcbgjakomalaaaNBus
namespace Go.Proofs.Ytjcbgjakomalaaa.addrStore
open Go Go.Ev
set_option linter.unusedVariables false
set_option linter.unusedSimpArgs false
set_option maxRecDepth 100000
theorem form (a0_0 : Int) (a0_1 : Int) (a0_2 : Int) (a0_3 : Int) (a0_4 : Int) (a0_5 : Int) (a0_6 : Int) (a0_7 : Int) (a0_8 : Int) (a0_9 : Bool) (a0_10 : Bool) (a0_11 : Bool) (a0_12 : Bool) (a0_13 : Bool) (a0_14 : Bool) (a0_15 : Int) (a0_16 : Int) (a0_17 : Int) (a0_18 : Int) (a0_19 : Int) (a0_20 : Int) (a0_21 : Int) (a0_22 : Int) (a1 : Int) (a2 : Int) (a3 : Int) :
    evF Try.prog ΓM6 400 6 [.agg [.v (.int .u32 a0_0), .v (.int .u32 a0_1), .v (.int .u32 a0_2), .v (.int .u32 a0_3), .v (.int .u32 a0_4), .v (.int .u32 a0_5), .v (.int .u32 a0_6), .v (.int .u32 a0_7), .v (.int .u32 a0_8), .v (.bool a0_9), .v (.bool a0_10), .v (.bool a0_11), .v (.bool a0_12), .v (.bool a0_13), .v (.bool a0_14), .v (.int .u64 a0_15), .v (.int .u64 a0_16), .v (.int .u64 a0_17), .v (.int .u64 a0_18), .v (.int .u64 a0_19), .v (.int .u64 a0_20), .v (.int .u64 a0_21), .v (.int .u64 a0_22)], .v (.int .u8 a1), .v (.int .u8 a2), .v (.int .u64 a3)] [] isT (fun _ _ => none) =
    (bif decide (0 ≤ Int.tmod a2 4) && decide (Int.tmod a2 4 < 4) then
    bif
    true && (true && in32 (IntKind.wrap IntKind.u32 (0 + IntKind.wrap IntKind.u32 (Int.tmod a1 240)))) &&
    !1 + 12 == 1 + 6 then
    bif
    true && (true && in32 (IntKind.wrap IntKind.u32 (0 + IntKind.wrap IntKind.u32 (Int.tmod a1 240)))) &&
    !1 + 12 == 1 + 6 then
    bif decide (selL (Int.tmod a2 4) 0 [1, 2, 4, 8] < 8) then
    bif decide (0 ≤ IntKind.wrap IntKind.i64 (8 * selL (Int.tmod a2 4) 0 [1, 2, 4, 8])) then
    bif
    segE 36864 256 (IntKind.wrap IntKind.u32 (0 + IntKind.wrap IntKind.u32 (Int.tmod a1 240)))
    (↑(bytesN (selL (Int.tmod a2 4) 0 [1, 2, 4, 8]))) true ==
    0 then
    bif
    segE 36864 256 (IntKind.wrap IntKind.u32 (0 + IntKind.wrap IntKind.u32 (Int.tmod a1 240)))
    (↑(bytesN (selL (Int.tmod a2 4) 0 [1, 2, 4, 8]))) true ==
    0 then
    bif
    a0_0 == a0_0 &&
    (a0_1 == a0_1 &&
    (a0_2 == a0_2 && (a0_3 == a0_3 && (a0_4 == a0_4 && (a0_5 == a0_5 && (a0_6 == a0_6 && (a0_7 == a0_7 && true))))))) &&
    (a0_8 == a0_8 &&
    (a0_9 == a0_9 &&
    (a0_10 == a0_10 && (a0_11 == a0_11 && (a0_12 == a0_12 && (a0_13 == a0_13 && (a0_14 == a0_14 && true))))) &&
    (a0_15 == a0_15 &&
    (a0_16 == a0_16 &&
    (a0_17 == a0_17 &&
    (a0_18 == a0_18 && (a0_19 == a0_19 && (a0_20 == a0_20 && (a0_21 == a0_21 && (a0_22 == a0_22 && true))))))) &&
    true))) then
    some
    (ldV
    (stV (wrM (fun x => 0) 36864 (rowF (fun x => 0) (fillB 5) 256) 256) 36864 256
    (IntKind.wrap IntKind.u32 (0 + IntKind.wrap IntKind.u32 (Int.tmod a1 240))) (selL (Int.tmod a2 4) 0 [1, 2, 4, 8]) a3
    true)
    36864 256 (IntKind.wrap IntKind.u32 (0 + IntKind.wrap IntKind.u32 (Int.tmod a1 240)))
    (selL (Int.tmod a2 4) 0 [1, 2, 4, 8]) true ==
    bitsL BinOp.and IntKind.u64 a3
    (IntKind.wrap IntKind.u64
    (IntKind.wrap IntKind.u64
    (1 * 2 ^ min (Int.toNat (IntKind.wrap IntKind.i64 (8 * selL (Int.tmod a2 4) 0 [1, 2, 4, 8]))) 64) -
    1)))
    else some false
    else some false
    else some false
    else none
    else
    bif
    segE 36864 256 (IntKind.wrap IntKind.u32 (0 + IntKind.wrap IntKind.u32 (Int.tmod a1 240)))
    (↑(bytesN (selL (Int.tmod a2 4) 0 [1, 2, 4, 8]))) true ==
    0 then
    bif
    segE 36864 256 (IntKind.wrap IntKind.u32 (0 + IntKind.wrap IntKind.u32 (Int.tmod a1 240)))
    (↑(bytesN (selL (Int.tmod a2 4) 0 [1, 2, 4, 8]))) true ==
    0 then
    bif
    a0_0 == a0_0 &&
    (a0_1 == a0_1 &&
    (a0_2 == a0_2 && (a0_3 == a0_3 && (a0_4 == a0_4 && (a0_5 == a0_5 && (a0_6 == a0_6 && (a0_7 == a0_7 && true))))))) &&
    (a0_8 == a0_8 &&
    (a0_9 == a0_9 &&
    (a0_10 == a0_10 && (a0_11 == a0_11 && (a0_12 == a0_12 && (a0_13 == a0_13 && (a0_14 == a0_14 && true))))) &&
    (a0_15 == a0_15 &&
    (a0_16 == a0_16 &&
    (a0_17 == a0_17 &&
    (a0_18 == a0_18 && (a0_19 == a0_19 && (a0_20 == a0_20 && (a0_21 == a0_21 && (a0_22 == a0_22 && true))))))) &&
    true))) then
    some
    (ldV
    (stV (wrM (fun x => 0) 36864 (rowF (fun x => 0) (fillB 5) 256) 256) 36864 256
    (IntKind.wrap IntKind.u32 (0 + IntKind.wrap IntKind.u32 (Int.tmod a1 240))) (selL (Int.tmod a2 4) 0 [1, 2, 4, 8]) a3
    true)
    36864 256 (IntKind.wrap IntKind.u32 (0 + IntKind.wrap IntKind.u32 (Int.tmod a1 240)))
    (selL (Int.tmod a2 4) 0 [1, 2, 4, 8]) true ==
    bitsL BinOp.and IntKind.u64 a3 18446744073709551615)
    else some false
    else some false
    else some false
    else none
    else none
    else none) := by kernel_rfl
set_option maxHeartbeats 1000000 in
theorem pure (a0_0 : Int) (a0_1 : Int) (a0_2 : Int) (a0_3 : Int) (a0_4 : Int) (a0_5 : Int) (a0_6 : Int) (a0_7 : Int) (a0_8 : Int) (a0_9 : Bool) (a0_10 : Bool) (a0_11 : Bool) (a0_12 : Bool) (a0_13 : Bool) (a0_14 : Bool) (a0_15 : Int) (a0_16 : Int) (a0_17 : Int) (a0_18 : Int) (a0_19 : Int) (a0_20 : Int) (a0_21 : Int) (a0_22 : Int) (a1 : Int) (a2 : Int) (a3 : Int) (w0_0 : (Lit.int .u32 a0_0).wf = true) (w0_1 : (Lit.int .u32 a0_1).wf = true) (w0_2 : (Lit.int .u32 a0_2).wf = true) (w0_3 : (Lit.int .u32 a0_3).wf = true) (w0_4 : (Lit.int .u32 a0_4).wf = true) (w0_5 : (Lit.int .u32 a0_5).wf = true) (w0_6 : (Lit.int .u32 a0_6).wf = true) (w0_7 : (Lit.int .u32 a0_7).wf = true) (w0_8 : (Lit.int .u32 a0_8).wf = true) (w0_15 : (Lit.int .u64 a0_15).wf = true) (w0_16 : (Lit.int .u64 a0_16).wf = true) (w0_17 : (Lit.int .u64 a0_17).wf = true) (w0_18 : (Lit.int .u64 a0_18).wf = true) (w0_19 : (Lit.int .u64 a0_19).wf = true) (w0_20 : (Lit.int .u64 a0_20).wf = true) (w0_21 : (Lit.int .u64 a0_21).wf = true) (w0_22 : (Lit.int .u64 a0_22).wf = true) (w1 : (Lit.int .u8 a1).wf = true) (w2 : (Lit.int .u8 a2).wf = true) (w3 : (Lit.int .u64 a3).wf = true) :
    evF Try.prog ΓM6 400 6 [.agg [.v (.int .u32 a0_0), .v (.int .u32 a0_1), .v (.int .u32 a0_2), .v (.int .u32 a0_3), .v (.int .u32 a0_4), .v (.int .u32 a0_5), .v (.int .u32 a0_6), .v (.int .u32 a0_7), .v (.int .u32 a0_8), .v (.bool a0_9), .v (.bool a0_10), .v (.bool a0_11), .v (.bool a0_12), .v (.bool a0_13), .v (.bool a0_14), .v (.int .u64 a0_15), .v (.int .u64 a0_16), .v (.int .u64 a0_17), .v (.int .u64 a0_18), .v (.int .u64 a0_19), .v (.int .u64 a0_20), .v (.int .u64 a0_21), .v (.int .u64 a0_22)], .v (.int .u8 a1), .v (.int .u8 a2), .v (.int .u64 a3)] [] isT (fun _ _ => none) = some true := by
  rw [form]
  try simp only [bitsL_eq]
  have b1 := wf_u8 w1
  have b2 := wf_u8 w2
  have b3 := wf_u64 w3
  have hm := Int.tmod_eq_emod_of_nonneg (b := 4) b2.1
  have hm1 := Int.tmod_eq_emod_of_nonneg (b := 240) b1.1
  have hK : selL (Int.tmod a2 4) 0 [1, 2, 4, 8] = 1 ∨ selL (Int.tmod a2 4) 0 [1, 2, 4, 8] = 2 ∨ selL (Int.tmod a2 4) 0 [1, 2, 4, 8] = 4 ∨ selL (Int.tmod a2 4) 0 [1, 2, 4, 8] = 8 := by
    rw [hm]
    have : a2 % 4 = 0 ∨ a2 % 4 = 1 ∨ a2 % 4 = 2 ∨ a2 % 4 = 3 := by omega
    rcases this with h | h | h | h <;> rw [h]
    · exact .inl rfl
    · exact .inr (.inl rfl)
    · exact .inr (.inr (.inl rfl))
    · exact .inr (.inr (.inr rfl))
  have hT : (decide (0 ≤ Int.tmod a2 4) && decide (Int.tmod a2 4 < 4)) = true := by rw [hm]; simp; omega
  have hD : IntKind.wrap .u32 (0 + IntKind.wrap .u32 (Int.tmod a1 240)) = a1 % 240 := by rw [hm1, wr_u32, wr_u32]; omega
  simp only [hT, hD, cond_true]
  generalize selL (Int.tmod a2 4) 0 [1, 2, 4, 8] = K at *
  obtain ⟨S, hSe⟩ : ∃ S, S = a1 % 240 := ⟨_, rfl⟩
  rw [← hSe]
  have hb : ((bytesN K : Nat) : Int) = K := by rcases hK with h | h | h | h <;> subst h <;> rfl
  have hc : clampN K = K := by rcases hK with h | h | h | h <;> subst h <;> rfl
  have hS0 : 0 ≤ S ∧ S < 240 := by omega
  have i1 : in32 S = true := in32_iff.2 (by omega)
  have s1 : segE 36864 256 S (bytesN K) true = 0 := by rw [hb]; exact segE_ok (by rw [hc]; omega) (by omega)
  generalize wrM (fun x => 0) 36864 (rowF (fun x => 0) (fillB 5) 256) 256 = M0
  have hld : ldV (stV M0 36864 256 S K a3 true) 36864 256 S K true = a3 % 2 ^ (8 * bytesN K) := by
    unfold ldV stV
    rw [s1]
    exact ld_st _ _ _ _ (by rcases hK with h | h | h | h <;> subst h <;> decide) b3.1 b3.2
  have e1 : ((1 : Nat) + 12 == 1 + 6) = false := rfl
  have e2 : ((0 : Int) == 0) = true := rfl
  simp only [i1, s1, e1, e2, beq_self_eq_true, Bool.and_self, Bool.and_true, Bool.true_and, Bool.not_false, cond_true, hld]
  rcases hK with h | h | h | h <;> subst h
  · have : bits .and .u64 a3 255 = a3 % 2 ^ 8 := and_low_64 8 b3.1 b3.2 rfl (by omega)
    have hq : IntKind.wrap .u64 (IntKind.wrap .u64 (1 * 2 ^ min (Int.toNat (IntKind.wrap .i64 (8 * 1))) 64) - 1) = 255 := rfl
    simp only [hq]
    simp (config := {decide := true}) [this, bytesN]
  · have : bits .and .u64 a3 65535 = a3 % 2 ^ 16 := and_low_64 16 b3.1 b3.2 rfl (by omega)
    have hq : IntKind.wrap .u64 (IntKind.wrap .u64 (1 * 2 ^ min (Int.toNat (IntKind.wrap .i64 (8 * 2))) 64) - 1) = 65535 := rfl
    simp only [hq]
    simp (config := {decide := true}) [this, bytesN]
  · have : bits .and .u64 a3 4294967295 = a3 % 2 ^ 32 := and_low_64 32 b3.1 b3.2 rfl (by omega)
    have hq : IntKind.wrap .u64 (IntKind.wrap .u64 (1 * 2 ^ min (Int.toNat (IntKind.wrap .i64 (8 * 4))) 64) - 1) = 4294967295 := rfl
    simp only [hq]
    simp (config := {decide := true}) [this, bytesN]
  · have : bits .and .u64 a3 18446744073709551615 = a3 % 2 ^ 64 := and_low_64 64 b3.1 b3.2 rfl (by omega)
    simp (config := {decide := true}) [this, bytesN]

end Go.Proofs.Ytjcbgjakomalaaa.addrStore
