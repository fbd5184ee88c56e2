/- FloatNaNs: the reckoning of the law, and that it is true. -/
import Derived.Test.YtcddbojldlcdkaaCFl4
import Derived.Test.YtcddbojldlcdkaaNFlt6
namespace Go.Proofs.Ytcddbojldlcdkaa.floatNaNs
open Go Go.Ev
set_option linter.unusedVariables false
set_option linter.unusedSimpArgs false
set_option maxRecDepth 100000
theorem form (a0 : Int) (a1 : Int) (a2 : Int) :
    evF Try.prog ΓF4 400 9 [.v (.int .u8 a0), .v (.int .u64 a1), .v (.int .u64 a2)] [] isT (fun _ _ => none) =
    (bif decide (0 ≤ Int.tmod a0 4) && decide (Int.tmod a0 4 < 4) then
    bif
    ini64 (selL (Int.tmod a0 4) 0 [52, 54, 53, 56]) &&
    (in64
    (bitsL BinOp.or IntKind.u64
    (bitsL BinOp.or IntKind.u64
    (bitsL BinOp.or IntKind.u64 (bitsL BinOp.and IntKind.u64 a2 4503599627370495) 9218868437227405312)
    (bitsL BinOp.and IntKind.u64 a2 9223372036854775808))
    1) &&
    in64 a1) then
    bif
    ini64 (selL (Int.tmod a0 4) 0 [52, 54, 53, 56]) &&
    (in64 a1 &&
    in64
    (bitsL BinOp.or IntKind.u64
    (bitsL BinOp.or IntKind.u64
    (bitsL BinOp.or IntKind.u64 (bitsL BinOp.and IntKind.u64 a2 4503599627370495) 9218868437227405312)
    (bitsL BinOp.and IntKind.u64 a2 9223372036854775808))
    1)) then
    bif
    doV (selL (Int.tmod a0 4) 0 [52, 54, 53, 56])
    (bitsL BinOp.or IntKind.u64
    (bitsL BinOp.or IntKind.u64
    (bitsL BinOp.or IntKind.u64 (bitsL BinOp.and IntKind.u64 a2 4503599627370495) 9218868437227405312)
    (bitsL BinOp.and IntKind.u64 a2 9223372036854775808))
    1)
    a1 !=
    bitsL BinOp.or IntKind.u64
    (bitsL BinOp.or IntKind.u64
    (bitsL BinOp.or IntKind.u64
    (bitsL BinOp.or IntKind.u64 (bitsL BinOp.and IntKind.u64 a2 4503599627370495) 9218868437227405312)
    (bitsL BinOp.and IntKind.u64 a2 9223372036854775808))
    1)
    2251799813685248 then
    some false
    else
    bif
    in64
    (doV (selL (Int.tmod a0 4) 0 [52, 54, 53, 56]) a1
    (bitsL BinOp.or IntKind.u64
    (bitsL BinOp.or IntKind.u64
    (bitsL BinOp.or IntKind.u64 (bitsL BinOp.and IntKind.u64 a2 4503599627370495) 9218868437227405312)
    (bitsL BinOp.and IntKind.u64 a2 9223372036854775808))
    1)) then
    bif
    !nanI
    (doV (selL (Int.tmod a0 4) 0 [52, 54, 53, 56]) a1
    (bitsL BinOp.or IntKind.u64
    (bitsL BinOp.or IntKind.u64
    (bitsL BinOp.or IntKind.u64 (bitsL BinOp.and IntKind.u64 a2 4503599627370495) 9218868437227405312)
    (bitsL BinOp.and IntKind.u64 a2 9223372036854775808))
    1)) then
    some false
    else
    bif in64 a1 then
    bif !nanI a1 then
    bif
    doV (selL (Int.tmod a0 4) 0 [52, 54, 53, 56]) a1
    (bitsL BinOp.or IntKind.u64
    (bitsL BinOp.or IntKind.u64
    (bitsL BinOp.or IntKind.u64 (bitsL BinOp.and IntKind.u64 a2 4503599627370495) 9218868437227405312)
    (bitsL BinOp.and IntKind.u64 a2 9223372036854775808))
    1) !=
    bitsL BinOp.or IntKind.u64
    (bitsL BinOp.or IntKind.u64
    (bitsL BinOp.or IntKind.u64
    (bitsL BinOp.or IntKind.u64 (bitsL BinOp.and IntKind.u64 a2 4503599627370495) 9218868437227405312)
    (bitsL BinOp.and IntKind.u64 a2 9223372036854775808))
    1)
    2251799813685248 then
    some false
    else
    bif
    true &&
    (in64
    (bitsL BinOp.or IntKind.u64
    (bitsL BinOp.or IntKind.u64
    (bitsL BinOp.or IntKind.u64 (bitsL BinOp.and IntKind.u64 a2 4503599627370495) 9218868437227405312)
    (bitsL BinOp.and IntKind.u64 a2 9223372036854775808))
    1) &&
    in64 a1) then
    bif
    doV 55
    (bitsL BinOp.or IntKind.u64
    (bitsL BinOp.or IntKind.u64
    (bitsL BinOp.or IntKind.u64 (bitsL BinOp.and IntKind.u64 a2 4503599627370495) 9218868437227405312)
    (bitsL BinOp.and IntKind.u64 a2 9223372036854775808))
    1)
    a1 ==
    a1 then
    bif
    true &&
    (in64 a1 &&
    in64
    (bitsL BinOp.or IntKind.u64
    (bitsL BinOp.or IntKind.u64
    (bitsL BinOp.or IntKind.u64 (bitsL BinOp.and IntKind.u64 a2 4503599627370495) 9218868437227405312)
    (bitsL BinOp.and IntKind.u64 a2 9223372036854775808))
    1)) then
    bif
    doV 57 a1
    (bitsL BinOp.or IntKind.u64
    (bitsL BinOp.or IntKind.u64
    (bitsL BinOp.or IntKind.u64 (bitsL BinOp.and IntKind.u64 a2 4503599627370495) 9218868437227405312)
    (bitsL BinOp.and IntKind.u64 a2 9223372036854775808))
    1) ==
    bitsL BinOp.or IntKind.u64
    (bitsL BinOp.or IntKind.u64
    (bitsL BinOp.or IntKind.u64 (bitsL BinOp.and IntKind.u64 a2 4503599627370495) 9218868437227405312)
    (bitsL BinOp.and IntKind.u64 a2 9223372036854775808))
    1 then
    bif
    true &&
    (in64 a1 &&
    in64
    (bitsL BinOp.or IntKind.u64
    (bitsL BinOp.or IntKind.u64
    (bitsL BinOp.or IntKind.u64 (bitsL BinOp.and IntKind.u64 a2 4503599627370495) 9218868437227405312)
    (bitsL BinOp.and IntKind.u64 a2 9223372036854775808))
    1)) then
    bif
    doV 58 a1
    (bitsL BinOp.or IntKind.u64
    (bitsL BinOp.or IntKind.u64
    (bitsL BinOp.or IntKind.u64 (bitsL BinOp.and IntKind.u64 a2 4503599627370495) 9218868437227405312)
    (bitsL BinOp.and IntKind.u64 a2 9223372036854775808))
    1) ==
    bitsL BinOp.or IntKind.u64
    (bitsL BinOp.or IntKind.u64
    (bitsL BinOp.or IntKind.u64
    (bitsL BinOp.or IntKind.u64 (bitsL BinOp.and IntKind.u64 a2 4503599627370495) 9218868437227405312)
    (bitsL BinOp.and IntKind.u64 a2 9223372036854775808))
    1)
    2251799813685248 then
    bif
    in64 a1 &&
    in64
    (bitsL BinOp.or IntKind.u64
    (bitsL BinOp.or IntKind.u64
    (bitsL BinOp.or IntKind.u64 (bitsL BinOp.and IntKind.u64 a2 4503599627370495) 9218868437227405312)
    (bitsL BinOp.and IntKind.u64 a2 9223372036854775808))
    1) then
    some
    (cC a1
    (bitsL BinOp.or IntKind.u64
    (bitsL BinOp.or IntKind.u64
    (bitsL BinOp.or IntKind.u64 (bitsL BinOp.and IntKind.u64 a2 4503599627370495) 9218868437227405312)
    (bitsL BinOp.and IntKind.u64 a2 9223372036854775808))
    1) ==
    true &&
    (cP a1
    (bitsL BinOp.or IntKind.u64
    (bitsL BinOp.or IntKind.u64
    (bitsL BinOp.or IntKind.u64 (bitsL BinOp.and IntKind.u64 a2 4503599627370495) 9218868437227405312)
    (bitsL BinOp.and IntKind.u64 a2 9223372036854775808))
    1) ==
    true &&
    (cZ a1
    (bitsL BinOp.or IntKind.u64
    (bitsL BinOp.or IntKind.u64
    (bitsL BinOp.or IntKind.u64 (bitsL BinOp.and IntKind.u64 a2 4503599627370495) 9218868437227405312)
    (bitsL BinOp.and IntKind.u64 a2 9223372036854775808))
    1) ==
    true &&
    true)))
    else none
    else some false
    else none
    else some false
    else none
    else some false
    else none
    else
    bif
    true &&
    (in64
    (bitsL BinOp.or IntKind.u64
    (bitsL BinOp.or IntKind.u64
    (bitsL BinOp.or IntKind.u64 (bitsL BinOp.and IntKind.u64 a2 4503599627370495) 9218868437227405312)
    (bitsL BinOp.and IntKind.u64 a2 9223372036854775808))
    1) &&
    in64 a1) then
    bif
    doV 55
    (bitsL BinOp.or IntKind.u64
    (bitsL BinOp.or IntKind.u64
    (bitsL BinOp.or IntKind.u64 (bitsL BinOp.and IntKind.u64 a2 4503599627370495) 9218868437227405312)
    (bitsL BinOp.and IntKind.u64 a2 9223372036854775808))
    1)
    a1 ==
    a1 then
    bif
    true &&
    (in64 a1 &&
    in64
    (bitsL BinOp.or IntKind.u64
    (bitsL BinOp.or IntKind.u64
    (bitsL BinOp.or IntKind.u64 (bitsL BinOp.and IntKind.u64 a2 4503599627370495) 9218868437227405312)
    (bitsL BinOp.and IntKind.u64 a2 9223372036854775808))
    1)) then
    bif
    doV 57 a1
    (bitsL BinOp.or IntKind.u64
    (bitsL BinOp.or IntKind.u64
    (bitsL BinOp.or IntKind.u64 (bitsL BinOp.and IntKind.u64 a2 4503599627370495) 9218868437227405312)
    (bitsL BinOp.and IntKind.u64 a2 9223372036854775808))
    1) ==
    bitsL BinOp.or IntKind.u64
    (bitsL BinOp.or IntKind.u64
    (bitsL BinOp.or IntKind.u64 (bitsL BinOp.and IntKind.u64 a2 4503599627370495) 9218868437227405312)
    (bitsL BinOp.and IntKind.u64 a2 9223372036854775808))
    1 then
    bif
    true &&
    (in64 a1 &&
    in64
    (bitsL BinOp.or IntKind.u64
    (bitsL BinOp.or IntKind.u64
    (bitsL BinOp.or IntKind.u64 (bitsL BinOp.and IntKind.u64 a2 4503599627370495) 9218868437227405312)
    (bitsL BinOp.and IntKind.u64 a2 9223372036854775808))
    1)) then
    bif
    doV 58 a1
    (bitsL BinOp.or IntKind.u64
    (bitsL BinOp.or IntKind.u64
    (bitsL BinOp.or IntKind.u64 (bitsL BinOp.and IntKind.u64 a2 4503599627370495) 9218868437227405312)
    (bitsL BinOp.and IntKind.u64 a2 9223372036854775808))
    1) ==
    bitsL BinOp.or IntKind.u64
    (bitsL BinOp.or IntKind.u64
    (bitsL BinOp.or IntKind.u64
    (bitsL BinOp.or IntKind.u64 (bitsL BinOp.and IntKind.u64 a2 4503599627370495) 9218868437227405312)
    (bitsL BinOp.and IntKind.u64 a2 9223372036854775808))
    1)
    2251799813685248 then
    bif
    in64 a1 &&
    in64
    (bitsL BinOp.or IntKind.u64
    (bitsL BinOp.or IntKind.u64
    (bitsL BinOp.or IntKind.u64 (bitsL BinOp.and IntKind.u64 a2 4503599627370495) 9218868437227405312)
    (bitsL BinOp.and IntKind.u64 a2 9223372036854775808))
    1) then
    some
    (cC a1
    (bitsL BinOp.or IntKind.u64
    (bitsL BinOp.or IntKind.u64
    (bitsL BinOp.or IntKind.u64 (bitsL BinOp.and IntKind.u64 a2 4503599627370495) 9218868437227405312)
    (bitsL BinOp.and IntKind.u64 a2 9223372036854775808))
    1) ==
    true &&
    (cP a1
    (bitsL BinOp.or IntKind.u64
    (bitsL BinOp.or IntKind.u64
    (bitsL BinOp.or IntKind.u64 (bitsL BinOp.and IntKind.u64 a2 4503599627370495) 9218868437227405312)
    (bitsL BinOp.and IntKind.u64 a2 9223372036854775808))
    1) ==
    true &&
    (cZ a1
    (bitsL BinOp.or IntKind.u64
    (bitsL BinOp.or IntKind.u64
    (bitsL BinOp.or IntKind.u64 (bitsL BinOp.and IntKind.u64 a2 4503599627370495) 9218868437227405312)
    (bitsL BinOp.and IntKind.u64 a2 9223372036854775808))
    1) ==
    true &&
    true)))
    else none
    else some false
    else none
    else some false
    else none
    else some false
    else none
    else none
    else none
    else none
    else none
    else none) := by kernel_rfl
set_option maxHeartbeats 1000000 in
theorem pure (a0 : Int) (a1 : Int) (a2 : Int) (w0 : (Lit.int .u8 a0).wf = true) (w1 : (Lit.int .u64 a1).wf = true) (w2 : (Lit.int .u64 a2).wf = true) :
    evF Try.prog ΓF4 400 9 [.v (.int .u8 a0), .v (.int .u64 a1), .v (.int .u64 a2)] [] isT (fun _ _ => none) = some true := by
  rw [form]
  try simp only [bitsL_eq]
  have b0 := wf_u8 w0
  have b1 := wf_u64 w1
  have b2 := wf_u64 w2
  have g1 := in64_iff.2 b1
  obtain ⟨n, hn⟩ : ∃ n, n = bits .or .u64 (bits .or .u64 (bits .or .u64 (bits .and .u64 a2 4503599627370495) 9218868437227405312) (bits .and .u64 a2 9223372036854775808)) 1 := ⟨_, rfl⟩
  obtain ⟨n0, n1, nn⟩ := nan_made b2.1 b2.2 hn
  have gn := in64_iff.2 ⟨n0, n1⟩
  rw [← hn]
  have eq : bits .or .u64 n 2251799813685248 = qI n := rfl
  rw [eq]
  obtain ⟨op, hop⟩ : ∃ op, op = selL (Int.tmod a0 4) 0 [52, 54, 53, 56] := ⟨_, rfl⟩
  rw [← hop]
  have e4 : Int.tmod a0 4 = a0 % 4 := Int.tmod_eq_emod_of_nonneg b0.1
  have ho : op = 52 ∨ op = 54 ∨ op = 53 ∨ op = 56 := by
    rw [hop, e4]
    rcases (show a0 % 4 = 0 ∨ a0 % 4 = 1 ∨ a0 % 4 = 2 ∨ a0 % 4 = 3 by omega) with h | h | h | h <;> rw [h] <;> decide
  have go : ini64 op = true := by rcases ho with h | h | h | h <;> subst h <;> decide
  have f1 : doV op n a1 = qI n := by
    rcases ho with h | h | h | h <;> subst h <;> simp [doV, arV, nn]
  have f2 : doV op a1 n = bif nanI a1 then qI a1 else qI n := by
    rcases ho with h | h | h | h <;> subst h <;> simp [doV, arV, nn]
  have f3 : doV 55 n a1 = a1 := by
    have := (nan_cmp n0 b1.1 (.inl nn)).1
    simp [doV, minV, this]
  have f4 : doV 57 a1 n = n := by
    have := (nan_cmp b1.1 n0 (.inr nn)).2.2
    simp [doV, maxV, this]
  have f5 : doV 58 a1 n = qI n := by simp [doV, sqV, nn]
  have c1 : cC a1 n = true := by simp [cC, cP, nn]
  have c2 : cP a1 n = true := by simp [cP, nn]
  have c3 : cZ a1 n = true := by simp [cZ, cP, nn]
  have h4 : (decide (0 ≤ Int.tmod a0 4) && decide (Int.tmod a0 4 < 4)) = true := by rw [e4]; simp; omega
  have gq : in64 (bif nanI a1 then qI a1 else qI n) = true := by
    cases nanI a1
    · exact in64_iff.2 (qI_in n0 n1)
    · exact in64_iff.2 (qI_in b1.1 b1.2)
  have nq : nanI (bif nanI a1 then qI a1 else qI n) = true := by
    cases hna : nanI a1
    · exact qI_nan n0 n1 nn
    · exact qI_nan b1.1 b1.2 hna
  simp only [h4, go, gn, g1, f1, f2, f3, f4, f5, c1, c2, c3, gq, nq, Bool.and_self, cond_true, cond_false, bne_self_eq_false, beq_self_eq_true, Bool.not_true, Bool.and_true]
  cases nanI a1 <;> simp
end Go.Proofs.Ytcddbojldlcdkaa.floatNaNs
