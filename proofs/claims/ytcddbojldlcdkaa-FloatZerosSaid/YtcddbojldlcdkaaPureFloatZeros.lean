/- FloatZeros: the reckoning of the law, and that it is true. -/
import Derived.Test.YtcddbojldlcdkaaCFl4
import Derived.Test.YtcddbojldlcdkaaNFlt6
namespace Go.Proofs.Ytcddbojldlcdkaa.floatZeros
open Go Go.Ev
set_option linter.unusedVariables false
set_option linter.unusedSimpArgs false
set_option maxRecDepth 100000
theorem form (a0 : Int) (a1 : Bool) (a2 : Bool) :
    evF Try.prog ΓF4 400 10 [.v (.int .u64 a0), .v (.bool a1), .v (.bool a2)] [] isT (fun _ _ => none) =
    (bif a1 then
    bif a2 then
    bif a2 then
    bif in64 a0 then
    bif nanI a0 then some true
    else
    bif bitsL BinOp.andNot IntKind.u64 a0 9223372036854775808 == 0 then some true
    else
    bif bitsL BinOp.andNot IntKind.u64 a0 9223372036854775808 == 9218868437227405312 then some true
    else
    bif true && (in64 a0 && true) then
    bif
    doV 56 a0 9223372036854775808 ==
    bitsL BinOp.or IntKind.u64
    (bitsL BinOp.xor IntKind.u64 (bitsL BinOp.and IntKind.u64 a0 9223372036854775808) 9223372036854775808)
    9218868437227405312 then
    bif true && (in64 a0 && true) then
    bif doV 52 a0 18442240474082181120 == 18442240474082181120 then
    bif true && (in64 a0 && in64 a0) then
    bif doV 54 a0 a0 == 0 then
    bif true && (in64 a0 && true) then
    some
    (doV 53 a0 9223372036854775808 ==
    bitsL BinOp.xor IntKind.u64 (bitsL BinOp.and IntKind.u64 a0 9223372036854775808) 9223372036854775808)
    else none
    else some false
    else none
    else some false
    else none
    else some false
    else none
    else none
    else some false
    else
    bif a2 then some false
    else
    bif in64 a0 then
    bif nanI a0 then some true
    else
    bif bitsL BinOp.andNot IntKind.u64 a0 9223372036854775808 == 0 then some true
    else
    bif bitsL BinOp.andNot IntKind.u64 a0 9223372036854775808 == 9218868437227405312 then some true
    else
    bif true && (in64 a0 && true) then
    bif
    doV 56 a0 9223372036854775808 ==
    bitsL BinOp.or IntKind.u64
    (bitsL BinOp.xor IntKind.u64 (bitsL BinOp.and IntKind.u64 a0 9223372036854775808) 9223372036854775808)
    9218868437227405312 then
    bif true && (in64 a0 && true) then
    bif doV 52 a0 9218868437227405312 == 9218868437227405312 then
    bif true && (in64 a0 && in64 a0) then
    bif doV 54 a0 a0 == 0 then
    bif true && (in64 a0 && true) then
    some
    (doV 53 a0 9223372036854775808 ==
    bitsL BinOp.xor IntKind.u64 (bitsL BinOp.and IntKind.u64 a0 9223372036854775808) 9223372036854775808)
    else none
    else some false
    else none
    else some false
    else none
    else some false
    else none
    else none
    else
    bif a2 then
    bif a2 then
    bif in64 a0 then
    bif nanI a0 then some true
    else
    bif bitsL BinOp.andNot IntKind.u64 a0 9223372036854775808 == 0 then some true
    else
    bif bitsL BinOp.andNot IntKind.u64 a0 9223372036854775808 == 9218868437227405312 then some true
    else
    bif true && (in64 a0 && true) then
    bif
    doV 56 a0 0 ==
    bitsL BinOp.or IntKind.u64 (bitsL BinOp.xor IntKind.u64 (bitsL BinOp.and IntKind.u64 a0 9223372036854775808) 0)
    9218868437227405312 then
    bif true && (in64 a0 && true) then
    bif doV 52 a0 18442240474082181120 == 18442240474082181120 then
    bif true && (in64 a0 && in64 a0) then
    bif doV 54 a0 a0 == 0 then
    bif true && (in64 a0 && true) then
    some (doV 53 a0 0 == bitsL BinOp.xor IntKind.u64 (bitsL BinOp.and IntKind.u64 a0 9223372036854775808) 0)
    else none
    else some false
    else none
    else some false
    else none
    else some false
    else none
    else none
    else some false
    else
    bif a2 then some false
    else
    bif in64 a0 then
    bif nanI a0 then some true
    else
    bif bitsL BinOp.andNot IntKind.u64 a0 9223372036854775808 == 0 then some true
    else
    bif bitsL BinOp.andNot IntKind.u64 a0 9223372036854775808 == 9218868437227405312 then some true
    else
    bif true && (in64 a0 && true) then
    bif
    doV 56 a0 0 ==
    bitsL BinOp.or IntKind.u64 (bitsL BinOp.xor IntKind.u64 (bitsL BinOp.and IntKind.u64 a0 9223372036854775808) 0)
    9218868437227405312 then
    bif true && (in64 a0 && true) then
    bif doV 52 a0 9218868437227405312 == 9218868437227405312 then
    bif true && (in64 a0 && in64 a0) then
    bif doV 54 a0 a0 == 0 then
    bif true && (in64 a0 && true) then
    some (doV 53 a0 0 == bitsL BinOp.xor IntKind.u64 (bitsL BinOp.and IntKind.u64 a0 9223372036854775808) 0)
    else none
    else some false
    else none
    else some false
    else none
    else some false
    else none
    else none) := by kernel_rfl
set_option maxHeartbeats 1000000 in
theorem pure (a0 : Int) (a1 : Bool) (a2 : Bool) (w0 : (Lit.int .u64 a0).wf = true) :
    evF Try.prog ΓF4 400 10 [.v (.int .u64 a0), .v (.bool a1), .v (.bool a2)] [] isT (fun _ _ => none) = some true := by
  rw [form]
  try simp only [bitsL_eq]
  have b0 := wf_u64 w0
  have g0 := in64_iff.2 b0
  rw [not_sign b0.1 b0.2]
  cases hna : nanI a0
  · by_cases hz : a0 % 9223372036854775808 = 0
    · rw [hz]; cases a1 <;> cases a2 <;> simp [g0]
    · by_cases hi : a0 % 9223372036854775808 = 9218868437227405312
      · rw [hi]; cases a1 <;> cases a2 <;> simp [g0]
      · obtain ⟨s, m, i, hr, hm, hs⟩ := plain_parts b0.1 b0.2 hna hz hi
        have nz : nanI 0 = false := by decide
        have nm : nanI 9223372036854775808 = false := by decide
        have np : nanI 9218868437227405312 = false := by decide
        have nq : nanI 18442240474082181120 = false := by decide
        obtain ⟨q1, q2⟩ := quo_zero hr hm read_p0
        obtain ⟨q3, q4⟩ := quo_zero hr hm read_m0
        obtain ⟨q5, q6⟩ := add_inf hr read_pinf
        obtain ⟨q7, q8⟩ := add_inf hr read_minf
        obtain ⟨q9, q10⟩ := sub_self' hr
        obtain ⟨q11, q12⟩ := mul_zero' hr read_p0
        obtain ⟨q13, q14⟩ := mul_zero' hr read_m0
        have t0 : (0 : Int).toNat = 0 := rfl
        have t1 : (9223372036854775808 : Int).toNat = 9223372036854775808 := rfl
        have t2 : (9218868437227405312 : Int).toNat = 9218868437227405312 := rfl
        have t3 : (18442240474082181120 : Int).toNat = 18442240474082181120 := rfl
        have z1 : ∀ a b, doV 56 a b = arV .quo a b := fun _ _ => rfl
        have z2 : ∀ a b, doV 52 a b = arV .add a b := fun _ _ => rfl
        have z3 : ∀ a b, doV 54 a b = arV .sub a b := fun _ _ => rfl
        have z4 : ∀ a b, doV 53 a b = arV .mul a b := fun _ _ => rfl
        have f1 : doV 56 a0 0 = bits .or .u64 (bits .xor .u64 (bits .and .u64 a0 9223372036854775808) 0) 9218868437227405312 := by
          rw [hs]; simp only [z1, z2, z3, z4, arV, cond_true, cond_false, hna, nz, t0, q1, q2]
          cases s <;> decide
        have f2 : doV 56 a0 9223372036854775808 = bits .or .u64 (bits .xor .u64 (bits .and .u64 a0 9223372036854775808) 9223372036854775808) 9218868437227405312 := by
          rw [hs]; simp only [z1, z2, z3, z4, arV, cond_true, cond_false, hna, nm, t1, q3, q4]
          cases s <;> decide
        have f3 : doV 52 a0 9218868437227405312 = 9218868437227405312 := by
          simp only [z1, z2, z3, z4, arV, cond_true, cond_false, hna, np, t2, q5, q6]; decide
        have f4 : doV 52 a0 18442240474082181120 = 18442240474082181120 := by
          simp only [z1, z2, z3, z4, arV, cond_true, cond_false, hna, nq, t3, q7, q8]; decide
        have f5 : doV 54 a0 a0 = 0 := by
          simp only [z1, z2, z3, z4, arV, cond_true, cond_false, hna, q9, q10]; decide
        have f6 : doV 53 a0 0 = bits .xor .u64 (bits .and .u64 a0 9223372036854775808) 0 := by
          rw [hs]; simp only [z1, z2, z3, z4, arV, cond_true, cond_false, hna, nz, t0, q11, q12]
          cases s <;> decide
        have f7 : doV 53 a0 9223372036854775808 = bits .xor .u64 (bits .and .u64 a0 9223372036854775808) 9223372036854775808 := by
          rw [hs]; simp only [z1, z2, z3, z4, arV, cond_true, cond_false, hna, nm, t1, q13, q14]
          cases s <;> decide
        have hz' : (a0 % 9223372036854775808 == 0) = false := by simpa using hz
        have hi' : (a0 % 9223372036854775808 == 9218868437227405312) = false := by simpa using hi
        simp only [f1, f2, f3, f4, f5, f6, f7, g0, hz', hi', Bool.and_self, Bool.and_true, Bool.true_and, beq_self_eq_true, cond_true, cond_false]
        cases a1 <;> cases a2 <;> rfl
  · simp only [g0, cond_true]
    cases a1 <;> cases a2 <;> rfl
end Go.Proofs.Ytcddbojldlcdkaa.floatZeros
