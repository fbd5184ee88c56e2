/- FloatLesser: the reckoning of the law, and that it is true. -/
import Derived.Test.YtcddbojldlcdkaaCFl4
import Derived.Test.YtcddbojldlcdkaaNFlt6
namespace Go.Proofs.Ytcddbojldlcdkaa.floatLesser
open Go Go.Ev
set_option linter.unusedVariables false
set_option linter.unusedSimpArgs false
set_option maxRecDepth 100000
theorem form (a0 : Int) (a1 : Int) :
    evF Try.prog ΓF4 400 14 [.v (.int .u64 a0), .v (.int .u64 a1)] [] isT (fun _ _ => none) =
    (bif true && (in64 a0 && in64 a1) then
    bif true && (in64 a0 && in64 a1) then
    bif in64 a0 && in64 a1 then
    bif cP a0 a1 then bif doV 55 a0 a1 == a1 then some (doV 57 a0 a1 == a1) else some false
    else
    bif cZ a0 a1 then bif doV 55 a0 a1 == a1 then some (doV 57 a0 a1 == a1) else some false
    else
    bif cC a0 a1 then bif doV 55 a0 a1 == a0 then some (doV 57 a0 a1 == a1) else some false
    else bif doV 55 a0 a1 == a1 then some (doV 57 a0 a1 == a0) else some false
    else none
    else none
    else none) := by kernel_rfl
set_option maxHeartbeats 1000000 in
theorem pure (a0 : Int) (a1 : Int) (w0 : (Lit.int .u64 a0).wf = true) (w1 : (Lit.int .u64 a1).wf = true) :
    evF Try.prog ΓF4 400 14 [.v (.int .u64 a0), .v (.int .u64 a1)] [] isT (fun _ _ => none) = some true := by
  rw [form]
  try simp only [bitsL_eq]
  have b0 := wf_u64 w0
  have b1 := wf_u64 w1
  have g0 := in64_iff.2 b0
  have g1 := in64_iff.2 b1
  have q5 : doV 55 a0 a1 = minV a0 a1 := rfl
  have q7 : doV 57 a0 a1 = maxV a0 a1 := rfl
  simp only [g0, g1, Bool.and_self, cond_true, q5, q7]
  unfold cP cZ cC minV maxV
  unfold cP
  cases hna : nanI a0
  · cases hnb : nanI a1
    · rcases cmp_num b0.1 b1.1 hna hnb with ⟨h1, h2, h3⟩ | ⟨h1, h2, h3⟩ | ⟨h1, h2, h3⟩ <;> simp [h1, h2, h3]
    · obtain ⟨h1, h2, h3⟩ := nan_cmp b0.1 b1.1 (.inr hnb); simp [h1, h2, h3]
  · obtain ⟨h1, h2, h3⟩ := nan_cmp b0.1 b1.1 (.inl hna); simp [h1, h2, h3]
end Go.Proofs.Ytcddbojldlcdkaa.floatLesser
