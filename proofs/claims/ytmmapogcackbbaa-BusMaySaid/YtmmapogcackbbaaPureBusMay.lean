/- BusMay: the reckoning of the law, and that it is true. -/
import Derived.Test.YtmmapogcackbbaaCMm2
namespace Go.Proofs.Ytmmapogcackbbaa.busMay
open Go Go.Ev
set_option linter.unusedVariables false
set_option linter.unusedSimpArgs false
set_option maxRecDepth 100000
theorem form (a0 : Bool) (a1 : Bool) (a2 : Bool) (a3 : Int) (a4 : Int) :
    evF Try.prog ΓM2 400 9 [.v (.bool a0), .v (.bool a1), .v (.bool a2), .v (.int .u8 a3), .v (.int .u64 a4)] [] isT (fun _ _ => none) =
    (bif true && (true && in32 (IntKind.wrap IntKind.u32 a3)) && !3 == 0 then
    bif true && (true && in32 (IntKind.wrap IntKind.u32 a3)) && !3 == 0 then
    bif true && (true && in32 (IntKind.wrap IntKind.u32 a3)) then
    bif segE 0 300 (IntKind.wrap IntKind.u32 a3) 1 (mayV false false a2 2) != 0 then
    bif (segE 1000 300 (IntKind.wrap IntKind.u32 a3) 4 (mayV a0 a1 false 1) == 0) == a1 then
    bif (segE 1000 300 (IntKind.wrap IntKind.u32 a3) 4 (mayV a0 a1 false 0) == 0) == a0 then
    bif a1 then
    bif a0 then bif false == a2 then bif a2 then some true else some true else some false
    else
    bif segE 1000 300 (IntKind.wrap IntKind.u32 a3) 4 (mayV a0 a1 false 0) == 25 then
    bif false == a2 then bif a2 then some true else some true else some false
    else some false
    else
    bif segE 1000 300 (IntKind.wrap IntKind.u32 a3) 4 (mayV a0 a1 false 1) == 25 then
    bif a0 then bif false == a2 then bif a2 then some true else some true else some false
    else
    bif segE 1000 300 (IntKind.wrap IntKind.u32 a3) 4 (mayV a0 a1 false 0) == 25 then
    bif false == a2 then bif a2 then some true else some true else some false
    else some false
    else some false
    else some false
    else some false
    else
    bif in32 (IntKind.wrap IntKind.u32 (segA 0 300 (IntKind.wrap IntKind.u32 a3) 1 (mayV false false a2 2) + 0)) then
    bif true && (true && in32 (IntKind.wrap IntKind.u32 a3)) then
    bif segE 0 300 (IntKind.wrap IntKind.u32 a3) 2 (mayV false false a2 2) != 0 then
    bif (segE 1000 300 (IntKind.wrap IntKind.u32 a3) 4 (mayV a0 a1 false 1) == 0) == a1 then
    bif (segE 1000 300 (IntKind.wrap IntKind.u32 a3) 4 (mayV a0 a1 false 0) == 0) == a0 then
    bif a1 then
    bif a0 then bif false == a2 then bif a2 then some true else some false else some false
    else
    bif segE 1000 300 (IntKind.wrap IntKind.u32 a3) 4 (mayV a0 a1 false 0) == 25 then
    bif false == a2 then bif a2 then some true else some false else some false
    else some false
    else
    bif segE 1000 300 (IntKind.wrap IntKind.u32 a3) 4 (mayV a0 a1 false 1) == 25 then
    bif a0 then bif false == a2 then bif a2 then some true else some false else some false
    else
    bif segE 1000 300 (IntKind.wrap IntKind.u32 a3) 4 (mayV a0 a1 false 0) == 25 then
    bif false == a2 then bif a2 then some true else some false else some false
    else some false
    else some false
    else some false
    else some false
    else
    bif in32 (IntKind.wrap IntKind.u32 (segA 0 300 (IntKind.wrap IntKind.u32 a3) 2 (mayV false false a2 2) + 1)) then
    bif true && (true && in32 (IntKind.wrap IntKind.u32 a3)) then
    bif segE 0 300 (IntKind.wrap IntKind.u32 a3) 3 (mayV false false a2 2) != 0 then
    bif (segE 1000 300 (IntKind.wrap IntKind.u32 a3) 4 (mayV a0 a1 false 1) == 0) == a1 then
    bif (segE 1000 300 (IntKind.wrap IntKind.u32 a3) 4 (mayV a0 a1 false 0) == 0) == a0 then
    bif a1 then
    bif a0 then bif false == a2 then bif a2 then some true else some false else some false
    else
    bif segE 1000 300 (IntKind.wrap IntKind.u32 a3) 4 (mayV a0 a1 false 0) == 25 then
    bif false == a2 then bif a2 then some true else some false else some false
    else some false
    else
    bif segE 1000 300 (IntKind.wrap IntKind.u32 a3) 4 (mayV a0 a1 false 1) == 25 then
    bif a0 then bif false == a2 then bif a2 then some true else some false else some false
    else
    bif segE 1000 300 (IntKind.wrap IntKind.u32 a3) 4 (mayV a0 a1 false 0) == 25 then
    bif false == a2 then bif a2 then some true else some false else some false
    else some false
    else some false
    else some false
    else some false
    else
    bif in32 (IntKind.wrap IntKind.u32 (segA 0 300 (IntKind.wrap IntKind.u32 a3) 3 (mayV false false a2 2) + 2)) then
    bif true && (true && in32 (IntKind.wrap IntKind.u32 a3)) then
    bif segE 0 300 (IntKind.wrap IntKind.u32 a3) 4 (mayV false false a2 2) != 0 then
    bif (segE 1000 300 (IntKind.wrap IntKind.u32 a3) 4 (mayV a0 a1 false 1) == 0) == a1 then
    bif (segE 1000 300 (IntKind.wrap IntKind.u32 a3) 4 (mayV a0 a1 false 0) == 0) == a0 then
    bif a1 then
    bif a0 then bif false == a2 then bif a2 then some true else some false else some false
    else
    bif segE 1000 300 (IntKind.wrap IntKind.u32 a3) 4 (mayV a0 a1 false 0) == 25 then
    bif false == a2 then bif a2 then some true else some false else some false
    else some false
    else
    bif segE 1000 300 (IntKind.wrap IntKind.u32 a3) 4 (mayV a0 a1 false 1) == 25 then
    bif a0 then bif false == a2 then bif a2 then some true else some false else some false
    else
    bif segE 1000 300 (IntKind.wrap IntKind.u32 a3) 4 (mayV a0 a1 false 0) == 25 then
    bif false == a2 then bif a2 then some true else some false else some false
    else some false
    else some false
    else some false
    else some false
    else
    bif in32 (IntKind.wrap IntKind.u32 (segA 0 300 (IntKind.wrap IntKind.u32 a3) 4 (mayV false false a2 2) + 3)) then
    bif (segE 1000 300 (IntKind.wrap IntKind.u32 a3) 4 (mayV a0 a1 false 1) == 0) == a1 then
    bif (segE 1000 300 (IntKind.wrap IntKind.u32 a3) 4 (mayV a0 a1 false 0) == 0) == a0 then
    bif a1 then
    bif a0 then bif true == a2 then bif a2 then some true else some false else some false
    else
    bif segE 1000 300 (IntKind.wrap IntKind.u32 a3) 4 (mayV a0 a1 false 0) == 25 then
    bif true == a2 then bif a2 then some true else some false else some false
    else some false
    else
    bif segE 1000 300 (IntKind.wrap IntKind.u32 a3) 4 (mayV a0 a1 false 1) == 25 then
    bif a0 then bif true == a2 then bif a2 then some true else some false else some false
    else
    bif segE 1000 300 (IntKind.wrap IntKind.u32 a3) 4 (mayV a0 a1 false 0) == 25 then
    bif true == a2 then bif a2 then some true else some false else some false
    else some false
    else some false
    else some false
    else some false
    else none
    else none
    else none
    else none
    else none
    else none
    else none
    else none
    else none
    else none) := by kernel_rfl
set_option maxHeartbeats 1000000 in
theorem pure (a0 : Bool) (a1 : Bool) (a2 : Bool) (a3 : Int) (a4 : Int) (w3 : (Lit.int .u8 a3).wf = true) (w4 : (Lit.int .u64 a4).wf = true) :
    evF Try.prog ΓM2 400 9 [.v (.bool a0), .v (.bool a1), .v (.bool a2), .v (.int .u8 a3), .v (.int .u64 a4)] [] isT (fun _ _ => none) = some true := by
  rw [form]
  try simp only [bitsL_eq]
  have w8 := wf_u8 w3
  have hw : IntKind.wrap .u32 a3 = a3 := wr_u32_id (by omega) (by omega)
  have hg : ∀ (b s n : Int) (may : Bool), 0 ≤ b → b ≤ 1000 → s = 300 → 1 ≤ n → n ≤ 4 → segE b s a3 n may = bif may then 0 else 25 := fun b s n may h1 h2 h3 h4 h5 => by
    subst h3
    have hc : clampN n = n := by unfold clampN; rw [if_neg (by split <;> omega)]; split <;> omega
    have e1 : decide (a3 + clampN n > 300) = false := by simp [hc]; omega
    have e2 : decide (b + 300 > 4294967296) = false := by simp; omega
    unfold segE
    rw [e1, e2]
    cases may <;> rfl
  simp only [hw, seg_in]
  rw [hg 0 300 1 _ (by omega) (by omega) rfl (by omega) (by omega), hg 0 300 2 _ (by omega) (by omega) rfl (by omega) (by omega), hg 0 300 3 _ (by omega) (by omega) rfl (by omega) (by omega), hg 0 300 4 _ (by omega) (by omega) rfl (by omega) (by omega), hg 1000 300 4 _ (by omega) (by omega) rfl (by omega) (by omega), hg 1000 300 4 _ (by omega) (by omega) rfl (by omega) (by omega)]
  have hi : in32 a3 = true := in32_iff.2 (by omega)
  rw [hi]
  cases a0 <;> cases a1 <;> cases a2 <;> rfl

end Go.Proofs.Ytmmapogcackbbaa.busMay
