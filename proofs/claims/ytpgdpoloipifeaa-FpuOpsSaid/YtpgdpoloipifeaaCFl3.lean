/- Contracts: doubles: sums and the like. -/
import Derived.Test.YtpgdpoloipifeaaEvV
import Derived.Test.YtpgdpoloipifeaaCFl2
namespace Go.Proofs.Ytpgdpoloipifeaa
open Go Go.Ev
set_option linter.unusedVariables false
set_option linter.unusedSimpArgs false
set_option maxRecDepth 100000
theorem do__form (op : Int) (a : Int) (b : Int) :
    evF Try.prog ΓF2 400 69 [.v (.int .i64 op), .v (.int .u64 a), .v (.int .u64 b)] [] (fun x _ => some x) (fun _ _ => none) =
    (bif op == 51 then some (vd b)
    else
    bif op == 55 then
    bif op == 55 then
    bif op == 55 then
    bif flt (Int.toNat a) (Int.toNat b) then some (vd a)
    else
    bif op == 57 then
    bif fgt (Int.toNat a) (Int.toNat b) then some (vd a)
    else some (vd b)
    else some (vd b)
    else
    bif op == 57 then
    bif fgt (Int.toNat a) (Int.toNat b) then some (vd a)
    else some (vd b)
    else some (vd b)
    else
    bif op == 58 then
    bif in64 b then
    bif nanI b then bif in64 b then some (vd ((quV b))) else none
    else
    bif fsqok (Int.toNat b) then
    bif !feq (fsqrt (Int.toNat b)) (fsqrt (Int.toNat b)) then some (vd 18444492273895866368)
    else some (vd (↑(fsqrt (Int.toNat b))))
    else some (vd 18444492273895866368)
    else none
    else
    bif op == 52 then
    bif op == 52 then
    bif in64 a then
    bif nanI a then bif in64 a then some (vd ((quV a))) else none
    else
    bif in64 b then
    bif nanI b then bif in64 b then some (vd ((quV b))) else none
    else
    bif op == 52 then
    bif fok BinOp.add (Int.toNat a) (Int.toNat b) then
    bif !feq (fval BinOp.add (Int.toNat a) (Int.toNat b)) (fval BinOp.add (Int.toNat a) (Int.toNat b)) then
    some (vd 18444492273895866368)
    else some (vd (↑(fval BinOp.add (Int.toNat a) (Int.toNat b))))
    else some (vd 18444492273895866368)
    else
    bif op == 54 then
    bif fok BinOp.sub (Int.toNat a) (Int.toNat b) then
    bif !feq (fval BinOp.sub (Int.toNat a) (Int.toNat b)) (fval BinOp.sub (Int.toNat a) (Int.toNat b)) then
    some (vd 18444492273895866368)
    else some (vd (↑(fval BinOp.sub (Int.toNat a) (Int.toNat b))))
    else some (vd 18444492273895866368)
    else
    bif op == 53 then
    bif fok BinOp.mul (Int.toNat a) (Int.toNat b) then
    bif !feq (fval BinOp.mul (Int.toNat a) (Int.toNat b)) (fval BinOp.mul (Int.toNat a) (Int.toNat b)) then
    some (vd 18444492273895866368)
    else some (vd (↑(fval BinOp.mul (Int.toNat a) (Int.toNat b))))
    else some (vd 18444492273895866368)
    else
    bif fok BinOp.quo (Int.toNat a) (Int.toNat b) then
    bif !feq (fval BinOp.quo (Int.toNat a) (Int.toNat b)) (fval BinOp.quo (Int.toNat a) (Int.toNat b)) then
    some (vd 18444492273895866368)
    else some (vd (↑(fval BinOp.quo (Int.toNat a) (Int.toNat b))))
    else some (vd 18444492273895866368)
    else none
    else none
    else some (vd a)
    else
    bif op == 54 then
    bif op == 54 then
    bif in64 a then
    bif nanI a then bif in64 a then some (vd ((quV a))) else none
    else
    bif in64 b then
    bif nanI b then bif in64 b then some (vd ((quV b))) else none
    else
    bif op == 52 then
    bif fok BinOp.add (Int.toNat a) (Int.toNat b) then
    bif !feq (fval BinOp.add (Int.toNat a) (Int.toNat b)) (fval BinOp.add (Int.toNat a) (Int.toNat b)) then
    some (vd 18444492273895866368)
    else some (vd (↑(fval BinOp.add (Int.toNat a) (Int.toNat b))))
    else some (vd 18444492273895866368)
    else
    bif op == 54 then
    bif fok BinOp.sub (Int.toNat a) (Int.toNat b) then
    bif !feq (fval BinOp.sub (Int.toNat a) (Int.toNat b)) (fval BinOp.sub (Int.toNat a) (Int.toNat b)) then
    some (vd 18444492273895866368)
    else some (vd (↑(fval BinOp.sub (Int.toNat a) (Int.toNat b))))
    else some (vd 18444492273895866368)
    else
    bif op == 53 then
    bif fok BinOp.mul (Int.toNat a) (Int.toNat b) then
    bif !feq (fval BinOp.mul (Int.toNat a) (Int.toNat b)) (fval BinOp.mul (Int.toNat a) (Int.toNat b)) then
    some (vd 18444492273895866368)
    else some (vd (↑(fval BinOp.mul (Int.toNat a) (Int.toNat b))))
    else some (vd 18444492273895866368)
    else
    bif fok BinOp.quo (Int.toNat a) (Int.toNat b) then
    bif !feq (fval BinOp.quo (Int.toNat a) (Int.toNat b)) (fval BinOp.quo (Int.toNat a) (Int.toNat b)) then
    some (vd 18444492273895866368)
    else some (vd (↑(fval BinOp.quo (Int.toNat a) (Int.toNat b))))
    else some (vd 18444492273895866368)
    else none
    else none
    else some (vd a)
    else
    bif op == 53 then
    bif op == 53 then
    bif in64 a then
    bif nanI a then bif in64 a then some (vd ((quV a))) else none
    else
    bif in64 b then
    bif nanI b then bif in64 b then some (vd ((quV b))) else none
    else
    bif op == 52 then
    bif fok BinOp.add (Int.toNat a) (Int.toNat b) then
    bif !feq (fval BinOp.add (Int.toNat a) (Int.toNat b)) (fval BinOp.add (Int.toNat a) (Int.toNat b)) then
    some (vd 18444492273895866368)
    else some (vd (↑(fval BinOp.add (Int.toNat a) (Int.toNat b))))
    else some (vd 18444492273895866368)
    else
    bif op == 54 then
    bif fok BinOp.sub (Int.toNat a) (Int.toNat b) then
    bif !feq (fval BinOp.sub (Int.toNat a) (Int.toNat b)) (fval BinOp.sub (Int.toNat a) (Int.toNat b)) then
    some (vd 18444492273895866368)
    else some (vd (↑(fval BinOp.sub (Int.toNat a) (Int.toNat b))))
    else some (vd 18444492273895866368)
    else
    bif op == 53 then
    bif fok BinOp.mul (Int.toNat a) (Int.toNat b) then
    bif !feq (fval BinOp.mul (Int.toNat a) (Int.toNat b)) (fval BinOp.mul (Int.toNat a) (Int.toNat b)) then
    some (vd 18444492273895866368)
    else some (vd (↑(fval BinOp.mul (Int.toNat a) (Int.toNat b))))
    else some (vd 18444492273895866368)
    else
    bif fok BinOp.quo (Int.toNat a) (Int.toNat b) then
    bif !feq (fval BinOp.quo (Int.toNat a) (Int.toNat b)) (fval BinOp.quo (Int.toNat a) (Int.toNat b)) then
    some (vd 18444492273895866368)
    else some (vd (↑(fval BinOp.quo (Int.toNat a) (Int.toNat b))))
    else some (vd 18444492273895866368)
    else none
    else none
    else some (vd a)
    else
    bif op == 56 then
    bif in64 a then
    bif nanI a then bif in64 a then some (vd ((quV a))) else none
    else
    bif in64 b then
    bif nanI b then bif in64 b then some (vd ((quV b))) else none
    else
    bif op == 52 then
    bif fok BinOp.add (Int.toNat a) (Int.toNat b) then
    bif !feq (fval BinOp.add (Int.toNat a) (Int.toNat b)) (fval BinOp.add (Int.toNat a) (Int.toNat b)) then
    some (vd 18444492273895866368)
    else some (vd (↑(fval BinOp.add (Int.toNat a) (Int.toNat b))))
    else some (vd 18444492273895866368)
    else
    bif op == 54 then
    bif fok BinOp.sub (Int.toNat a) (Int.toNat b) then
    bif !feq (fval BinOp.sub (Int.toNat a) (Int.toNat b)) (fval BinOp.sub (Int.toNat a) (Int.toNat b)) then
    some (vd 18444492273895866368)
    else some (vd (↑(fval BinOp.sub (Int.toNat a) (Int.toNat b))))
    else some (vd 18444492273895866368)
    else
    bif op == 53 then
    bif fok BinOp.mul (Int.toNat a) (Int.toNat b) then
    bif !feq (fval BinOp.mul (Int.toNat a) (Int.toNat b)) (fval BinOp.mul (Int.toNat a) (Int.toNat b)) then
    some (vd 18444492273895866368)
    else some (vd (↑(fval BinOp.mul (Int.toNat a) (Int.toNat b))))
    else some (vd 18444492273895866368)
    else
    bif fok BinOp.quo (Int.toNat a) (Int.toNat b) then
    bif !feq (fval BinOp.quo (Int.toNat a) (Int.toNat b)) (fval BinOp.quo (Int.toNat a) (Int.toNat b)) then
    some (vd 18444492273895866368)
    else some (vd (↑(fval BinOp.quo (Int.toNat a) (Int.toNat b))))
    else some (vd 18444492273895866368)
    else none
    else none
    else some (vd a)
    else
    bif op == 57 then
    bif op == 55 then
    bif flt (Int.toNat a) (Int.toNat b) then some (vd a)
    else
    bif op == 57 then
    bif fgt (Int.toNat a) (Int.toNat b) then some (vd a)
    else some (vd b)
    else some (vd b)
    else
    bif op == 57 then
    bif fgt (Int.toNat a) (Int.toNat b) then some (vd a)
    else some (vd b)
    else some (vd b)
    else
    bif op == 58 then
    bif in64 b then
    bif nanI b then bif in64 b then some (vd ((quV b))) else none
    else
    bif fsqok (Int.toNat b) then
    bif !feq (fsqrt (Int.toNat b)) (fsqrt (Int.toNat b)) then some (vd 18444492273895866368)
    else some (vd (↑(fsqrt (Int.toNat b))))
    else some (vd 18444492273895866368)
    else none
    else
    bif op == 52 then
    bif op == 52 then
    bif in64 a then
    bif nanI a then bif in64 a then some (vd ((quV a))) else none
    else
    bif in64 b then
    bif nanI b then bif in64 b then some (vd ((quV b))) else none
    else
    bif op == 52 then
    bif fok BinOp.add (Int.toNat a) (Int.toNat b) then
    bif !feq (fval BinOp.add (Int.toNat a) (Int.toNat b)) (fval BinOp.add (Int.toNat a) (Int.toNat b)) then
    some (vd 18444492273895866368)
    else some (vd (↑(fval BinOp.add (Int.toNat a) (Int.toNat b))))
    else some (vd 18444492273895866368)
    else
    bif op == 54 then
    bif fok BinOp.sub (Int.toNat a) (Int.toNat b) then
    bif !feq (fval BinOp.sub (Int.toNat a) (Int.toNat b)) (fval BinOp.sub (Int.toNat a) (Int.toNat b)) then
    some (vd 18444492273895866368)
    else some (vd (↑(fval BinOp.sub (Int.toNat a) (Int.toNat b))))
    else some (vd 18444492273895866368)
    else
    bif op == 53 then
    bif fok BinOp.mul (Int.toNat a) (Int.toNat b) then
    bif !feq (fval BinOp.mul (Int.toNat a) (Int.toNat b)) (fval BinOp.mul (Int.toNat a) (Int.toNat b)) then
    some (vd 18444492273895866368)
    else some (vd (↑(fval BinOp.mul (Int.toNat a) (Int.toNat b))))
    else some (vd 18444492273895866368)
    else
    bif fok BinOp.quo (Int.toNat a) (Int.toNat b) then
    bif !feq (fval BinOp.quo (Int.toNat a) (Int.toNat b)) (fval BinOp.quo (Int.toNat a) (Int.toNat b)) then
    some (vd 18444492273895866368)
    else some (vd (↑(fval BinOp.quo (Int.toNat a) (Int.toNat b))))
    else some (vd 18444492273895866368)
    else none
    else none
    else some (vd a)
    else
    bif op == 54 then
    bif op == 54 then
    bif in64 a then
    bif nanI a then bif in64 a then some (vd ((quV a))) else none
    else
    bif in64 b then
    bif nanI b then bif in64 b then some (vd ((quV b))) else none
    else
    bif op == 52 then
    bif fok BinOp.add (Int.toNat a) (Int.toNat b) then
    bif !feq (fval BinOp.add (Int.toNat a) (Int.toNat b)) (fval BinOp.add (Int.toNat a) (Int.toNat b)) then
    some (vd 18444492273895866368)
    else some (vd (↑(fval BinOp.add (Int.toNat a) (Int.toNat b))))
    else some (vd 18444492273895866368)
    else
    bif op == 54 then
    bif fok BinOp.sub (Int.toNat a) (Int.toNat b) then
    bif !feq (fval BinOp.sub (Int.toNat a) (Int.toNat b)) (fval BinOp.sub (Int.toNat a) (Int.toNat b)) then
    some (vd 18444492273895866368)
    else some (vd (↑(fval BinOp.sub (Int.toNat a) (Int.toNat b))))
    else some (vd 18444492273895866368)
    else
    bif op == 53 then
    bif fok BinOp.mul (Int.toNat a) (Int.toNat b) then
    bif !feq (fval BinOp.mul (Int.toNat a) (Int.toNat b)) (fval BinOp.mul (Int.toNat a) (Int.toNat b)) then
    some (vd 18444492273895866368)
    else some (vd (↑(fval BinOp.mul (Int.toNat a) (Int.toNat b))))
    else some (vd 18444492273895866368)
    else
    bif fok BinOp.quo (Int.toNat a) (Int.toNat b) then
    bif !feq (fval BinOp.quo (Int.toNat a) (Int.toNat b)) (fval BinOp.quo (Int.toNat a) (Int.toNat b)) then
    some (vd 18444492273895866368)
    else some (vd (↑(fval BinOp.quo (Int.toNat a) (Int.toNat b))))
    else some (vd 18444492273895866368)
    else none
    else none
    else some (vd a)
    else
    bif op == 53 then
    bif op == 53 then
    bif in64 a then
    bif nanI a then bif in64 a then some (vd ((quV a))) else none
    else
    bif in64 b then
    bif nanI b then bif in64 b then some (vd ((quV b))) else none
    else
    bif op == 52 then
    bif fok BinOp.add (Int.toNat a) (Int.toNat b) then
    bif !feq (fval BinOp.add (Int.toNat a) (Int.toNat b)) (fval BinOp.add (Int.toNat a) (Int.toNat b)) then
    some (vd 18444492273895866368)
    else some (vd (↑(fval BinOp.add (Int.toNat a) (Int.toNat b))))
    else some (vd 18444492273895866368)
    else
    bif op == 54 then
    bif fok BinOp.sub (Int.toNat a) (Int.toNat b) then
    bif !feq (fval BinOp.sub (Int.toNat a) (Int.toNat b)) (fval BinOp.sub (Int.toNat a) (Int.toNat b)) then
    some (vd 18444492273895866368)
    else some (vd (↑(fval BinOp.sub (Int.toNat a) (Int.toNat b))))
    else some (vd 18444492273895866368)
    else
    bif op == 53 then
    bif fok BinOp.mul (Int.toNat a) (Int.toNat b) then
    bif !feq (fval BinOp.mul (Int.toNat a) (Int.toNat b)) (fval BinOp.mul (Int.toNat a) (Int.toNat b)) then
    some (vd 18444492273895866368)
    else some (vd (↑(fval BinOp.mul (Int.toNat a) (Int.toNat b))))
    else some (vd 18444492273895866368)
    else
    bif fok BinOp.quo (Int.toNat a) (Int.toNat b) then
    bif !feq (fval BinOp.quo (Int.toNat a) (Int.toNat b)) (fval BinOp.quo (Int.toNat a) (Int.toNat b)) then
    some (vd 18444492273895866368)
    else some (vd (↑(fval BinOp.quo (Int.toNat a) (Int.toNat b))))
    else some (vd 18444492273895866368)
    else none
    else none
    else some (vd a)
    else
    bif op == 56 then
    bif in64 a then
    bif nanI a then bif in64 a then some (vd ((quV a))) else none
    else
    bif in64 b then
    bif nanI b then bif in64 b then some (vd ((quV b))) else none
    else
    bif op == 52 then
    bif fok BinOp.add (Int.toNat a) (Int.toNat b) then
    bif !feq (fval BinOp.add (Int.toNat a) (Int.toNat b)) (fval BinOp.add (Int.toNat a) (Int.toNat b)) then
    some (vd 18444492273895866368)
    else some (vd (↑(fval BinOp.add (Int.toNat a) (Int.toNat b))))
    else some (vd 18444492273895866368)
    else
    bif op == 54 then
    bif fok BinOp.sub (Int.toNat a) (Int.toNat b) then
    bif !feq (fval BinOp.sub (Int.toNat a) (Int.toNat b)) (fval BinOp.sub (Int.toNat a) (Int.toNat b)) then
    some (vd 18444492273895866368)
    else some (vd (↑(fval BinOp.sub (Int.toNat a) (Int.toNat b))))
    else some (vd 18444492273895866368)
    else
    bif op == 53 then
    bif fok BinOp.mul (Int.toNat a) (Int.toNat b) then
    bif !feq (fval BinOp.mul (Int.toNat a) (Int.toNat b)) (fval BinOp.mul (Int.toNat a) (Int.toNat b)) then
    some (vd 18444492273895866368)
    else some (vd (↑(fval BinOp.mul (Int.toNat a) (Int.toNat b))))
    else some (vd 18444492273895866368)
    else
    bif fok BinOp.quo (Int.toNat a) (Int.toNat b) then
    bif !feq (fval BinOp.quo (Int.toNat a) (Int.toNat b)) (fval BinOp.quo (Int.toNat a) (Int.toNat b)) then
    some (vd 18444492273895866368)
    else some (vd (↑(fval BinOp.quo (Int.toNat a) (Int.toNat b))))
    else some (vd 18444492273895866368)
    else none
    else none
    else some (vd a)) := by kernel_rfl
theorem do__nice (op : Int) (a : Int) (b : Int) (hg : (ini64 op && (in64 a && (in64 b))) = true) :
    evF Try.prog ΓF2 400 69 [.v (.int .i64 op), .v (.int .u64 a), .v (.int .u64 b)] [] (fun x _ => some x) (fun _ _ => none) = some (.v (.int .u64 (doV op a b))) := by
  rw [do__form]
  try simp only [bitsL_eq]
  simp only [Bool.and_eq_true, in64_iff] at hg
  obtain ⟨_, ⟨ha, ha'⟩, hb, hb'⟩ := hg
  have ga := in64_iff.2 ⟨ha, ha'⟩
  have gb := in64_iff.2 ⟨hb, hb'⟩
  have hqa := nan_cmp ha hb
  simp only [ga, gb, cond_true, ar_form, sq_form]
  unfold doV
  have lit : ∀ (c d : Int), (c == d) = decide (c = d) := fun c d => rfl
  by_cases h1 : op = 51
  · subst h1; simp
  by_cases h2 : op = 55
  · subst h2; simp only [lit, minV]; simp only [Int.reduceEq, decide_true, decide_false, cond_true, cond_false]
    cases nanI a <;> cases nanI b <;> cases flt a.toNat b.toNat <;> cases fgt a.toNat b.toNat <;> cases fsqok b.toNat <;> cases fok .add a.toNat b.toNat <;> cases fok .sub a.toNat b.toNat <;> cases fok .mul a.toNat b.toNat <;> cases fok .quo a.toNat b.toNat <;> rfl
  by_cases h3 : op = 57
  · subst h3; simp only [lit, maxV]; simp only [Int.reduceEq, decide_true, decide_false, cond_true, cond_false]
    cases nanI a <;> cases nanI b <;> cases flt a.toNat b.toNat <;> cases fgt a.toNat b.toNat <;> cases fsqok b.toNat <;> cases fok .add a.toNat b.toNat <;> cases fok .sub a.toNat b.toNat <;> cases fok .mul a.toNat b.toNat <;> cases fok .quo a.toNat b.toNat <;> rfl
  by_cases h4 : op = 58
  · subst h4; simp only [lit, sqV, quV, plainI]; simp only [Int.reduceEq, decide_true, decide_false, cond_true, cond_false]
    cases nanI a <;> cases nanI b <;> cases flt a.toNat b.toNat <;> cases fgt a.toNat b.toNat <;> cases fsqok b.toNat <;> cases fok .add a.toNat b.toNat <;> cases fok .sub a.toNat b.toNat <;> cases fok .mul a.toNat b.toNat <;> cases fok .quo a.toNat b.toNat <;> rfl
  by_cases h5 : op = 52
  · subst h5; simp only [lit, arV, quV, plainI]; simp only [Int.reduceEq, decide_true, decide_false, cond_true, cond_false]
    cases nanI a <;> cases nanI b <;> cases flt a.toNat b.toNat <;> cases fgt a.toNat b.toNat <;> cases fsqok b.toNat <;> cases fok .add a.toNat b.toNat <;> cases fok .sub a.toNat b.toNat <;> cases fok .mul a.toNat b.toNat <;> cases fok .quo a.toNat b.toNat <;> rfl
  by_cases h6 : op = 54
  · subst h6; simp only [lit, arV, quV, plainI]; simp only [Int.reduceEq, decide_true, decide_false, cond_true, cond_false]
    cases nanI a <;> cases nanI b <;> cases flt a.toNat b.toNat <;> cases fgt a.toNat b.toNat <;> cases fsqok b.toNat <;> cases fok .add a.toNat b.toNat <;> cases fok .sub a.toNat b.toNat <;> cases fok .mul a.toNat b.toNat <;> cases fok .quo a.toNat b.toNat <;> rfl
  by_cases h7 : op = 53
  · subst h7; simp only [lit, arV, quV, plainI]; simp only [Int.reduceEq, decide_true, decide_false, cond_true, cond_false]
    cases nanI a <;> cases nanI b <;> cases flt a.toNat b.toNat <;> cases fgt a.toNat b.toNat <;> cases fsqok b.toNat <;> cases fok .add a.toNat b.toNat <;> cases fok .sub a.toNat b.toNat <;> cases fok .mul a.toNat b.toNat <;> cases fok .quo a.toNat b.toNat <;> rfl
  by_cases h8 : op = 56
  · subst h8; simp only [lit, arV, quV, plainI]; simp only [Int.reduceEq, decide_true, decide_false, cond_true, cond_false]
    cases nanI a <;> cases nanI b <;> cases flt a.toNat b.toNat <;> cases fgt a.toNat b.toNat <;> cases fsqok b.toNat <;> cases fok .add a.toNat b.toNat <;> cases fok .sub a.toNat b.toNat <;> cases fok .mul a.toNat b.toNat <;> cases fok .quo a.toNat b.toNat <;> rfl
  simp [lit, h1, h2, h3, h4, h5, h6, h7, h8]
def do_S : Nice := fun R args kv => match args with
  | [.v (.int .i64 op), .v (.int .u64 a), .v (.int .u64 b)] => bif ini64 op && (in64 a && (in64 b)) then kv (.v (.int .u64 (doV op a b))) else none
  | _ => none
theorem do_S_ok : NiceOk Try.prog ΓF2 400 69 do_S := by
  intro R args kv r h
  unfold do_S at h
  split at h
  · obtain ⟨hg, h⟩ := cond_some h
    exact ⟨_, h, rfl, rfl, do__nice _ _ _ hg⟩
  · cases h
theorem rfloat_form (op : Int) (a : Int) (b : Int) :
    evF Try.prog ΓF2 400 80 [.v (.int .i64 op), .v (.int .u64 a), .v (.int .u64 b)] [] (fun x _ => some x) (fun _ _ => none) =
    (bif op == 51 then some (vd b)
    else
    bif op == 55 then
    bif op == 55 then
    bif in64 a then
    bif nanI a then some (vd b)
    else
    bif in64 b then
    bif nanI b then some (vd b)
    else
    bif in64 a then
    bif IntKind.wrap IntKind.u64 (a * 2) == 0 then
    bif in64 b then
    bif IntKind.wrap IntKind.u64 (b * 2) == 0 then some (vd b)
    else
    bif op == 55 then
    bif flt (Int.toNat a) (Int.toNat b) then some (vd a)
    else
    bif op == 57 then
    bif fgt (Int.toNat a) (Int.toNat b) then some (vd a)
    else some (vd b)
    else some (vd b)
    else
    bif op == 57 then
    bif fgt (Int.toNat a) (Int.toNat b) then some (vd a)
    else some (vd b)
    else some (vd b)
    else none
    else
    bif op == 55 then
    bif flt (Int.toNat a) (Int.toNat b) then some (vd a)
    else
    bif op == 57 then
    bif fgt (Int.toNat a) (Int.toNat b) then some (vd a)
    else some (vd b)
    else some (vd b)
    else
    bif op == 57 then
    bif fgt (Int.toNat a) (Int.toNat b) then some (vd a)
    else some (vd b)
    else some (vd b)
    else none
    else none
    else none
    else
    bif op == 58 then
    bif in64 b then
    bif nanI b then bif in64 b then some (vd ((quV b))) else none
    else
    bif flt (Int.toNat b) 0 then some (vd 18444492273895866368)
    else bif fsqok (Int.toNat b) then some (vd (↑(fsqrt (Int.toNat b)))) else none
    else none
    else
    bif op == 52 then
    bif op == 52 then
    bif in64 a then
    bif nanI a then bif in64 a then some (vd ((quV a))) else none
    else
    bif in64 b then
    bif nanI b then bif in64 b then some (vd ((quV b))) else none
    else
    bif op == 52 then
    bif fok BinOp.add (Int.toNat a) (Int.toNat b) then
    bif !feq (fval BinOp.add (Int.toNat a) (Int.toNat b)) (fval BinOp.add (Int.toNat a) (Int.toNat b)) then
    some (vd 18444492273895866368)
    else some (vd (↑(fval BinOp.add (Int.toNat a) (Int.toNat b))))
    else some (vd 18444492273895866368)
    else
    bif op == 54 then
    bif fok BinOp.sub (Int.toNat a) (Int.toNat b) then
    bif !feq (fval BinOp.sub (Int.toNat a) (Int.toNat b)) (fval BinOp.sub (Int.toNat a) (Int.toNat b)) then
    some (vd 18444492273895866368)
    else some (vd (↑(fval BinOp.sub (Int.toNat a) (Int.toNat b))))
    else some (vd 18444492273895866368)
    else
    bif op == 53 then
    bif fok BinOp.mul (Int.toNat a) (Int.toNat b) then
    bif !feq (fval BinOp.mul (Int.toNat a) (Int.toNat b)) (fval BinOp.mul (Int.toNat a) (Int.toNat b)) then
    some (vd 18444492273895866368)
    else some (vd (↑(fval BinOp.mul (Int.toNat a) (Int.toNat b))))
    else some (vd 18444492273895866368)
    else
    bif fok BinOp.quo (Int.toNat a) (Int.toNat b) then
    bif !feq (fval BinOp.quo (Int.toNat a) (Int.toNat b)) (fval BinOp.quo (Int.toNat a) (Int.toNat b)) then
    some (vd 18444492273895866368)
    else some (vd (↑(fval BinOp.quo (Int.toNat a) (Int.toNat b))))
    else some (vd 18444492273895866368)
    else none
    else none
    else some (vd a)
    else
    bif op == 54 then
    bif op == 54 then
    bif in64 a then
    bif nanI a then bif in64 a then some (vd ((quV a))) else none
    else
    bif in64 b then
    bif nanI b then bif in64 b then some (vd ((quV b))) else none
    else
    bif op == 52 then
    bif fok BinOp.add (Int.toNat a) (Int.toNat b) then
    bif !feq (fval BinOp.add (Int.toNat a) (Int.toNat b)) (fval BinOp.add (Int.toNat a) (Int.toNat b)) then
    some (vd 18444492273895866368)
    else some (vd (↑(fval BinOp.add (Int.toNat a) (Int.toNat b))))
    else some (vd 18444492273895866368)
    else
    bif op == 54 then
    bif fok BinOp.sub (Int.toNat a) (Int.toNat b) then
    bif !feq (fval BinOp.sub (Int.toNat a) (Int.toNat b)) (fval BinOp.sub (Int.toNat a) (Int.toNat b)) then
    some (vd 18444492273895866368)
    else some (vd (↑(fval BinOp.sub (Int.toNat a) (Int.toNat b))))
    else some (vd 18444492273895866368)
    else
    bif op == 53 then
    bif fok BinOp.mul (Int.toNat a) (Int.toNat b) then
    bif !feq (fval BinOp.mul (Int.toNat a) (Int.toNat b)) (fval BinOp.mul (Int.toNat a) (Int.toNat b)) then
    some (vd 18444492273895866368)
    else some (vd (↑(fval BinOp.mul (Int.toNat a) (Int.toNat b))))
    else some (vd 18444492273895866368)
    else
    bif fok BinOp.quo (Int.toNat a) (Int.toNat b) then
    bif !feq (fval BinOp.quo (Int.toNat a) (Int.toNat b)) (fval BinOp.quo (Int.toNat a) (Int.toNat b)) then
    some (vd 18444492273895866368)
    else some (vd (↑(fval BinOp.quo (Int.toNat a) (Int.toNat b))))
    else some (vd 18444492273895866368)
    else none
    else none
    else some (vd a)
    else
    bif op == 53 then
    bif op == 53 then
    bif in64 a then
    bif nanI a then bif in64 a then some (vd ((quV a))) else none
    else
    bif in64 b then
    bif nanI b then bif in64 b then some (vd ((quV b))) else none
    else
    bif op == 52 then
    bif fok BinOp.add (Int.toNat a) (Int.toNat b) then
    bif !feq (fval BinOp.add (Int.toNat a) (Int.toNat b)) (fval BinOp.add (Int.toNat a) (Int.toNat b)) then
    some (vd 18444492273895866368)
    else some (vd (↑(fval BinOp.add (Int.toNat a) (Int.toNat b))))
    else some (vd 18444492273895866368)
    else
    bif op == 54 then
    bif fok BinOp.sub (Int.toNat a) (Int.toNat b) then
    bif !feq (fval BinOp.sub (Int.toNat a) (Int.toNat b)) (fval BinOp.sub (Int.toNat a) (Int.toNat b)) then
    some (vd 18444492273895866368)
    else some (vd (↑(fval BinOp.sub (Int.toNat a) (Int.toNat b))))
    else some (vd 18444492273895866368)
    else
    bif op == 53 then
    bif fok BinOp.mul (Int.toNat a) (Int.toNat b) then
    bif !feq (fval BinOp.mul (Int.toNat a) (Int.toNat b)) (fval BinOp.mul (Int.toNat a) (Int.toNat b)) then
    some (vd 18444492273895866368)
    else some (vd (↑(fval BinOp.mul (Int.toNat a) (Int.toNat b))))
    else some (vd 18444492273895866368)
    else
    bif fok BinOp.quo (Int.toNat a) (Int.toNat b) then
    bif !feq (fval BinOp.quo (Int.toNat a) (Int.toNat b)) (fval BinOp.quo (Int.toNat a) (Int.toNat b)) then
    some (vd 18444492273895866368)
    else some (vd (↑(fval BinOp.quo (Int.toNat a) (Int.toNat b))))
    else some (vd 18444492273895866368)
    else none
    else none
    else some (vd a)
    else
    bif op == 56 then
    bif in64 a then
    bif nanI a then bif in64 a then some (vd ((quV a))) else none
    else
    bif in64 b then
    bif nanI b then bif in64 b then some (vd ((quV b))) else none
    else
    bif op == 52 then
    bif fok BinOp.add (Int.toNat a) (Int.toNat b) then
    bif !feq (fval BinOp.add (Int.toNat a) (Int.toNat b)) (fval BinOp.add (Int.toNat a) (Int.toNat b)) then
    some (vd 18444492273895866368)
    else some (vd (↑(fval BinOp.add (Int.toNat a) (Int.toNat b))))
    else some (vd 18444492273895866368)
    else
    bif op == 54 then
    bif fok BinOp.sub (Int.toNat a) (Int.toNat b) then
    bif !feq (fval BinOp.sub (Int.toNat a) (Int.toNat b)) (fval BinOp.sub (Int.toNat a) (Int.toNat b)) then
    some (vd 18444492273895866368)
    else some (vd (↑(fval BinOp.sub (Int.toNat a) (Int.toNat b))))
    else some (vd 18444492273895866368)
    else
    bif op == 53 then
    bif fok BinOp.mul (Int.toNat a) (Int.toNat b) then
    bif !feq (fval BinOp.mul (Int.toNat a) (Int.toNat b)) (fval BinOp.mul (Int.toNat a) (Int.toNat b)) then
    some (vd 18444492273895866368)
    else some (vd (↑(fval BinOp.mul (Int.toNat a) (Int.toNat b))))
    else some (vd 18444492273895866368)
    else
    bif fok BinOp.quo (Int.toNat a) (Int.toNat b) then
    bif !feq (fval BinOp.quo (Int.toNat a) (Int.toNat b)) (fval BinOp.quo (Int.toNat a) (Int.toNat b)) then
    some (vd 18444492273895866368)
    else some (vd (↑(fval BinOp.quo (Int.toNat a) (Int.toNat b))))
    else some (vd 18444492273895866368)
    else none
    else none
    else some (vd a)
    else
    bif op == 57 then
    bif in64 a then
    bif nanI a then some (vd b)
    else
    bif in64 b then
    bif nanI b then some (vd b)
    else
    bif in64 a then
    bif IntKind.wrap IntKind.u64 (a * 2) == 0 then
    bif in64 b then
    bif IntKind.wrap IntKind.u64 (b * 2) == 0 then some (vd b)
    else
    bif op == 55 then
    bif flt (Int.toNat a) (Int.toNat b) then some (vd a)
    else
    bif op == 57 then
    bif fgt (Int.toNat a) (Int.toNat b) then some (vd a)
    else some (vd b)
    else some (vd b)
    else
    bif op == 57 then
    bif fgt (Int.toNat a) (Int.toNat b) then some (vd a)
    else some (vd b)
    else some (vd b)
    else none
    else
    bif op == 55 then
    bif flt (Int.toNat a) (Int.toNat b) then some (vd a)
    else
    bif op == 57 then
    bif fgt (Int.toNat a) (Int.toNat b) then some (vd a)
    else some (vd b)
    else some (vd b)
    else
    bif op == 57 then
    bif fgt (Int.toNat a) (Int.toNat b) then some (vd a)
    else some (vd b)
    else some (vd b)
    else none
    else none
    else none
    else
    bif op == 58 then
    bif in64 b then
    bif nanI b then bif in64 b then some (vd ((quV b))) else none
    else
    bif flt (Int.toNat b) 0 then some (vd 18444492273895866368)
    else bif fsqok (Int.toNat b) then some (vd (↑(fsqrt (Int.toNat b)))) else none
    else none
    else
    bif op == 52 then
    bif op == 52 then
    bif in64 a then
    bif nanI a then bif in64 a then some (vd ((quV a))) else none
    else
    bif in64 b then
    bif nanI b then bif in64 b then some (vd ((quV b))) else none
    else
    bif op == 52 then
    bif fok BinOp.add (Int.toNat a) (Int.toNat b) then
    bif !feq (fval BinOp.add (Int.toNat a) (Int.toNat b)) (fval BinOp.add (Int.toNat a) (Int.toNat b)) then
    some (vd 18444492273895866368)
    else some (vd (↑(fval BinOp.add (Int.toNat a) (Int.toNat b))))
    else some (vd 18444492273895866368)
    else
    bif op == 54 then
    bif fok BinOp.sub (Int.toNat a) (Int.toNat b) then
    bif !feq (fval BinOp.sub (Int.toNat a) (Int.toNat b)) (fval BinOp.sub (Int.toNat a) (Int.toNat b)) then
    some (vd 18444492273895866368)
    else some (vd (↑(fval BinOp.sub (Int.toNat a) (Int.toNat b))))
    else some (vd 18444492273895866368)
    else
    bif op == 53 then
    bif fok BinOp.mul (Int.toNat a) (Int.toNat b) then
    bif !feq (fval BinOp.mul (Int.toNat a) (Int.toNat b)) (fval BinOp.mul (Int.toNat a) (Int.toNat b)) then
    some (vd 18444492273895866368)
    else some (vd (↑(fval BinOp.mul (Int.toNat a) (Int.toNat b))))
    else some (vd 18444492273895866368)
    else
    bif fok BinOp.quo (Int.toNat a) (Int.toNat b) then
    bif !feq (fval BinOp.quo (Int.toNat a) (Int.toNat b)) (fval BinOp.quo (Int.toNat a) (Int.toNat b)) then
    some (vd 18444492273895866368)
    else some (vd (↑(fval BinOp.quo (Int.toNat a) (Int.toNat b))))
    else some (vd 18444492273895866368)
    else none
    else none
    else some (vd a)
    else
    bif op == 54 then
    bif op == 54 then
    bif in64 a then
    bif nanI a then bif in64 a then some (vd ((quV a))) else none
    else
    bif in64 b then
    bif nanI b then bif in64 b then some (vd ((quV b))) else none
    else
    bif op == 52 then
    bif fok BinOp.add (Int.toNat a) (Int.toNat b) then
    bif !feq (fval BinOp.add (Int.toNat a) (Int.toNat b)) (fval BinOp.add (Int.toNat a) (Int.toNat b)) then
    some (vd 18444492273895866368)
    else some (vd (↑(fval BinOp.add (Int.toNat a) (Int.toNat b))))
    else some (vd 18444492273895866368)
    else
    bif op == 54 then
    bif fok BinOp.sub (Int.toNat a) (Int.toNat b) then
    bif !feq (fval BinOp.sub (Int.toNat a) (Int.toNat b)) (fval BinOp.sub (Int.toNat a) (Int.toNat b)) then
    some (vd 18444492273895866368)
    else some (vd (↑(fval BinOp.sub (Int.toNat a) (Int.toNat b))))
    else some (vd 18444492273895866368)
    else
    bif op == 53 then
    bif fok BinOp.mul (Int.toNat a) (Int.toNat b) then
    bif !feq (fval BinOp.mul (Int.toNat a) (Int.toNat b)) (fval BinOp.mul (Int.toNat a) (Int.toNat b)) then
    some (vd 18444492273895866368)
    else some (vd (↑(fval BinOp.mul (Int.toNat a) (Int.toNat b))))
    else some (vd 18444492273895866368)
    else
    bif fok BinOp.quo (Int.toNat a) (Int.toNat b) then
    bif !feq (fval BinOp.quo (Int.toNat a) (Int.toNat b)) (fval BinOp.quo (Int.toNat a) (Int.toNat b)) then
    some (vd 18444492273895866368)
    else some (vd (↑(fval BinOp.quo (Int.toNat a) (Int.toNat b))))
    else some (vd 18444492273895866368)
    else none
    else none
    else some (vd a)
    else
    bif op == 53 then
    bif op == 53 then
    bif in64 a then
    bif nanI a then bif in64 a then some (vd ((quV a))) else none
    else
    bif in64 b then
    bif nanI b then bif in64 b then some (vd ((quV b))) else none
    else
    bif op == 52 then
    bif fok BinOp.add (Int.toNat a) (Int.toNat b) then
    bif !feq (fval BinOp.add (Int.toNat a) (Int.toNat b)) (fval BinOp.add (Int.toNat a) (Int.toNat b)) then
    some (vd 18444492273895866368)
    else some (vd (↑(fval BinOp.add (Int.toNat a) (Int.toNat b))))
    else some (vd 18444492273895866368)
    else
    bif op == 54 then
    bif fok BinOp.sub (Int.toNat a) (Int.toNat b) then
    bif !feq (fval BinOp.sub (Int.toNat a) (Int.toNat b)) (fval BinOp.sub (Int.toNat a) (Int.toNat b)) then
    some (vd 18444492273895866368)
    else some (vd (↑(fval BinOp.sub (Int.toNat a) (Int.toNat b))))
    else some (vd 18444492273895866368)
    else
    bif op == 53 then
    bif fok BinOp.mul (Int.toNat a) (Int.toNat b) then
    bif !feq (fval BinOp.mul (Int.toNat a) (Int.toNat b)) (fval BinOp.mul (Int.toNat a) (Int.toNat b)) then
    some (vd 18444492273895866368)
    else some (vd (↑(fval BinOp.mul (Int.toNat a) (Int.toNat b))))
    else some (vd 18444492273895866368)
    else
    bif fok BinOp.quo (Int.toNat a) (Int.toNat b) then
    bif !feq (fval BinOp.quo (Int.toNat a) (Int.toNat b)) (fval BinOp.quo (Int.toNat a) (Int.toNat b)) then
    some (vd 18444492273895866368)
    else some (vd (↑(fval BinOp.quo (Int.toNat a) (Int.toNat b))))
    else some (vd 18444492273895866368)
    else none
    else none
    else some (vd a)
    else
    bif op == 56 then
    bif in64 a then
    bif nanI a then bif in64 a then some (vd ((quV a))) else none
    else
    bif in64 b then
    bif nanI b then bif in64 b then some (vd ((quV b))) else none
    else
    bif op == 52 then
    bif fok BinOp.add (Int.toNat a) (Int.toNat b) then
    bif !feq (fval BinOp.add (Int.toNat a) (Int.toNat b)) (fval BinOp.add (Int.toNat a) (Int.toNat b)) then
    some (vd 18444492273895866368)
    else some (vd (↑(fval BinOp.add (Int.toNat a) (Int.toNat b))))
    else some (vd 18444492273895866368)
    else
    bif op == 54 then
    bif fok BinOp.sub (Int.toNat a) (Int.toNat b) then
    bif !feq (fval BinOp.sub (Int.toNat a) (Int.toNat b)) (fval BinOp.sub (Int.toNat a) (Int.toNat b)) then
    some (vd 18444492273895866368)
    else some (vd (↑(fval BinOp.sub (Int.toNat a) (Int.toNat b))))
    else some (vd 18444492273895866368)
    else
    bif op == 53 then
    bif fok BinOp.mul (Int.toNat a) (Int.toNat b) then
    bif !feq (fval BinOp.mul (Int.toNat a) (Int.toNat b)) (fval BinOp.mul (Int.toNat a) (Int.toNat b)) then
    some (vd 18444492273895866368)
    else some (vd (↑(fval BinOp.mul (Int.toNat a) (Int.toNat b))))
    else some (vd 18444492273895866368)
    else
    bif fok BinOp.quo (Int.toNat a) (Int.toNat b) then
    bif !feq (fval BinOp.quo (Int.toNat a) (Int.toNat b)) (fval BinOp.quo (Int.toNat a) (Int.toNat b)) then
    some (vd 18444492273895866368)
    else some (vd (↑(fval BinOp.quo (Int.toNat a) (Int.toNat b))))
    else some (vd 18444492273895866368)
    else none
    else none
    else some (vd a)) := by kernel_rfl
theorem rfloat_nice (op : Int) (a : Int) (b : Int) (hg : (ini64 op && (in64 a && (in64 b))) = true) :
    evF Try.prog ΓF2 400 80 [.v (.int .i64 op), .v (.int .u64 a), .v (.int .u64 b)] [] (fun x _ => some x) (fun _ _ => none) = some (.v (.int .u64 (doV op a b))) := by
  rw [rfloat_form]
  try simp only [bitsL_eq]
  simp only [Bool.and_eq_true, in64_iff] at hg
  obtain ⟨_, ⟨ha, ha'⟩, hb, hb'⟩ := hg
  have ga := in64_iff.2 ⟨ha, ha'⟩
  have gb := in64_iff.2 ⟨hb, hb'⟩
  have hqa := nan_cmp ha hb
  have hz := zero_cmp ha ha' hb hb'
  simp only [ga, gb, cond_true, ar_form]
  unfold doV
  have lit : ∀ (c d : Int), (c == d) = decide (c = d) := fun c d => rfl
  by_cases h1 : op = 51
  · subst h1; simp
  by_cases h2 : op = 55
  · subst h2; simp only [lit, minV]; simp only [Int.reduceEq, decide_true, decide_false, cond_true, cond_false]
    cases hna : nanI a <;> cases hnb : nanI b <;> simp only [cond_true, cond_false] <;> first
      | (rw [sq_lt hb hnb]; cases fsqok b.toNat <;> rfl)
      | (have q := nan_cmp ha hb (Or.inl hna); obtain ⟨q1, q2, q3⟩ := q; simp [q1, q2, q3]; done)
      | (have q := nan_cmp ha hb (Or.inr hnb); obtain ⟨q1, q2, q3⟩ := q; simp [q1, q2, q3]; done)
      | (cases hza : decide (IntKind.wrap .u64 (a * 2) = 0) <;> cases hzb : decide (IntKind.wrap .u64 (b * 2) = 0) <;> simp only [cond_true, cond_false] <;> first
          | (have q := hz (by simpa using hza) (by simpa using hzb); obtain ⟨q1, q2⟩ := q; simp [q1, q2]; done)
          | (cases flt a.toNat b.toNat <;> cases fgt a.toNat b.toNat <;> rfl))
      | (cases flt a.toNat b.toNat <;> cases fgt a.toNat b.toNat <;> cases fok .add a.toNat b.toNat <;> cases fok .sub a.toNat b.toNat <;> cases fok .mul a.toNat b.toNat <;> cases fok .quo a.toNat b.toNat <;> rfl)
  by_cases h3 : op = 57
  · subst h3; simp only [lit, maxV]; simp only [Int.reduceEq, decide_true, decide_false, cond_true, cond_false]
    cases hna : nanI a <;> cases hnb : nanI b <;> simp only [cond_true, cond_false] <;> first
      | (rw [sq_lt hb hnb]; cases fsqok b.toNat <;> rfl)
      | (have q := nan_cmp ha hb (Or.inl hna); obtain ⟨q1, q2, q3⟩ := q; simp [q1, q2, q3]; done)
      | (have q := nan_cmp ha hb (Or.inr hnb); obtain ⟨q1, q2, q3⟩ := q; simp [q1, q2, q3]; done)
      | (cases hza : decide (IntKind.wrap .u64 (a * 2) = 0) <;> cases hzb : decide (IntKind.wrap .u64 (b * 2) = 0) <;> simp only [cond_true, cond_false] <;> first
          | (have q := hz (by simpa using hza) (by simpa using hzb); obtain ⟨q1, q2⟩ := q; simp [q1, q2]; done)
          | (cases flt a.toNat b.toNat <;> cases fgt a.toNat b.toNat <;> rfl))
      | (cases flt a.toNat b.toNat <;> cases fgt a.toNat b.toNat <;> cases fok .add a.toNat b.toNat <;> cases fok .sub a.toNat b.toNat <;> cases fok .mul a.toNat b.toNat <;> cases fok .quo a.toNat b.toNat <;> rfl)
  by_cases h4 : op = 58
  · subst h4; simp only [lit, sqV, quV, plainI]; simp only [Int.reduceEq, decide_true, decide_false, cond_true, cond_false]
    cases hna : nanI a <;> cases hnb : nanI b <;> simp only [cond_true, cond_false] <;> first
      | (rw [sq_lt hb hnb]; cases fsqok b.toNat <;> rfl)
      | (have q := nan_cmp ha hb (Or.inl hna); obtain ⟨q1, q2, q3⟩ := q; simp [q1, q2, q3]; done)
      | (have q := nan_cmp ha hb (Or.inr hnb); obtain ⟨q1, q2, q3⟩ := q; simp [q1, q2, q3]; done)
      | (cases hza : decide (IntKind.wrap .u64 (a * 2) = 0) <;> cases hzb : decide (IntKind.wrap .u64 (b * 2) = 0) <;> simp only [cond_true, cond_false] <;> first
          | (have q := hz (by simpa using hza) (by simpa using hzb); obtain ⟨q1, q2⟩ := q; simp [q1, q2]; done)
          | (cases flt a.toNat b.toNat <;> cases fgt a.toNat b.toNat <;> rfl))
      | (cases flt a.toNat b.toNat <;> cases fgt a.toNat b.toNat <;> cases fok .add a.toNat b.toNat <;> cases fok .sub a.toNat b.toNat <;> cases fok .mul a.toNat b.toNat <;> cases fok .quo a.toNat b.toNat <;> rfl)
  by_cases h5 : op = 52
  · subst h5; simp only [lit, arV, quV, plainI]; simp only [Int.reduceEq, decide_true, decide_false, cond_true, cond_false]
    cases hna : nanI a <;> cases hnb : nanI b <;> simp only [cond_true, cond_false] <;> first
      | (rw [sq_lt hb hnb]; cases fsqok b.toNat <;> rfl)
      | (have q := nan_cmp ha hb (Or.inl hna); obtain ⟨q1, q2, q3⟩ := q; simp [q1, q2, q3]; done)
      | (have q := nan_cmp ha hb (Or.inr hnb); obtain ⟨q1, q2, q3⟩ := q; simp [q1, q2, q3]; done)
      | (cases hza : decide (IntKind.wrap .u64 (a * 2) = 0) <;> cases hzb : decide (IntKind.wrap .u64 (b * 2) = 0) <;> simp only [cond_true, cond_false] <;> first
          | (have q := hz (by simpa using hza) (by simpa using hzb); obtain ⟨q1, q2⟩ := q; simp [q1, q2]; done)
          | (cases flt a.toNat b.toNat <;> cases fgt a.toNat b.toNat <;> rfl))
      | (cases flt a.toNat b.toNat <;> cases fgt a.toNat b.toNat <;> cases fok .add a.toNat b.toNat <;> cases fok .sub a.toNat b.toNat <;> cases fok .mul a.toNat b.toNat <;> cases fok .quo a.toNat b.toNat <;> rfl)
  by_cases h6 : op = 54
  · subst h6; simp only [lit, arV, quV, plainI]; simp only [Int.reduceEq, decide_true, decide_false, cond_true, cond_false]
    cases hna : nanI a <;> cases hnb : nanI b <;> simp only [cond_true, cond_false] <;> first
      | (rw [sq_lt hb hnb]; cases fsqok b.toNat <;> rfl)
      | (have q := nan_cmp ha hb (Or.inl hna); obtain ⟨q1, q2, q3⟩ := q; simp [q1, q2, q3]; done)
      | (have q := nan_cmp ha hb (Or.inr hnb); obtain ⟨q1, q2, q3⟩ := q; simp [q1, q2, q3]; done)
      | (cases hza : decide (IntKind.wrap .u64 (a * 2) = 0) <;> cases hzb : decide (IntKind.wrap .u64 (b * 2) = 0) <;> simp only [cond_true, cond_false] <;> first
          | (have q := hz (by simpa using hza) (by simpa using hzb); obtain ⟨q1, q2⟩ := q; simp [q1, q2]; done)
          | (cases flt a.toNat b.toNat <;> cases fgt a.toNat b.toNat <;> rfl))
      | (cases flt a.toNat b.toNat <;> cases fgt a.toNat b.toNat <;> cases fok .add a.toNat b.toNat <;> cases fok .sub a.toNat b.toNat <;> cases fok .mul a.toNat b.toNat <;> cases fok .quo a.toNat b.toNat <;> rfl)
  by_cases h7 : op = 53
  · subst h7; simp only [lit, arV, quV, plainI]; simp only [Int.reduceEq, decide_true, decide_false, cond_true, cond_false]
    cases hna : nanI a <;> cases hnb : nanI b <;> simp only [cond_true, cond_false] <;> first
      | (rw [sq_lt hb hnb]; cases fsqok b.toNat <;> rfl)
      | (have q := nan_cmp ha hb (Or.inl hna); obtain ⟨q1, q2, q3⟩ := q; simp [q1, q2, q3]; done)
      | (have q := nan_cmp ha hb (Or.inr hnb); obtain ⟨q1, q2, q3⟩ := q; simp [q1, q2, q3]; done)
      | (cases hza : decide (IntKind.wrap .u64 (a * 2) = 0) <;> cases hzb : decide (IntKind.wrap .u64 (b * 2) = 0) <;> simp only [cond_true, cond_false] <;> first
          | (have q := hz (by simpa using hza) (by simpa using hzb); obtain ⟨q1, q2⟩ := q; simp [q1, q2]; done)
          | (cases flt a.toNat b.toNat <;> cases fgt a.toNat b.toNat <;> rfl))
      | (cases flt a.toNat b.toNat <;> cases fgt a.toNat b.toNat <;> cases fok .add a.toNat b.toNat <;> cases fok .sub a.toNat b.toNat <;> cases fok .mul a.toNat b.toNat <;> cases fok .quo a.toNat b.toNat <;> rfl)
  by_cases h8 : op = 56
  · subst h8; simp only [lit, arV, quV, plainI]; simp only [Int.reduceEq, decide_true, decide_false, cond_true, cond_false]
    cases hna : nanI a <;> cases hnb : nanI b <;> simp only [cond_true, cond_false] <;> first
      | (rw [sq_lt hb hnb]; cases fsqok b.toNat <;> rfl)
      | (have q := nan_cmp ha hb (Or.inl hna); obtain ⟨q1, q2, q3⟩ := q; simp [q1, q2, q3]; done)
      | (have q := nan_cmp ha hb (Or.inr hnb); obtain ⟨q1, q2, q3⟩ := q; simp [q1, q2, q3]; done)
      | (cases hza : decide (IntKind.wrap .u64 (a * 2) = 0) <;> cases hzb : decide (IntKind.wrap .u64 (b * 2) = 0) <;> simp only [cond_true, cond_false] <;> first
          | (have q := hz (by simpa using hza) (by simpa using hzb); obtain ⟨q1, q2⟩ := q; simp [q1, q2]; done)
          | (cases flt a.toNat b.toNat <;> cases fgt a.toNat b.toNat <;> rfl))
      | (cases flt a.toNat b.toNat <;> cases fgt a.toNat b.toNat <;> cases fok .add a.toNat b.toNat <;> cases fok .sub a.toNat b.toNat <;> cases fok .mul a.toNat b.toNat <;> cases fok .quo a.toNat b.toNat <;> rfl)
  simp [lit, h1, h2, h3, h4, h5, h6, h7, h8]
def rfloatS : Nice := fun R args kv => match args with
  | [.v (.int .i64 op), .v (.int .u64 a), .v (.int .u64 b)] => bif ini64 op && (in64 a && (in64 b)) then kv (.v (.int .u64 (doV op a b))) else none
  | _ => none
theorem rfloatS_ok : NiceOk Try.prog ΓF2 400 80 rfloatS := by
  intro R args kv r h
  unfold rfloatS at h
  split at h
  · obtain ⟨hg, h⟩ := cond_some h
    exact ⟨_, h, rfl, rfl, rfloat_nice _ _ _ hg⟩
  · cases h
def ΓF3 : Env := ((ΓF2.add 69 (pureSpec do_S)).add 80 (pureSpec rfloatS))
theorem ΓF3_ok : EnvOk Try.prog X0 ΓF3 := ((ΓF2_ok.add (by kernel_rfl) (specOk_of_nice ΓF2_ok do_S_ok)).add (by kernel_rfl) (specOk_of_nice ΓF2_ok rfloatS_ok))
end Go.Proofs.Ytpgdpoloipifeaa
