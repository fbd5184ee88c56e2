/- Whole numbers' instructions, in plain Lean; contracts that serve in two ways. -/
import Derived.Test.YtpgdpoloipifeaaNArith
import Derived.Test.YtpgdpoloipifeaaNFpu
import Derived.Test.YtpgdpoloipifeaaEvG
namespace Go.Ev
open Go
set_option linter.unusedVariables false
set_option linter.unusedSimpArgs false
/-- What two numbers make: from sums to logic. -/
def twoV (op : Int) (c : Bool) (v w n : Int) : Int := bif op == 1 then addV v w n false else bif op == 3 then addV v w n c else bif op == 4 then subV v w n c else bif op == 6 then subV v w n false else bif op == 8 then subV v w n false else bif op == 2 then cutV (bitsL .or .u32 v w) n else bif op == 7 then cutV (bitsL .xor .u32 v w) n else cutV (bitsL .and .u32 v w) n
def twoC (op : Int) (c : Bool) (v w n : Int) : Bool := bif op == 1 then decide (szM n ≤ addS v w n false) else bif op == 3 then decide (szM n ≤ addS v w n c) else bif op == 4 then decide (subS v w n c < 0) else bif op == 6 then decide (subS v w n false < 0) else bif op == 8 then decide (subS v w n false < 0) else false
def twoO (op : Int) (c : Bool) (v w n : Int) : Bool := bif op == 1 then addO v w n false else bif op == 3 then addO v w n c else bif op == 4 then subO v w n c else bif op == 6 then subO v w n false else bif op == 8 then subO v w n false else false
theorem in32bL (op : BinOp) (a b : Int) : in32 (bitsL op .u32 a b) = true := by rw [bitsL_eq]; exact in32_iff.2 (wf_u32 (wf_bits _ _ _ _))
theorem twoV_in {op : Int} {c : Bool} {v w n : Int} : in32 (twoV op c v w n) = true := by
  have hb : ∀ {c : Bool} {x y : Int}, in32 x = true → in32 y = true → in32 (bif c then x else y) = true := fun {c x y} h1 h2 => by cases c; exact h2; exact h1
  have ha : ∀ c, in32 (addV v w n c) = true := fun c => cutV_in _ _
  have hs : ∀ c, in32 (subV v w n c) = true := fun c => cutV_in _ _
  exact hb (ha _) (hb (ha _) (hb (hs _) (hb (hs _) (hb (hs _) (hb (cutV_in _ _) (hb (cutV_in _ _) (cutV_in _ _)))))))
section
variable {P : Program} {X : Ext} {f : FuncId}
def QPSpec.spec (s : QPSpec) : Spec := fun R args m k kp => s R args m (fun sv => k sv m) (fun ch => kp ch m)
theorem QPOk.spec {s : QPSpec} (h : QPOk P X f s) : SpecOk P X f (QPSpec.spec s) := by
  intro R args m k kp r hr
  rcases h R args m _ _ r hr with ⟨sv, h1, h2⟩ | ⟨ch, h1, h2⟩
  · exact .inl ⟨sv, m, h1, h2 m (Compat.refl m)⟩
  · exact .inr (.inl ⟨ch, m, h1, h2 m (Compat.refl m)⟩)
def PSpec.spec (s : PSpec) : Spec := fun R args m k kp => s R args m (fun sv u => k sv (upds m u)) (fun ch => kp ch m)
theorem PSpecOk.spec {s : PSpec} (h : PSpecOk P X f s) : SpecOk P X f (PSpec.spec s) := by
  intro R args m k kp r hr
  rcases h R args m _ _ r hr with ⟨sv, u, h1, h2⟩ | ⟨ch, h1, h2⟩
  · exact .inl ⟨sv, _, h1, h2⟩
  · exact .inr (.inl ⟨ch, m, h1, h2⟩)
end
end Go.Ev
