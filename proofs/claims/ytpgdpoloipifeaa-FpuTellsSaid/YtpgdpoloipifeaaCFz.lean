/- What is known of each instruction of doubles that is read. -/
import Derived.Test.YtpgdpoloipifeaaEvV
import Derived.Test.YtpgdpoloipifeaaCFq
import Derived.Test.YtpgdpoloipifeaaCOp
import Derived.Test.YtpgdpoloipifeaaNHold
namespace Go.Proofs.Ytpgdpoloipifeaa
open Go Go.Ev
set_option linter.unusedVariables false
set_option maxRecDepth 100000
def third (h : Int) : List Sv → List SObj → Bool := fun args m => match args with
  | [.sl b _ _ _] => (match m[b]? with
    | some (.cells (_ :: _ :: .v (.int _ x) :: _) _) => x == h
    | _ => false)
  | _ => false
theorem op10E (b1 b2 : Int) (T : TypeId) (h1 : in8 b1 = true) (h2 : in8 b2 = true) : ansI (op10T b1 b2 T) 18 = 0 := (op10_fp b1 b2 T (by rw [h1, h2]; rfl)).1
theorem op10A (b1 b2 : Int) (T : TypeId) (h1 : in8 b1 = true) (h2 : in8 b2 = true) : in32 (ansI (op10T b1 b2 T) 8) = true := (op10_fp b1 b2 T (by rw [h1, h2]; rfl)).2.1
theorem op10B (b1 b2 : Int) (T : TypeId) (h1 : in8 b1 = true) (h2 : in8 b2 = true) : in32 (ansI (op10T b1 b2 T) 14) = true := (op10_fp b1 b2 T (by rw [h1, h2]; rfl)).2.2.1
theorem op10G (b1 b2 : Int) (T : TypeId) (h1 : in8 b1 = true) (h2 : in8 b2 = true) : fpG (ansI (op10T b1 b2 T) 0) (ansI (op10T b1 b2 T) 2) (ansI (op10T b1 b2 T) 3) = true := (op10_fp b1 b2 T (by rw [h1, h2]; rfl)).2.2.2
noncomputable def Γop10 : Env := ΓFq.add 14 (onlySpec (third 16) op10S)
theorem Γop10_ok : EnvOk Try.prog X0 Γop10 := ΓFq_ok.add (by kernel_rfl) (onlySpec_ok op10S_ok)
theorem op11E (b1 b2 : Int) (T : TypeId) (h1 : in8 b1 = true) (h2 : in8 b2 = true) : ansI (op11T b1 b2 T) 18 = 0 := (op11_fp b1 b2 T (by rw [h1, h2]; rfl)).1
theorem op11A (b1 b2 : Int) (T : TypeId) (h1 : in8 b1 = true) (h2 : in8 b2 = true) : in32 (ansI (op11T b1 b2 T) 8) = true := (op11_fp b1 b2 T (by rw [h1, h2]; rfl)).2.1
theorem op11B (b1 b2 : Int) (T : TypeId) (h1 : in8 b1 = true) (h2 : in8 b2 = true) : in32 (ansI (op11T b1 b2 T) 14) = true := (op11_fp b1 b2 T (by rw [h1, h2]; rfl)).2.2.1
theorem op11G (b1 b2 : Int) (T : TypeId) (h1 : in8 b1 = true) (h2 : in8 b2 = true) : fpG (ansI (op11T b1 b2 T) 0) (ansI (op11T b1 b2 T) 2) (ansI (op11T b1 b2 T) 3) = true := (op11_fp b1 b2 T (by rw [h1, h2]; rfl)).2.2.2
noncomputable def Γop11 : Env := ΓFq.add 14 (onlySpec (third 17) op11S)
theorem Γop11_ok : EnvOk Try.prog X0 Γop11 := ΓFq_ok.add (by kernel_rfl) (onlySpec_ok op11S_ok)
theorem op2aE (b1 b2 : Int) (T : TypeId) (h1 : in8 b1 = true) (h2 : in8 b2 = true) : ansI (op2aT b1 b2 T) 18 = 0 := (op2a_fp b1 b2 T (by rw [h1, h2]; rfl)).1
theorem op2aA (b1 b2 : Int) (T : TypeId) (h1 : in8 b1 = true) (h2 : in8 b2 = true) : in32 (ansI (op2aT b1 b2 T) 8) = true := (op2a_fp b1 b2 T (by rw [h1, h2]; rfl)).2.1
theorem op2aB (b1 b2 : Int) (T : TypeId) (h1 : in8 b1 = true) (h2 : in8 b2 = true) : in32 (ansI (op2aT b1 b2 T) 14) = true := (op2a_fp b1 b2 T (by rw [h1, h2]; rfl)).2.2.1
theorem op2aG (b1 b2 : Int) (T : TypeId) (h1 : in8 b1 = true) (h2 : in8 b2 = true) : fpG (ansI (op2aT b1 b2 T) 0) (ansI (op2aT b1 b2 T) 2) (ansI (op2aT b1 b2 T) 3) = true := (op2a_fp b1 b2 T (by rw [h1, h2]; rfl)).2.2.2
noncomputable def Γop2a : Env := ΓFq.add 14 (onlySpec (third 42) op2aS)
theorem Γop2a_ok : EnvOk Try.prog X0 Γop2a := ΓFq_ok.add (by kernel_rfl) (onlySpec_ok op2aS_ok)
theorem op2cE (b1 b2 : Int) (T : TypeId) (h1 : in8 b1 = true) (h2 : in8 b2 = true) : ansI (op2cT b1 b2 T) 18 = 0 := (op2c_fp b1 b2 T (by rw [h1, h2]; rfl)).1
theorem op2cA (b1 b2 : Int) (T : TypeId) (h1 : in8 b1 = true) (h2 : in8 b2 = true) : in32 (ansI (op2cT b1 b2 T) 8) = true := (op2c_fp b1 b2 T (by rw [h1, h2]; rfl)).2.1
theorem op2cB (b1 b2 : Int) (T : TypeId) (h1 : in8 b1 = true) (h2 : in8 b2 = true) : in32 (ansI (op2cT b1 b2 T) 14) = true := (op2c_fp b1 b2 T (by rw [h1, h2]; rfl)).2.2.1
theorem op2cG (b1 b2 : Int) (T : TypeId) (h1 : in8 b1 = true) (h2 : in8 b2 = true) : fpG (ansI (op2cT b1 b2 T) 0) (ansI (op2cT b1 b2 T) 2) (ansI (op2cT b1 b2 T) 3) = true := (op2c_fp b1 b2 T (by rw [h1, h2]; rfl)).2.2.2
noncomputable def Γop2c : Env := ΓFq.add 14 (onlySpec (third 44) op2cS)
theorem Γop2c_ok : EnvOk Try.prog X0 Γop2c := ΓFq_ok.add (by kernel_rfl) (onlySpec_ok op2cS_ok)
theorem op51E (b1 b2 : Int) (T : TypeId) (h1 : in8 b1 = true) (h2 : in8 b2 = true) : ansI (op51T b1 b2 T) 18 = 0 := (op51_fp b1 b2 T (by rw [h1, h2]; rfl)).1
theorem op51A (b1 b2 : Int) (T : TypeId) (h1 : in8 b1 = true) (h2 : in8 b2 = true) : in32 (ansI (op51T b1 b2 T) 8) = true := (op51_fp b1 b2 T (by rw [h1, h2]; rfl)).2.1
theorem op51B (b1 b2 : Int) (T : TypeId) (h1 : in8 b1 = true) (h2 : in8 b2 = true) : in32 (ansI (op51T b1 b2 T) 14) = true := (op51_fp b1 b2 T (by rw [h1, h2]; rfl)).2.2.1
theorem op51G (b1 b2 : Int) (T : TypeId) (h1 : in8 b1 = true) (h2 : in8 b2 = true) : fpG (ansI (op51T b1 b2 T) 0) (ansI (op51T b1 b2 T) 2) (ansI (op51T b1 b2 T) 3) = true := (op51_fp b1 b2 T (by rw [h1, h2]; rfl)).2.2.2
noncomputable def Γop51 : Env := ΓFq.add 14 (onlySpec (third 81) op51S)
theorem Γop51_ok : EnvOk Try.prog X0 Γop51 := ΓFq_ok.add (by kernel_rfl) (onlySpec_ok op51S_ok)
theorem op58E (b1 b2 : Int) (T : TypeId) (h1 : in8 b1 = true) (h2 : in8 b2 = true) : ansI (op58T b1 b2 T) 18 = 0 := (op58_fp b1 b2 T (by rw [h1, h2]; rfl)).1
theorem op58A (b1 b2 : Int) (T : TypeId) (h1 : in8 b1 = true) (h2 : in8 b2 = true) : in32 (ansI (op58T b1 b2 T) 8) = true := (op58_fp b1 b2 T (by rw [h1, h2]; rfl)).2.1
theorem op58B (b1 b2 : Int) (T : TypeId) (h1 : in8 b1 = true) (h2 : in8 b2 = true) : in32 (ansI (op58T b1 b2 T) 14) = true := (op58_fp b1 b2 T (by rw [h1, h2]; rfl)).2.2.1
theorem op58G (b1 b2 : Int) (T : TypeId) (h1 : in8 b1 = true) (h2 : in8 b2 = true) : fpG (ansI (op58T b1 b2 T) 0) (ansI (op58T b1 b2 T) 2) (ansI (op58T b1 b2 T) 3) = true := (op58_fp b1 b2 T (by rw [h1, h2]; rfl)).2.2.2
noncomputable def Γop58 : Env := ΓFq.add 14 (onlySpec (third 88) op58S)
theorem Γop58_ok : EnvOk Try.prog X0 Γop58 := ΓFq_ok.add (by kernel_rfl) (onlySpec_ok op58S_ok)
theorem op59E (b1 b2 : Int) (T : TypeId) (h1 : in8 b1 = true) (h2 : in8 b2 = true) : ansI (op59T b1 b2 T) 18 = 0 := (op59_fp b1 b2 T (by rw [h1, h2]; rfl)).1
theorem op59A (b1 b2 : Int) (T : TypeId) (h1 : in8 b1 = true) (h2 : in8 b2 = true) : in32 (ansI (op59T b1 b2 T) 8) = true := (op59_fp b1 b2 T (by rw [h1, h2]; rfl)).2.1
theorem op59B (b1 b2 : Int) (T : TypeId) (h1 : in8 b1 = true) (h2 : in8 b2 = true) : in32 (ansI (op59T b1 b2 T) 14) = true := (op59_fp b1 b2 T (by rw [h1, h2]; rfl)).2.2.1
theorem op59G (b1 b2 : Int) (T : TypeId) (h1 : in8 b1 = true) (h2 : in8 b2 = true) : fpG (ansI (op59T b1 b2 T) 0) (ansI (op59T b1 b2 T) 2) (ansI (op59T b1 b2 T) 3) = true := (op59_fp b1 b2 T (by rw [h1, h2]; rfl)).2.2.2
noncomputable def Γop59 : Env := ΓFq.add 14 (onlySpec (third 89) op59S)
theorem Γop59_ok : EnvOk Try.prog X0 Γop59 := ΓFq_ok.add (by kernel_rfl) (onlySpec_ok op59S_ok)
theorem op5cE (b1 b2 : Int) (T : TypeId) (h1 : in8 b1 = true) (h2 : in8 b2 = true) : ansI (op5cT b1 b2 T) 18 = 0 := (op5c_fp b1 b2 T (by rw [h1, h2]; rfl)).1
theorem op5cA (b1 b2 : Int) (T : TypeId) (h1 : in8 b1 = true) (h2 : in8 b2 = true) : in32 (ansI (op5cT b1 b2 T) 8) = true := (op5c_fp b1 b2 T (by rw [h1, h2]; rfl)).2.1
theorem op5cB (b1 b2 : Int) (T : TypeId) (h1 : in8 b1 = true) (h2 : in8 b2 = true) : in32 (ansI (op5cT b1 b2 T) 14) = true := (op5c_fp b1 b2 T (by rw [h1, h2]; rfl)).2.2.1
theorem op5cG (b1 b2 : Int) (T : TypeId) (h1 : in8 b1 = true) (h2 : in8 b2 = true) : fpG (ansI (op5cT b1 b2 T) 0) (ansI (op5cT b1 b2 T) 2) (ansI (op5cT b1 b2 T) 3) = true := (op5c_fp b1 b2 T (by rw [h1, h2]; rfl)).2.2.2
noncomputable def Γop5c : Env := ΓFq.add 14 (onlySpec (third 92) op5cS)
theorem Γop5c_ok : EnvOk Try.prog X0 Γop5c := ΓFq_ok.add (by kernel_rfl) (onlySpec_ok op5cS_ok)
theorem op5dE (b1 b2 : Int) (T : TypeId) (h1 : in8 b1 = true) (h2 : in8 b2 = true) : ansI (op5dT b1 b2 T) 18 = 0 := (op5d_fp b1 b2 T (by rw [h1, h2]; rfl)).1
theorem op5dA (b1 b2 : Int) (T : TypeId) (h1 : in8 b1 = true) (h2 : in8 b2 = true) : in32 (ansI (op5dT b1 b2 T) 8) = true := (op5d_fp b1 b2 T (by rw [h1, h2]; rfl)).2.1
theorem op5dB (b1 b2 : Int) (T : TypeId) (h1 : in8 b1 = true) (h2 : in8 b2 = true) : in32 (ansI (op5dT b1 b2 T) 14) = true := (op5d_fp b1 b2 T (by rw [h1, h2]; rfl)).2.2.1
theorem op5dG (b1 b2 : Int) (T : TypeId) (h1 : in8 b1 = true) (h2 : in8 b2 = true) : fpG (ansI (op5dT b1 b2 T) 0) (ansI (op5dT b1 b2 T) 2) (ansI (op5dT b1 b2 T) 3) = true := (op5d_fp b1 b2 T (by rw [h1, h2]; rfl)).2.2.2
noncomputable def Γop5d : Env := ΓFq.add 14 (onlySpec (third 93) op5dS)
theorem Γop5d_ok : EnvOk Try.prog X0 Γop5d := ΓFq_ok.add (by kernel_rfl) (onlySpec_ok op5dS_ok)
theorem op5eE (b1 b2 : Int) (T : TypeId) (h1 : in8 b1 = true) (h2 : in8 b2 = true) : ansI (op5eT b1 b2 T) 18 = 0 := (op5e_fp b1 b2 T (by rw [h1, h2]; rfl)).1
theorem op5eA (b1 b2 : Int) (T : TypeId) (h1 : in8 b1 = true) (h2 : in8 b2 = true) : in32 (ansI (op5eT b1 b2 T) 8) = true := (op5e_fp b1 b2 T (by rw [h1, h2]; rfl)).2.1
theorem op5eB (b1 b2 : Int) (T : TypeId) (h1 : in8 b1 = true) (h2 : in8 b2 = true) : in32 (ansI (op5eT b1 b2 T) 14) = true := (op5e_fp b1 b2 T (by rw [h1, h2]; rfl)).2.2.1
theorem op5eG (b1 b2 : Int) (T : TypeId) (h1 : in8 b1 = true) (h2 : in8 b2 = true) : fpG (ansI (op5eT b1 b2 T) 0) (ansI (op5eT b1 b2 T) 2) (ansI (op5eT b1 b2 T) 3) = true := (op5e_fp b1 b2 T (by rw [h1, h2]; rfl)).2.2.2
noncomputable def Γop5e : Env := ΓFq.add 14 (onlySpec (third 94) op5eS)
theorem Γop5e_ok : EnvOk Try.prog X0 Γop5e := ΓFq_ok.add (by kernel_rfl) (onlySpec_ok op5eS_ok)
theorem op5fE (b1 b2 : Int) (T : TypeId) (h1 : in8 b1 = true) (h2 : in8 b2 = true) : ansI (op5fT b1 b2 T) 18 = 0 := (op5f_fp b1 b2 T (by rw [h1, h2]; rfl)).1
theorem op5fA (b1 b2 : Int) (T : TypeId) (h1 : in8 b1 = true) (h2 : in8 b2 = true) : in32 (ansI (op5fT b1 b2 T) 8) = true := (op5f_fp b1 b2 T (by rw [h1, h2]; rfl)).2.1
theorem op5fB (b1 b2 : Int) (T : TypeId) (h1 : in8 b1 = true) (h2 : in8 b2 = true) : in32 (ansI (op5fT b1 b2 T) 14) = true := (op5f_fp b1 b2 T (by rw [h1, h2]; rfl)).2.2.1
theorem op5fG (b1 b2 : Int) (T : TypeId) (h1 : in8 b1 = true) (h2 : in8 b2 = true) : fpG (ansI (op5fT b1 b2 T) 0) (ansI (op5fT b1 b2 T) 2) (ansI (op5fT b1 b2 T) 3) = true := (op5f_fp b1 b2 T (by rw [h1, h2]; rfl)).2.2.2
noncomputable def Γop5f : Env := ΓFq.add 14 (onlySpec (third 95) op5fS)
theorem Γop5f_ok : EnvOk Try.prog X0 Γop5f := ΓFq_ok.add (by kernel_rfl) (onlySpec_ok op5fS_ok)
theorem op2eE (b1 b2 : Int) (T : TypeId) (h1 : in8 b1 = true) (h2 : in8 b2 = true) : ansI (op2eT b1 b2 T) 18 = 0 := (op2e_fp b1 b2 T (by rw [h1, h2]; rfl)).1
theorem op2eA (b1 b2 : Int) (T : TypeId) (h1 : in8 b1 = true) (h2 : in8 b2 = true) : in32 (ansI (op2eT b1 b2 T) 8) = true := (op2e_fp b1 b2 T (by rw [h1, h2]; rfl)).2.1
theorem op2eB (b1 b2 : Int) (T : TypeId) (h1 : in8 b1 = true) (h2 : in8 b2 = true) : in32 (ansI (op2eT b1 b2 T) 14) = true := (op2e_fp b1 b2 T (by rw [h1, h2]; rfl)).2.2.1
theorem op2eG (b1 b2 : Int) (T : TypeId) (h1 : in8 b1 = true) (h2 : in8 b2 = true) : fpG (ansI (op2eT b1 b2 T) 0) (ansI (op2eT b1 b2 T) 2) (ansI (op2eT b1 b2 T) 3) = true := (op2e_fp b1 b2 T (by rw [h1, h2]; rfl)).2.2.2
noncomputable def Γop2e : Env := ΓFq.add 14 (onlySpec (third 46) op2eS)
theorem Γop2e_ok : EnvOk Try.prog X0 Γop2e := ΓFq_ok.add (by kernel_rfl) (onlySpec_ok op2eS_ok)
end Go.Proofs.Ytpgdpoloipifeaa
