/- A memory of pages in this program: making one, getting and setting a byte. -/
import Derived.Test.YtpgdpoloipifeaaEvV
import Derived.Test.YtpgdpoloipifeaaEnv
import Derived.Test.YtpgdpoloipifeaaNMem
namespace Go.Proofs.Ytpgdpoloipifeaa
open Go Go.Ev
set_option linter.unusedVariables false
set_option linter.unusedSimpArgs false
set_option maxRecDepth 100000

theorem memNew : SpecOk Try.prog XM 39 memNewS := memNew_ok (T0 := 133) Γ0_ok (by kernel_rfl) (n := 400) (by kernel_rfl)
theorem page_of {a : Int} (h : in32 a = true) : bitsL .andNot .u32 a 4095 = a - a % 4096 ∧ Int.tmod a 4096 = a % 4096 ∧ (decide (0 ≤ Int.tmod a 4096) && decide (Int.tmod a 4096 < 4096)) = true := by
  rw [in32_iff] at h
  refine ⟨?_, Int.tmod_eq_emod_of_nonneg h.1, ?_⟩
  · rw [bitsL_eq]
    exact andNot_4095 h.1 h.2
  · rw [Int.tmod_eq_emod_of_nonneg h.1]; simp; omega
theorem get0_form (a : Int) (es : List MapEntry) (clk : Nat) (T : TypeId)  :
    evF Try.prog Γ0 400 73 [.ptr 0 0, .v (.int .u32 a)] [.cells [.mp 1] T, .m1 .u32 (a - a % 4096) es clk none false] kSM kNo =
    (bif true && (true && (bitsL BinOp.andNot IntKind.u32 a 4095 == a - a % 4096 && true)) then
some (vy 0, [SObj.cells [Sv.mp 1] T, SObj.m1 IntKind.u32 (a - a % 4096) es clk none false])
else none) := by kernel_rfl
theorem get0_is (a : Int) (es : List MapEntry) (clk : Nat) (T : TypeId) (h : in32 a = true) :
    evF Try.prog Γ0 400 73 [.ptr 0 0, .v (.int .u32 a)] [.cells [.mp 1] T, .m1 .u32 (a - a % 4096) es clk none false] kSM kNo = some ((.v (.int .u8 0), [.cells [.mp 1] T, .m1 .u32 (a - a % 4096) es clk none false])) := by
  obtain ⟨h1, h2, h3⟩ := page_of h
  have h4 : Nat.blt 0 1 = true := rfl
  rw [get0_form, h1]
  simp only [beq_self_eq_true, Bool.and_self, Bool.and_true, Bool.true_and, cond_true, h3]
  try (
    rw [h2]
    have hb := in32_iff.1 h
    have h5 : decide (a % 4096 < 4096) = true := decide_eq_true (by omega)
    have h6 : decide (Int.toNat (a % 4096) < 4096) = true := decide_eq_true (by omega)
    have h7 : decide (0 ≤ Int.toNat (a % 4096)) = true := decide_eq_true (Nat.zero_le _)
    simp only [h5, h6, h7, Nat.zero_add, Bool.and_self, cond_true])
theorem get1_form (a : Int) (es : List MapEntry) (clk : Nat) (T : TypeId) (F : Nat → Value)  :
    evF Try.prog Γ0 400 73 [.ptr 0 0, .v (.int .u32 a)] [.cells [.mp 1] T, .m1 .u32 (a - a % 4096) es clk (some (.ptr 2 0)) false, .ro 0 4096 F] kSM kNo =
    (bif true && (true && (bitsL BinOp.andNot IntKind.u32 a 4095 == a - a % 4096 && true)) then
bif true && (decide (0 ≤ Int.tmod a 4096) && decide (Int.tmod a 4096 < 4096)) then
bif decide (0 ≤ 0 + Int.toNat (Int.tmod a 4096)) && decide (0 + Int.toNat (Int.tmod a 4096) < 4096) then
some
(Sv.v (F (0 + Int.toNat (Int.tmod a 4096))),
[SObj.cells [Sv.mp 1] T, SObj.m1 IntKind.u32 (a - a % 4096) es clk (some (Sv.ptr 2 0)) false, SObj.ro 0 4096 F])
else none
else none
else none) := by kernel_rfl
theorem get1_is (a : Int) (es : List MapEntry) (clk : Nat) (T : TypeId) (F : Nat → Value) (h : in32 a = true) :
    evF Try.prog Γ0 400 73 [.ptr 0 0, .v (.int .u32 a)] [.cells [.mp 1] T, .m1 .u32 (a - a % 4096) es clk (some (.ptr 2 0)) false, .ro 0 4096 F] kSM kNo = some ((.v (F (a % 4096).toNat), [.cells [.mp 1] T, .m1 .u32 (a - a % 4096) es clk (some (.ptr 2 0)) false, .ro 0 4096 F])) := by
  obtain ⟨h1, h2, h3⟩ := page_of h
  have h4 : Nat.blt 0 1 = true := rfl
  rw [get1_form, h1]
  simp only [beq_self_eq_true, Bool.and_self, Bool.and_true, Bool.true_and, cond_true, h3]
  try (
    rw [h2]
    have hb := in32_iff.1 h
    have h5 : decide (a % 4096 < 4096) = true := decide_eq_true (by omega)
    have h6 : decide (Int.toNat (a % 4096) < 4096) = true := decide_eq_true (by omega)
    have h7 : decide (0 ≤ Int.toNat (a % 4096)) = true := decide_eq_true (Nat.zero_le _)
    simp only [h5, h6, h7, Nat.zero_add, Bool.and_self, cond_true])
theorem memGet : SpecOk Try.prog XM 73 memGetS ∧ QSpecOk Try.prog XM 73 memGetS := memGet_ok (n := 400) Γ0_ok (by kernel_rfl) get0_is get1_is
theorem set0_form (a v : Int) (es : List MapEntry) (clk : Nat) (T : TypeId)  :
    evF Try.prog Γ0 400 85 [.ptr 0 0, .v (.int .u32 a), .v (.int .u8 v)] [.cells [.mp 1] T, .m1 .u32 (a - a % 4096) es clk none false] kSM kNo =
    (bif true && (true && (bitsL BinOp.andNot IntKind.u32 a 4095 == a - a % 4096 && true)) then
bif true && (true && bitsL BinOp.andNot IntKind.u32 a 4095 == a - a % 4096) then
bif true && (true && (bitsL BinOp.andNot IntKind.u32 a 4095 == a - a % 4096 && true)) then
bif true && (decide (0 ≤ Int.tmod a 4096) && decide (Int.tmod a 4096 < 4096)) then
bif true && (true && decide (Int.tmod a 4096 < 4096)) then
some
(Sv.tup [],
[SObj.cells [Sv.mp 1] T, SObj.m1 IntKind.u32 (a - a % 4096) es clk (some (Sv.ptr 2 0)) true,
SObj.arr IntKind.u8 170 4096 (updM (fun x => 0) (Int.tmod a 4096) v)])
else none
else none
else none
else none
else none) := by kernel_rfl
theorem set0_is (a v : Int) (es : List MapEntry) (clk : Nat) (T : TypeId) (h : in32 a = true) :
    evF Try.prog Γ0 400 85 [.ptr 0 0, .v (.int .u32 a), .v (.int .u8 v)] [.cells [.mp 1] T, .m1 .u32 (a - a % 4096) es clk none false] kSM kNo = some ((.tup [], [.cells [.mp 1] T, .m1 .u32 (a - a % 4096) es clk (some (.ptr 2 0)) true, .arr .u8 170 4096 (updM (fun _ => 0) (a % 4096) v)])) := by
  obtain ⟨h1, h2, h3⟩ := page_of h
  have h4 : Nat.blt 0 1 = true := rfl
  rw [set0_form, h1]
  simp only [beq_self_eq_true, Bool.and_self, Bool.and_true, Bool.true_and, cond_true, h3]
  try (
    rw [h2]
    have hb := in32_iff.1 h
    have h5 : decide (a % 4096 < 4096) = true := decide_eq_true (by omega)
    have h6 : decide (Int.toNat (a % 4096) < 4096) = true := decide_eq_true (by omega)
    have h7 : decide (0 ≤ Int.toNat (a % 4096)) = true := decide_eq_true (Nat.zero_le _)
    simp only [h5, h6, h7, Nat.zero_add, Bool.and_self, cond_true])
theorem set1_form (a v : Int) (es : List MapEntry) (clk : Nat) (T Tp : TypeId) (F : Int → Int)  :
    evF Try.prog Γ0 400 85 [.ptr 0 0, .v (.int .u32 a), .v (.int .u8 v)] [.cells [.mp 1] T, .m1 .u32 (a - a % 4096) es clk (some (.ptr 2 0)) false, .arr .u8 Tp 4096 (F)] kSM kNo =
    (bif true && (true && (bitsL BinOp.andNot IntKind.u32 a 4095 == a - a % 4096 && true)) then
bif true && (true && (bitsL BinOp.andNot IntKind.u32 a 4095 == a - a % 4096 && true)) then
bif true && (decide (0 ≤ Int.tmod a 4096) && decide (Int.tmod a 4096 < 4096)) then
bif true && (true && decide (Int.tmod a 4096 < 4096)) then
some
(Sv.tup [],
[SObj.cells [Sv.mp 1] T, SObj.m1 IntKind.u32 (a - a % 4096) es clk (some (Sv.ptr 2 0)) false,
SObj.arr IntKind.u8 Tp 4096 (updM F (Int.tmod a 4096) v)])
else none
else none
else none
else none) := by kernel_rfl
theorem set1_is (a v : Int) (es : List MapEntry) (clk : Nat) (T Tp : TypeId) (F : Int → Int) (h : in32 a = true) :
    evF Try.prog Γ0 400 85 [.ptr 0 0, .v (.int .u32 a), .v (.int .u8 v)] [.cells [.mp 1] T, .m1 .u32 (a - a % 4096) es clk (some (.ptr 2 0)) false, .arr .u8 Tp 4096 (F)] kSM kNo = some ((.tup [], [.cells [.mp 1] T, .m1 .u32 (a - a % 4096) es clk (some (.ptr 2 0)) false, .arr .u8 Tp 4096 (updM F (a % 4096) v)])) := by
  obtain ⟨h1, h2, h3⟩ := page_of h
  have h4 : Nat.blt 0 1 = true := rfl
  rw [set1_form, h1]
  simp only [beq_self_eq_true, Bool.and_self, Bool.and_true, Bool.true_and, cond_true, h3]
  try (
    rw [h2]
    have hb := in32_iff.1 h
    have h5 : decide (a % 4096 < 4096) = true := decide_eq_true (by omega)
    have h6 : decide (Int.toNat (a % 4096) < 4096) = true := decide_eq_true (by omega)
    have h7 : decide (0 ≤ Int.toNat (a % 4096)) = true := decide_eq_true (Nat.zero_le _)
    simp only [h5, h6, h7, Nat.zero_add, Bool.and_self, cond_true])
theorem memSet : SpecOk Try.prog XM 85 memSetS := memSet_ok (n := 400) (Tp0 := 170) Γ0_ok (by kernel_rfl) set0_is set1_is
def ΓM0 : Env := ((((Γ0.add 39 memNewS).add 73 memGetS).addQ 73 memGetS).add 85 memSetS)
theorem ΓM0_ok : EnvOk Try.prog X0 ΓM0 := (((Γ0_ok.add (by kernel_rfl) memNew).add (by kernel_rfl) memGet.1).addQ (by kernel_rfl) memGet.2).add (by kernel_rfl) memSet
end Go.Proofs.Ytpgdpoloipifeaa
