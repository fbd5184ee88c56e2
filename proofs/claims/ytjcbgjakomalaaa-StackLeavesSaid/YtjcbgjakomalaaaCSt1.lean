/- Contracts: flags of numbers. -/
import Derived.Test.YtjcbgjakomalaaaCSt0
namespace Go.Proofs.Ytjcbgjakomalaaa
open Go Go.Ev
set_option linter.unusedVariables false
set_option linter.unusedSimpArgs false
set_option maxRecDepth 100000
theorem flags_form (a : Int) :
    evF Try.prog ΓSt0 400 77 [.v (.int .u8 a)] [] (fun x _ => some x) (fun _ _ => none) =
    (some
    (Sv.agg
    [Sv.v
    (Value.bool
    (bitsL BinOp.and IntKind.u32
    (Int.fdiv
    (bitsL BinOp.or IntKind.u32 (IntKind.wrap IntKind.u32 (IntKind.wrap IntKind.u32 a * 37))
    (IntKind.wrap IntKind.u32 (IntKind.wrap IntKind.u32 (bitsL BinOp.and IntKind.u8 a 8) * 128)))
    1)
    1 ==
    1)),
    Sv.v
    (Value.bool
    (bitsL BinOp.and IntKind.u32
    (Int.fdiv
    (bitsL BinOp.or IntKind.u32 (IntKind.wrap IntKind.u32 (IntKind.wrap IntKind.u32 a * 37))
    (IntKind.wrap IntKind.u32 (IntKind.wrap IntKind.u32 (bitsL BinOp.and IntKind.u8 a 8) * 128)))
    4)
    1 ==
    1)),
    Sv.v
    (Value.bool
    (bitsL BinOp.and IntKind.u32
    (Int.fdiv
    (bitsL BinOp.or IntKind.u32 (IntKind.wrap IntKind.u32 (IntKind.wrap IntKind.u32 a * 37))
    (IntKind.wrap IntKind.u32 (IntKind.wrap IntKind.u32 (bitsL BinOp.and IntKind.u8 a 8) * 128)))
    64)
    1 ==
    1)),
    Sv.v
    (Value.bool
    (bitsL BinOp.and IntKind.u32
    (Int.fdiv
    (bitsL BinOp.or IntKind.u32 (IntKind.wrap IntKind.u32 (IntKind.wrap IntKind.u32 a * 37))
    (IntKind.wrap IntKind.u32 (IntKind.wrap IntKind.u32 (bitsL BinOp.and IntKind.u8 a 8) * 128)))
    128)
    1 ==
    1)),
    Sv.v
    (Value.bool
    (bitsL BinOp.and IntKind.u32
    (Int.fdiv
    (bitsL BinOp.or IntKind.u32 (IntKind.wrap IntKind.u32 (IntKind.wrap IntKind.u32 a * 37))
    (IntKind.wrap IntKind.u32 (IntKind.wrap IntKind.u32 (bitsL BinOp.and IntKind.u8 a 8) * 128)))
    2048)
    1 ==
    1)),
    Sv.v
    (Value.bool
    (bitsL BinOp.and IntKind.u32
    (Int.fdiv
    (bitsL BinOp.or IntKind.u32 (IntKind.wrap IntKind.u32 (IntKind.wrap IntKind.u32 a * 37))
    (IntKind.wrap IntKind.u32 (IntKind.wrap IntKind.u32 (bitsL BinOp.and IntKind.u8 a 8) * 128)))
    1024)
    1 ==
    1))])) := by kernel_rfl
theorem flags_nice (a : Int) (hg : (in8 a) = true) :
    evF Try.prog ΓSt0 400 77 [.v (.int .u8 a)] [] (fun x _ => some x) (fun _ _ => none) = some (.agg [.v (.bool (flagW a 1)), .v (.bool (flagW a 4)), .v (.bool (flagW a 64)), .v (.bool (flagW a 128)), .v (.bool (flagW a 2048)), .v (.bool (flagW a 1024))]) := by
  rw [flags_form]
  rfl
def flagsS : Nice := fun R args kv => match args with
  | [.v (.int .u8 a)] => bif in8 a then kv (.agg [.v (.bool (flagW a 1)), .v (.bool (flagW a 4)), .v (.bool (flagW a 64)), .v (.bool (flagW a 128)), .v (.bool (flagW a 2048)), .v (.bool (flagW a 1024))]) else none
  | _ => none
theorem flagsS_ok : NiceOk Try.prog ΓSt0 400 77 flagsS := by
  intro R args kv r h
  unfold flagsS at h
  split at h
  · obtain ⟨hg, h⟩ := cond_some h
    exact ⟨_, h, rfl, rfl, flags_nice _ hg⟩
  · cases h
def ΓSt1 : Env := (ΓSt0.add 77 (pureSpec flagsS))
theorem ΓSt1_ok : EnvOk Try.prog X0 ΓSt1 := (ΓSt0_ok.add (by kernel_rfl) (specOk_of_nice ΓSt0_ok flagsS_ok))
end Go.Proofs.Ytjcbgjakomalaaa
