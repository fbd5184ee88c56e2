/-
  No cell of these rows narrows 'for every input' (looked for: loops, veiled, ifaces, maps, wideKeys, modest, calm, conditions, laid).
  DERIVED. THE GIVEN ROWS OF THIS SEAT. 12 by the template 'for every input the law returns true; each argument reads behind the call as it read before'; 0 by the template 'total and deterministic' (their statements: YtjcbgjakomalaaaTotals.lean).
  GIVEN WITH THE SEED: the statements are not yours to turn. If you find one false, say at which input.
  Laid BY PROGRAM, IN A SANDBOX (cutbox-rows.mjs): the forced cells as the released guide's own fill.sh prints them over the translation 9d26159429c7716d… (all of the seat's roots in one cut). By AI agents, Wed Nov 11 2026. No macro, syntax, notation, axiom, sorry.
-/
import Derived.Test.YtjcbgjakomalaaaChecked
import GoSem.Claim
import GoSem.ClaimJoined
import GoSem.ClaimMapViews
import Derived.JoinedTies
import Derived.KernelRfl
namespace Go.Proofs.Ytjcbgjakomalaaa
/- THE CELL 'sum', in the pinned program and in every row, IS THE sha256 OF THE DUMP (.gsa) THAT YtjcbgjakomalaaaProg.lean LOADS. Nothing in Lean hashes anything: it is a label: what it is worth is what the hold of that sum in a sandbox is worth. -/
noncomputable def Try.pinned : Pinned := { name := "ytjcbgjakomalaaa", sum := "9d26159429c7716dada0146d86414a50e4676ec350c7a95af2c5c3c761f47516", checked := Try.checked }
namespace Rows
def none {H : Type} : Left H := { results := [], args := [] }

/-- 'salternlaw8.BusOutside': WHATEVER THE INPUT: true; the input reads as it did. -/
def busOutsideSpec : ChangeSpec := { name := "busOutside", fn := fun _ => fun
  | [d1, d2, d3, d4, d5, d6] => { results := [.lit (.bool true)], args := [d1, d2, d3, d4, d5, d6] }
  | _ => none }
def busOutsideRow : OpenClaim := { program := "ytjcbgjakomalaaa", sum := "9d26159429c7716dada0146d86414a50e4676ec350c7a95af2c5c3c761f47516", func := "saltern/salternlaw8.BusOutside", spec := "busOutside", apart := false }
def BusOutsideSaid : Prop := busOutsideRow.holds Try.pinned (OpenSpec.ofChange busOutsideSpec)

/-- ITS FALSE NEIGHBOUR: 'it returns false'. Refute it at one input. -/
def busOutsideWrong : ChangeSpec := { name := "busOutside", fn := fun _ => fun
  | [d1, d2, d3, d4, d5, d6] => { results := [.lit (.bool false)], args := [d1, d2, d3, d4, d5, d6] }
  | _ => none }
def BusOutsideWrongFalsely : Prop := busOutsideRow.holds Try.pinned (OpenSpec.ofChange busOutsideWrong)

/-- 'salternlaw16.StackRows': WHATEVER THE INPUT: true; the input reads as it did. -/
def stackRowsSpec : ChangeSpec := { name := "stackRows", fn := fun _ => fun
  | [d1, d2] => { results := [.lit (.bool true)], args := [d1, d2] }
  | _ => none }
def stackRowsRow : OpenClaim := { program := "ytjcbgjakomalaaa", sum := "9d26159429c7716dada0146d86414a50e4676ec350c7a95af2c5c3c761f47516", func := "saltern/salternlaw16.StackRows", spec := "stackRows", apart := false }
def StackRowsSaid : Prop := stackRowsRow.holds Try.pinned (OpenSpec.ofChange stackRowsSpec)

/-- ITS FALSE NEIGHBOUR: 'it returns false'. Refute it at one input. -/
def stackRowsWrong : ChangeSpec := { name := "stackRows", fn := fun _ => fun
  | [d1, d2] => { results := [.lit (.bool false)], args := [d1, d2] }
  | _ => none }
def StackRowsWrongFalsely : Prop := stackRowsRow.holds Try.pinned (OpenSpec.ofChange stackRowsWrong)

/-- 'salternlaw16.StackOps': WHATEVER THE INPUT: true; the input reads as it did. -/
def stackOpsSpec : ChangeSpec := { name := "stackOps", fn := fun _ => fun
  | [d] => { results := [.lit (.bool true)], args := [d] }
  | _ => none }
def stackOpsRow : OpenClaim := { program := "ytjcbgjakomalaaa", sum := "9d26159429c7716dada0146d86414a50e4676ec350c7a95af2c5c3c761f47516", func := "saltern/salternlaw16.StackOps", spec := "stackOps", apart := false }
def StackOpsSaid : Prop := stackOpsRow.holds Try.pinned (OpenSpec.ofChange stackOpsSpec)

/-- ITS FALSE NEIGHBOUR: 'it returns false'. Refute it at one input. -/
def stackOpsWrong : ChangeSpec := { name := "stackOps", fn := fun _ => fun
  | [d] => { results := [.lit (.bool false)], args := [d] }
  | _ => none }
def StackOpsWrongFalsely : Prop := stackOpsRow.holds Try.pinned (OpenSpec.ofChange stackOpsWrong)

/-- 'salternlaw14.AddrStore': WHATEVER THE INPUT: true; the input reads as it did. -/
def addrStoreSpec : ChangeSpec := { name := "addrStore", fn := fun _ => fun
  | [d1, d2, d3, d4] => { results := [.lit (.bool true)], args := [d1, d2, d3, d4] }
  | _ => none }
def addrStoreRow : OpenClaim := { program := "ytjcbgjakomalaaa", sum := "9d26159429c7716dada0146d86414a50e4676ec350c7a95af2c5c3c761f47516", func := "saltern/salternlaw14.AddrStore", spec := "addrStore", apart := false }
def AddrStoreSaid : Prop := addrStoreRow.holds Try.pinned (OpenSpec.ofChange addrStoreSpec)

/-- ITS FALSE NEIGHBOUR: 'it returns false'. Refute it at one input. -/
def addrStoreWrong : ChangeSpec := { name := "addrStore", fn := fun _ => fun
  | [d1, d2, d3, d4] => { results := [.lit (.bool false)], args := [d1, d2, d3, d4] }
  | _ => none }
def AddrStoreWrongFalsely : Prop := addrStoreRow.holds Try.pinned (OpenSpec.ofChange addrStoreWrong)

/-- 'salternlaw14.AddrTells': WHATEVER THE INPUT: true; the input reads as it did. -/
def addrTellsSpec : ChangeSpec := { name := "addrTells", fn := fun _ => fun
  | [d1, d2, d3, d4, d5, d6, d7, d8, d9] => { results := [.lit (.bool true)], args := [d1, d2, d3, d4, d5, d6, d7, d8, d9] }
  | _ => none }
def addrTellsRow : OpenClaim := { program := "ytjcbgjakomalaaa", sum := "9d26159429c7716dada0146d86414a50e4676ec350c7a95af2c5c3c761f47516", func := "saltern/salternlaw14.AddrTells", spec := "addrTells", apart := false }
def AddrTellsSaid : Prop := addrTellsRow.holds Try.pinned (OpenSpec.ofChange addrTellsSpec)

/-- ITS FALSE NEIGHBOUR: 'it returns false'. Refute it at one input. -/
def addrTellsWrong : ChangeSpec := { name := "addrTells", fn := fun _ => fun
  | [d1, d2, d3, d4, d5, d6, d7, d8, d9] => { results := [.lit (.bool false)], args := [d1, d2, d3, d4, d5, d6, d7, d8, d9] }
  | _ => none }
def AddrTellsWrongFalsely : Prop := addrTellsRow.holds Try.pinned (OpenSpec.ofChange addrTellsWrong)

/-- 'salternlaw17.StrsOps': WHATEVER THE INPUT: true; the input reads as it did. -/
def strsOpsSpec : ChangeSpec := { name := "strsOps", fn := fun _ => fun
  | [d] => { results := [.lit (.bool true)], args := [d] }
  | _ => none }
def strsOpsRow : OpenClaim := { program := "ytjcbgjakomalaaa", sum := "9d26159429c7716dada0146d86414a50e4676ec350c7a95af2c5c3c761f47516", func := "saltern/salternlaw17.StrsOps", spec := "strsOps", apart := false }
def StrsOpsSaid : Prop := strsOpsRow.holds Try.pinned (OpenSpec.ofChange strsOpsSpec)

/-- ITS FALSE NEIGHBOUR: 'it returns false'. Refute it at one input. -/
def strsOpsWrong : ChangeSpec := { name := "strsOps", fn := fun _ => fun
  | [d] => { results := [.lit (.bool false)], args := [d] }
  | _ => none }
def StrsOpsWrongFalsely : Prop := strsOpsRow.holds Try.pinned (OpenSpec.ofChange strsOpsWrong)

/-- 'salternlaw17.StrsTell': WHATEVER THE INPUT: true; the input reads as it did. -/
def strsTellSpec : ChangeSpec := { name := "strsTell", fn := fun _ => fun
  | [d1, d2, d3, d4, d5, d6] => { results := [.lit (.bool true)], args := [d1, d2, d3, d4, d5, d6] }
  | _ => none }
def strsTellRow : OpenClaim := { program := "ytjcbgjakomalaaa", sum := "9d26159429c7716dada0146d86414a50e4676ec350c7a95af2c5c3c761f47516", func := "saltern/salternlaw17.StrsTell", spec := "strsTell", apart := false }
def StrsTellSaid : Prop := strsTellRow.holds Try.pinned (OpenSpec.ofChange strsTellSpec)

/-- ITS FALSE NEIGHBOUR: 'it returns false'. Refute it at one input. -/
def strsTellWrong : ChangeSpec := { name := "strsTell", fn := fun _ => fun
  | [d1, d2, d3, d4, d5, d6] => { results := [.lit (.bool false)], args := [d1, d2, d3, d4, d5, d6] }
  | _ => none }
def StrsTellWrongFalsely : Prop := strsTellRow.holds Try.pinned (OpenSpec.ofChange strsTellWrong)

/-- 'salternlaw17.StrsRows': WHATEVER THE INPUT: true; the input reads as it did. -/
def strsRowsSpec : ChangeSpec := { name := "strsRows", fn := fun _ => fun
  | [d1, d2, d3, d4, d5] => { results := [.lit (.bool true)], args := [d1, d2, d3, d4, d5] }
  | _ => none }
def strsRowsRow : OpenClaim := { program := "ytjcbgjakomalaaa", sum := "9d26159429c7716dada0146d86414a50e4676ec350c7a95af2c5c3c761f47516", func := "saltern/salternlaw17.StrsRows", spec := "strsRows", apart := false }
def StrsRowsSaid : Prop := strsRowsRow.holds Try.pinned (OpenSpec.ofChange strsRowsSpec)

/-- ITS FALSE NEIGHBOUR: 'it returns false'. Refute it at one input. -/
def strsRowsWrong : ChangeSpec := { name := "strsRows", fn := fun _ => fun
  | [d1, d2, d3, d4, d5] => { results := [.lit (.bool false)], args := [d1, d2, d3, d4, d5] }
  | _ => none }
def StrsRowsWrongFalsely : Prop := strsRowsRow.holds Try.pinned (OpenSpec.ofChange strsRowsWrong)

/-- 'salternlaw17.StrsFills': WHATEVER THE INPUT: true; the input reads as it did. -/
def strsFillsSpec : ChangeSpec := { name := "strsFills", fn := fun _ => fun
  | [d1, d2, d3, d4] => { results := [.lit (.bool true)], args := [d1, d2, d3, d4] }
  | _ => none }
def strsFillsRow : OpenClaim := { program := "ytjcbgjakomalaaa", sum := "9d26159429c7716dada0146d86414a50e4676ec350c7a95af2c5c3c761f47516", func := "saltern/salternlaw17.StrsFills", spec := "strsFills", apart := false }
def StrsFillsSaid : Prop := strsFillsRow.holds Try.pinned (OpenSpec.ofChange strsFillsSpec)

/-- ITS FALSE NEIGHBOUR: 'it returns false'. Refute it at one input. -/
def strsFillsWrong : ChangeSpec := { name := "strsFills", fn := fun _ => fun
  | [d1, d2, d3, d4] => { results := [.lit (.bool false)], args := [d1, d2, d3, d4] }
  | _ => none }
def StrsFillsWrongFalsely : Prop := strsFillsRow.holds Try.pinned (OpenSpec.ofChange strsFillsWrong)

/-- 'salternlaw16.StackSelf': WHATEVER THE INPUT: true; the input reads as it did. -/
def stackSelfSpec : ChangeSpec := { name := "stackSelf", fn := fun _ => fun
  | [d1, d2] => { results := [.lit (.bool true)], args := [d1, d2] }
  | _ => none }
def stackSelfRow : OpenClaim := { program := "ytjcbgjakomalaaa", sum := "9d26159429c7716dada0146d86414a50e4676ec350c7a95af2c5c3c761f47516", func := "saltern/salternlaw16.StackSelf", spec := "stackSelf", unfollowed := true, recurses := true, apart := false }
def StackSelfSaid : Prop := stackSelfRow.holds Try.pinned (OpenSpec.ofChange stackSelfSpec)

/-- ITS FALSE NEIGHBOUR: 'it returns false'. Refute it at one input. -/
def stackSelfWrong : ChangeSpec := { name := "stackSelf", fn := fun _ => fun
  | [d1, d2] => { results := [.lit (.bool false)], args := [d1, d2] }
  | _ => none }
def StackSelfWrongFalsely : Prop := stackSelfRow.holds Try.pinned (OpenSpec.ofChange stackSelfWrong)

/-- 'salternlaw16.StackTells': WHATEVER THE INPUT: true; the input reads as it did. -/
def stackTellsSpec : ChangeSpec := { name := "stackTells", fn := fun _ => fun
  | [d1, d2, d3, d4, d5, d6, d7, d8, d9] => { results := [.lit (.bool true)], args := [d1, d2, d3, d4, d5, d6, d7, d8, d9] }
  | _ => none }
def stackTellsRow : OpenClaim := { program := "ytjcbgjakomalaaa", sum := "9d26159429c7716dada0146d86414a50e4676ec350c7a95af2c5c3c761f47516", func := "saltern/salternlaw16.StackTells", spec := "stackTells", unfollowed := true, recurses := true, apart := false }
def StackTellsSaid : Prop := stackTellsRow.holds Try.pinned (OpenSpec.ofChange stackTellsSpec)

/-- ITS FALSE NEIGHBOUR: 'it returns false'. Refute it at one input. -/
def stackTellsWrong : ChangeSpec := { name := "stackTells", fn := fun _ => fun
  | [d1, d2, d3, d4, d5, d6, d7, d8, d9] => { results := [.lit (.bool false)], args := [d1, d2, d3, d4, d5, d6, d7, d8, d9] }
  | _ => none }
def StackTellsWrongFalsely : Prop := stackTellsRow.holds Try.pinned (OpenSpec.ofChange stackTellsWrong)

/-- 'salternlaw16.StackLeaves': WHATEVER THE INPUT: true; the input reads as it did. -/
def stackLeavesSpec : ChangeSpec := { name := "stackLeaves", fn := fun _ => fun
  | [d1, d2, d3] => { results := [.lit (.bool true)], args := [d1, d2, d3] }
  | _ => none }
def stackLeavesRow : OpenClaim := { program := "ytjcbgjakomalaaa", sum := "9d26159429c7716dada0146d86414a50e4676ec350c7a95af2c5c3c761f47516", func := "saltern/salternlaw16.StackLeaves", spec := "stackLeaves", unfollowed := true, recurses := true, apart := false }
def StackLeavesSaid : Prop := stackLeavesRow.holds Try.pinned (OpenSpec.ofChange stackLeavesSpec)

/-- ITS FALSE NEIGHBOUR: 'it returns false'. Refute it at one input. -/
def stackLeavesWrong : ChangeSpec := { name := "stackLeaves", fn := fun _ => fun
  | [d1, d2, d3] => { results := [.lit (.bool false)], args := [d1, d2, d3] }
  | _ => none }
def StackLeavesWrongFalsely : Prop := stackLeavesRow.holds Try.pinned (OpenSpec.ofChange stackLeavesWrong)

/- THE SECOND FORM. 'bulk': how many values and letters a reading holds, each counted each time it is reached (what is shared counts as often as it is met; a slice's spare places count too). A statement '..UptoSaid' is the law's where the arguments, and the package variables that the reading takes, are together of bulk at most 1048576: NARROWER than '..Said'. Prove '..Said' where nothing that the law and all that it calls make is longer than what came in: it says more and counts as full. Else prove '..UptoSaid'. A law counts once. -/
mutual
def uptoBulk {H : Type} : DataW H → Nat
  | .lit (.string bytes) => bytes.length + 1
  | .lit _ => 1
  | .nil => 1
  | .ptr d => uptoBulk d + 1
  | .slice elems spare => uptoBulkAll elems + uptoBulkAll spare + 1
  | .agg parts => uptoBulkAll parts + 1
  | .iface _ d => uptoBulk d + 1
  | .map entries => uptoBulkEntries entries + 1
  | .held _ => 1
def uptoBulkAll {H : Type} : List (DataW H) → Nat
  | [] => 0
  | d :: r => uptoBulk d + uptoBulkAll r
def uptoBulkEntries {H : Type} : List (Lit × DataW H) → Nat
  | [] => 0
  | x :: r => uptoBulkEntry x + uptoBulkEntries r
def uptoBulkEntry {H : Type} : Lit × DataW H → Nat
  | (.string bytes, d) => bytes.length + uptoBulk d + 1
  | (_, d) => uptoBulk d + 1
 end
def uptoSmall : (H : Type) → List (DataW H) → Bool := fun _ ds => decide (uptoBulkAll ds ≤ 1048576)
def OpenSpec.upto (s : _root_.Go.ChangeSpec) : _root_.Go.OpenSpec := { _root_.Go.OpenSpec.ofChange s with cond := some uptoSmall }

/-- 'salternlaw8.BusOutside', WHERE WHAT IT READS IS OF BULK AT MOST 1048576: true; the input reads as it did. -/
def busOutsideUptoRow : OpenClaim := { program := "ytjcbgjakomalaaa", sum := "9d26159429c7716dada0146d86414a50e4676ec350c7a95af2c5c3c761f47516", func := "saltern/salternlaw8.BusOutside", spec := "busOutside", apart := false, narrowed := true }
def BusOutsideUptoSaid : Prop := busOutsideUptoRow.holds Try.pinned (OpenSpec.upto busOutsideSpec)

/-- 'salternlaw16.StackRows', WHERE WHAT IT READS IS OF BULK AT MOST 1048576: true; the input reads as it did. -/
def stackRowsUptoRow : OpenClaim := { program := "ytjcbgjakomalaaa", sum := "9d26159429c7716dada0146d86414a50e4676ec350c7a95af2c5c3c761f47516", func := "saltern/salternlaw16.StackRows", spec := "stackRows", apart := false, narrowed := true }
def StackRowsUptoSaid : Prop := stackRowsUptoRow.holds Try.pinned (OpenSpec.upto stackRowsSpec)

/-- 'salternlaw16.StackOps', WHERE WHAT IT READS IS OF BULK AT MOST 1048576: true; the input reads as it did. -/
def stackOpsUptoRow : OpenClaim := { program := "ytjcbgjakomalaaa", sum := "9d26159429c7716dada0146d86414a50e4676ec350c7a95af2c5c3c761f47516", func := "saltern/salternlaw16.StackOps", spec := "stackOps", apart := false, narrowed := true }
def StackOpsUptoSaid : Prop := stackOpsUptoRow.holds Try.pinned (OpenSpec.upto stackOpsSpec)

/-- 'salternlaw14.AddrStore', WHERE WHAT IT READS IS OF BULK AT MOST 1048576: true; the input reads as it did. -/
def addrStoreUptoRow : OpenClaim := { program := "ytjcbgjakomalaaa", sum := "9d26159429c7716dada0146d86414a50e4676ec350c7a95af2c5c3c761f47516", func := "saltern/salternlaw14.AddrStore", spec := "addrStore", apart := false, narrowed := true }
def AddrStoreUptoSaid : Prop := addrStoreUptoRow.holds Try.pinned (OpenSpec.upto addrStoreSpec)

/-- 'salternlaw14.AddrTells', WHERE WHAT IT READS IS OF BULK AT MOST 1048576: true; the input reads as it did. -/
def addrTellsUptoRow : OpenClaim := { program := "ytjcbgjakomalaaa", sum := "9d26159429c7716dada0146d86414a50e4676ec350c7a95af2c5c3c761f47516", func := "saltern/salternlaw14.AddrTells", spec := "addrTells", apart := false, narrowed := true }
def AddrTellsUptoSaid : Prop := addrTellsUptoRow.holds Try.pinned (OpenSpec.upto addrTellsSpec)

/-- 'salternlaw17.StrsOps', WHERE WHAT IT READS IS OF BULK AT MOST 1048576: true; the input reads as it did. -/
def strsOpsUptoRow : OpenClaim := { program := "ytjcbgjakomalaaa", sum := "9d26159429c7716dada0146d86414a50e4676ec350c7a95af2c5c3c761f47516", func := "saltern/salternlaw17.StrsOps", spec := "strsOps", apart := false, narrowed := true }
def StrsOpsUptoSaid : Prop := strsOpsUptoRow.holds Try.pinned (OpenSpec.upto strsOpsSpec)

/-- 'salternlaw17.StrsTell', WHERE WHAT IT READS IS OF BULK AT MOST 1048576: true; the input reads as it did. -/
def strsTellUptoRow : OpenClaim := { program := "ytjcbgjakomalaaa", sum := "9d26159429c7716dada0146d86414a50e4676ec350c7a95af2c5c3c761f47516", func := "saltern/salternlaw17.StrsTell", spec := "strsTell", apart := false, narrowed := true }
def StrsTellUptoSaid : Prop := strsTellUptoRow.holds Try.pinned (OpenSpec.upto strsTellSpec)

/-- 'salternlaw17.StrsRows', WHERE WHAT IT READS IS OF BULK AT MOST 1048576: true; the input reads as it did. -/
def strsRowsUptoRow : OpenClaim := { program := "ytjcbgjakomalaaa", sum := "9d26159429c7716dada0146d86414a50e4676ec350c7a95af2c5c3c761f47516", func := "saltern/salternlaw17.StrsRows", spec := "strsRows", apart := false, narrowed := true }
def StrsRowsUptoSaid : Prop := strsRowsUptoRow.holds Try.pinned (OpenSpec.upto strsRowsSpec)

/-- 'salternlaw17.StrsFills', WHERE WHAT IT READS IS OF BULK AT MOST 1048576: true; the input reads as it did. -/
def strsFillsUptoRow : OpenClaim := { program := "ytjcbgjakomalaaa", sum := "9d26159429c7716dada0146d86414a50e4676ec350c7a95af2c5c3c761f47516", func := "saltern/salternlaw17.StrsFills", spec := "strsFills", apart := false, narrowed := true }
def StrsFillsUptoSaid : Prop := strsFillsUptoRow.holds Try.pinned (OpenSpec.upto strsFillsSpec)

/-- 'salternlaw16.StackSelf', WHERE WHAT IT READS IS OF BULK AT MOST 1048576: true; the input reads as it did. -/
def stackSelfUptoRow : OpenClaim := { program := "ytjcbgjakomalaaa", sum := "9d26159429c7716dada0146d86414a50e4676ec350c7a95af2c5c3c761f47516", func := "saltern/salternlaw16.StackSelf", spec := "stackSelf", unfollowed := true, recurses := true, apart := false, narrowed := true }
def StackSelfUptoSaid : Prop := stackSelfUptoRow.holds Try.pinned (OpenSpec.upto stackSelfSpec)

/-- 'salternlaw16.StackTells', WHERE WHAT IT READS IS OF BULK AT MOST 1048576: true; the input reads as it did. -/
def stackTellsUptoRow : OpenClaim := { program := "ytjcbgjakomalaaa", sum := "9d26159429c7716dada0146d86414a50e4676ec350c7a95af2c5c3c761f47516", func := "saltern/salternlaw16.StackTells", spec := "stackTells", unfollowed := true, recurses := true, apart := false, narrowed := true }
def StackTellsUptoSaid : Prop := stackTellsUptoRow.holds Try.pinned (OpenSpec.upto stackTellsSpec)

/-- 'salternlaw16.StackLeaves', WHERE WHAT IT READS IS OF BULK AT MOST 1048576: true; the input reads as it did. -/
def stackLeavesUptoRow : OpenClaim := { program := "ytjcbgjakomalaaa", sum := "9d26159429c7716dada0146d86414a50e4676ec350c7a95af2c5c3c761f47516", func := "saltern/salternlaw16.StackLeaves", spec := "stackLeaves", unfollowed := true, recurses := true, apart := false, narrowed := true }
def StackLeavesUptoSaid : Prop := stackLeavesUptoRow.holds Try.pinned (OpenSpec.upto stackLeavesSpec)

end Rows
end Go.Proofs.Ytjcbgjakomalaaa
