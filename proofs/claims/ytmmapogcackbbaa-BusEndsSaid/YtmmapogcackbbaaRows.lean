/-
  No cell of these rows narrows 'for every input' (looked for: loops, veiled, ifaces, maps, wideKeys, modest, calm, conditions, laid).
  DERIVED. THE GIVEN ROWS OF THIS SEAT. 11 by the template 'for every input the law returns true; each argument reads behind the call as it read before'; 0 by the template 'total and deterministic' (their statements: YtmmapogcackbbaaTotals.lean).
  GIVEN WITH THE SEED: the statements are not yours to turn. If you find one false, say at which input.
  Laid BY PROGRAM, IN A SANDBOX (cutbox-rows.mjs): the forced cells as the released guide's own fill.sh prints them over the translation e6e73825abe97d18… (all of the seat's roots in one cut). By AI agents, Wed Nov 11 2026. No macro, syntax, notation, axiom, sorry.
-/
import Derived.Test.YtmmapogcackbbaaChecked
import GoSem.Claim
import GoSem.ClaimJoined
import GoSem.ClaimMapViews
import Derived.JoinedTies
import Derived.KernelRfl
namespace Go.Proofs.Ytmmapogcackbbaa
/- THE CELL 'sum', in the pinned program and in every row, IS THE sha256 OF THE DUMP (.gsa) THAT YtmmapogcackbbaaProg.lean LOADS. Nothing in Lean hashes anything: it is a label: what it is worth is what the hold of that sum in a sandbox is worth. -/
noncomputable def Try.pinned : Pinned := { name := "ytmmapogcackbbaa", sum := "e6e73825abe97d18bf1c74952ef1f62abe6b064f82b599215f4cf69798e13255", checked := Try.checked }
namespace Rows
def none {H : Type} : Left H := { results := [], args := [] }

/-- 'salternlaw13.RegsTell': WHATEVER THE INPUT: true; the input reads as it did. -/
def regsTellSpec : ChangeSpec := { name := "regsTell", fn := fun _ => fun
  | [d1, d2, d3, d4, d5] => { results := [.lit (.bool true)], args := [d1, d2, d3, d4, d5] }
  | _ => none }
def regsTellRow : OpenClaim := { program := "ytmmapogcackbbaa", sum := "e6e73825abe97d18bf1c74952ef1f62abe6b064f82b599215f4cf69798e13255", func := "saltern/salternlaw13.RegsTell", spec := "regsTell", apart := false }
def RegsTellSaid : Prop := regsTellRow.holds Try.pinned (OpenSpec.ofChange regsTellSpec)

/-- ITS FALSE NEIGHBOUR: 'it returns false'. Refute it at one input. -/
def regsTellWrong : ChangeSpec := { name := "regsTell", fn := fun _ => fun
  | [d1, d2, d3, d4, d5] => { results := [.lit (.bool false)], args := [d1, d2, d3, d4, d5] }
  | _ => none }
def RegsTellWrongFalsely : Prop := regsTellRow.holds Try.pinned (OpenSpec.ofChange regsTellWrong)

/-- 'salternlaw13.RegsBack': WHATEVER THE INPUT: true; the input reads as it did. -/
def regsBackSpec : ChangeSpec := { name := "regsBack", fn := fun _ => fun
  | [d1, d2, d3, d4] => { results := [.lit (.bool true)], args := [d1, d2, d3, d4] }
  | _ => none }
def regsBackRow : OpenClaim := { program := "ytmmapogcackbbaa", sum := "e6e73825abe97d18bf1c74952ef1f62abe6b064f82b599215f4cf69798e13255", func := "saltern/salternlaw13.RegsBack", spec := "regsBack", apart := false }
def RegsBackSaid : Prop := regsBackRow.holds Try.pinned (OpenSpec.ofChange regsBackSpec)

/-- ITS FALSE NEIGHBOUR: 'it returns false'. Refute it at one input. -/
def regsBackWrong : ChangeSpec := { name := "regsBack", fn := fun _ => fun
  | [d1, d2, d3, d4] => { results := [.lit (.bool false)], args := [d1, d2, d3, d4] }
  | _ => none }
def RegsBackWrongFalsely : Prop := regsBackRow.holds Try.pinned (OpenSpec.ofChange regsBackWrong)

/-- 'salternlaw13.RegsLows': WHATEVER THE INPUT: true; the input reads as it did. -/
def regsLowsSpec : ChangeSpec := { name := "regsLows", fn := fun _ => fun
  | [d1, d2, d3] => { results := [.lit (.bool true)], args := [d1, d2, d3] }
  | _ => none }
def regsLowsRow : OpenClaim := { program := "ytmmapogcackbbaa", sum := "e6e73825abe97d18bf1c74952ef1f62abe6b064f82b599215f4cf69798e13255", func := "saltern/salternlaw13.RegsLows", spec := "regsLows", apart := false }
def RegsLowsSaid : Prop := regsLowsRow.holds Try.pinned (OpenSpec.ofChange regsLowsSpec)

/-- ITS FALSE NEIGHBOUR: 'it returns false'. Refute it at one input. -/
def regsLowsWrong : ChangeSpec := { name := "regsLows", fn := fun _ => fun
  | [d1, d2, d3] => { results := [.lit (.bool false)], args := [d1, d2, d3] }
  | _ => none }
def RegsLowsWrongFalsely : Prop := regsLowsRow.holds Try.pinned (OpenSpec.ofChange regsLowsWrong)

/-- 'salternlaw13.FlagsBack': WHATEVER THE INPUT: true; the input reads as it did. -/
def flagsBackSpec : ChangeSpec := { name := "flagsBack", fn := fun _ => fun
  | [d1, d2] => { results := [.lit (.bool true)], args := [d1, d2] }
  | _ => none }
def flagsBackRow : OpenClaim := { program := "ytmmapogcackbbaa", sum := "e6e73825abe97d18bf1c74952ef1f62abe6b064f82b599215f4cf69798e13255", func := "saltern/salternlaw13.FlagsBack", spec := "flagsBack", apart := false }
def FlagsBackSaid : Prop := flagsBackRow.holds Try.pinned (OpenSpec.ofChange flagsBackSpec)

/-- ITS FALSE NEIGHBOUR: 'it returns false'. Refute it at one input. -/
def flagsBackWrong : ChangeSpec := { name := "flagsBack", fn := fun _ => fun
  | [d1, d2] => { results := [.lit (.bool false)], args := [d1, d2] }
  | _ => none }
def FlagsBackWrongFalsely : Prop := flagsBackRow.holds Try.pinned (OpenSpec.ofChange flagsBackWrong)

/-- 'salternlaw8.BusOutside': WHATEVER THE INPUT: true; the input reads as it did. -/
def busOutsideSpec : ChangeSpec := { name := "busOutside", fn := fun _ => fun
  | [d1, d2, d3, d4, d5, d6] => { results := [.lit (.bool true)], args := [d1, d2, d3, d4, d5, d6] }
  | _ => none }
def busOutsideRow : OpenClaim := { program := "ytmmapogcackbbaa", sum := "e6e73825abe97d18bf1c74952ef1f62abe6b064f82b599215f4cf69798e13255", func := "saltern/salternlaw8.BusOutside", spec := "busOutside", apart := false }
def BusOutsideSaid : Prop := busOutsideRow.holds Try.pinned (OpenSpec.ofChange busOutsideSpec)

/-- ITS FALSE NEIGHBOUR: 'it returns false'. Refute it at one input. -/
def busOutsideWrong : ChangeSpec := { name := "busOutside", fn := fun _ => fun
  | [d1, d2, d3, d4, d5, d6] => { results := [.lit (.bool false)], args := [d1, d2, d3, d4, d5, d6] }
  | _ => none }
def BusOutsideWrongFalsely : Prop := busOutsideRow.holds Try.pinned (OpenSpec.ofChange busOutsideWrong)

/-- 'salternlaw8.BusEnds': WHATEVER THE INPUT: true; the input reads as it did. -/
def busEndsSpec : ChangeSpec := { name := "busEnds", fn := fun _ => fun
  | [d1, d2, d3] => { results := [.lit (.bool true)], args := [d1, d2, d3] }
  | _ => none }
def busEndsRow : OpenClaim := { program := "ytmmapogcackbbaa", sum := "e6e73825abe97d18bf1c74952ef1f62abe6b064f82b599215f4cf69798e13255", func := "saltern/salternlaw8.BusEnds", spec := "busEnds", apart := false }
def BusEndsSaid : Prop := busEndsRow.holds Try.pinned (OpenSpec.ofChange busEndsSpec)

/-- ITS FALSE NEIGHBOUR: 'it returns false'. Refute it at one input. -/
def busEndsWrong : ChangeSpec := { name := "busEnds", fn := fun _ => fun
  | [d1, d2, d3] => { results := [.lit (.bool false)], args := [d1, d2, d3] }
  | _ => none }
def BusEndsWrongFalsely : Prop := busEndsRow.holds Try.pinned (OpenSpec.ofChange busEndsWrong)

/-- 'salternlaw8.BusMay': WHATEVER THE INPUT: true; the input reads as it did. -/
def busMaySpec : ChangeSpec := { name := "busMay", fn := fun _ => fun
  | [d1, d2, d3, d4, d5] => { results := [.lit (.bool true)], args := [d1, d2, d3, d4, d5] }
  | _ => none }
def busMayRow : OpenClaim := { program := "ytmmapogcackbbaa", sum := "e6e73825abe97d18bf1c74952ef1f62abe6b064f82b599215f4cf69798e13255", func := "saltern/salternlaw8.BusMay", spec := "busMay", apart := false }
def BusMaySaid : Prop := busMayRow.holds Try.pinned (OpenSpec.ofChange busMaySpec)

/-- ITS FALSE NEIGHBOUR: 'it returns false'. Refute it at one input. -/
def busMayWrong : ChangeSpec := { name := "busMay", fn := fun _ => fun
  | [d1, d2, d3, d4, d5] => { results := [.lit (.bool false)], args := [d1, d2, d3, d4, d5] }
  | _ => none }
def BusMayWrongFalsely : Prop := busMayRow.holds Try.pinned (OpenSpec.ofChange busMayWrong)

/-- 'salternlaw16.StackRows': WHATEVER THE INPUT: true; the input reads as it did. -/
def stackRowsSpec : ChangeSpec := { name := "stackRows", fn := fun _ => fun
  | [d1, d2] => { results := [.lit (.bool true)], args := [d1, d2] }
  | _ => none }
def stackRowsRow : OpenClaim := { program := "ytmmapogcackbbaa", sum := "e6e73825abe97d18bf1c74952ef1f62abe6b064f82b599215f4cf69798e13255", func := "saltern/salternlaw16.StackRows", spec := "stackRows", apart := false }
def StackRowsSaid : Prop := stackRowsRow.holds Try.pinned (OpenSpec.ofChange stackRowsSpec)

/-- ITS FALSE NEIGHBOUR: 'it returns false'. Refute it at one input. -/
def stackRowsWrong : ChangeSpec := { name := "stackRows", fn := fun _ => fun
  | [d1, d2] => { results := [.lit (.bool false)], args := [d1, d2] }
  | _ => none }
def StackRowsWrongFalsely : Prop := stackRowsRow.holds Try.pinned (OpenSpec.ofChange stackRowsWrong)

/-- 'salternlaw16.StackOps': WHATEVER THE INPUT: true; the input reads as it did. -/
def stackOpsSpec : ChangeSpec := { name := "stackOps", fn := fun _ => fun
  | [d] => { results := [.lit (.bool true)], args := [d] }
  | _ => none }
def stackOpsRow : OpenClaim := { program := "ytmmapogcackbbaa", sum := "e6e73825abe97d18bf1c74952ef1f62abe6b064f82b599215f4cf69798e13255", func := "saltern/salternlaw16.StackOps", spec := "stackOps", apart := false }
def StackOpsSaid : Prop := stackOpsRow.holds Try.pinned (OpenSpec.ofChange stackOpsSpec)

/-- ITS FALSE NEIGHBOUR: 'it returns false'. Refute it at one input. -/
def stackOpsWrong : ChangeSpec := { name := "stackOps", fn := fun _ => fun
  | [d] => { results := [.lit (.bool false)], args := [d] }
  | _ => none }
def StackOpsWrongFalsely : Prop := stackOpsRow.holds Try.pinned (OpenSpec.ofChange stackOpsWrong)

/-- 'salternlaw14.AddrStore': WHATEVER THE INPUT: true; the input reads as it did. -/
def addrStoreSpec : ChangeSpec := { name := "addrStore", fn := fun _ => fun
  | [d1, d2, d3, d4] => { results := [.lit (.bool true)], args := [d1, d2, d3, d4] }
  | _ => none }
def addrStoreRow : OpenClaim := { program := "ytmmapogcackbbaa", sum := "e6e73825abe97d18bf1c74952ef1f62abe6b064f82b599215f4cf69798e13255", func := "saltern/salternlaw14.AddrStore", spec := "addrStore", apart := false }
def AddrStoreSaid : Prop := addrStoreRow.holds Try.pinned (OpenSpec.ofChange addrStoreSpec)

/-- ITS FALSE NEIGHBOUR: 'it returns false'. Refute it at one input. -/
def addrStoreWrong : ChangeSpec := { name := "addrStore", fn := fun _ => fun
  | [d1, d2, d3, d4] => { results := [.lit (.bool false)], args := [d1, d2, d3, d4] }
  | _ => none }
def AddrStoreWrongFalsely : Prop := addrStoreRow.holds Try.pinned (OpenSpec.ofChange addrStoreWrong)

/-- 'salternlaw14.AddrTells': WHATEVER THE INPUT: true; the input reads as it did. -/
def addrTellsSpec : ChangeSpec := { name := "addrTells", fn := fun _ => fun
  | [d1, d2, d3, d4, d5, d6, d7, d8, d9] => { results := [.lit (.bool true)], args := [d1, d2, d3, d4, d5, d6, d7, d8, d9] }
  | _ => none }
def addrTellsRow : OpenClaim := { program := "ytmmapogcackbbaa", sum := "e6e73825abe97d18bf1c74952ef1f62abe6b064f82b599215f4cf69798e13255", func := "saltern/salternlaw14.AddrTells", spec := "addrTells", apart := false }
def AddrTellsSaid : Prop := addrTellsRow.holds Try.pinned (OpenSpec.ofChange addrTellsSpec)

/-- ITS FALSE NEIGHBOUR: 'it returns false'. Refute it at one input. -/
def addrTellsWrong : ChangeSpec := { name := "addrTells", fn := fun _ => fun
  | [d1, d2, d3, d4, d5, d6, d7, d8, d9] => { results := [.lit (.bool false)], args := [d1, d2, d3, d4, d5, d6, d7, d8, d9] }
  | _ => none }
def AddrTellsWrongFalsely : Prop := addrTellsRow.holds Try.pinned (OpenSpec.ofChange addrTellsWrong)

/- THE SECOND FORM. 'bulk': how many values and letters a reading holds, each counted each time it is reached (what is shared counts as often as it is met; a slice's spare places count too). A statement '..UptoSaid' is the law's where the arguments, and the package variables that the reading takes, are together of bulk at most 1048576: NARROWER than '..Said'. Prove '..Said' where nothing that the law and all that it calls make is longer than what came in: it says more and counts as full. Else prove '..UptoSaid'. A law counts once. -/
mutual
def uptoBulk {H : Type} : DataW H → Nat
  | .lit (.string bytes) => bytes.length + 1
  | .lit _ => 1
  | .nil => 1
  | .ptr d => uptoBulk d + 1
  | .slice elems spare => uptoBulkAll elems + uptoBulkAll spare + 1
  | .agg parts => uptoBulkAll parts + 1
  | .iface _ d => uptoBulk d + 1
  | .map entries => uptoBulkEntries entries + 1
  | .held _ => 1
def uptoBulkAll {H : Type} : List (DataW H) → Nat
  | [] => 0
  | d :: r => uptoBulk d + uptoBulkAll r
def uptoBulkEntries {H : Type} : List (Lit × DataW H) → Nat
  | [] => 0
  | x :: r => uptoBulkEntry x + uptoBulkEntries r
def uptoBulkEntry {H : Type} : Lit × DataW H → Nat
  | (.string bytes, d) => bytes.length + uptoBulk d + 1
  | (_, d) => uptoBulk d + 1
 end
def uptoSmall : (H : Type) → List (DataW H) → Bool := fun _ ds => decide (uptoBulkAll ds ≤ 1048576)
def OpenSpec.upto (s : _root_.Go.ChangeSpec) : _root_.Go.OpenSpec := { _root_.Go.OpenSpec.ofChange s with cond := some uptoSmall }

/-- 'salternlaw13.RegsTell', WHERE WHAT IT READS IS OF BULK AT MOST 1048576: true; the input reads as it did. -/
def regsTellUptoRow : OpenClaim := { program := "ytmmapogcackbbaa", sum := "e6e73825abe97d18bf1c74952ef1f62abe6b064f82b599215f4cf69798e13255", func := "saltern/salternlaw13.RegsTell", spec := "regsTell", apart := false, narrowed := true }
def RegsTellUptoSaid : Prop := regsTellUptoRow.holds Try.pinned (OpenSpec.upto regsTellSpec)

/-- 'salternlaw13.RegsBack', WHERE WHAT IT READS IS OF BULK AT MOST 1048576: true; the input reads as it did. -/
def regsBackUptoRow : OpenClaim := { program := "ytmmapogcackbbaa", sum := "e6e73825abe97d18bf1c74952ef1f62abe6b064f82b599215f4cf69798e13255", func := "saltern/salternlaw13.RegsBack", spec := "regsBack", apart := false, narrowed := true }
def RegsBackUptoSaid : Prop := regsBackUptoRow.holds Try.pinned (OpenSpec.upto regsBackSpec)

/-- 'salternlaw13.RegsLows', WHERE WHAT IT READS IS OF BULK AT MOST 1048576: true; the input reads as it did. -/
def regsLowsUptoRow : OpenClaim := { program := "ytmmapogcackbbaa", sum := "e6e73825abe97d18bf1c74952ef1f62abe6b064f82b599215f4cf69798e13255", func := "saltern/salternlaw13.RegsLows", spec := "regsLows", apart := false, narrowed := true }
def RegsLowsUptoSaid : Prop := regsLowsUptoRow.holds Try.pinned (OpenSpec.upto regsLowsSpec)

/-- 'salternlaw13.FlagsBack', WHERE WHAT IT READS IS OF BULK AT MOST 1048576: true; the input reads as it did. -/
def flagsBackUptoRow : OpenClaim := { program := "ytmmapogcackbbaa", sum := "e6e73825abe97d18bf1c74952ef1f62abe6b064f82b599215f4cf69798e13255", func := "saltern/salternlaw13.FlagsBack", spec := "flagsBack", apart := false, narrowed := true }
def FlagsBackUptoSaid : Prop := flagsBackUptoRow.holds Try.pinned (OpenSpec.upto flagsBackSpec)

/-- 'salternlaw8.BusOutside', WHERE WHAT IT READS IS OF BULK AT MOST 1048576: true; the input reads as it did. -/
def busOutsideUptoRow : OpenClaim := { program := "ytmmapogcackbbaa", sum := "e6e73825abe97d18bf1c74952ef1f62abe6b064f82b599215f4cf69798e13255", func := "saltern/salternlaw8.BusOutside", spec := "busOutside", apart := false, narrowed := true }
def BusOutsideUptoSaid : Prop := busOutsideUptoRow.holds Try.pinned (OpenSpec.upto busOutsideSpec)

/-- 'salternlaw8.BusEnds', WHERE WHAT IT READS IS OF BULK AT MOST 1048576: true; the input reads as it did. -/
def busEndsUptoRow : OpenClaim := { program := "ytmmapogcackbbaa", sum := "e6e73825abe97d18bf1c74952ef1f62abe6b064f82b599215f4cf69798e13255", func := "saltern/salternlaw8.BusEnds", spec := "busEnds", apart := false, narrowed := true }
def BusEndsUptoSaid : Prop := busEndsUptoRow.holds Try.pinned (OpenSpec.upto busEndsSpec)

/-- 'salternlaw8.BusMay', WHERE WHAT IT READS IS OF BULK AT MOST 1048576: true; the input reads as it did. -/
def busMayUptoRow : OpenClaim := { program := "ytmmapogcackbbaa", sum := "e6e73825abe97d18bf1c74952ef1f62abe6b064f82b599215f4cf69798e13255", func := "saltern/salternlaw8.BusMay", spec := "busMay", apart := false, narrowed := true }
def BusMayUptoSaid : Prop := busMayUptoRow.holds Try.pinned (OpenSpec.upto busMaySpec)

/-- 'salternlaw16.StackRows', WHERE WHAT IT READS IS OF BULK AT MOST 1048576: true; the input reads as it did. -/
def stackRowsUptoRow : OpenClaim := { program := "ytmmapogcackbbaa", sum := "e6e73825abe97d18bf1c74952ef1f62abe6b064f82b599215f4cf69798e13255", func := "saltern/salternlaw16.StackRows", spec := "stackRows", apart := false, narrowed := true }
def StackRowsUptoSaid : Prop := stackRowsUptoRow.holds Try.pinned (OpenSpec.upto stackRowsSpec)

/-- 'salternlaw16.StackOps', WHERE WHAT IT READS IS OF BULK AT MOST 1048576: true; the input reads as it did. -/
def stackOpsUptoRow : OpenClaim := { program := "ytmmapogcackbbaa", sum := "e6e73825abe97d18bf1c74952ef1f62abe6b064f82b599215f4cf69798e13255", func := "saltern/salternlaw16.StackOps", spec := "stackOps", apart := false, narrowed := true }
def StackOpsUptoSaid : Prop := stackOpsUptoRow.holds Try.pinned (OpenSpec.upto stackOpsSpec)

/-- 'salternlaw14.AddrStore', WHERE WHAT IT READS IS OF BULK AT MOST 1048576: true; the input reads as it did. -/
def addrStoreUptoRow : OpenClaim := { program := "ytmmapogcackbbaa", sum := "e6e73825abe97d18bf1c74952ef1f62abe6b064f82b599215f4cf69798e13255", func := "saltern/salternlaw14.AddrStore", spec := "addrStore", apart := false, narrowed := true }
def AddrStoreUptoSaid : Prop := addrStoreUptoRow.holds Try.pinned (OpenSpec.upto addrStoreSpec)

/-- 'salternlaw14.AddrTells', WHERE WHAT IT READS IS OF BULK AT MOST 1048576: true; the input reads as it did. -/
def addrTellsUptoRow : OpenClaim := { program := "ytmmapogcackbbaa", sum := "e6e73825abe97d18bf1c74952ef1f62abe6b064f82b599215f4cf69798e13255", func := "saltern/salternlaw14.AddrTells", spec := "addrTells", apart := false, narrowed := true }
def AddrTellsUptoSaid : Prop := addrTellsUptoRow.holds Try.pinned (OpenSpec.upto addrTellsSpec)

end Rows
end Go.Proofs.Ytmmapogcackbbaa
