/-
  No cell of these rows narrows 'for every input' (looked for: loops, veiled, ifaces, maps, wideKeys, modest, calm, conditions, laid).
  DERIVED. THE GIVEN ROWS OF THIS SEAT. 9 by the template 'for every input the law returns true; each argument reads behind the call as it read before'; 0 by the template 'total and deterministic' (their statements: YtpgdpoloipifeaaTotals.lean).
  GIVEN WITH THE SEED: the statements are not yours to turn. If you find one false, say at which input.
  Laid BY PROGRAM, IN A SANDBOX (cutbox-rows.mjs): the forced cells as the released guide's own fill.sh prints them over the translation cec503a47a59def6… (all of the seat's roots in one cut). By AI agents, Wed Nov 11 2026. No macro, syntax, notation, axiom, sorry.
-/
import Derived.Test.YtpgdpoloipifeaaChecked
import GoSem.Claim
import GoSem.ClaimJoined
import GoSem.ClaimMapViews
import Derived.JoinedTies
import Derived.KernelRfl
namespace Go.Proofs.Ytpgdpoloipifeaa
/- THE CELL 'sum', in the pinned program and in every row, IS THE sha256 OF THE DUMP (.gsa) THAT YtpgdpoloipifeaaProg.lean LOADS. Nothing in Lean hashes anything: it is a label: what it is worth is what the hold of that sum in a sandbox is worth. -/
noncomputable def Try.pinned : Pinned := { name := "ytpgdpoloipifeaa", sum := "cec503a47a59def625276332696929e1b62820b3e58a1133d19a475581529e0d", checked := Try.checked }
namespace Rows
def none {H : Type} : Left H := { results := [], args := [] }

/-- 'salternlaw18.FlowReturns': WHATEVER THE INPUT: true; the input reads as it did. -/
def flowReturnsSpec : ChangeSpec := { name := "flowReturns", fn := fun _ => fun
  | [d1, d2, d3, d4] => { results := [.lit (.bool true)], args := [d1, d2, d3, d4] }
  | _ => none }
def flowReturnsRow : OpenClaim := { program := "ytpgdpoloipifeaa", sum := "cec503a47a59def625276332696929e1b62820b3e58a1133d19a475581529e0d", func := "saltern/salternlaw18.FlowReturns", spec := "flowReturns", apart := false }
def FlowReturnsSaid : Prop := flowReturnsRow.holds Try.pinned (OpenSpec.ofChange flowReturnsSpec)

/-- ITS FALSE NEIGHBOUR: 'it returns false'. Refute it at one input. -/
def flowReturnsWrong : ChangeSpec := { name := "flowReturns", fn := fun _ => fun
  | [d1, d2, d3, d4] => { results := [.lit (.bool false)], args := [d1, d2, d3, d4] }
  | _ => none }
def FlowReturnsWrongFalsely : Prop := flowReturnsRow.holds Try.pinned (OpenSpec.ofChange flowReturnsWrong)

/-- 'salternlaw18.FlowConds': WHATEVER THE INPUT: true; the input reads as it did. -/
def flowCondsSpec : ChangeSpec := { name := "flowConds", fn := fun _ => fun
  | [d1, d2, d3, d4] => { results := [.lit (.bool true)], args := [d1, d2, d3, d4] }
  | _ => none }
def flowCondsRow : OpenClaim := { program := "ytpgdpoloipifeaa", sum := "cec503a47a59def625276332696929e1b62820b3e58a1133d19a475581529e0d", func := "saltern/salternlaw18.FlowConds", spec := "flowConds", apart := false }
def FlowCondsSaid : Prop := flowCondsRow.holds Try.pinned (OpenSpec.ofChange flowCondsSpec)

/-- ITS FALSE NEIGHBOUR: 'it returns false'. Refute it at one input. -/
def flowCondsWrong : ChangeSpec := { name := "flowConds", fn := fun _ => fun
  | [d1, d2, d3, d4] => { results := [.lit (.bool false)], args := [d1, d2, d3, d4] }
  | _ => none }
def FlowCondsWrongFalsely : Prop := flowCondsRow.holds Try.pinned (OpenSpec.ofChange flowCondsWrong)

/-- 'salternlaw18.FlowTells': WHATEVER THE INPUT: true; the input reads as it did. -/
def flowTellsSpec : ChangeSpec := { name := "flowTells", fn := fun _ => fun
  | [d1, d2, d3, d4, d5, d6, d7, d8, d9] => { results := [.lit (.bool true)], args := [d1, d2, d3, d4, d5, d6, d7, d8, d9] }
  | _ => none }
def flowTellsRow : OpenClaim := { program := "ytpgdpoloipifeaa", sum := "cec503a47a59def625276332696929e1b62820b3e58a1133d19a475581529e0d", func := "saltern/salternlaw18.FlowTells", spec := "flowTells", apart := false }
def FlowTellsSaid : Prop := flowTellsRow.holds Try.pinned (OpenSpec.ofChange flowTellsSpec)

/-- ITS FALSE NEIGHBOUR: 'it returns false'. Refute it at one input. -/
def flowTellsWrong : ChangeSpec := { name := "flowTells", fn := fun _ => fun
  | [d1, d2, d3, d4, d5, d6, d7, d8, d9] => { results := [.lit (.bool false)], args := [d1, d2, d3, d4, d5, d6, d7, d8, d9] }
  | _ => none }
def FlowTellsWrongFalsely : Prop := flowTellsRow.holds Try.pinned (OpenSpec.ofChange flowTellsWrong)

/-- 'salternlaw19.FpuOps': WHATEVER THE INPUT: true; the input reads as it did. -/
def fpuOpsSpec : ChangeSpec := { name := "fpuOps", fn := fun _ => fun
  | [d] => { results := [.lit (.bool true)], args := [d] }
  | _ => none }
def fpuOpsRow : OpenClaim := { program := "ytpgdpoloipifeaa", sum := "cec503a47a59def625276332696929e1b62820b3e58a1133d19a475581529e0d", func := "saltern/salternlaw19.FpuOps", spec := "fpuOps", inPlace := ["math.Float64frombits", "math.Float64bits", "math.archTrunc", "math.sqrt"], apart := false }
def FpuOpsSaid : Prop := fpuOpsRow.holds Try.pinned (OpenSpec.ofChange fpuOpsSpec)

/-- ITS FALSE NEIGHBOUR: 'it returns false'. Refute it at one input. -/
def fpuOpsWrong : ChangeSpec := { name := "fpuOps", fn := fun _ => fun
  | [d] => { results := [.lit (.bool false)], args := [d] }
  | _ => none }
def FpuOpsWrongFalsely : Prop := fpuOpsRow.holds Try.pinned (OpenSpec.ofChange fpuOpsWrong)

/-- 'salternlaw19.FpuMoves': WHATEVER THE INPUT: true; the input reads as it did. -/
def fpuMovesSpec : ChangeSpec := { name := "fpuMoves", fn := fun _ => fun
  | [d1, d2, d3, d4] => { results := [.lit (.bool true)], args := [d1, d2, d3, d4] }
  | _ => none }
def fpuMovesRow : OpenClaim := { program := "ytpgdpoloipifeaa", sum := "cec503a47a59def625276332696929e1b62820b3e58a1133d19a475581529e0d", func := "saltern/salternlaw19.FpuMoves", spec := "fpuMoves", inPlace := ["math.Float64frombits", "math.Float64bits", "math.archTrunc", "math.sqrt"], apart := false }
def FpuMovesSaid : Prop := fpuMovesRow.holds Try.pinned (OpenSpec.ofChange fpuMovesSpec)

/-- ITS FALSE NEIGHBOUR: 'it returns false'. Refute it at one input. -/
def fpuMovesWrong : ChangeSpec := { name := "fpuMoves", fn := fun _ => fun
  | [d1, d2, d3, d4] => { results := [.lit (.bool false)], args := [d1, d2, d3, d4] }
  | _ => none }
def FpuMovesWrongFalsely : Prop := fpuMovesRow.holds Try.pinned (OpenSpec.ofChange fpuMovesWrong)

/-- 'salternlaw19.FpuTells': WHATEVER THE INPUT: true; the input reads as it did. -/
def fpuTellsSpec : ChangeSpec := { name := "fpuTells", fn := fun _ => fun
  | [d1, d2, d3, d4, d5, d6, d7, d8, d9] => { results := [.lit (.bool true)], args := [d1, d2, d3, d4, d5, d6, d7, d8, d9] }
  | _ => none }
def fpuTellsRow : OpenClaim := { program := "ytpgdpoloipifeaa", sum := "cec503a47a59def625276332696929e1b62820b3e58a1133d19a475581529e0d", func := "saltern/salternlaw19.FpuTells", spec := "fpuTells", inPlace := ["math.Float64frombits", "math.Float64bits", "math.archTrunc", "math.sqrt"], apart := false }
def FpuTellsSaid : Prop := fpuTellsRow.holds Try.pinned (OpenSpec.ofChange fpuTellsSpec)

/-- ITS FALSE NEIGHBOUR: 'it returns false'. Refute it at one input. -/
def fpuTellsWrong : ChangeSpec := { name := "fpuTells", fn := fun _ => fun
  | [d1, d2, d3, d4, d5, d6, d7, d8, d9] => { results := [.lit (.bool false)], args := [d1, d2, d3, d4, d5, d6, d7, d8, d9] }
  | _ => none }
def FpuTellsWrongFalsely : Prop := fpuTellsRow.holds Try.pinned (OpenSpec.ofChange fpuTellsWrong)

/-- 'salternlaw15.AluOps': WHATEVER THE INPUT: true; the input reads as it did. -/
def aluOpsSpec : ChangeSpec := { name := "aluOps", fn := fun _ => fun
  | [d] => { results := [.lit (.bool true)], args := [d] }
  | _ => none }
def aluOpsRow : OpenClaim := { program := "ytpgdpoloipifeaa", sum := "cec503a47a59def625276332696929e1b62820b3e58a1133d19a475581529e0d", func := "saltern/salternlaw15.AluOps", spec := "aluOps", unfollowed := true, recurses := true, apart := false }
def AluOpsSaid : Prop := aluOpsRow.holds Try.pinned (OpenSpec.ofChange aluOpsSpec)

/-- ITS FALSE NEIGHBOUR: 'it returns false'. Refute it at one input. -/
def aluOpsWrong : ChangeSpec := { name := "aluOps", fn := fun _ => fun
  | [d] => { results := [.lit (.bool false)], args := [d] }
  | _ => none }
def AluOpsWrongFalsely : Prop := aluOpsRow.holds Try.pinned (OpenSpec.ofChange aluOpsWrong)

/-- 'salternlaw15.AluCarries': WHATEVER THE INPUT: true; the input reads as it did. -/
def aluCarriesSpec : ChangeSpec := { name := "aluCarries", fn := fun _ => fun
  | [d1, d2] => { results := [.lit (.bool true)], args := [d1, d2] }
  | _ => none }
def aluCarriesRow : OpenClaim := { program := "ytpgdpoloipifeaa", sum := "cec503a47a59def625276332696929e1b62820b3e58a1133d19a475581529e0d", func := "saltern/salternlaw15.AluCarries", spec := "aluCarries", unfollowed := true, recurses := true, apart := false }
def AluCarriesSaid : Prop := aluCarriesRow.holds Try.pinned (OpenSpec.ofChange aluCarriesSpec)

/-- ITS FALSE NEIGHBOUR: 'it returns false'. Refute it at one input. -/
def aluCarriesWrong : ChangeSpec := { name := "aluCarries", fn := fun _ => fun
  | [d1, d2] => { results := [.lit (.bool false)], args := [d1, d2] }
  | _ => none }
def AluCarriesWrongFalsely : Prop := aluCarriesRow.holds Try.pinned (OpenSpec.ofChange aluCarriesWrong)

/-- 'salternlaw15.AluXchg': WHATEVER THE INPUT: true; the input reads as it did. -/
def aluXchgSpec : ChangeSpec := { name := "aluXchg", fn := fun _ => fun
  | [d1, d2, d3, d4] => { results := [.lit (.bool true)], args := [d1, d2, d3, d4] }
  | _ => none }
def aluXchgRow : OpenClaim := { program := "ytpgdpoloipifeaa", sum := "cec503a47a59def625276332696929e1b62820b3e58a1133d19a475581529e0d", func := "saltern/salternlaw15.AluXchg", spec := "aluXchg", unfollowed := true, recurses := true, apart := false }
def AluXchgSaid : Prop := aluXchgRow.holds Try.pinned (OpenSpec.ofChange aluXchgSpec)

/-- ITS FALSE NEIGHBOUR: 'it returns false'. Refute it at one input. -/
def aluXchgWrong : ChangeSpec := { name := "aluXchg", fn := fun _ => fun
  | [d1, d2, d3, d4] => { results := [.lit (.bool false)], args := [d1, d2, d3, d4] }
  | _ => none }
def AluXchgWrongFalsely : Prop := aluXchgRow.holds Try.pinned (OpenSpec.ofChange aluXchgWrong)

/- THE SECOND FORM. 'bulk': how many values and letters a reading holds, each counted each time it is reached (what is shared counts as often as it is met; a slice's spare places count too). A statement '..UptoSaid' is the law's where the arguments, and the package variables that the reading takes, are together of bulk at most 1048576: NARROWER than '..Said'. Prove '..Said' where nothing that the law and all that it calls make is longer than what came in: it says more and counts as full. Else prove '..UptoSaid'. A law counts once. -/
mutual
def uptoBulk {H : Type} : DataW H → Nat
  | .lit (.string bytes) => bytes.length + 1
  | .lit _ => 1
  | .nil => 1
  | .ptr d => uptoBulk d + 1
  | .slice elems spare => uptoBulkAll elems + uptoBulkAll spare + 1
  | .agg parts => uptoBulkAll parts + 1
  | .iface _ d => uptoBulk d + 1
  | .map entries => uptoBulkEntries entries + 1
  | .held _ => 1
def uptoBulkAll {H : Type} : List (DataW H) → Nat
  | [] => 0
  | d :: r => uptoBulk d + uptoBulkAll r
def uptoBulkEntries {H : Type} : List (Lit × DataW H) → Nat
  | [] => 0
  | x :: r => uptoBulkEntry x + uptoBulkEntries r
def uptoBulkEntry {H : Type} : Lit × DataW H → Nat
  | (.string bytes, d) => bytes.length + uptoBulk d + 1
  | (_, d) => uptoBulk d + 1
 end
def uptoSmall : (H : Type) → List (DataW H) → Bool := fun _ ds => decide (uptoBulkAll ds ≤ 1048576)
def OpenSpec.upto (s : _root_.Go.ChangeSpec) : _root_.Go.OpenSpec := { _root_.Go.OpenSpec.ofChange s with cond := some uptoSmall }

/-- 'salternlaw18.FlowReturns', WHERE WHAT IT READS IS OF BULK AT MOST 1048576: true; the input reads as it did. -/
def flowReturnsUptoRow : OpenClaim := { program := "ytpgdpoloipifeaa", sum := "cec503a47a59def625276332696929e1b62820b3e58a1133d19a475581529e0d", func := "saltern/salternlaw18.FlowReturns", spec := "flowReturns", apart := false, narrowed := true }
def FlowReturnsUptoSaid : Prop := flowReturnsUptoRow.holds Try.pinned (OpenSpec.upto flowReturnsSpec)

/-- 'salternlaw18.FlowConds', WHERE WHAT IT READS IS OF BULK AT MOST 1048576: true; the input reads as it did. -/
def flowCondsUptoRow : OpenClaim := { program := "ytpgdpoloipifeaa", sum := "cec503a47a59def625276332696929e1b62820b3e58a1133d19a475581529e0d", func := "saltern/salternlaw18.FlowConds", spec := "flowConds", apart := false, narrowed := true }
def FlowCondsUptoSaid : Prop := flowCondsUptoRow.holds Try.pinned (OpenSpec.upto flowCondsSpec)

/-- 'salternlaw18.FlowTells', WHERE WHAT IT READS IS OF BULK AT MOST 1048576: true; the input reads as it did. -/
def flowTellsUptoRow : OpenClaim := { program := "ytpgdpoloipifeaa", sum := "cec503a47a59def625276332696929e1b62820b3e58a1133d19a475581529e0d", func := "saltern/salternlaw18.FlowTells", spec := "flowTells", apart := false, narrowed := true }
def FlowTellsUptoSaid : Prop := flowTellsUptoRow.holds Try.pinned (OpenSpec.upto flowTellsSpec)

/-- 'salternlaw19.FpuOps', WHERE WHAT IT READS IS OF BULK AT MOST 1048576: true; the input reads as it did. -/
def fpuOpsUptoRow : OpenClaim := { program := "ytpgdpoloipifeaa", sum := "cec503a47a59def625276332696929e1b62820b3e58a1133d19a475581529e0d", func := "saltern/salternlaw19.FpuOps", spec := "fpuOps", inPlace := ["math.Float64frombits", "math.Float64bits", "math.archTrunc", "math.sqrt"], apart := false, narrowed := true }
def FpuOpsUptoSaid : Prop := fpuOpsUptoRow.holds Try.pinned (OpenSpec.upto fpuOpsSpec)

/-- 'salternlaw19.FpuMoves', WHERE WHAT IT READS IS OF BULK AT MOST 1048576: true; the input reads as it did. -/
def fpuMovesUptoRow : OpenClaim := { program := "ytpgdpoloipifeaa", sum := "cec503a47a59def625276332696929e1b62820b3e58a1133d19a475581529e0d", func := "saltern/salternlaw19.FpuMoves", spec := "fpuMoves", inPlace := ["math.Float64frombits", "math.Float64bits", "math.archTrunc", "math.sqrt"], apart := false, narrowed := true }
def FpuMovesUptoSaid : Prop := fpuMovesUptoRow.holds Try.pinned (OpenSpec.upto fpuMovesSpec)

/-- 'salternlaw19.FpuTells', WHERE WHAT IT READS IS OF BULK AT MOST 1048576: true; the input reads as it did. -/
def fpuTellsUptoRow : OpenClaim := { program := "ytpgdpoloipifeaa", sum := "cec503a47a59def625276332696929e1b62820b3e58a1133d19a475581529e0d", func := "saltern/salternlaw19.FpuTells", spec := "fpuTells", inPlace := ["math.Float64frombits", "math.Float64bits", "math.archTrunc", "math.sqrt"], apart := false, narrowed := true }
def FpuTellsUptoSaid : Prop := fpuTellsUptoRow.holds Try.pinned (OpenSpec.upto fpuTellsSpec)

/-- 'salternlaw15.AluOps', WHERE WHAT IT READS IS OF BULK AT MOST 1048576: true; the input reads as it did. -/
def aluOpsUptoRow : OpenClaim := { program := "ytpgdpoloipifeaa", sum := "cec503a47a59def625276332696929e1b62820b3e58a1133d19a475581529e0d", func := "saltern/salternlaw15.AluOps", spec := "aluOps", unfollowed := true, recurses := true, apart := false, narrowed := true }
def AluOpsUptoSaid : Prop := aluOpsUptoRow.holds Try.pinned (OpenSpec.upto aluOpsSpec)

/-- 'salternlaw15.AluCarries', WHERE WHAT IT READS IS OF BULK AT MOST 1048576: true; the input reads as it did. -/
def aluCarriesUptoRow : OpenClaim := { program := "ytpgdpoloipifeaa", sum := "cec503a47a59def625276332696929e1b62820b3e58a1133d19a475581529e0d", func := "saltern/salternlaw15.AluCarries", spec := "aluCarries", unfollowed := true, recurses := true, apart := false, narrowed := true }
def AluCarriesUptoSaid : Prop := aluCarriesUptoRow.holds Try.pinned (OpenSpec.upto aluCarriesSpec)

/-- 'salternlaw15.AluXchg', WHERE WHAT IT READS IS OF BULK AT MOST 1048576: true; the input reads as it did. -/
def aluXchgUptoRow : OpenClaim := { program := "ytpgdpoloipifeaa", sum := "cec503a47a59def625276332696929e1b62820b3e58a1133d19a475581529e0d", func := "saltern/salternlaw15.AluXchg", spec := "aluXchg", unfollowed := true, recurses := true, apart := false, narrowed := true }
def AluXchgUptoSaid : Prop := aluXchgUptoRow.holds Try.pinned (OpenSpec.upto aluXchgSpec)

end Rows
end Go.Proofs.Ytpgdpoloipifeaa
