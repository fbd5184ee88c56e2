/-
  No cell of these rows narrows 'for every input' (looked for: loops, veiled, ifaces, maps, wideKeys, modest, calm, conditions, laid).
  DERIVED. THE GIVEN ROWS OF THIS SEAT. 12 by the template 'for every input the law returns true; each argument reads behind the call as it read before'; 0 by the template 'total and deterministic' (their statements: YtcddbojldlcdkaaTotals.lean).
  GIVEN WITH THE SEED: the statements are not yours to turn. If you find one false, say at which input.
  Laid BY PROGRAM, IN A SANDBOX (cutbox-rows.mjs): the forced cells as the released guide's own fill.sh prints them over the translation 43182f26faee69a2… (all of the seat's roots in one cut). By AI agents, Wed Nov 11 2026. No macro, syntax, notation, axiom, sorry.
-/
import Derived.Test.YtcddbojldlcdkaaChecked
import GoSem.Claim
import GoSem.ClaimJoined
import GoSem.ClaimMapViews
import Derived.JoinedTies
import Derived.KernelRfl
namespace Go.Proofs.Ytcddbojldlcdkaa
/- THE CELL 'sum', in the pinned program and in every row, IS THE sha256 OF THE DUMP (.gsa) THAT YtcddbojldlcdkaaProg.lean LOADS. Nothing in Lean hashes anything: it is a label: what it is worth is what the hold of that sum in a sandbox is worth. -/
noncomputable def Try.pinned : Pinned := { name := "ytcddbojldlcdkaa", sum := "43182f26faee69a25d30b4a2b2b7472b19789916c8542f66cd5dbb102e71d8a2", checked := Try.checked }
namespace Rows
def none {H : Type} : Left H := { results := [], args := [] }

/-- 'salternlaw17.StrsOps': WHATEVER THE INPUT: true; the input reads as it did. -/
def strsOpsSpec : ChangeSpec := { name := "strsOps", fn := fun _ => fun
  | [d] => { results := [.lit (.bool true)], args := [d] }
  | _ => none }
def strsOpsRow : OpenClaim := { program := "ytcddbojldlcdkaa", sum := "43182f26faee69a25d30b4a2b2b7472b19789916c8542f66cd5dbb102e71d8a2", func := "saltern/salternlaw17.StrsOps", spec := "strsOps", apart := false }
def StrsOpsSaid : Prop := strsOpsRow.holds Try.pinned (OpenSpec.ofChange strsOpsSpec)

/-- ITS FALSE NEIGHBOUR: 'it returns false'. Refute it at one input. -/
def strsOpsWrong : ChangeSpec := { name := "strsOps", fn := fun _ => fun
  | [d] => { results := [.lit (.bool false)], args := [d] }
  | _ => none }
def StrsOpsWrongFalsely : Prop := strsOpsRow.holds Try.pinned (OpenSpec.ofChange strsOpsWrong)

/-- 'salternlaw17.StrsTell': WHATEVER THE INPUT: true; the input reads as it did. -/
def strsTellSpec : ChangeSpec := { name := "strsTell", fn := fun _ => fun
  | [d1, d2, d3, d4, d5, d6] => { results := [.lit (.bool true)], args := [d1, d2, d3, d4, d5, d6] }
  | _ => none }
def strsTellRow : OpenClaim := { program := "ytcddbojldlcdkaa", sum := "43182f26faee69a25d30b4a2b2b7472b19789916c8542f66cd5dbb102e71d8a2", func := "saltern/salternlaw17.StrsTell", spec := "strsTell", apart := false }
def StrsTellSaid : Prop := strsTellRow.holds Try.pinned (OpenSpec.ofChange strsTellSpec)

/-- ITS FALSE NEIGHBOUR: 'it returns false'. Refute it at one input. -/
def strsTellWrong : ChangeSpec := { name := "strsTell", fn := fun _ => fun
  | [d1, d2, d3, d4, d5, d6] => { results := [.lit (.bool false)], args := [d1, d2, d3, d4, d5, d6] }
  | _ => none }
def StrsTellWrongFalsely : Prop := strsTellRow.holds Try.pinned (OpenSpec.ofChange strsTellWrong)

/-- 'salternlaw17.StrsRows': WHATEVER THE INPUT: true; the input reads as it did. -/
def strsRowsSpec : ChangeSpec := { name := "strsRows", fn := fun _ => fun
  | [d1, d2, d3, d4, d5] => { results := [.lit (.bool true)], args := [d1, d2, d3, d4, d5] }
  | _ => none }
def strsRowsRow : OpenClaim := { program := "ytcddbojldlcdkaa", sum := "43182f26faee69a25d30b4a2b2b7472b19789916c8542f66cd5dbb102e71d8a2", func := "saltern/salternlaw17.StrsRows", spec := "strsRows", apart := false }
def StrsRowsSaid : Prop := strsRowsRow.holds Try.pinned (OpenSpec.ofChange strsRowsSpec)

/-- ITS FALSE NEIGHBOUR: 'it returns false'. Refute it at one input. -/
def strsRowsWrong : ChangeSpec := { name := "strsRows", fn := fun _ => fun
  | [d1, d2, d3, d4, d5] => { results := [.lit (.bool false)], args := [d1, d2, d3, d4, d5] }
  | _ => none }
def StrsRowsWrongFalsely : Prop := strsRowsRow.holds Try.pinned (OpenSpec.ofChange strsRowsWrong)

/-- 'salternlaw17.StrsFills': WHATEVER THE INPUT: true; the input reads as it did. -/
def strsFillsSpec : ChangeSpec := { name := "strsFills", fn := fun _ => fun
  | [d1, d2, d3, d4] => { results := [.lit (.bool true)], args := [d1, d2, d3, d4] }
  | _ => none }
def strsFillsRow : OpenClaim := { program := "ytcddbojldlcdkaa", sum := "43182f26faee69a25d30b4a2b2b7472b19789916c8542f66cd5dbb102e71d8a2", func := "saltern/salternlaw17.StrsFills", spec := "strsFills", apart := false }
def StrsFillsSaid : Prop := strsFillsRow.holds Try.pinned (OpenSpec.ofChange strsFillsSpec)

/-- ITS FALSE NEIGHBOUR: 'it returns false'. Refute it at one input. -/
def strsFillsWrong : ChangeSpec := { name := "strsFills", fn := fun _ => fun
  | [d1, d2, d3, d4] => { results := [.lit (.bool false)], args := [d1, d2, d3, d4] }
  | _ => none }
def StrsFillsWrongFalsely : Prop := strsFillsRow.holds Try.pinned (OpenSpec.ofChange strsFillsWrong)

/-- 'salternlaw4.FloatTells': WHATEVER THE INPUT: true; the input reads as it did. -/
def floatTellsSpec : ChangeSpec := { name := "floatTells", fn := fun _ => fun
  | [d1, d2, d3, d4] => { results := [.lit (.bool true)], args := [d1, d2, d3, d4] }
  | _ => none }
def floatTellsRow : OpenClaim := { program := "ytcddbojldlcdkaa", sum := "43182f26faee69a25d30b4a2b2b7472b19789916c8542f66cd5dbb102e71d8a2", func := "saltern/salternlaw4.FloatTells", spec := "floatTells", inPlace := ["math.Float64frombits", "math.sqrt", "math.Float64bits", "math.archTrunc"], apart := false }
def FloatTellsSaid : Prop := floatTellsRow.holds Try.pinned (OpenSpec.ofChange floatTellsSpec)

/-- ITS FALSE NEIGHBOUR: 'it returns false'. Refute it at one input. -/
def floatTellsWrong : ChangeSpec := { name := "floatTells", fn := fun _ => fun
  | [d1, d2, d3, d4] => { results := [.lit (.bool false)], args := [d1, d2, d3, d4] }
  | _ => none }
def FloatTellsWrongFalsely : Prop := floatTellsRow.holds Try.pinned (OpenSpec.ofChange floatTellsWrong)

/-- 'salternlaw4.FloatInts': WHATEVER THE INPUT: true; the input reads as it did. -/
def floatIntsSpec : ChangeSpec := { name := "floatInts", fn := fun _ => fun
  | [d1, d2, d3] => { results := [.lit (.bool true)], args := [d1, d2, d3] }
  | _ => none }
def floatIntsRow : OpenClaim := { program := "ytcddbojldlcdkaa", sum := "43182f26faee69a25d30b4a2b2b7472b19789916c8542f66cd5dbb102e71d8a2", func := "saltern/salternlaw4.FloatInts", spec := "floatInts", inPlace := ["math.Float64frombits", "math.sqrt", "math.Float64bits", "math.archTrunc"], apart := false }
def FloatIntsSaid : Prop := floatIntsRow.holds Try.pinned (OpenSpec.ofChange floatIntsSpec)

/-- ITS FALSE NEIGHBOUR: 'it returns false'. Refute it at one input. -/
def floatIntsWrong : ChangeSpec := { name := "floatInts", fn := fun _ => fun
  | [d1, d2, d3] => { results := [.lit (.bool false)], args := [d1, d2, d3] }
  | _ => none }
def FloatIntsWrongFalsely : Prop := floatIntsRow.holds Try.pinned (OpenSpec.ofChange floatIntsWrong)

/-- 'salternlaw4.FloatNaNs': WHATEVER THE INPUT: true; the input reads as it did. -/
def floatNaNsSpec : ChangeSpec := { name := "floatNaNs", fn := fun _ => fun
  | [d1, d2, d3] => { results := [.lit (.bool true)], args := [d1, d2, d3] }
  | _ => none }
def floatNaNsRow : OpenClaim := { program := "ytcddbojldlcdkaa", sum := "43182f26faee69a25d30b4a2b2b7472b19789916c8542f66cd5dbb102e71d8a2", func := "saltern/salternlaw4.FloatNaNs", spec := "floatNaNs", inPlace := ["math.Float64frombits", "math.sqrt", "math.Float64bits", "math.archTrunc"], apart := false }
def FloatNaNsSaid : Prop := floatNaNsRow.holds Try.pinned (OpenSpec.ofChange floatNaNsSpec)

/-- ITS FALSE NEIGHBOUR: 'it returns false'. Refute it at one input. -/
def floatNaNsWrong : ChangeSpec := { name := "floatNaNs", fn := fun _ => fun
  | [d1, d2, d3] => { results := [.lit (.bool false)], args := [d1, d2, d3] }
  | _ => none }
def FloatNaNsWrongFalsely : Prop := floatNaNsRow.holds Try.pinned (OpenSpec.ofChange floatNaNsWrong)

/-- 'salternlaw4.FloatZeros': WHATEVER THE INPUT: true; the input reads as it did. -/
def floatZerosSpec : ChangeSpec := { name := "floatZeros", fn := fun _ => fun
  | [d1, d2, d3] => { results := [.lit (.bool true)], args := [d1, d2, d3] }
  | _ => none }
def floatZerosRow : OpenClaim := { program := "ytcddbojldlcdkaa", sum := "43182f26faee69a25d30b4a2b2b7472b19789916c8542f66cd5dbb102e71d8a2", func := "saltern/salternlaw4.FloatZeros", spec := "floatZeros", inPlace := ["math.Float64frombits", "math.sqrt", "math.Float64bits", "math.archTrunc"], unfollowed := true, recurses := true, apart := false }
def FloatZerosSaid : Prop := floatZerosRow.holds Try.pinned (OpenSpec.ofChange floatZerosSpec)

/-- ITS FALSE NEIGHBOUR: 'it returns false'. Refute it at one input. -/
def floatZerosWrong : ChangeSpec := { name := "floatZeros", fn := fun _ => fun
  | [d1, d2, d3] => { results := [.lit (.bool false)], args := [d1, d2, d3] }
  | _ => none }
def FloatZerosWrongFalsely : Prop := floatZerosRow.holds Try.pinned (OpenSpec.ofChange floatZerosWrong)

/-- 'salternlaw4.FloatWhole': WHATEVER THE INPUT: true; the input reads as it did. -/
def floatWholeSpec : ChangeSpec := { name := "floatWhole", fn := fun _ => fun
  | [d1, d2] => { results := [.lit (.bool true)], args := [d1, d2] }
  | _ => none }
def floatWholeRow : OpenClaim := { program := "ytcddbojldlcdkaa", sum := "43182f26faee69a25d30b4a2b2b7472b19789916c8542f66cd5dbb102e71d8a2", func := "saltern/salternlaw4.FloatWhole", spec := "floatWhole", inPlace := ["math.Float64frombits", "math.sqrt", "math.Float64bits", "math.archTrunc"], apart := false }
def FloatWholeSaid : Prop := floatWholeRow.holds Try.pinned (OpenSpec.ofChange floatWholeSpec)

/-- ITS FALSE NEIGHBOUR: 'it returns false'. Refute it at one input. -/
def floatWholeWrong : ChangeSpec := { name := "floatWhole", fn := fun _ => fun
  | [d1, d2] => { results := [.lit (.bool false)], args := [d1, d2] }
  | _ => none }
def FloatWholeWrongFalsely : Prop := floatWholeRow.holds Try.pinned (OpenSpec.ofChange floatWholeWrong)

/-- 'salternlaw4.FloatCuts': WHATEVER THE INPUT: true; the input reads as it did. -/
def floatCutsSpec : ChangeSpec := { name := "floatCuts", fn := fun _ => fun
  | [d1, d2] => { results := [.lit (.bool true)], args := [d1, d2] }
  | _ => none }
def floatCutsRow : OpenClaim := { program := "ytcddbojldlcdkaa", sum := "43182f26faee69a25d30b4a2b2b7472b19789916c8542f66cd5dbb102e71d8a2", func := "saltern/salternlaw4.FloatCuts", spec := "floatCuts", inPlace := ["math.Float64frombits", "math.sqrt", "math.Float64bits", "math.archTrunc"], apart := false }
def FloatCutsSaid : Prop := floatCutsRow.holds Try.pinned (OpenSpec.ofChange floatCutsSpec)

/-- ITS FALSE NEIGHBOUR: 'it returns false'. Refute it at one input. -/
def floatCutsWrong : ChangeSpec := { name := "floatCuts", fn := fun _ => fun
  | [d1, d2] => { results := [.lit (.bool false)], args := [d1, d2] }
  | _ => none }
def FloatCutsWrongFalsely : Prop := floatCutsRow.holds Try.pinned (OpenSpec.ofChange floatCutsWrong)

/-- 'salternlaw4.FloatRoots': WHATEVER THE INPUT: true; the input reads as it did. -/
def floatRootsSpec : ChangeSpec := { name := "floatRoots", fn := fun _ => fun
  | [d1, d2] => { results := [.lit (.bool true)], args := [d1, d2] }
  | _ => none }
def floatRootsRow : OpenClaim := { program := "ytcddbojldlcdkaa", sum := "43182f26faee69a25d30b4a2b2b7472b19789916c8542f66cd5dbb102e71d8a2", func := "saltern/salternlaw4.FloatRoots", spec := "floatRoots", inPlace := ["math.Float64frombits", "math.sqrt", "math.Float64bits", "math.archTrunc"], apart := false }
def FloatRootsSaid : Prop := floatRootsRow.holds Try.pinned (OpenSpec.ofChange floatRootsSpec)

/-- ITS FALSE NEIGHBOUR: 'it returns false'. Refute it at one input. -/
def floatRootsWrong : ChangeSpec := { name := "floatRoots", fn := fun _ => fun
  | [d1, d2] => { results := [.lit (.bool false)], args := [d1, d2] }
  | _ => none }
def FloatRootsWrongFalsely : Prop := floatRootsRow.holds Try.pinned (OpenSpec.ofChange floatRootsWrong)

/-- 'salternlaw4.FloatLesser': WHATEVER THE INPUT: true; the input reads as it did. -/
def floatLesserSpec : ChangeSpec := { name := "floatLesser", fn := fun _ => fun
  | [d1, d2] => { results := [.lit (.bool true)], args := [d1, d2] }
  | _ => none }
def floatLesserRow : OpenClaim := { program := "ytcddbojldlcdkaa", sum := "43182f26faee69a25d30b4a2b2b7472b19789916c8542f66cd5dbb102e71d8a2", func := "saltern/salternlaw4.FloatLesser", spec := "floatLesser", inPlace := ["math.Float64frombits", "math.sqrt", "math.Float64bits", "math.archTrunc"], apart := false }
def FloatLesserSaid : Prop := floatLesserRow.holds Try.pinned (OpenSpec.ofChange floatLesserSpec)

/-- ITS FALSE NEIGHBOUR: 'it returns false'. Refute it at one input. -/
def floatLesserWrong : ChangeSpec := { name := "floatLesser", fn := fun _ => fun
  | [d1, d2] => { results := [.lit (.bool false)], args := [d1, d2] }
  | _ => none }
def FloatLesserWrongFalsely : Prop := floatLesserRow.holds Try.pinned (OpenSpec.ofChange floatLesserWrong)

/- THE SECOND FORM. 'bulk': how many values and letters a reading holds, each counted each time it is reached (what is shared counts as often as it is met; a slice's spare places count too). A statement '..UptoSaid' is the law's where the arguments, and the package variables that the reading takes, are together of bulk at most 1048576: NARROWER than '..Said'. Prove '..Said' where nothing that the law and all that it calls make is longer than what came in: it says more and counts as full. Else prove '..UptoSaid'. A law counts once. -/
mutual
def uptoBulk {H : Type} : DataW H → Nat
  | .lit (.string bytes) => bytes.length + 1
  | .lit _ => 1
  | .nil => 1
  | .ptr d => uptoBulk d + 1
  | .slice elems spare => uptoBulkAll elems + uptoBulkAll spare + 1
  | .agg parts => uptoBulkAll parts + 1
  | .iface _ d => uptoBulk d + 1
  | .map entries => uptoBulkEntries entries + 1
  | .held _ => 1
def uptoBulkAll {H : Type} : List (DataW H) → Nat
  | [] => 0
  | d :: r => uptoBulk d + uptoBulkAll r
def uptoBulkEntries {H : Type} : List (Lit × DataW H) → Nat
  | [] => 0
  | x :: r => uptoBulkEntry x + uptoBulkEntries r
def uptoBulkEntry {H : Type} : Lit × DataW H → Nat
  | (.string bytes, d) => bytes.length + uptoBulk d + 1
  | (_, d) => uptoBulk d + 1
 end
def uptoSmall : (H : Type) → List (DataW H) → Bool := fun _ ds => decide (uptoBulkAll ds ≤ 1048576)
def OpenSpec.upto (s : _root_.Go.ChangeSpec) : _root_.Go.OpenSpec := { _root_.Go.OpenSpec.ofChange s with cond := some uptoSmall }

/-- 'salternlaw17.StrsOps', WHERE WHAT IT READS IS OF BULK AT MOST 1048576: true; the input reads as it did. -/
def strsOpsUptoRow : OpenClaim := { program := "ytcddbojldlcdkaa", sum := "43182f26faee69a25d30b4a2b2b7472b19789916c8542f66cd5dbb102e71d8a2", func := "saltern/salternlaw17.StrsOps", spec := "strsOps", apart := false, narrowed := true }
def StrsOpsUptoSaid : Prop := strsOpsUptoRow.holds Try.pinned (OpenSpec.upto strsOpsSpec)

/-- 'salternlaw17.StrsTell', WHERE WHAT IT READS IS OF BULK AT MOST 1048576: true; the input reads as it did. -/
def strsTellUptoRow : OpenClaim := { program := "ytcddbojldlcdkaa", sum := "43182f26faee69a25d30b4a2b2b7472b19789916c8542f66cd5dbb102e71d8a2", func := "saltern/salternlaw17.StrsTell", spec := "strsTell", apart := false, narrowed := true }
def StrsTellUptoSaid : Prop := strsTellUptoRow.holds Try.pinned (OpenSpec.upto strsTellSpec)

/-- 'salternlaw17.StrsRows', WHERE WHAT IT READS IS OF BULK AT MOST 1048576: true; the input reads as it did. -/
def strsRowsUptoRow : OpenClaim := { program := "ytcddbojldlcdkaa", sum := "43182f26faee69a25d30b4a2b2b7472b19789916c8542f66cd5dbb102e71d8a2", func := "saltern/salternlaw17.StrsRows", spec := "strsRows", apart := false, narrowed := true }
def StrsRowsUptoSaid : Prop := strsRowsUptoRow.holds Try.pinned (OpenSpec.upto strsRowsSpec)

/-- 'salternlaw17.StrsFills', WHERE WHAT IT READS IS OF BULK AT MOST 1048576: true; the input reads as it did. -/
def strsFillsUptoRow : OpenClaim := { program := "ytcddbojldlcdkaa", sum := "43182f26faee69a25d30b4a2b2b7472b19789916c8542f66cd5dbb102e71d8a2", func := "saltern/salternlaw17.StrsFills", spec := "strsFills", apart := false, narrowed := true }
def StrsFillsUptoSaid : Prop := strsFillsUptoRow.holds Try.pinned (OpenSpec.upto strsFillsSpec)

/-- 'salternlaw4.FloatTells', WHERE WHAT IT READS IS OF BULK AT MOST 1048576: true; the input reads as it did. -/
def floatTellsUptoRow : OpenClaim := { program := "ytcddbojldlcdkaa", sum := "43182f26faee69a25d30b4a2b2b7472b19789916c8542f66cd5dbb102e71d8a2", func := "saltern/salternlaw4.FloatTells", spec := "floatTells", inPlace := ["math.Float64frombits", "math.sqrt", "math.Float64bits", "math.archTrunc"], apart := false, narrowed := true }
def FloatTellsUptoSaid : Prop := floatTellsUptoRow.holds Try.pinned (OpenSpec.upto floatTellsSpec)

/-- 'salternlaw4.FloatInts', WHERE WHAT IT READS IS OF BULK AT MOST 1048576: true; the input reads as it did. -/
def floatIntsUptoRow : OpenClaim := { program := "ytcddbojldlcdkaa", sum := "43182f26faee69a25d30b4a2b2b7472b19789916c8542f66cd5dbb102e71d8a2", func := "saltern/salternlaw4.FloatInts", spec := "floatInts", inPlace := ["math.Float64frombits", "math.sqrt", "math.Float64bits", "math.archTrunc"], apart := false, narrowed := true }
def FloatIntsUptoSaid : Prop := floatIntsUptoRow.holds Try.pinned (OpenSpec.upto floatIntsSpec)

/-- 'salternlaw4.FloatNaNs', WHERE WHAT IT READS IS OF BULK AT MOST 1048576: true; the input reads as it did. -/
def floatNaNsUptoRow : OpenClaim := { program := "ytcddbojldlcdkaa", sum := "43182f26faee69a25d30b4a2b2b7472b19789916c8542f66cd5dbb102e71d8a2", func := "saltern/salternlaw4.FloatNaNs", spec := "floatNaNs", inPlace := ["math.Float64frombits", "math.sqrt", "math.Float64bits", "math.archTrunc"], apart := false, narrowed := true }
def FloatNaNsUptoSaid : Prop := floatNaNsUptoRow.holds Try.pinned (OpenSpec.upto floatNaNsSpec)

/-- 'salternlaw4.FloatZeros', WHERE WHAT IT READS IS OF BULK AT MOST 1048576: true; the input reads as it did. -/
def floatZerosUptoRow : OpenClaim := { program := "ytcddbojldlcdkaa", sum := "43182f26faee69a25d30b4a2b2b7472b19789916c8542f66cd5dbb102e71d8a2", func := "saltern/salternlaw4.FloatZeros", spec := "floatZeros", inPlace := ["math.Float64frombits", "math.sqrt", "math.Float64bits", "math.archTrunc"], unfollowed := true, recurses := true, apart := false, narrowed := true }
def FloatZerosUptoSaid : Prop := floatZerosUptoRow.holds Try.pinned (OpenSpec.upto floatZerosSpec)

/-- 'salternlaw4.FloatWhole', WHERE WHAT IT READS IS OF BULK AT MOST 1048576: true; the input reads as it did. -/
def floatWholeUptoRow : OpenClaim := { program := "ytcddbojldlcdkaa", sum := "43182f26faee69a25d30b4a2b2b7472b19789916c8542f66cd5dbb102e71d8a2", func := "saltern/salternlaw4.FloatWhole", spec := "floatWhole", inPlace := ["math.Float64frombits", "math.sqrt", "math.Float64bits", "math.archTrunc"], apart := false, narrowed := true }
def FloatWholeUptoSaid : Prop := floatWholeUptoRow.holds Try.pinned (OpenSpec.upto floatWholeSpec)

/-- 'salternlaw4.FloatCuts', WHERE WHAT IT READS IS OF BULK AT MOST 1048576: true; the input reads as it did. -/
def floatCutsUptoRow : OpenClaim := { program := "ytcddbojldlcdkaa", sum := "43182f26faee69a25d30b4a2b2b7472b19789916c8542f66cd5dbb102e71d8a2", func := "saltern/salternlaw4.FloatCuts", spec := "floatCuts", inPlace := ["math.Float64frombits", "math.sqrt", "math.Float64bits", "math.archTrunc"], apart := false, narrowed := true }
def FloatCutsUptoSaid : Prop := floatCutsUptoRow.holds Try.pinned (OpenSpec.upto floatCutsSpec)

/-- 'salternlaw4.FloatRoots', WHERE WHAT IT READS IS OF BULK AT MOST 1048576: true; the input reads as it did. -/
def floatRootsUptoRow : OpenClaim := { program := "ytcddbojldlcdkaa", sum := "43182f26faee69a25d30b4a2b2b7472b19789916c8542f66cd5dbb102e71d8a2", func := "saltern/salternlaw4.FloatRoots", spec := "floatRoots", inPlace := ["math.Float64frombits", "math.sqrt", "math.Float64bits", "math.archTrunc"], apart := false, narrowed := true }
def FloatRootsUptoSaid : Prop := floatRootsUptoRow.holds Try.pinned (OpenSpec.upto floatRootsSpec)

/-- 'salternlaw4.FloatLesser', WHERE WHAT IT READS IS OF BULK AT MOST 1048576: true; the input reads as it did. -/
def floatLesserUptoRow : OpenClaim := { program := "ytcddbojldlcdkaa", sum := "43182f26faee69a25d30b4a2b2b7472b19789916c8542f66cd5dbb102e71d8a2", func := "saltern/salternlaw4.FloatLesser", spec := "floatLesser", inPlace := ["math.Float64frombits", "math.sqrt", "math.Float64bits", "math.archTrunc"], apart := false, narrowed := true }
def FloatLesserUptoSaid : Prop := floatLesserUptoRow.holds Try.pinned (OpenSpec.upto floatLesserSpec)

end Rows
end Go.Proofs.Ytcddbojldlcdkaa
