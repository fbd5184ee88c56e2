/-
  No cell of these rows narrows 'for every input' (looked for: loops, veiled, ifaces, maps, wideKeys, modest, calm, conditions, laid).
  DERIVED. THE GIVEN ROWS OF THIS SEAT. 11 by the template 'for every input the law returns true; each argument reads behind the call as it read before'; 0 by the template 'total and deterministic' (their statements: YtogfgmiofkgomaaTotals.lean).
  GIVEN WITH THE SEED: the statements are not yours to turn. If you find one false, say at which input.
  Laid BY PROGRAM, IN A SANDBOX (cutbox-rows.mjs): the forced cells as the released guide's own fill.sh prints them over the translation 917bf1454c1a6a63… (all of the seat's roots in one cut). By AI agents, Wed Nov 11 2026. No macro, syntax, notation, axiom, sorry.
-/
import Derived.Test.YtogfgmiofkgomaaChecked
import GoSem.Claim
import GoSem.ClaimJoined
import GoSem.ClaimMapViews
import Derived.JoinedTies
import Derived.KernelRfl
namespace Go.Proofs.Ytogfgmiofkgomaa
/- THE CELL 'sum', in the pinned program and in every row, IS THE sha256 OF THE DUMP (.gsa) THAT YtogfgmiofkgomaaProg.lean LOADS. Nothing in Lean hashes anything: it is a label: what it is worth is what the hold of that sum in a sandbox is worth. -/
noncomputable def Try.pinned : Pinned := { name := "ytogfgmiofkgomaa", sum := "917bf1454c1a6a63bf2a99c717aa0833db0f5da6ccabc00127e1e51c78723670", checked := Try.checked }
namespace Rows
def none {H : Type} : Left H := { results := [], args := [] }

/-- 'salternlaw1.ArithSums': WHATEVER THE INPUT: true; the input reads as it did. -/
def arithSumsSpec : ChangeSpec := { name := "arithSums", fn := fun _ => fun
  | [d1, d2, d3, d4] => { results := [.lit (.bool true)], args := [d1, d2, d3, d4] }
  | _ => none }
def arithSumsRow : OpenClaim := { program := "ytogfgmiofkgomaa", sum := "917bf1454c1a6a63bf2a99c717aa0833db0f5da6ccabc00127e1e51c78723670", func := "saltern/salternlaw1.ArithSums", spec := "arithSums", apart := false }
def ArithSumsSaid : Prop := arithSumsRow.holds Try.pinned (OpenSpec.ofChange arithSumsSpec)

/-- ITS FALSE NEIGHBOUR: 'it returns false'. Refute it at one input. -/
def arithSumsWrong : ChangeSpec := { name := "arithSums", fn := fun _ => fun
  | [d1, d2, d3, d4] => { results := [.lit (.bool false)], args := [d1, d2, d3, d4] }
  | _ => none }
def ArithSumsWrongFalsely : Prop := arithSumsRow.holds Try.pinned (OpenSpec.ofChange arithSumsWrong)

/-- 'salternlaw1.ArithBack': WHATEVER THE INPUT: true; the input reads as it did. -/
def arithBackSpec : ChangeSpec := { name := "arithBack", fn := fun _ => fun
  | [d1, d2, d3] => { results := [.lit (.bool true)], args := [d1, d2, d3] }
  | _ => none }
def arithBackRow : OpenClaim := { program := "ytogfgmiofkgomaa", sum := "917bf1454c1a6a63bf2a99c717aa0833db0f5da6ccabc00127e1e51c78723670", func := "saltern/salternlaw1.ArithBack", spec := "arithBack", apart := false }
def ArithBackSaid : Prop := arithBackRow.holds Try.pinned (OpenSpec.ofChange arithBackSpec)

/-- ITS FALSE NEIGHBOUR: 'it returns false'. Refute it at one input. -/
def arithBackWrong : ChangeSpec := { name := "arithBack", fn := fun _ => fun
  | [d1, d2, d3] => { results := [.lit (.bool false)], args := [d1, d2, d3] }
  | _ => none }
def ArithBackWrongFalsely : Prop := arithBackRow.holds Try.pinned (OpenSpec.ofChange arithBackWrong)

/-- 'salternlaw1.ArithBytes': WHATEVER THE INPUT: true; the input reads as it did. -/
def arithBytesSpec : ChangeSpec := { name := "arithBytes", fn := fun _ => fun
  | [d1, d2, d3] => { results := [.lit (.bool true)], args := [d1, d2, d3] }
  | _ => none }
def arithBytesRow : OpenClaim := { program := "ytogfgmiofkgomaa", sum := "917bf1454c1a6a63bf2a99c717aa0833db0f5da6ccabc00127e1e51c78723670", func := "saltern/salternlaw1.ArithBytes", spec := "arithBytes", apart := false }
def ArithBytesSaid : Prop := arithBytesRow.holds Try.pinned (OpenSpec.ofChange arithBytesSpec)

/-- ITS FALSE NEIGHBOUR: 'it returns false'. Refute it at one input. -/
def arithBytesWrong : ChangeSpec := { name := "arithBytes", fn := fun _ => fun
  | [d1, d2, d3] => { results := [.lit (.bool false)], args := [d1, d2, d3] }
  | _ => none }
def ArithBytesWrongFalsely : Prop := arithBytesRow.holds Try.pinned (OpenSpec.ofChange arithBytesWrong)

/-- 'salternlaw1.ArithOrder': WHATEVER THE INPUT: true; the input reads as it did. -/
def arithOrderSpec : ChangeSpec := { name := "arithOrder", fn := fun _ => fun
  | [d1, d2, d3, d4] => { results := [.lit (.bool true)], args := [d1, d2, d3, d4] }
  | _ => none }
def arithOrderRow : OpenClaim := { program := "ytogfgmiofkgomaa", sum := "917bf1454c1a6a63bf2a99c717aa0833db0f5da6ccabc00127e1e51c78723670", func := "saltern/salternlaw1.ArithOrder", spec := "arithOrder", apart := false }
def ArithOrderSaid : Prop := arithOrderRow.holds Try.pinned (OpenSpec.ofChange arithOrderSpec)

/-- ITS FALSE NEIGHBOUR: 'it returns false'. Refute it at one input. -/
def arithOrderWrong : ChangeSpec := { name := "arithOrder", fn := fun _ => fun
  | [d1, d2, d3, d4] => { results := [.lit (.bool false)], args := [d1, d2, d3, d4] }
  | _ => none }
def ArithOrderWrongFalsely : Prop := arithOrderRow.holds Try.pinned (OpenSpec.ofChange arithOrderWrong)

/-- 'salternlaw1.ArithParts': WHATEVER THE INPUT: true; the input reads as it did. -/
def arithPartsSpec : ChangeSpec := { name := "arithParts", fn := fun _ => fun
  | [d1, d2, d3, d4] => { results := [.lit (.bool true)], args := [d1, d2, d3, d4] }
  | _ => none }
def arithPartsRow : OpenClaim := { program := "ytogfgmiofkgomaa", sum := "917bf1454c1a6a63bf2a99c717aa0833db0f5da6ccabc00127e1e51c78723670", func := "saltern/salternlaw1.ArithParts", spec := "arithParts", unfollowed := true, recurses := true, apart := false }
def ArithPartsSaid : Prop := arithPartsRow.holds Try.pinned (OpenSpec.ofChange arithPartsSpec)

/-- ITS FALSE NEIGHBOUR: 'it returns false'. Refute it at one input. -/
def arithPartsWrong : ChangeSpec := { name := "arithParts", fn := fun _ => fun
  | [d1, d2, d3, d4] => { results := [.lit (.bool false)], args := [d1, d2, d3, d4] }
  | _ => none }
def ArithPartsWrongFalsely : Prop := arithPartsRow.holds Try.pinned (OpenSpec.ofChange arithPartsWrong)

/-- 'salternlaw1.ArithSigns': WHATEVER THE INPUT: true; the input reads as it did. -/
def arithSignsSpec : ChangeSpec := { name := "arithSigns", fn := fun _ => fun
  | [d1, d2] => { results := [.lit (.bool true)], args := [d1, d2] }
  | _ => none }
def arithSignsRow : OpenClaim := { program := "ytogfgmiofkgomaa", sum := "917bf1454c1a6a63bf2a99c717aa0833db0f5da6ccabc00127e1e51c78723670", func := "saltern/salternlaw1.ArithSigns", spec := "arithSigns", unfollowed := true, recurses := true, apart := false }
def ArithSignsSaid : Prop := arithSignsRow.holds Try.pinned (OpenSpec.ofChange arithSignsSpec)

/-- ITS FALSE NEIGHBOUR: 'it returns false'. Refute it at one input. -/
def arithSignsWrong : ChangeSpec := { name := "arithSigns", fn := fun _ => fun
  | [d1, d2] => { results := [.lit (.bool false)], args := [d1, d2] }
  | _ => none }
def ArithSignsWrongFalsely : Prop := arithSignsRow.holds Try.pinned (OpenSpec.ofChange arithSignsWrong)

/-- 'salternlaw2.ShiftTells': WHATEVER THE INPUT: true; the input reads as it did. -/
def shiftTellsSpec : ChangeSpec := { name := "shiftTells", fn := fun _ => fun
  | [d1, d2, d3, d4, d5] => { results := [.lit (.bool true)], args := [d1, d2, d3, d4, d5] }
  | _ => none }
def shiftTellsRow : OpenClaim := { program := "ytogfgmiofkgomaa", sum := "917bf1454c1a6a63bf2a99c717aa0833db0f5da6ccabc00127e1e51c78723670", func := "saltern/salternlaw2.ShiftTells", spec := "shiftTells", apart := false }
def ShiftTellsSaid : Prop := shiftTellsRow.holds Try.pinned (OpenSpec.ofChange shiftTellsSpec)

/-- ITS FALSE NEIGHBOUR: 'it returns false'. Refute it at one input. -/
def shiftTellsWrong : ChangeSpec := { name := "shiftTells", fn := fun _ => fun
  | [d1, d2, d3, d4, d5] => { results := [.lit (.bool false)], args := [d1, d2, d3, d4, d5] }
  | _ => none }
def ShiftTellsWrongFalsely : Prop := shiftTellsRow.holds Try.pinned (OpenSpec.ofChange shiftTellsWrong)

/-- 'salternlaw2.ShiftTwice': WHATEVER THE INPUT: true; the input reads as it did. -/
def shiftTwiceSpec : ChangeSpec := { name := "shiftTwice", fn := fun _ => fun
  | [d1, d2, d3, d4, d5] => { results := [.lit (.bool true)], args := [d1, d2, d3, d4, d5] }
  | _ => none }
def shiftTwiceRow : OpenClaim := { program := "ytogfgmiofkgomaa", sum := "917bf1454c1a6a63bf2a99c717aa0833db0f5da6ccabc00127e1e51c78723670", func := "saltern/salternlaw2.ShiftTwice", spec := "shiftTwice", apart := false }
def ShiftTwiceSaid : Prop := shiftTwiceRow.holds Try.pinned (OpenSpec.ofChange shiftTwiceSpec)

/-- ITS FALSE NEIGHBOUR: 'it returns false'. Refute it at one input. -/
def shiftTwiceWrong : ChangeSpec := { name := "shiftTwice", fn := fun _ => fun
  | [d1, d2, d3, d4, d5] => { results := [.lit (.bool false)], args := [d1, d2, d3, d4, d5] }
  | _ => none }
def ShiftTwiceWrongFalsely : Prop := shiftTwiceRow.holds Try.pinned (OpenSpec.ofChange shiftTwiceWrong)

/-- 'salternlaw2.ShiftWorth': WHATEVER THE INPUT: true; the input reads as it did. -/
def shiftWorthSpec : ChangeSpec := { name := "shiftWorth", fn := fun _ => fun
  | [d1, d2] => { results := [.lit (.bool true)], args := [d1, d2] }
  | _ => none }
def shiftWorthRow : OpenClaim := { program := "ytogfgmiofkgomaa", sum := "917bf1454c1a6a63bf2a99c717aa0833db0f5da6ccabc00127e1e51c78723670", func := "saltern/salternlaw2.ShiftWorth", spec := "shiftWorth", apart := false }
def ShiftWorthSaid : Prop := shiftWorthRow.holds Try.pinned (OpenSpec.ofChange shiftWorthSpec)

/-- ITS FALSE NEIGHBOUR: 'it returns false'. Refute it at one input. -/
def shiftWorthWrong : ChangeSpec := { name := "shiftWorth", fn := fun _ => fun
  | [d1, d2] => { results := [.lit (.bool false)], args := [d1, d2] }
  | _ => none }
def ShiftWorthWrongFalsely : Prop := shiftWorthRow.holds Try.pinned (OpenSpec.ofChange shiftWorthWrong)

/-- 'salternlaw2.ShiftOut': WHATEVER THE INPUT: true; the input reads as it did. -/
def shiftOutSpec : ChangeSpec := { name := "shiftOut", fn := fun _ => fun
  | [d1, d2, d3] => { results := [.lit (.bool true)], args := [d1, d2, d3] }
  | _ => none }
def shiftOutRow : OpenClaim := { program := "ytogfgmiofkgomaa", sum := "917bf1454c1a6a63bf2a99c717aa0833db0f5da6ccabc00127e1e51c78723670", func := "saltern/salternlaw2.ShiftOut", spec := "shiftOut", apart := false }
def ShiftOutSaid : Prop := shiftOutRow.holds Try.pinned (OpenSpec.ofChange shiftOutSpec)

/-- ITS FALSE NEIGHBOUR: 'it returns false'. Refute it at one input. -/
def shiftOutWrong : ChangeSpec := { name := "shiftOut", fn := fun _ => fun
  | [d1, d2, d3] => { results := [.lit (.bool false)], args := [d1, d2, d3] }
  | _ => none }
def ShiftOutWrongFalsely : Prop := shiftOutRow.holds Try.pinned (OpenSpec.ofChange shiftOutWrong)

/-- 'salternlaw2.ShiftCounts': WHATEVER THE INPUT: true; the input reads as it did. -/
def shiftCountsSpec : ChangeSpec := { name := "shiftCounts", fn := fun _ => fun
  | [d1, d2, d3, d4] => { results := [.lit (.bool true)], args := [d1, d2, d3, d4] }
  | _ => none }
def shiftCountsRow : OpenClaim := { program := "ytogfgmiofkgomaa", sum := "917bf1454c1a6a63bf2a99c717aa0833db0f5da6ccabc00127e1e51c78723670", func := "saltern/salternlaw2.ShiftCounts", spec := "shiftCounts", apart := false }
def ShiftCountsSaid : Prop := shiftCountsRow.holds Try.pinned (OpenSpec.ofChange shiftCountsSpec)

/-- ITS FALSE NEIGHBOUR: 'it returns false'. Refute it at one input. -/
def shiftCountsWrong : ChangeSpec := { name := "shiftCounts", fn := fun _ => fun
  | [d1, d2, d3, d4] => { results := [.lit (.bool false)], args := [d1, d2, d3, d4] }
  | _ => none }
def ShiftCountsWrongFalsely : Prop := shiftCountsRow.holds Try.pinned (OpenSpec.ofChange shiftCountsWrong)

/- THE SECOND FORM. 'bulk': how many values and letters a reading holds, each counted each time it is reached (what is shared counts as often as it is met; a slice's spare places count too). A statement '..UptoSaid' is the law's where the arguments, and the package variables that the reading takes, are together of bulk at most 1048576: NARROWER than '..Said'. Prove '..Said' where nothing that the law and all that it calls make is longer than what came in: it says more and counts as full. Else prove '..UptoSaid'. A law counts once. -/
mutual
def uptoBulk {H : Type} : DataW H → Nat
  | .lit (.string bytes) => bytes.length + 1
  | .lit _ => 1
  | .nil => 1
  | .ptr d => uptoBulk d + 1
  | .slice elems spare => uptoBulkAll elems + uptoBulkAll spare + 1
  | .agg parts => uptoBulkAll parts + 1
  | .iface _ d => uptoBulk d + 1
  | .map entries => uptoBulkEntries entries + 1
  | .held _ => 1
def uptoBulkAll {H : Type} : List (DataW H) → Nat
  | [] => 0
  | d :: r => uptoBulk d + uptoBulkAll r
def uptoBulkEntries {H : Type} : List (Lit × DataW H) → Nat
  | [] => 0
  | x :: r => uptoBulkEntry x + uptoBulkEntries r
def uptoBulkEntry {H : Type} : Lit × DataW H → Nat
  | (.string bytes, d) => bytes.length + uptoBulk d + 1
  | (_, d) => uptoBulk d + 1
 end
def uptoSmall : (H : Type) → List (DataW H) → Bool := fun _ ds => decide (uptoBulkAll ds ≤ 1048576)
def OpenSpec.upto (s : _root_.Go.ChangeSpec) : _root_.Go.OpenSpec := { _root_.Go.OpenSpec.ofChange s with cond := some uptoSmall }

/-- 'salternlaw1.ArithSums', WHERE WHAT IT READS IS OF BULK AT MOST 1048576: true; the input reads as it did. -/
def arithSumsUptoRow : OpenClaim := { program := "ytogfgmiofkgomaa", sum := "917bf1454c1a6a63bf2a99c717aa0833db0f5da6ccabc00127e1e51c78723670", func := "saltern/salternlaw1.ArithSums", spec := "arithSums", apart := false, narrowed := true }
def ArithSumsUptoSaid : Prop := arithSumsUptoRow.holds Try.pinned (OpenSpec.upto arithSumsSpec)

/-- 'salternlaw1.ArithBack', WHERE WHAT IT READS IS OF BULK AT MOST 1048576: true; the input reads as it did. -/
def arithBackUptoRow : OpenClaim := { program := "ytogfgmiofkgomaa", sum := "917bf1454c1a6a63bf2a99c717aa0833db0f5da6ccabc00127e1e51c78723670", func := "saltern/salternlaw1.ArithBack", spec := "arithBack", apart := false, narrowed := true }
def ArithBackUptoSaid : Prop := arithBackUptoRow.holds Try.pinned (OpenSpec.upto arithBackSpec)

/-- 'salternlaw1.ArithBytes', WHERE WHAT IT READS IS OF BULK AT MOST 1048576: true; the input reads as it did. -/
def arithBytesUptoRow : OpenClaim := { program := "ytogfgmiofkgomaa", sum := "917bf1454c1a6a63bf2a99c717aa0833db0f5da6ccabc00127e1e51c78723670", func := "saltern/salternlaw1.ArithBytes", spec := "arithBytes", apart := false, narrowed := true }
def ArithBytesUptoSaid : Prop := arithBytesUptoRow.holds Try.pinned (OpenSpec.upto arithBytesSpec)

/-- 'salternlaw1.ArithOrder', WHERE WHAT IT READS IS OF BULK AT MOST 1048576: true; the input reads as it did. -/
def arithOrderUptoRow : OpenClaim := { program := "ytogfgmiofkgomaa", sum := "917bf1454c1a6a63bf2a99c717aa0833db0f5da6ccabc00127e1e51c78723670", func := "saltern/salternlaw1.ArithOrder", spec := "arithOrder", apart := false, narrowed := true }
def ArithOrderUptoSaid : Prop := arithOrderUptoRow.holds Try.pinned (OpenSpec.upto arithOrderSpec)

/-- 'salternlaw1.ArithParts', WHERE WHAT IT READS IS OF BULK AT MOST 1048576: true; the input reads as it did. -/
def arithPartsUptoRow : OpenClaim := { program := "ytogfgmiofkgomaa", sum := "917bf1454c1a6a63bf2a99c717aa0833db0f5da6ccabc00127e1e51c78723670", func := "saltern/salternlaw1.ArithParts", spec := "arithParts", unfollowed := true, recurses := true, apart := false, narrowed := true }
def ArithPartsUptoSaid : Prop := arithPartsUptoRow.holds Try.pinned (OpenSpec.upto arithPartsSpec)

/-- 'salternlaw1.ArithSigns', WHERE WHAT IT READS IS OF BULK AT MOST 1048576: true; the input reads as it did. -/
def arithSignsUptoRow : OpenClaim := { program := "ytogfgmiofkgomaa", sum := "917bf1454c1a6a63bf2a99c717aa0833db0f5da6ccabc00127e1e51c78723670", func := "saltern/salternlaw1.ArithSigns", spec := "arithSigns", unfollowed := true, recurses := true, apart := false, narrowed := true }
def ArithSignsUptoSaid : Prop := arithSignsUptoRow.holds Try.pinned (OpenSpec.upto arithSignsSpec)

/-- 'salternlaw2.ShiftTells', WHERE WHAT IT READS IS OF BULK AT MOST 1048576: true; the input reads as it did. -/
def shiftTellsUptoRow : OpenClaim := { program := "ytogfgmiofkgomaa", sum := "917bf1454c1a6a63bf2a99c717aa0833db0f5da6ccabc00127e1e51c78723670", func := "saltern/salternlaw2.ShiftTells", spec := "shiftTells", apart := false, narrowed := true }
def ShiftTellsUptoSaid : Prop := shiftTellsUptoRow.holds Try.pinned (OpenSpec.upto shiftTellsSpec)

/-- 'salternlaw2.ShiftTwice', WHERE WHAT IT READS IS OF BULK AT MOST 1048576: true; the input reads as it did. -/
def shiftTwiceUptoRow : OpenClaim := { program := "ytogfgmiofkgomaa", sum := "917bf1454c1a6a63bf2a99c717aa0833db0f5da6ccabc00127e1e51c78723670", func := "saltern/salternlaw2.ShiftTwice", spec := "shiftTwice", apart := false, narrowed := true }
def ShiftTwiceUptoSaid : Prop := shiftTwiceUptoRow.holds Try.pinned (OpenSpec.upto shiftTwiceSpec)

/-- 'salternlaw2.ShiftWorth', WHERE WHAT IT READS IS OF BULK AT MOST 1048576: true; the input reads as it did. -/
def shiftWorthUptoRow : OpenClaim := { program := "ytogfgmiofkgomaa", sum := "917bf1454c1a6a63bf2a99c717aa0833db0f5da6ccabc00127e1e51c78723670", func := "saltern/salternlaw2.ShiftWorth", spec := "shiftWorth", apart := false, narrowed := true }
def ShiftWorthUptoSaid : Prop := shiftWorthUptoRow.holds Try.pinned (OpenSpec.upto shiftWorthSpec)

/-- 'salternlaw2.ShiftOut', WHERE WHAT IT READS IS OF BULK AT MOST 1048576: true; the input reads as it did. -/
def shiftOutUptoRow : OpenClaim := { program := "ytogfgmiofkgomaa", sum := "917bf1454c1a6a63bf2a99c717aa0833db0f5da6ccabc00127e1e51c78723670", func := "saltern/salternlaw2.ShiftOut", spec := "shiftOut", apart := false, narrowed := true }
def ShiftOutUptoSaid : Prop := shiftOutUptoRow.holds Try.pinned (OpenSpec.upto shiftOutSpec)

/-- 'salternlaw2.ShiftCounts', WHERE WHAT IT READS IS OF BULK AT MOST 1048576: true; the input reads as it did. -/
def shiftCountsUptoRow : OpenClaim := { program := "ytogfgmiofkgomaa", sum := "917bf1454c1a6a63bf2a99c717aa0833db0f5da6ccabc00127e1e51c78723670", func := "saltern/salternlaw2.ShiftCounts", spec := "shiftCounts", apart := false, narrowed := true }
def ShiftCountsUptoSaid : Prop := shiftCountsUptoRow.holds Try.pinned (OpenSpec.upto shiftCountsSpec)

end Rows
end Go.Proofs.Ytogfgmiofkgomaa
