/-
  No cell of these rows narrows 'for every input' (looked for: loops, veiled, ifaces, maps, wideKeys, modest, calm, conditions, laid).
  DERIVED. THE GIVEN ROWS OF THIS SEAT. 11 by the template 'for every input the law returns true; each argument reads behind the call as it read before'; 0 by the template 'total and deterministic' (their statements: YtllfmajphmfehaaTotals.lean).
  GIVEN WITH THE SEED: the statements are not yours to turn. If you find one false, say at which input.
  Laid BY PROGRAM, IN A SANDBOX (cutbox-rows.mjs): the forced cells as the released guide's own fill.sh prints them over the translation d000dc1fb4b228d0… (all of the seat's roots in one cut). By AI agents, Wed Nov 11 2026. No macro, syntax, notation, axiom, sorry.
-/
import Derived.Test.YtllfmajphmfehaaChecked
import GoSem.Claim
import GoSem.ClaimJoined
import GoSem.ClaimMapViews
import Derived.JoinedTies
import Derived.KernelRfl
namespace Go.Proofs.Ytllfmajphmfehaa
/- THE CELL 'sum', in the pinned program and in every row, IS THE sha256 OF THE DUMP (.gsa) THAT YtllfmajphmfehaaProg.lean LOADS. Nothing in Lean hashes anything: it is a label: what it is worth is what the hold of that sum in a sandbox is worth. -/
noncomputable def Try.pinned : Pinned := { name := "ytllfmajphmfehaa", sum := "d000dc1fb4b228d0cfd2f341c106d05490c2dea833df143e599d4ab193b412e9", checked := Try.checked }
namespace Rows
def none {H : Type} : Left H := { results := [], args := [] }

/-- 'salternlaw14.AddrRound': WHATEVER THE INPUT: true; the input reads as it did. -/
def addrRoundSpec : ChangeSpec := { name := "addrRound", fn := fun _ => fun
  | [d1, d2, d3, d4, d5] => { results := [.lit (.bool true)], args := [d1, d2, d3, d4, d5] }
  | _ => none }
def addrRoundRow : OpenClaim := { program := "ytllfmajphmfehaa", sum := "d000dc1fb4b228d0cfd2f341c106d05490c2dea833df143e599d4ab193b412e9", func := "saltern/salternlaw14.AddrRound", spec := "addrRound", apart := false }
def AddrRoundSaid : Prop := addrRoundRow.holds Try.pinned (OpenSpec.ofChange addrRoundSpec)

/-- ITS FALSE NEIGHBOUR: 'it returns false'. Refute it at one input. -/
def addrRoundWrong : ChangeSpec := { name := "addrRound", fn := fun _ => fun
  | [d1, d2, d3, d4, d5] => { results := [.lit (.bool false)], args := [d1, d2, d3, d4, d5] }
  | _ => none }
def AddrRoundWrongFalsely : Prop := addrRoundRow.holds Try.pinned (OpenSpec.ofChange addrRoundWrong)

/-- 'salternlaw7.SegEdges': WHATEVER THE INPUT: true; the input reads as it did. -/
def segEdgesSpec : ChangeSpec := { name := "segEdges", fn := fun _ => fun
  | [d1, d2, d3] => { results := [.lit (.bool true)], args := [d1, d2, d3] }
  | _ => none }
def segEdgesRow : OpenClaim := { program := "ytllfmajphmfehaa", sum := "d000dc1fb4b228d0cfd2f341c106d05490c2dea833df143e599d4ab193b412e9", func := "saltern/salternlaw7.SegEdges", spec := "segEdges", apart := false }
def SegEdgesSaid : Prop := segEdgesRow.holds Try.pinned (OpenSpec.ofChange segEdgesSpec)

/-- ITS FALSE NEIGHBOUR: 'it returns false'. Refute it at one input. -/
def segEdgesWrong : ChangeSpec := { name := "segEdges", fn := fun _ => fun
  | [d1, d2, d3] => { results := [.lit (.bool false)], args := [d1, d2, d3] }
  | _ => none }
def SegEdgesWrongFalsely : Prop := segEdgesRow.holds Try.pinned (OpenSpec.ofChange segEdgesWrong)

/-- 'salternlaw3.DivBack': WHATEVER THE INPUT: true; the input reads as it did. -/
def divBackSpec : ChangeSpec := { name := "divBack", fn := fun _ => fun
  | [d1, d2, d3] => { results := [.lit (.bool true)], args := [d1, d2, d3] }
  | _ => none }
def divBackRow : OpenClaim := { program := "ytllfmajphmfehaa", sum := "d000dc1fb4b228d0cfd2f341c106d05490c2dea833df143e599d4ab193b412e9", func := "saltern/salternlaw3.DivBack", spec := "divBack", apart := false }
def DivBackSaid : Prop := divBackRow.holds Try.pinned (OpenSpec.ofChange divBackSpec)

/-- ITS FALSE NEIGHBOUR: 'it returns false'. Refute it at one input. -/
def divBackWrong : ChangeSpec := { name := "divBack", fn := fun _ => fun
  | [d1, d2, d3] => { results := [.lit (.bool false)], args := [d1, d2, d3] }
  | _ => none }
def DivBackWrongFalsely : Prop := divBackRow.holds Try.pinned (OpenSpec.ofChange divBackWrong)

/-- 'salternlaw3.DivFits': WHATEVER THE INPUT: true; the input reads as it did. -/
def divFitsSpec : ChangeSpec := { name := "divFits", fn := fun _ => fun
  | [d1, d2, d3] => { results := [.lit (.bool true)], args := [d1, d2, d3] }
  | _ => none }
def divFitsRow : OpenClaim := { program := "ytllfmajphmfehaa", sum := "d000dc1fb4b228d0cfd2f341c106d05490c2dea833df143e599d4ab193b412e9", func := "saltern/salternlaw3.DivFits", spec := "divFits", apart := false }
def DivFitsSaid : Prop := divFitsRow.holds Try.pinned (OpenSpec.ofChange divFitsSpec)

/-- ITS FALSE NEIGHBOUR: 'it returns false'. Refute it at one input. -/
def divFitsWrong : ChangeSpec := { name := "divFits", fn := fun _ => fun
  | [d1, d2, d3] => { results := [.lit (.bool false)], args := [d1, d2, d3] }
  | _ => none }
def DivFitsWrongFalsely : Prop := divFitsRow.holds Try.pinned (OpenSpec.ofChange divFitsWrong)

/-- 'salternlaw7.SegHolds': WHATEVER THE INPUT: true; the input reads as it did. -/
def segHoldsSpec : ChangeSpec := { name := "segHolds", fn := fun _ => fun
  | [d1, d2, d3] => { results := [.lit (.bool true)], args := [d1, d2, d3] }
  | _ => none }
def segHoldsRow : OpenClaim := { program := "ytllfmajphmfehaa", sum := "d000dc1fb4b228d0cfd2f341c106d05490c2dea833df143e599d4ab193b412e9", func := "saltern/salternlaw7.SegHolds", spec := "segHolds", apart := false }
def SegHoldsSaid : Prop := segHoldsRow.holds Try.pinned (OpenSpec.ofChange segHoldsSpec)

/-- ITS FALSE NEIGHBOUR: 'it returns false'. Refute it at one input. -/
def segHoldsWrong : ChangeSpec := { name := "segHolds", fn := fun _ => fun
  | [d1, d2, d3] => { results := [.lit (.bool false)], args := [d1, d2, d3] }
  | _ => none }
def SegHoldsWrongFalsely : Prop := segHoldsRow.holds Try.pinned (OpenSpec.ofChange segHoldsWrong)

/-- 'salternlaw3.MulTells': WHATEVER THE INPUT: true; the input reads as it did. -/
def mulTellsSpec : ChangeSpec := { name := "mulTells", fn := fun _ => fun
  | [d1, d2, d3, d4, d5] => { results := [.lit (.bool true)], args := [d1, d2, d3, d4, d5] }
  | _ => none }
def mulTellsRow : OpenClaim := { program := "ytllfmajphmfehaa", sum := "d000dc1fb4b228d0cfd2f341c106d05490c2dea833df143e599d4ab193b412e9", func := "saltern/salternlaw3.MulTells", spec := "mulTells", apart := false }
def MulTellsSaid : Prop := mulTellsRow.holds Try.pinned (OpenSpec.ofChange mulTellsSpec)

/-- ITS FALSE NEIGHBOUR: 'it returns false'. Refute it at one input. -/
def mulTellsWrong : ChangeSpec := { name := "mulTells", fn := fun _ => fun
  | [d1, d2, d3, d4, d5] => { results := [.lit (.bool false)], args := [d1, d2, d3, d4, d5] }
  | _ => none }
def MulTellsWrongFalsely : Prop := mulTellsRow.holds Try.pinned (OpenSpec.ofChange mulTellsWrong)

/-- 'salternlaw3.MulSigns': WHATEVER THE INPUT: true; the input reads as it did. -/
def mulSignsSpec : ChangeSpec := { name := "mulSigns", fn := fun _ => fun
  | [d1, d2, d3] => { results := [.lit (.bool true)], args := [d1, d2, d3] }
  | _ => none }
def mulSignsRow : OpenClaim := { program := "ytllfmajphmfehaa", sum := "d000dc1fb4b228d0cfd2f341c106d05490c2dea833df143e599d4ab193b412e9", func := "saltern/salternlaw3.MulSigns", spec := "mulSigns", apart := false }
def MulSignsSaid : Prop := mulSignsRow.holds Try.pinned (OpenSpec.ofChange mulSignsSpec)

/-- ITS FALSE NEIGHBOUR: 'it returns false'. Refute it at one input. -/
def mulSignsWrong : ChangeSpec := { name := "mulSigns", fn := fun _ => fun
  | [d1, d2, d3] => { results := [.lit (.bool false)], args := [d1, d2, d3] }
  | _ => none }
def MulSignsWrongFalsely : Prop := mulSignsRow.holds Try.pinned (OpenSpec.ofChange mulSignsWrong)

/-- 'salternlaw7.SegTells': WHATEVER THE INPUT: true; the input reads as it did. -/
def segTellsSpec : ChangeSpec := { name := "segTells", fn := fun _ => fun
  | [d1, d2, d3, d4, d5, d6, d7] => { results := [.lit (.bool true)], args := [d1, d2, d3, d4, d5, d6, d7] }
  | _ => none }
def segTellsRow : OpenClaim := { program := "ytllfmajphmfehaa", sum := "d000dc1fb4b228d0cfd2f341c106d05490c2dea833df143e599d4ab193b412e9", func := "saltern/salternlaw7.SegTells", spec := "segTells", apart := false }
def SegTellsSaid : Prop := segTellsRow.holds Try.pinned (OpenSpec.ofChange segTellsSpec)

/-- ITS FALSE NEIGHBOUR: 'it returns false'. Refute it at one input. -/
def segTellsWrong : ChangeSpec := { name := "segTells", fn := fun _ => fun
  | [d1, d2, d3, d4, d5, d6, d7] => { results := [.lit (.bool false)], args := [d1, d2, d3, d4, d5, d6, d7] }
  | _ => none }
def SegTellsWrongFalsely : Prop := segTellsRow.holds Try.pinned (OpenSpec.ofChange segTellsWrong)

/-- 'salternlaw7.SegApart': WHATEVER THE INPUT: true; the input reads as it did. -/
def segApartSpec : ChangeSpec := { name := "segApart", fn := fun _ => fun
  | [d1, d2, d3] => { results := [.lit (.bool true)], args := [d1, d2, d3] }
  | _ => none }
def segApartRow : OpenClaim := { program := "ytllfmajphmfehaa", sum := "d000dc1fb4b228d0cfd2f341c106d05490c2dea833df143e599d4ab193b412e9", func := "saltern/salternlaw7.SegApart", spec := "segApart", apart := false }
def SegApartSaid : Prop := segApartRow.holds Try.pinned (OpenSpec.ofChange segApartSpec)

/-- ITS FALSE NEIGHBOUR: 'it returns false'. Refute it at one input. -/
def segApartWrong : ChangeSpec := { name := "segApart", fn := fun _ => fun
  | [d1, d2, d3] => { results := [.lit (.bool false)], args := [d1, d2, d3] }
  | _ => none }
def SegApartWrongFalsely : Prop := segApartRow.holds Try.pinned (OpenSpec.ofChange segApartWrong)

/-- 'salternlaw3.DivTells': WHATEVER THE INPUT: true; the input reads as it did. -/
def divTellsSpec : ChangeSpec := { name := "divTells", fn := fun _ => fun
  | [d1, d2, d3, d4, d5, d6] => { results := [.lit (.bool true)], args := [d1, d2, d3, d4, d5, d6] }
  | _ => none }
def divTellsRow : OpenClaim := { program := "ytllfmajphmfehaa", sum := "d000dc1fb4b228d0cfd2f341c106d05490c2dea833df143e599d4ab193b412e9", func := "saltern/salternlaw3.DivTells", spec := "divTells", apart := false }
def DivTellsSaid : Prop := divTellsRow.holds Try.pinned (OpenSpec.ofChange divTellsSpec)

/-- ITS FALSE NEIGHBOUR: 'it returns false'. Refute it at one input. -/
def divTellsWrong : ChangeSpec := { name := "divTells", fn := fun _ => fun
  | [d1, d2, d3, d4, d5, d6] => { results := [.lit (.bool false)], args := [d1, d2, d3, d4, d5, d6] }
  | _ => none }
def DivTellsWrongFalsely : Prop := divTellsRow.holds Try.pinned (OpenSpec.ofChange divTellsWrong)

/-- 'salternlaw3.IdivSigns': WHATEVER THE INPUT: true; the input reads as it did. -/
def idivSignsSpec : ChangeSpec := { name := "idivSigns", fn := fun _ => fun
  | [d1, d2] => { results := [.lit (.bool true)], args := [d1, d2] }
  | _ => none }
def idivSignsRow : OpenClaim := { program := "ytllfmajphmfehaa", sum := "d000dc1fb4b228d0cfd2f341c106d05490c2dea833df143e599d4ab193b412e9", func := "saltern/salternlaw3.IdivSigns", spec := "idivSigns", apart := false }
def IdivSignsSaid : Prop := idivSignsRow.holds Try.pinned (OpenSpec.ofChange idivSignsSpec)

/-- ITS FALSE NEIGHBOUR: 'it returns false'. Refute it at one input. -/
def idivSignsWrong : ChangeSpec := { name := "idivSigns", fn := fun _ => fun
  | [d1, d2] => { results := [.lit (.bool false)], args := [d1, d2] }
  | _ => none }
def IdivSignsWrongFalsely : Prop := idivSignsRow.holds Try.pinned (OpenSpec.ofChange idivSignsWrong)

/- THE SECOND FORM. 'bulk': how many values and letters a reading holds, each counted each time it is reached (what is shared counts as often as it is met; a slice's spare places count too). A statement '..UptoSaid' is the law's where the arguments, and the package variables that the reading takes, are together of bulk at most 1048576: NARROWER than '..Said'. Prove '..Said' where nothing that the law and all that it calls make is longer than what came in: it says more and counts as full. Else prove '..UptoSaid'. A law counts once. -/
mutual
def uptoBulk {H : Type} : DataW H → Nat
  | .lit (.string bytes) => bytes.length + 1
  | .lit _ => 1
  | .nil => 1
  | .ptr d => uptoBulk d + 1
  | .slice elems spare => uptoBulkAll elems + uptoBulkAll spare + 1
  | .agg parts => uptoBulkAll parts + 1
  | .iface _ d => uptoBulk d + 1
  | .map entries => uptoBulkEntries entries + 1
  | .held _ => 1
def uptoBulkAll {H : Type} : List (DataW H) → Nat
  | [] => 0
  | d :: r => uptoBulk d + uptoBulkAll r
def uptoBulkEntries {H : Type} : List (Lit × DataW H) → Nat
  | [] => 0
  | x :: r => uptoBulkEntry x + uptoBulkEntries r
def uptoBulkEntry {H : Type} : Lit × DataW H → Nat
  | (.string bytes, d) => bytes.length + uptoBulk d + 1
  | (_, d) => uptoBulk d + 1
 end
def uptoSmall : (H : Type) → List (DataW H) → Bool := fun _ ds => decide (uptoBulkAll ds ≤ 1048576)
def OpenSpec.upto (s : _root_.Go.ChangeSpec) : _root_.Go.OpenSpec := { _root_.Go.OpenSpec.ofChange s with cond := some uptoSmall }

/-- 'salternlaw14.AddrRound', WHERE WHAT IT READS IS OF BULK AT MOST 1048576: true; the input reads as it did. -/
def addrRoundUptoRow : OpenClaim := { program := "ytllfmajphmfehaa", sum := "d000dc1fb4b228d0cfd2f341c106d05490c2dea833df143e599d4ab193b412e9", func := "saltern/salternlaw14.AddrRound", spec := "addrRound", apart := false, narrowed := true }
def AddrRoundUptoSaid : Prop := addrRoundUptoRow.holds Try.pinned (OpenSpec.upto addrRoundSpec)

/-- 'salternlaw7.SegEdges', WHERE WHAT IT READS IS OF BULK AT MOST 1048576: true; the input reads as it did. -/
def segEdgesUptoRow : OpenClaim := { program := "ytllfmajphmfehaa", sum := "d000dc1fb4b228d0cfd2f341c106d05490c2dea833df143e599d4ab193b412e9", func := "saltern/salternlaw7.SegEdges", spec := "segEdges", apart := false, narrowed := true }
def SegEdgesUptoSaid : Prop := segEdgesUptoRow.holds Try.pinned (OpenSpec.upto segEdgesSpec)

/-- 'salternlaw3.DivBack', WHERE WHAT IT READS IS OF BULK AT MOST 1048576: true; the input reads as it did. -/
def divBackUptoRow : OpenClaim := { program := "ytllfmajphmfehaa", sum := "d000dc1fb4b228d0cfd2f341c106d05490c2dea833df143e599d4ab193b412e9", func := "saltern/salternlaw3.DivBack", spec := "divBack", apart := false, narrowed := true }
def DivBackUptoSaid : Prop := divBackUptoRow.holds Try.pinned (OpenSpec.upto divBackSpec)

/-- 'salternlaw3.DivFits', WHERE WHAT IT READS IS OF BULK AT MOST 1048576: true; the input reads as it did. -/
def divFitsUptoRow : OpenClaim := { program := "ytllfmajphmfehaa", sum := "d000dc1fb4b228d0cfd2f341c106d05490c2dea833df143e599d4ab193b412e9", func := "saltern/salternlaw3.DivFits", spec := "divFits", apart := false, narrowed := true }
def DivFitsUptoSaid : Prop := divFitsUptoRow.holds Try.pinned (OpenSpec.upto divFitsSpec)

/-- 'salternlaw7.SegHolds', WHERE WHAT IT READS IS OF BULK AT MOST 1048576: true; the input reads as it did. -/
def segHoldsUptoRow : OpenClaim := { program := "ytllfmajphmfehaa", sum := "d000dc1fb4b228d0cfd2f341c106d05490c2dea833df143e599d4ab193b412e9", func := "saltern/salternlaw7.SegHolds", spec := "segHolds", apart := false, narrowed := true }
def SegHoldsUptoSaid : Prop := segHoldsUptoRow.holds Try.pinned (OpenSpec.upto segHoldsSpec)

/-- 'salternlaw3.MulTells', WHERE WHAT IT READS IS OF BULK AT MOST 1048576: true; the input reads as it did. -/
def mulTellsUptoRow : OpenClaim := { program := "ytllfmajphmfehaa", sum := "d000dc1fb4b228d0cfd2f341c106d05490c2dea833df143e599d4ab193b412e9", func := "saltern/salternlaw3.MulTells", spec := "mulTells", apart := false, narrowed := true }
def MulTellsUptoSaid : Prop := mulTellsUptoRow.holds Try.pinned (OpenSpec.upto mulTellsSpec)

/-- 'salternlaw3.MulSigns', WHERE WHAT IT READS IS OF BULK AT MOST 1048576: true; the input reads as it did. -/
def mulSignsUptoRow : OpenClaim := { program := "ytllfmajphmfehaa", sum := "d000dc1fb4b228d0cfd2f341c106d05490c2dea833df143e599d4ab193b412e9", func := "saltern/salternlaw3.MulSigns", spec := "mulSigns", apart := false, narrowed := true }
def MulSignsUptoSaid : Prop := mulSignsUptoRow.holds Try.pinned (OpenSpec.upto mulSignsSpec)

/-- 'salternlaw7.SegTells', WHERE WHAT IT READS IS OF BULK AT MOST 1048576: true; the input reads as it did. -/
def segTellsUptoRow : OpenClaim := { program := "ytllfmajphmfehaa", sum := "d000dc1fb4b228d0cfd2f341c106d05490c2dea833df143e599d4ab193b412e9", func := "saltern/salternlaw7.SegTells", spec := "segTells", apart := false, narrowed := true }
def SegTellsUptoSaid : Prop := segTellsUptoRow.holds Try.pinned (OpenSpec.upto segTellsSpec)

/-- 'salternlaw7.SegApart', WHERE WHAT IT READS IS OF BULK AT MOST 1048576: true; the input reads as it did. -/
def segApartUptoRow : OpenClaim := { program := "ytllfmajphmfehaa", sum := "d000dc1fb4b228d0cfd2f341c106d05490c2dea833df143e599d4ab193b412e9", func := "saltern/salternlaw7.SegApart", spec := "segApart", apart := false, narrowed := true }
def SegApartUptoSaid : Prop := segApartUptoRow.holds Try.pinned (OpenSpec.upto segApartSpec)

/-- 'salternlaw3.DivTells', WHERE WHAT IT READS IS OF BULK AT MOST 1048576: true; the input reads as it did. -/
def divTellsUptoRow : OpenClaim := { program := "ytllfmajphmfehaa", sum := "d000dc1fb4b228d0cfd2f341c106d05490c2dea833df143e599d4ab193b412e9", func := "saltern/salternlaw3.DivTells", spec := "divTells", apart := false, narrowed := true }
def DivTellsUptoSaid : Prop := divTellsUptoRow.holds Try.pinned (OpenSpec.upto divTellsSpec)

/-- 'salternlaw3.IdivSigns', WHERE WHAT IT READS IS OF BULK AT MOST 1048576: true; the input reads as it did. -/
def idivSignsUptoRow : OpenClaim := { program := "ytllfmajphmfehaa", sum := "d000dc1fb4b228d0cfd2f341c106d05490c2dea833df143e599d4ab193b412e9", func := "saltern/salternlaw3.IdivSigns", spec := "idivSigns", apart := false, narrowed := true }
def IdivSignsUptoSaid : Prop := idivSignsUptoRow.holds Try.pinned (OpenSpec.upto idivSignsSpec)

end Rows
end Go.Proofs.Ytllfmajphmfehaa
