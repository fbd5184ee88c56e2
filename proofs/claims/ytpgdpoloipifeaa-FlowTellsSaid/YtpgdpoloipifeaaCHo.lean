/- Contracts: conditions. -/
import Derived.Test.YtpgdpoloipifeaaEvV
import Derived.Test.YtpgdpoloipifeaaCSk0
import Derived.Test.YtpgdpoloipifeaaNHold
namespace Go.Proofs.Ytpgdpoloipifeaa
open Go Go.Ev
set_option linter.unusedVariables false
set_option linter.unusedSimpArgs false
set_option maxRecDepth 100000
theorem hoP_form (c : Int) (f_0 : Bool) (f_1 : Bool) (f_2 : Bool) (f_3 : Bool) (f_4 : Bool) (f_5 : Bool) :
    evF Try.prog ΓSk0 400 53 [.v (.int .i64 c), .agg [.v (.bool f_0), .v (.bool f_1), .v (.bool f_2), .v (.bool f_3), .v (.bool f_4), .v (.bool f_5)]] [] (fun x _ => some x) (fun _ _ => none) =
    (bif decide (c ≥ 0) then
    bif decide (c < 16) then
    bif Int.fdiv c 2 == 0 then some (vb ((f_4 == (bitsL BinOp.and IntKind.i64 c 1 == 0))))
    else
    bif Int.fdiv c 2 == 1 then some (vb ((f_0 == (bitsL BinOp.and IntKind.i64 c 1 == 0))))
    else
    bif Int.fdiv c 2 == 2 then some (vb ((f_2 == (bitsL BinOp.and IntKind.i64 c 1 == 0))))
    else
    bif Int.fdiv c 2 == 3 then
    bif f_0 then some (vb ((true == (bitsL BinOp.and IntKind.i64 c 1 == 0))))
    else some (vb ((f_2 == (bitsL BinOp.and IntKind.i64 c 1 == 0))))
    else
    bif Int.fdiv c 2 == 4 then some (vb ((f_3 == (bitsL BinOp.and IntKind.i64 c 1 == 0))))
    else
    bif Int.fdiv c 2 == 5 then some (vb ((f_1 == (bitsL BinOp.and IntKind.i64 c 1 == 0))))
    else
    bif Int.fdiv c 2 == 6 then some (vb (((!f_3 == f_4) == (bitsL BinOp.and IntKind.i64 c 1 == 0))))
    else
    bif f_2 then some (vb ((true == (bitsL BinOp.and IntKind.i64 c 1 == 0))))
    else some (vb (((!f_3 == f_4) == (bitsL BinOp.and IntKind.i64 c 1 == 0))))
    else some (vb false)
    else some (vb false)) := by kernel_rfl
theorem hoP_nice (c : Int) (f_0 : Bool) (f_1 : Bool) (f_2 : Bool) (f_3 : Bool) (f_4 : Bool) (f_5 : Bool) (hg : (true) = true) :
    evF Try.prog ΓSk0 400 53 [.v (.int .i64 c), .agg [.v (.bool f_0), .v (.bool f_1), .v (.bool f_2), .v (.bool f_3), .v (.bool f_4), .v (.bool f_5)]] [] (fun x _ => some x) (fun _ _ => none) = some (.v (.bool (holdsV c f_0 f_1 f_2 f_3 f_4))) := by
  rw [hoP_form]
  try simp only [bitsL_eq]
  by_cases h0 : 0 ≤ c
  · by_cases h1 : c < 16
    · rcases cond16 h0 h1 with rfl | rfl | rfl | rfl | rfl | rfl | rfl | rfl | rfl | rfl | rfl | rfl | rfl | rfl | rfl | rfl <;>
        (cases f_0 <;> cases f_1 <;> cases f_2 <;> cases f_3 <;> cases f_4 <;> rfl)
    · have e1 : decide (c < 16) = false := decide_eq_false h1
      have e2 : decide (c > 15) = true := decide_eq_true (by omega)
      have e3 : decide (0 ≤ c) = true := decide_eq_true h0
      have e4 : decide (c < 0) = false := decide_eq_false (by omega)
      simp only [holdsV, e1, e2, e3, e4, Bool.and_false, Bool.false_and, cond_true, cond_false]
  · have e3 : decide (0 ≤ c) = false := decide_eq_false h0
    have e4 : decide (c < 0) = true := decide_eq_true (by omega)
    simp only [holdsV, e3, e4, Bool.and_false, Bool.false_and, cond_true, cond_false]
def hoPS : Nice := fun R args kv => match args with
  | [.v (.int .i64 c), .agg [.v (.bool f_0), .v (.bool f_1), .v (.bool f_2), .v (.bool f_3), .v (.bool f_4), .v (.bool f_5)]] => bif true then kv (.v (.bool (holdsV c f_0 f_1 f_2 f_3 f_4))) else none
  | _ => none
theorem hoPS_ok : NiceOk Try.prog ΓSk0 400 53 hoPS := by
  intro R args kv r h
  unfold hoPS at h
  split at h
  · obtain ⟨hg, h⟩ := cond_some h
    exact ⟨_, h, rfl, rfl, hoP_nice _ _ _ _ _ _ _ hg⟩
  · cases h
theorem hoR_form (c : Int) (f_0 : Bool) (f_1 : Bool) (f_2 : Bool) (f_3 : Bool) (f_4 : Bool) (f_5 : Bool) :
    evF Try.prog ΓSk0 400 60 [.v (.int .i64 c), .agg [.v (.bool f_0), .v (.bool f_1), .v (.bool f_2), .v (.bool f_3), .v (.bool f_4), .v (.bool f_5)]] [] (fun x _ => some x) (fun _ _ => none) =
    (bif decide (c < 0) then some (vb false)
    else
    bif decide (c > 15) then some (vb false)
    else
    bif f_0 then
    bif f_2 then
    bif IntKind.wrap IntKind.i64 (Int.tdiv c 2) == 0 then some (vb (!f_4 == (Int.tmod c 2 == 1)))
    else
    bif IntKind.wrap IntKind.i64 (Int.tdiv c 2) == 1 then some (vb (!f_0 == (Int.tmod c 2 == 1)))
    else
    bif IntKind.wrap IntKind.i64 (Int.tdiv c 2) == 2 then some (vb (!f_2 == (Int.tmod c 2 == 1)))
    else
    bif IntKind.wrap IntKind.i64 (Int.tdiv c 2) == 3 then some (vb (!true == (Int.tmod c 2 == 1)))
    else
    bif IntKind.wrap IntKind.i64 (Int.tdiv c 2) == 4 then some (vb (!f_3 == (Int.tmod c 2 == 1)))
    else
    bif IntKind.wrap IntKind.i64 (Int.tdiv c 2) == 5 then some (vb (!f_1 == (Int.tmod c 2 == 1)))
    else
    bif IntKind.wrap IntKind.i64 (Int.tdiv c 2) == 6 then some (vb (!(!f_3 == f_4) == (Int.tmod c 2 == 1)))
    else
    bif IntKind.wrap IntKind.i64 (Int.tdiv c 2) == 7 then some (vb (!true == (Int.tmod c 2 == 1))) else none
    else
    bif IntKind.wrap IntKind.i64 (Int.tdiv c 2) == 0 then some (vb (!f_4 == (Int.tmod c 2 == 1)))
    else
    bif IntKind.wrap IntKind.i64 (Int.tdiv c 2) == 1 then some (vb (!f_0 == (Int.tmod c 2 == 1)))
    else
    bif IntKind.wrap IntKind.i64 (Int.tdiv c 2) == 2 then some (vb (!f_2 == (Int.tmod c 2 == 1)))
    else
    bif IntKind.wrap IntKind.i64 (Int.tdiv c 2) == 3 then some (vb (!true == (Int.tmod c 2 == 1)))
    else
    bif IntKind.wrap IntKind.i64 (Int.tdiv c 2) == 4 then some (vb (!f_3 == (Int.tmod c 2 == 1)))
    else
    bif IntKind.wrap IntKind.i64 (Int.tdiv c 2) == 5 then some (vb (!f_1 == (Int.tmod c 2 == 1)))
    else
    bif IntKind.wrap IntKind.i64 (Int.tdiv c 2) == 6 then some (vb (!(!f_3 == f_4) == (Int.tmod c 2 == 1)))
    else
    bif IntKind.wrap IntKind.i64 (Int.tdiv c 2) == 7 then some (vb (!(!f_3 == f_4) == (Int.tmod c 2 == 1)))
    else none
    else
    bif f_2 then
    bif IntKind.wrap IntKind.i64 (Int.tdiv c 2) == 0 then some (vb (!f_4 == (Int.tmod c 2 == 1)))
    else
    bif IntKind.wrap IntKind.i64 (Int.tdiv c 2) == 1 then some (vb (!f_0 == (Int.tmod c 2 == 1)))
    else
    bif IntKind.wrap IntKind.i64 (Int.tdiv c 2) == 2 then some (vb (!f_2 == (Int.tmod c 2 == 1)))
    else
    bif IntKind.wrap IntKind.i64 (Int.tdiv c 2) == 3 then some (vb (!f_2 == (Int.tmod c 2 == 1)))
    else
    bif IntKind.wrap IntKind.i64 (Int.tdiv c 2) == 4 then some (vb (!f_3 == (Int.tmod c 2 == 1)))
    else
    bif IntKind.wrap IntKind.i64 (Int.tdiv c 2) == 5 then some (vb (!f_1 == (Int.tmod c 2 == 1)))
    else
    bif IntKind.wrap IntKind.i64 (Int.tdiv c 2) == 6 then some (vb (!(!f_3 == f_4) == (Int.tmod c 2 == 1)))
    else
    bif IntKind.wrap IntKind.i64 (Int.tdiv c 2) == 7 then some (vb (!true == (Int.tmod c 2 == 1))) else none
    else
    bif IntKind.wrap IntKind.i64 (Int.tdiv c 2) == 0 then some (vb (!f_4 == (Int.tmod c 2 == 1)))
    else
    bif IntKind.wrap IntKind.i64 (Int.tdiv c 2) == 1 then some (vb (!f_0 == (Int.tmod c 2 == 1)))
    else
    bif IntKind.wrap IntKind.i64 (Int.tdiv c 2) == 2 then some (vb (!f_2 == (Int.tmod c 2 == 1)))
    else
    bif IntKind.wrap IntKind.i64 (Int.tdiv c 2) == 3 then some (vb (!f_2 == (Int.tmod c 2 == 1)))
    else
    bif IntKind.wrap IntKind.i64 (Int.tdiv c 2) == 4 then some (vb (!f_3 == (Int.tmod c 2 == 1)))
    else
    bif IntKind.wrap IntKind.i64 (Int.tdiv c 2) == 5 then some (vb (!f_1 == (Int.tmod c 2 == 1)))
    else
    bif IntKind.wrap IntKind.i64 (Int.tdiv c 2) == 6 then some (vb (!(!f_3 == f_4) == (Int.tmod c 2 == 1)))
    else
    bif IntKind.wrap IntKind.i64 (Int.tdiv c 2) == 7 then some (vb (!(!f_3 == f_4) == (Int.tmod c 2 == 1)))
    else none) := by kernel_rfl
theorem hoR_nice (c : Int) (f_0 : Bool) (f_1 : Bool) (f_2 : Bool) (f_3 : Bool) (f_4 : Bool) (f_5 : Bool) (hg : (true) = true) :
    evF Try.prog ΓSk0 400 60 [.v (.int .i64 c), .agg [.v (.bool f_0), .v (.bool f_1), .v (.bool f_2), .v (.bool f_3), .v (.bool f_4), .v (.bool f_5)]] [] (fun x _ => some x) (fun _ _ => none) = some (.v (.bool (holdsV c f_0 f_1 f_2 f_3 f_4))) := by
  rw [hoR_form]
  try simp only [bitsL_eq]
  by_cases h0 : 0 ≤ c
  · by_cases h1 : c < 16
    · rcases cond16 h0 h1 with rfl | rfl | rfl | rfl | rfl | rfl | rfl | rfl | rfl | rfl | rfl | rfl | rfl | rfl | rfl | rfl <;>
        (cases f_0 <;> cases f_1 <;> cases f_2 <;> cases f_3 <;> cases f_4 <;> rfl)
    · have e1 : decide (c < 16) = false := decide_eq_false h1
      have e2 : decide (c > 15) = true := decide_eq_true (by omega)
      have e3 : decide (0 ≤ c) = true := decide_eq_true h0
      have e4 : decide (c < 0) = false := decide_eq_false (by omega)
      simp only [holdsV, e1, e2, e3, e4, Bool.and_false, Bool.false_and, cond_true, cond_false]
  · have e3 : decide (0 ≤ c) = false := decide_eq_false h0
    have e4 : decide (c < 0) = true := decide_eq_true (by omega)
    simp only [holdsV, e3, e4, Bool.and_false, Bool.false_and, cond_true, cond_false]
def hoRS : Nice := fun R args kv => match args with
  | [.v (.int .i64 c), .agg [.v (.bool f_0), .v (.bool f_1), .v (.bool f_2), .v (.bool f_3), .v (.bool f_4), .v (.bool f_5)]] => bif true then kv (.v (.bool (holdsV c f_0 f_1 f_2 f_3 f_4))) else none
  | _ => none
theorem hoRS_ok : NiceOk Try.prog ΓSk0 400 60 hoRS := by
  intro R args kv r h
  unfold hoRS at h
  split at h
  · obtain ⟨hg, h⟩ := cond_some h
    exact ⟨_, h, rfl, rfl, hoR_nice _ _ _ _ _ _ _ hg⟩
  · cases h
noncomputable def ΓHo : Env := ((ΓSk0.add 53 (pureSpec hoPS)).add 60 (pureSpec hoRS))
theorem ΓHo_ok : EnvOk Try.prog X0 ΓHo := ((ΓSk0_ok.add (by kernel_rfl) (specOk_of_nice ΓSk0_ok hoPS_ok)).add (by kernel_rfl) (specOk_of_nice ΓSk0_ok hoRS_ok))
end Go.Proofs.Ytpgdpoloipifeaa
