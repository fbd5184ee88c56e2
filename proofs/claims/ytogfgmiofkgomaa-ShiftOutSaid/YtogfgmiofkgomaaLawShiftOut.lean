/- ShiftOut holds of the given program. -/
import Derived.Test.YtogfgmiofkgomaaRows
import Derived.Test.YtogfgmiofkgomaaPureShiftOut
namespace Go.Proofs.Ytogfgmiofkgomaa.shiftOut
open Go.ChangeShapes Go.WideShapes Go.ChangeAt Go.RowKit Go.Ev
open Go.ChangeMaps (open_string shut_string)
set_option linter.unusedVariables false
theorem own : ownKnob Try.prog.godebug = none := by kernel_rfl
theorem laid : laidOutB Try.prog = true := by kernel_rfl
set_option maxRecDepth 100000 in
theorem lifted (os : Os) (started : os.Started) (H : Type) (enc : TypeId × Value → H) :
    ReturnsInHanded {} Try.checked os 12 .any (Rows.shiftOutSpec.pre6 enc Try.prog Try.f12 Rows.shiftOutRow.domain false) (Rows.shiftOutSpec.post enc Try.prog Try.f12 false true false false) := by
  refine returnsInHanded_of_change_sized (C := Try.checked) own started (by kernel_rfl) Try.func12
    (ChangeSpec.witness6 (enc := enc) (C := Try.checked) false ⟨#[], #[.int .u32 0, .int .u8 0, .agg #[.bool false, .bool false, .bool false, .bool false, .bool false, .bool false]], []⟩ 8 (by kernel_rfl) (by kernel_rfl) (by kernel_rfl) (by kernel_rfl)) ?_
  intro W base args ds gs before hval0 hW hcnd hsz0 _
  have hval : ∀ (j : Nat) t v, Try.f12.params[j]? = some t → args[j]? = some v → Value.okWide Try.prog W .any base t v := hval0
  have hW' := hW
  obtain ⟨p, q, hA0, hV, rfl, hfz, hnd⟩ := hW
  have hA : DataW.TrodAll enc Try.prog W 0 (fun _ => true) true Try.f12.params.toList args.toList ds p := hA0
  rw [Try.params12] at hA hval
  obtain ⟨v0, vs0, d0, ds0, p0, q0, hargs, rfl, rfl, h0, r0⟩ := trodAll_cons hA
  obtain ⟨v1, vs1, d1, ds1, p1, q1, rfl, rfl, rfl, h1, r1⟩ := trodAll_cons r0
  obtain ⟨v2, vs2, d2, ds2, p2, q2, rfl, rfl, rfl, h2, r2⟩ := trodAll_cons r1
  obtain ⟨rfl, rfl, rfl⟩ := trodAll_nil r2
  obtain rfl : args = #[v0, v1, v2] := by cases args; simp_all
  obtain ⟨rfl, rfl⟩ := trodVars_none hV
  obtain ⟨a0, rfl, rfl, rfl, w0⟩ := open_int Try.underlying22 (hval 0 22 v0 rfl rfl) h0
  obtain ⟨a1, rfl, rfl, rfl, w1⟩ := open_int Try.underlying5 (hval 1 5 v1 rfl rfl) h1
  have hv2 := hval 2 26 v2 rfl rfl
  have ho2 := h2
  obtain ⟨rfl, cs2, hf2, hc2⟩ := open_plain (d := 9) (t := 26) (ks := [.bool, .bool, .bool, .bool, .bool, .bool]) (by kernel_rfl) hv2 h2
  obtain rfl := agg_of_cells (by kernel_rfl) hv2 hc2
  simp only [fitsC] at hf2
  obtain ⟨a2_0, _, rfl, ⟨a2_1, _, rfl, ⟨a2_2, _, rfl, ⟨a2_3, _, rfl, ⟨a2_4, _, rfl, ⟨a2_5, _, rfl, rfl⟩⟩⟩⟩⟩⟩ := hf2
  refine (law_calls (ΓSh3_ok) (pure a0 a1 a2_0 a2_1 a2_2 a2_3 a2_4 a2_5 w0 w1) (l := [.int .u32 a0, .int .u8 a1, .agg #[.bool a2_0, .bool a2_1, .bool a2_2, .bool a2_3, .bool a2_4, .bool a2_5]]) rfl W).mono fun e W' ⟨he, bel⟩ => ?_
  subst he
  exact ⟨_, rfl, _, _, _, [], _, [], hW', trodAll_mk1 (shut_bool Try.underlying4 _), (trodAll_cons_mk (shut_int Try.underlying22 w0) (trodAll_cons_mk (shut_int Try.underlying5 w1) (trodAll_cons_mk (Below.trod laid (by kernel_rfl) (of_decide_eq_true (by kernel_rfl)) ho2 bel (by simp)) trodAll_mk0))), rfl, bel.frame _, fun h => by cases h⟩
theorem over : Rows.shiftOutRow.holds Try.pinned (OpenSpec.ofChange Rows.shiftOutSpec) :=
  OpenClaim.holds_of_wide 12 Try.f12 rfl rfl rfl rfl rfl rfl rfl ⟨rfl, rfl, rfl, rfl, rfl⟩ rfl rfl rfl rfl rfl (by kernel_rfl) Try.func12 (by kernel_rfl)
    (of_decide_eq_true (by kernel_rfl)) (by unfold Func.isWrapper; rw [if_neg (by decide +kernel)]; exact ⟨rfl, rfl⟩)
    (fun os started H enc _ => lifted os started H enc)
end Go.Proofs.Ytogfgmiofkgomaa.shiftOut
namespace Go.Proofs.Ytogfgmiofkgomaa
theorem shiftOut_holds : Rows.ShiftOutSaid := shiftOut.over
#print axioms shiftOut_holds
end Go.Proofs.Ytogfgmiofkgomaa
