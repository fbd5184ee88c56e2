/- FlagsBack holds of the given program. -/
import Derived.Test.YtmmapogcackbbaaRows
import Derived.Test.YtmmapogcackbbaaPureFlagsBack
namespace Go.Proofs.Ytmmapogcackbbaa.flagsBack
open Go.ChangeShapes Go.WideShapes Go.ChangeAt Go.RowKit Go.Ev
open Go.ChangeMaps (open_string shut_string)
set_option linter.unusedVariables false
theorem own : ownKnob Try.prog.godebug = none := by kernel_rfl
theorem laid : laidOutB Try.prog = true := by kernel_rfl
set_option maxRecDepth 100000 in
theorem lifted (os : Os) (started : os.Started) (H : Type) (enc : TypeId × Value → H) :
    ReturnsInHanded {} Try.checked os 6 .any (Rows.flagsBackSpec.pre6 enc Try.prog Try.f6 Rows.flagsBackRow.domain false) (Rows.flagsBackSpec.post enc Try.prog Try.f6 false true false false) := by
  refine returnsInHanded_of_change_sized (C := Try.checked) own started (by kernel_rfl) Try.func6
    (ChangeSpec.witness6 (enc := enc) (C := Try.checked) false ⟨#[], #[.agg #[.bool false, .bool false, .bool false, .bool false, .bool false, .bool false], .int .u32 0], []⟩ 8 (by kernel_rfl) (by kernel_rfl) (by kernel_rfl) (by kernel_rfl)) ?_
  intro W base args ds gs before hval0 hW hcnd hsz0 _
  have hval : ∀ (j : Nat) t v, Try.f6.params[j]? = some t → args[j]? = some v → Value.okWide Try.prog W .any base t v := hval0
  have hW' := hW
  obtain ⟨p, q, hA0, hV, rfl, hfz, hnd⟩ := hW
  have hA : DataW.TrodAll enc Try.prog W 0 (fun _ => true) true Try.f6.params.toList args.toList ds p := hA0
  rw [Try.params6] at hA hval
  obtain ⟨v0, vs0, d0, ds0, p0, q0, hargs, rfl, rfl, h0, r0⟩ := trodAll_cons hA
  obtain ⟨v1, vs1, d1, ds1, p1, q1, rfl, rfl, rfl, h1, r1⟩ := trodAll_cons r0
  obtain ⟨rfl, rfl, rfl⟩ := trodAll_nil r1
  obtain rfl : args = #[v0, v1] := by cases args; simp_all
  obtain ⟨rfl, rfl⟩ := trodVars_none hV
  have hv0 := hval 0 25 v0 rfl rfl
  have ho0 := h0
  obtain ⟨rfl, cs0, hf0, hc0⟩ := open_plain (d := 9) (t := 25) (ks := [.bool, .bool, .bool, .bool, .bool, .bool]) (by kernel_rfl) hv0 h0
  obtain rfl := agg_of_cells (by kernel_rfl) hv0 hc0
  simp only [fitsC] at hf0
  obtain ⟨a0_0, _, rfl, ⟨a0_1, _, rfl, ⟨a0_2, _, rfl, ⟨a0_3, _, rfl, ⟨a0_4, _, rfl, ⟨a0_5, _, rfl, rfl⟩⟩⟩⟩⟩⟩ := hf0
  obtain ⟨a1, rfl, rfl, rfl, w1⟩ := open_int Try.underlying22 (hval 1 22 v1 rfl rfl) h1
  refine (law_calls (ΓRg2_ok) (pure a0_0 a0_1 a0_2 a0_3 a0_4 a0_5 a1 w1) (l := [.agg #[.bool a0_0, .bool a0_1, .bool a0_2, .bool a0_3, .bool a0_4, .bool a0_5], .int .u32 a1]) rfl W).mono fun e W' ⟨he, bel⟩ => ?_
  subst he
  exact ⟨_, rfl, _, _, _, [], _, [], hW', trodAll_mk1 (shut_bool Try.underlying4 _), (trodAll_cons_mk (Below.trod laid (by kernel_rfl) (of_decide_eq_true (by kernel_rfl)) ho0 bel (by simp)) (trodAll_cons_mk (shut_int Try.underlying22 w1) trodAll_mk0)), rfl, bel.frame _, fun h => by cases h⟩
theorem over : Rows.flagsBackRow.holds Try.pinned (OpenSpec.ofChange Rows.flagsBackSpec) :=
  OpenClaim.holds_of_wide 6 Try.f6 rfl rfl rfl rfl rfl rfl rfl ⟨rfl, rfl, rfl, rfl, rfl⟩ rfl rfl rfl rfl rfl (by kernel_rfl) Try.func6 (by kernel_rfl)
    (of_decide_eq_true (by kernel_rfl)) (by unfold Func.isWrapper; rw [if_neg (by decide +kernel)]; exact ⟨rfl, rfl⟩)
    (fun os started H enc _ => lifted os started H enc)
end Go.Proofs.Ytmmapogcackbbaa.flagsBack
namespace Go.Proofs.Ytmmapogcackbbaa
theorem flagsBack_holds : Rows.FlagsBackSaid := flagsBack.over
#print axioms flagsBack_holds
end Go.Proofs.Ytmmapogcackbbaa
