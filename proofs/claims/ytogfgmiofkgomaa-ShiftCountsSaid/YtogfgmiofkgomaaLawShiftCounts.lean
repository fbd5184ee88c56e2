/- ShiftCounts holds of the given program. -/
import Derived.Test.YtogfgmiofkgomaaRows
import Derived.Test.YtogfgmiofkgomaaPureShiftCounts
namespace Go.Proofs.Ytogfgmiofkgomaa.shiftCounts
open Go.ChangeShapes Go.WideShapes Go.ChangeAt Go.RowKit Go.Ev
open Go.ChangeMaps (open_string shut_string)
set_option linter.unusedVariables false
theorem own : ownKnob Try.prog.godebug = none := by kernel_rfl
theorem laid : laidOutB Try.prog = true := by kernel_rfl
set_option maxRecDepth 100000 in
theorem lifted (os : Os) (started : os.Started) (H : Type) (enc : TypeId × Value → H) :
    ReturnsInHanded {} Try.checked os 13 .any (Rows.shiftCountsSpec.pre6 enc Try.prog Try.f13 Rows.shiftCountsRow.domain false) (Rows.shiftCountsSpec.post enc Try.prog Try.f13 false true false false) := by
  refine returnsInHanded_of_change_sized (C := Try.checked) own started (by kernel_rfl) Try.func13
    (ChangeSpec.witness6 (enc := enc) (C := Try.checked) false ⟨#[], #[.int .i64 0, .agg #[.bool false, .bool false, .bool false, .bool false, .bool false, .bool false], .int .u32 0, .int .u32 0], []⟩ 8 (by kernel_rfl) (by kernel_rfl) (by kernel_rfl) (by kernel_rfl)) ?_
  intro W base args ds gs before hval0 hW hcnd hsz0 _
  have hval : ∀ (j : Nat) t v, Try.f13.params[j]? = some t → args[j]? = some v → Value.okWide Try.prog W .any base t v := hval0
  have hW' := hW
  obtain ⟨p, q, hA0, hV, rfl, hfz, hnd⟩ := hW
  have hA : DataW.TrodAll enc Try.prog W 0 (fun _ => true) true Try.f13.params.toList args.toList ds p := hA0
  rw [Try.params13] at hA hval
  obtain ⟨v0, vs0, d0, ds0, p0, q0, hargs, rfl, rfl, h0, r0⟩ := trodAll_cons hA
  obtain ⟨v1, vs1, d1, ds1, p1, q1, rfl, rfl, rfl, h1, r1⟩ := trodAll_cons r0
  obtain ⟨v2, vs2, d2, ds2, p2, q2, rfl, rfl, rfl, h2, r2⟩ := trodAll_cons r1
  obtain ⟨v3, vs3, d3, ds3, p3, q3, rfl, rfl, rfl, h3, r3⟩ := trodAll_cons r2
  obtain ⟨rfl, rfl, rfl⟩ := trodAll_nil r3
  obtain rfl : args = #[v0, v1, v2, v3] := by cases args; simp_all
  obtain ⟨rfl, rfl⟩ := trodVars_none hV
  obtain ⟨a0, rfl, rfl, rfl, w0⟩ := open_int Try.underlying3 (hval 0 3 v0 rfl rfl) h0
  have hv1 := hval 1 26 v1 rfl rfl
  have ho1 := h1
  obtain ⟨rfl, cs1, hf1, hc1⟩ := open_plain (d := 9) (t := 26) (ks := [.bool, .bool, .bool, .bool, .bool, .bool]) (by kernel_rfl) hv1 h1
  obtain rfl := agg_of_cells (by kernel_rfl) hv1 hc1
  simp only [fitsC] at hf1
  obtain ⟨a1_0, _, rfl, ⟨a1_1, _, rfl, ⟨a1_2, _, rfl, ⟨a1_3, _, rfl, ⟨a1_4, _, rfl, ⟨a1_5, _, rfl, rfl⟩⟩⟩⟩⟩⟩ := hf1
  obtain ⟨a2, rfl, rfl, rfl, w2⟩ := open_int Try.underlying22 (hval 2 22 v2 rfl rfl) h2
  obtain ⟨a3, rfl, rfl, rfl, w3⟩ := open_int Try.underlying22 (hval 3 22 v3 rfl rfl) h3
  refine (law_calls (ΓSh3_ok) (pure a0 a1_0 a1_1 a1_2 a1_3 a1_4 a1_5 a2 a3 w0 w2 w3) (l := [.int .i64 a0, .agg #[.bool a1_0, .bool a1_1, .bool a1_2, .bool a1_3, .bool a1_4, .bool a1_5], .int .u32 a2, .int .u32 a3]) rfl W).mono fun e W' ⟨he, bel⟩ => ?_
  subst he
  exact ⟨_, rfl, _, _, _, [], _, [], hW', trodAll_mk1 (shut_bool Try.underlying4 _), (trodAll_cons_mk (shut_int Try.underlying3 w0) (trodAll_cons_mk (Below.trod laid (by kernel_rfl) (of_decide_eq_true (by kernel_rfl)) ho1 bel (by simp)) (trodAll_cons_mk (shut_int Try.underlying22 w2) (trodAll_cons_mk (shut_int Try.underlying22 w3) trodAll_mk0)))), rfl, bel.frame _, fun h => by cases h⟩
theorem over : Rows.shiftCountsRow.holds Try.pinned (OpenSpec.ofChange Rows.shiftCountsSpec) :=
  OpenClaim.holds_of_wide 13 Try.f13 rfl rfl rfl rfl rfl rfl rfl ⟨rfl, rfl, rfl, rfl, rfl⟩ rfl rfl rfl rfl rfl (by kernel_rfl) Try.func13 (by kernel_rfl)
    (of_decide_eq_true (by kernel_rfl)) (by unfold Func.isWrapper; rw [if_neg (by decide +kernel)]; exact ⟨rfl, rfl⟩)
    (fun os started H enc _ => lifted os started H enc)
end Go.Proofs.Ytogfgmiofkgomaa.shiftCounts
namespace Go.Proofs.Ytogfgmiofkgomaa
theorem shiftCounts_holds : Rows.ShiftCountsSaid := shiftCounts.over
#print axioms shiftCounts_holds
end Go.Proofs.Ytogfgmiofkgomaa
