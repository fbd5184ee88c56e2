/- FlowConds holds of the given program. -/
import Derived.Test.YtpgdpoloipifeaaRows
import Derived.Test.YtpgdpoloipifeaaPureFlowConds
namespace Go.Proofs.Ytpgdpoloipifeaa.flowConds
open Go.ChangeShapes Go.WideShapes Go.ChangeAt Go.RowKit Go.Ev
open Go.ChangeMaps (open_string shut_string)
set_option linter.unusedVariables false
theorem own : ownKnob Try.prog.godebug = none := by kernel_rfl
theorem laid : laidOutB Try.prog = true := by kernel_rfl
set_option maxRecDepth 100000 in
theorem lifted (os : Os) (started : os.Started) (H : Type) (enc : TypeId × Value → H) :
    ReturnsInHanded {} Try.checked os 4 .any (Rows.flowCondsSpec.pre6 enc Try.prog Try.f4 Rows.flowCondsRow.domain false) (Rows.flowCondsSpec.post enc Try.prog Try.f4 false true false false) := by
  refine returnsInHanded_of_change_sized (C := Try.checked) own started (by kernel_rfl) Try.func4
    (ChangeSpec.witness6 (enc := enc) (C := Try.checked) false ⟨#[], #[.int .u8 0, .int .u8 0, .int .u32 0, .agg #[.bool false, .bool false, .bool false, .bool false, .bool false, .bool false]], []⟩ 8 (by kernel_rfl) (by kernel_rfl) (by kernel_rfl) (by kernel_rfl)) ?_
  intro W base args ds gs before hval0 hW hcnd hsz0 _
  have hval : ∀ (j : Nat) t v, Try.f4.params[j]? = some t → args[j]? = some v → Value.okWide Try.prog W .any base t v := hval0
  have hW' := hW
  obtain ⟨p, q, hA0, hV, rfl, hfz, hnd⟩ := hW
  have hA : DataW.TrodAll enc Try.prog W 0 (fun _ => true) true Try.f4.params.toList args.toList ds p := hA0
  rw [Try.params4] at hA hval
  obtain ⟨v0, vs0, d0, ds0, p0, q0, hargs, rfl, rfl, h0, r0⟩ := trodAll_cons hA
  obtain ⟨v1, vs1, d1, ds1, p1, q1, rfl, rfl, rfl, h1, r1⟩ := trodAll_cons r0
  obtain ⟨v2, vs2, d2, ds2, p2, q2, rfl, rfl, rfl, h2, r2⟩ := trodAll_cons r1
  obtain ⟨v3, vs3, d3, ds3, p3, q3, rfl, rfl, rfl, h3, r3⟩ := trodAll_cons r2
  obtain ⟨rfl, rfl, rfl⟩ := trodAll_nil r3
  obtain rfl : args = #[v0, v1, v2, v3] := by cases args; simp_all
  obtain ⟨rfl, rfl⟩ := trodVars_none hV
  obtain ⟨a0, rfl, rfl, rfl, w0⟩ := open_int Try.underlying5 (hval 0 5 v0 rfl rfl) h0
  obtain ⟨a1, rfl, rfl, rfl, w1⟩ := open_int Try.underlying5 (hval 1 5 v1 rfl rfl) h1
  obtain ⟨a2, rfl, rfl, rfl, w2⟩ := open_int Try.underlying22 (hval 2 22 v2 rfl rfl) h2
  have hv3 := hval 3 39 v3 rfl rfl
  have ho3 := h3
  obtain ⟨rfl, cs3, hf3, hc3⟩ := open_plain (d := 9) (t := 39) (ks := [.bool, .bool, .bool, .bool, .bool, .bool]) (by kernel_rfl) hv3 h3
  obtain rfl := agg_of_cells (by kernel_rfl) hv3 hc3
  simp only [fitsC] at hf3
  obtain ⟨a3_0, _, rfl, ⟨a3_1, _, rfl, ⟨a3_2, _, rfl, ⟨a3_3, _, rfl, ⟨a3_4, _, rfl, ⟨a3_5, _, rfl, rfl⟩⟩⟩⟩⟩⟩ := hf3
  refine (law_calls (ΓOj_ok) (pure a0 a1 a2 a3_0 a3_1 a3_2 a3_3 a3_4 a3_5 w0 w1 w2) (l := [.int .u8 a0, .int .u8 a1, .int .u32 a2, .agg #[.bool a3_0, .bool a3_1, .bool a3_2, .bool a3_3, .bool a3_4, .bool a3_5]]) rfl (by kernel_rfl) W).mono fun e W' ⟨he, bel⟩ => ?_
  subst he
  exact ⟨_, rfl, _, _, _, [], _, [], hW', trodAll_mk1 (shut_bool Try.underlying4 _), (trodAll_cons_mk (shut_int Try.underlying5 w0) (trodAll_cons_mk (shut_int Try.underlying5 w1) (trodAll_cons_mk (shut_int Try.underlying22 w2) (trodAll_cons_mk (Below.trod laid (by kernel_rfl) (of_decide_eq_true (by kernel_rfl)) ho3 bel (by simp)) trodAll_mk0)))), rfl, bel.frame _, fun h => by cases h⟩
theorem over : Rows.flowCondsRow.holds Try.pinned (OpenSpec.ofChange Rows.flowCondsSpec) :=
  OpenClaim.holds_of_wide 4 Try.f4 rfl rfl rfl rfl rfl rfl rfl ⟨rfl, rfl, rfl, rfl, rfl⟩ rfl rfl rfl rfl rfl (by kernel_rfl) Try.func4 (by kernel_rfl)
    (of_decide_eq_true (by kernel_rfl)) (by unfold Func.isWrapper; rw [if_neg (by decide +kernel)]; exact ⟨rfl, rfl⟩)
    (fun os started H enc _ => lifted os started H enc)
end Go.Proofs.Ytpgdpoloipifeaa.flowConds
namespace Go.Proofs.Ytpgdpoloipifeaa
theorem flowConds_holds : Rows.FlowCondsSaid := flowConds.over
#print axioms flowConds_holds
end Go.Proofs.Ytpgdpoloipifeaa
