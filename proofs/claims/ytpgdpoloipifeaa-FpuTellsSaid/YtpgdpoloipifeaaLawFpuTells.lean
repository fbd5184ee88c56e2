/- FpuTells holds of the given program. -/
import Derived.Test.YtpgdpoloipifeaaRows
import Derived.Test.YtpgdpoloipifeaaPureFpuTells
namespace Go.Proofs.Ytpgdpoloipifeaa.fpuTells
open Go.ChangeShapes Go.WideShapes Go.ChangeAt Go.RowKit Go.Ev
open Go.ChangeMaps (open_string shut_string)
set_option linter.unusedVariables false
theorem own : ownKnob Try.prog.godebug = none := by kernel_rfl
theorem laid : laidOutB Try.prog = true := by kernel_rfl
set_option maxRecDepth 100000 in
theorem lifted (os : Os) (started : os.Started) (H : Type) (enc : TypeId × Value → H) :
    ReturnsInHanded {} Try.checked os 8 .any (Rows.fpuTellsSpec.pre6 enc Try.prog Try.f8 Rows.fpuTellsRow.domain false) (Rows.fpuTellsSpec.post enc Try.prog Try.f8 false true false false) := by
  refine returnsInHanded_of_change_sized (C := Try.checked) own started (by kernel_rfl) Try.func8
    (ChangeSpec.witness6 (enc := enc) (C := Try.checked) false ⟨#[], #[.agg #[.int .u32 0, .int .u32 0, .int .u32 0, .int .u32 0, .int .u32 0, .int .u32 0, .int .u32 0, .int .u32 0, .int .u32 0, .bool false, .bool false, .bool false, .bool false, .bool false, .bool false, .int .u64 0, .int .u64 0, .int .u64 0, .int .u64 0, .int .u64 0, .int .u64 0, .int .u64 0, .int .u64 0], .agg #[.int .u32 0, .int .u32 0, .int .u32 0, .int .u32 0, .int .u32 0, .int .u32 0, .int .u32 0, .int .u32 0], .agg #[.int .u64 0, .int .u64 0, .int .u64 0, .int .u64 0, .int .u64 0, .int .u64 0, .int .u64 0, .int .u64 0], .int .u8 0, .int .u8 0, .int .u8 0, .int .u8 0, .int .u32 0, .int .u32 0], []⟩ 8 (by kernel_rfl) (by kernel_rfl) (by kernel_rfl) (by kernel_rfl)) ?_
  intro W base args ds gs before hval0 hW hcnd hsz0 _
  have hval : ∀ (j : Nat) t v, Try.f8.params[j]? = some t → args[j]? = some v → Value.okWide Try.prog W .any base t v := hval0
  have hW' := hW
  obtain ⟨p, q, hA0, hV, rfl, hfz, hnd⟩ := hW
  have hA : DataW.TrodAll enc Try.prog W 0 (fun _ => true) true Try.f8.params.toList args.toList ds p := hA0
  rw [Try.params8] at hA hval
  obtain ⟨v0, vs0, d0, ds0, p0, q0, hargs, rfl, rfl, h0, r0⟩ := trodAll_cons hA
  obtain ⟨v1, vs1, d1, ds1, p1, q1, rfl, rfl, rfl, h1, r1⟩ := trodAll_cons r0
  obtain ⟨v2, vs2, d2, ds2, p2, q2, rfl, rfl, rfl, h2, r2⟩ := trodAll_cons r1
  obtain ⟨v3, vs3, d3, ds3, p3, q3, rfl, rfl, rfl, h3, r3⟩ := trodAll_cons r2
  obtain ⟨v4, vs4, d4, ds4, p4, q4, rfl, rfl, rfl, h4, r4⟩ := trodAll_cons r3
  obtain ⟨v5, vs5, d5, ds5, p5, q5, rfl, rfl, rfl, h5, r5⟩ := trodAll_cons r4
  obtain ⟨v6, vs6, d6, ds6, p6, q6, rfl, rfl, rfl, h6, r6⟩ := trodAll_cons r5
  obtain ⟨v7, vs7, d7, ds7, p7, q7, rfl, rfl, rfl, h7, r7⟩ := trodAll_cons r6
  obtain ⟨v8, vs8, d8, ds8, p8, q8, rfl, rfl, rfl, h8, r8⟩ := trodAll_cons r7
  obtain ⟨rfl, rfl, rfl⟩ := trodAll_nil r8
  obtain rfl : args = #[v0, v1, v2, v3, v4, v5, v6, v7, v8] := by cases args; simp_all
  obtain ⟨rfl, rfl⟩ := trodVars_none hV
  have hv0 := hval 0 43 v0 rfl rfl
  have ho0 := h0
  obtain ⟨rfl, cs0, hf0, hc0⟩ := open_plain (d := 9) (t := 43) (ks := [.int .u32, .int .u32, .int .u32, .int .u32, .int .u32, .int .u32, .int .u32, .int .u32, .int .u32, .bool, .bool, .bool, .bool, .bool, .bool, .int .u64, .int .u64, .int .u64, .int .u64, .int .u64, .int .u64, .int .u64, .int .u64]) (by kernel_rfl) hv0 h0
  obtain rfl := agg_of_cells (by kernel_rfl) hv0 hc0
  simp only [fitsC] at hf0
  obtain ⟨a0_0, _, rfl, w0_0, ⟨a0_1, _, rfl, w0_1, ⟨a0_2, _, rfl, w0_2, ⟨a0_3, _, rfl, w0_3, ⟨a0_4, _, rfl, w0_4, ⟨a0_5, _, rfl, w0_5, ⟨a0_6, _, rfl, w0_6, ⟨a0_7, _, rfl, w0_7, ⟨a0_8, _, rfl, w0_8, ⟨a0_9, _, rfl, ⟨a0_10, _, rfl, ⟨a0_11, _, rfl, ⟨a0_12, _, rfl, ⟨a0_13, _, rfl, ⟨a0_14, _, rfl, ⟨a0_15, _, rfl, w0_15, ⟨a0_16, _, rfl, w0_16, ⟨a0_17, _, rfl, w0_17, ⟨a0_18, _, rfl, w0_18, ⟨a0_19, _, rfl, w0_19, ⟨a0_20, _, rfl, w0_20, ⟨a0_21, _, rfl, w0_21, ⟨a0_22, _, rfl, w0_22, rfl⟩⟩⟩⟩⟩⟩⟩⟩⟩⟩⟩⟩⟩⟩⟩⟩⟩⟩⟩⟩⟩⟩⟩ := hf0
  have hv1 := hval 1 37 v1 rfl rfl
  have ho1 := h1
  obtain ⟨rfl, cs1, hf1, hc1⟩ := open_plain (d := 9) (t := 37) (ks := [.int .u32, .int .u32, .int .u32, .int .u32, .int .u32, .int .u32, .int .u32, .int .u32]) (by kernel_rfl) hv1 h1
  obtain rfl := agg_of_cells (by kernel_rfl) hv1 hc1
  simp only [fitsC] at hf1
  obtain ⟨a1_0, _, rfl, w1_0, ⟨a1_1, _, rfl, w1_1, ⟨a1_2, _, rfl, w1_2, ⟨a1_3, _, rfl, w1_3, ⟨a1_4, _, rfl, w1_4, ⟨a1_5, _, rfl, w1_5, ⟨a1_6, _, rfl, w1_6, ⟨a1_7, _, rfl, w1_7, rfl⟩⟩⟩⟩⟩⟩⟩⟩ := hf1
  have hv2 := hval 2 41 v2 rfl rfl
  have ho2 := h2
  obtain ⟨rfl, cs2, hf2, hc2⟩ := open_plain (d := 9) (t := 41) (ks := [.int .u64, .int .u64, .int .u64, .int .u64, .int .u64, .int .u64, .int .u64, .int .u64]) (by kernel_rfl) hv2 h2
  obtain rfl := agg_of_cells (by kernel_rfl) hv2 hc2
  simp only [fitsC] at hf2
  obtain ⟨a2_0, _, rfl, w2_0, ⟨a2_1, _, rfl, w2_1, ⟨a2_2, _, rfl, w2_2, ⟨a2_3, _, rfl, w2_3, ⟨a2_4, _, rfl, w2_4, ⟨a2_5, _, rfl, w2_5, ⟨a2_6, _, rfl, w2_6, ⟨a2_7, _, rfl, w2_7, rfl⟩⟩⟩⟩⟩⟩⟩⟩ := hf2
  obtain ⟨a3, rfl, rfl, rfl, w3⟩ := open_int Try.underlying5 (hval 3 5 v3 rfl rfl) h3
  obtain ⟨a4, rfl, rfl, rfl, w4⟩ := open_int Try.underlying5 (hval 4 5 v4 rfl rfl) h4
  obtain ⟨a5, rfl, rfl, rfl, w5⟩ := open_int Try.underlying5 (hval 5 5 v5 rfl rfl) h5
  obtain ⟨a6, rfl, rfl, rfl, w6⟩ := open_int Try.underlying5 (hval 6 5 v6 rfl rfl) h6
  obtain ⟨a7, rfl, rfl, rfl, w7⟩ := open_int Try.underlying22 (hval 7 22 v7 rfl rfl) h7
  obtain ⟨a8, rfl, rfl, rfl, w8⟩ := open_int Try.underlying22 (hval 8 22 v8 rfl rfl) h8
  obtain ⟨Γ, hΓ, hp⟩ := pure a0_0 a0_1 a0_2 a0_3 a0_4 a0_5 a0_6 a0_7 a0_8 a0_9 a0_10 a0_11 a0_12 a0_13 a0_14 a0_15 a0_16 a0_17 a0_18 a0_19 a0_20 a0_21 a0_22 a1_0 a1_1 a1_2 a1_3 a1_4 a1_5 a1_6 a1_7 a2_0 a2_1 a2_2 a2_3 a2_4 a2_5 a2_6 a2_7 a3 a4 a5 a6 a7 a8 ⟨w0_0, w0_1, w0_2, w0_3, w0_4, w0_5, w0_6, w0_7, w0_8, w0_15, w0_16, w0_17, w0_18, w0_19, w0_20, w0_21, w0_22, w1_0, w1_1, w1_2, w1_3, w1_4, w1_5, w1_6, w1_7, w2_0, w2_1, w2_2, w2_3, w2_4, w2_5, w2_6, w2_7, w3, w4, w5, w6, w7, w8⟩
  refine (law_calls hΓ hp (l := [.agg #[.int .u32 a0_0, .int .u32 a0_1, .int .u32 a0_2, .int .u32 a0_3, .int .u32 a0_4, .int .u32 a0_5, .int .u32 a0_6, .int .u32 a0_7, .int .u32 a0_8, .bool a0_9, .bool a0_10, .bool a0_11, .bool a0_12, .bool a0_13, .bool a0_14, .int .u64 a0_15, .int .u64 a0_16, .int .u64 a0_17, .int .u64 a0_18, .int .u64 a0_19, .int .u64 a0_20, .int .u64 a0_21, .int .u64 a0_22], .agg #[.int .u32 a1_0, .int .u32 a1_1, .int .u32 a1_2, .int .u32 a1_3, .int .u32 a1_4, .int .u32 a1_5, .int .u32 a1_6, .int .u32 a1_7], .agg #[.int .u64 a2_0, .int .u64 a2_1, .int .u64 a2_2, .int .u64 a2_3, .int .u64 a2_4, .int .u64 a2_5, .int .u64 a2_6, .int .u64 a2_7], .int .u8 a3, .int .u8 a4, .int .u8 a5, .int .u8 a6, .int .u32 a7, .int .u32 a8]) rfl (by kernel_rfl) W).mono fun e W' ⟨he, bel⟩ => ?_
  subst he
  exact ⟨_, rfl, _, _, _, [], _, [], hW', trodAll_mk1 (shut_bool Try.underlying4 _), (trodAll_cons_mk (Below.trod laid (by kernel_rfl) (of_decide_eq_true (by kernel_rfl)) ho0 bel (by simp)) (trodAll_cons_mk (Below.trod laid (by kernel_rfl) (of_decide_eq_true (by kernel_rfl)) ho1 bel (by simp)) (trodAll_cons_mk (Below.trod laid (by kernel_rfl) (of_decide_eq_true (by kernel_rfl)) ho2 bel (by simp)) (trodAll_cons_mk (shut_int Try.underlying5 w3) (trodAll_cons_mk (shut_int Try.underlying5 w4) (trodAll_cons_mk (shut_int Try.underlying5 w5) (trodAll_cons_mk (shut_int Try.underlying5 w6) (trodAll_cons_mk (shut_int Try.underlying22 w7) (trodAll_cons_mk (shut_int Try.underlying22 w8) trodAll_mk0))))))))), rfl, bel.frame _, fun h => by cases h⟩
theorem over : Rows.fpuTellsRow.holds Try.pinned (OpenSpec.ofChange Rows.fpuTellsSpec) :=
  OpenClaim.holds_of_wide 8 Try.f8 rfl rfl rfl rfl rfl rfl rfl ⟨rfl, rfl, rfl, rfl, rfl⟩ rfl rfl rfl rfl rfl (by kernel_rfl) Try.func8 (by kernel_rfl)
    (of_decide_eq_true (by kernel_rfl)) (by unfold Func.isWrapper; rw [if_neg (by decide +kernel)]; exact ⟨rfl, rfl⟩)
    (fun os started H enc _ => lifted os started H enc)
end Go.Proofs.Ytpgdpoloipifeaa.fpuTells
namespace Go.Proofs.Ytpgdpoloipifeaa
theorem fpuTells_holds : Rows.FpuTellsSaid := fpuTells.over
#print axioms fpuTells_holds
end Go.Proofs.Ytpgdpoloipifeaa
