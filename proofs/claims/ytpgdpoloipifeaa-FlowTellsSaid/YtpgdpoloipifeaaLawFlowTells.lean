/- FlowTells holds of the given program. -/
import Derived.Test.YtpgdpoloipifeaaRows
import Derived.Test.YtpgdpoloipifeaaFlowTellsWA
import Derived.Test.YtpgdpoloipifeaaFlowTellsWB
import Derived.Test.YtpgdpoloipifeaaFlowTellsWC
namespace Go.Proofs.Ytpgdpoloipifeaa.flowTells
open Go.ChangeShapes Go.WideShapes Go.ChangeAt Go.RowKit Go.Ev
open Go.ChangeMaps (open_string shut_string)
set_option linter.unusedVariables false
theorem mods12 {a : Int} (w : (Lit.int .u8 a).wf = true) : (Int.tmod a 12 = 0 ∨ Int.tmod a 12 = 1 ∨ Int.tmod a 12 = 2 ∨ Int.tmod a 12 = 3 ∨ Int.tmod a 12 = 4) ∨ (Int.tmod a 12 = 8 ∨ Int.tmod a 12 = 9) ∨ (Int.tmod a 12 = 5 ∨ Int.tmod a 12 = 6 ∨ Int.tmod a 12 = 7 ∨ Int.tmod a 12 = 10 ∨ Int.tmod a 12 = 11) := by
  have b := wf_u8 w
  rw [Int.tmod_eq_emod_of_nonneg b.1]; omega
theorem own : ownKnob Try.prog.godebug = none := by kernel_rfl
theorem laid : laidOutB Try.prog = true := by kernel_rfl
set_option maxRecDepth 100000 in
theorem lifted (os : Os) (started : os.Started) (H : Type) (enc : TypeId × Value → H) :
    ReturnsInHanded {} Try.checked os 5 .any (Rows.flowTellsSpec.pre6 enc Try.prog Try.f5 Rows.flowTellsRow.domain false) (Rows.flowTellsSpec.post enc Try.prog Try.f5 false true false false) := by
  refine returnsInHanded_of_change_sized (C := Try.checked) own started (by kernel_rfl) Try.func5
    (ChangeSpec.witness6 (enc := enc) (C := Try.checked) false ⟨#[], #[.agg #[.int .u32 0, .int .u32 0, .int .u32 0, .int .u32 0, .int .u32 0, .int .u32 0, .int .u32 0, .int .u32 0, .int .u32 0, .bool false, .bool false, .bool false, .bool false, .bool false, .bool false, .int .u64 0, .int .u64 0, .int .u64 0, .int .u64 0, .int .u64 0, .int .u64 0, .int .u64 0, .int .u64 0], .agg #[.int .u32 0, .int .u32 0, .int .u32 0, .int .u32 0, .int .u32 0, .int .u32 0, .int .u32 0, .int .u32 0], .int .u8 0, .int .u8 0, .int .u8 0, .int .u8 0, .int .u32 0, .int .u32 0, .int .u32 0], []⟩ 8 (by kernel_rfl) (by kernel_rfl) (by kernel_rfl) (by kernel_rfl)) ?_
  intro W base args ds gs before hval0 hW hcnd hsz0 _
  have hval : ∀ (j : Nat) t v, Try.f5.params[j]? = some t → args[j]? = some v → Value.okWide Try.prog W .any base t v := hval0
  have hW' := hW
  obtain ⟨p, q, hA0, hV, rfl, hfz, hnd⟩ := hW
  have hA : DataW.TrodAll enc Try.prog W 0 (fun _ => true) true Try.f5.params.toList args.toList ds p := hA0
  rw [Try.params5] at hA hval
  obtain ⟨v0, vs0, d0, ds0, p0, q0, hargs, rfl, rfl, h0, r0⟩ := trodAll_cons hA
  obtain ⟨v1, vs1, d1, ds1, p1, q1, rfl, rfl, rfl, h1, r1⟩ := trodAll_cons r0
  obtain ⟨v2, vs2, d2, ds2, p2, q2, rfl, rfl, rfl, h2, r2⟩ := trodAll_cons r1
  obtain ⟨v3, vs3, d3, ds3, p3, q3, rfl, rfl, rfl, h3, r3⟩ := trodAll_cons r2
  obtain ⟨v4, vs4, d4, ds4, p4, q4, rfl, rfl, rfl, h4, r4⟩ := trodAll_cons r3
  obtain ⟨v5, vs5, d5, ds5, p5, q5, rfl, rfl, rfl, h5, r5⟩ := trodAll_cons r4
  obtain ⟨v6, vs6, d6, ds6, p6, q6, rfl, rfl, rfl, h6, r6⟩ := trodAll_cons r5
  obtain ⟨v7, vs7, d7, ds7, p7, q7, rfl, rfl, rfl, h7, r7⟩ := trodAll_cons r6
  obtain ⟨v8, vs8, d8, ds8, p8, q8, rfl, rfl, rfl, h8, r8⟩ := trodAll_cons r7
  obtain ⟨rfl, rfl, rfl⟩ := trodAll_nil r8
  obtain rfl : args = #[v0, v1, v2, v3, v4, v5, v6, v7, v8] := by cases args; simp_all
  obtain ⟨rfl, rfl⟩ := trodVars_none hV
  have hv0 := hval 0 43 v0 rfl rfl
  have ho0 := h0
  obtain ⟨rfl, cs0, hf0, hc0⟩ := open_plain (d := 9) (t := 43) (ks := [.int .u32, .int .u32, .int .u32, .int .u32, .int .u32, .int .u32, .int .u32, .int .u32, .int .u32, .bool, .bool, .bool, .bool, .bool, .bool, .int .u64, .int .u64, .int .u64, .int .u64, .int .u64, .int .u64, .int .u64, .int .u64]) (by kernel_rfl) hv0 h0
  obtain rfl := agg_of_cells (by kernel_rfl) hv0 hc0
  simp only [fitsC] at hf0
  obtain ⟨a0_0, _, rfl, w0_0, ⟨a0_1, _, rfl, w0_1, ⟨a0_2, _, rfl, w0_2, ⟨a0_3, _, rfl, w0_3, ⟨a0_4, _, rfl, w0_4, ⟨a0_5, _, rfl, w0_5, ⟨a0_6, _, rfl, w0_6, ⟨a0_7, _, rfl, w0_7, ⟨a0_8, _, rfl, w0_8, ⟨a0_9, _, rfl, ⟨a0_10, _, rfl, ⟨a0_11, _, rfl, ⟨a0_12, _, rfl, ⟨a0_13, _, rfl, ⟨a0_14, _, rfl, ⟨a0_15, _, rfl, w0_15, ⟨a0_16, _, rfl, w0_16, ⟨a0_17, _, rfl, w0_17, ⟨a0_18, _, rfl, w0_18, ⟨a0_19, _, rfl, w0_19, ⟨a0_20, _, rfl, w0_20, ⟨a0_21, _, rfl, w0_21, ⟨a0_22, _, rfl, w0_22, rfl⟩⟩⟩⟩⟩⟩⟩⟩⟩⟩⟩⟩⟩⟩⟩⟩⟩⟩⟩⟩⟩⟩⟩ := hf0
  have hv1 := hval 1 37 v1 rfl rfl
  have ho1 := h1
  obtain ⟨rfl, cs1, hf1, hc1⟩ := open_plain (d := 9) (t := 37) (ks := [.int .u32, .int .u32, .int .u32, .int .u32, .int .u32, .int .u32, .int .u32, .int .u32]) (by kernel_rfl) hv1 h1
  obtain rfl := agg_of_cells (by kernel_rfl) hv1 hc1
  simp only [fitsC] at hf1
  obtain ⟨a1_0, _, rfl, w1_0, ⟨a1_1, _, rfl, w1_1, ⟨a1_2, _, rfl, w1_2, ⟨a1_3, _, rfl, w1_3, ⟨a1_4, _, rfl, w1_4, ⟨a1_5, _, rfl, w1_5, ⟨a1_6, _, rfl, w1_6, ⟨a1_7, _, rfl, w1_7, rfl⟩⟩⟩⟩⟩⟩⟩⟩ := hf1
  obtain ⟨a2, rfl, rfl, rfl, w2⟩ := open_int Try.underlying5 (hval 2 5 v2 rfl rfl) h2
  obtain ⟨a3, rfl, rfl, rfl, w3⟩ := open_int Try.underlying5 (hval 3 5 v3 rfl rfl) h3
  obtain ⟨a4, rfl, rfl, rfl, w4⟩ := open_int Try.underlying5 (hval 4 5 v4 rfl rfl) h4
  obtain ⟨a5, rfl, rfl, rfl, w5⟩ := open_int Try.underlying5 (hval 5 5 v5 rfl rfl) h5
  obtain ⟨a6, rfl, rfl, rfl, w6⟩ := open_int Try.underlying22 (hval 6 22 v6 rfl rfl) h6
  obtain ⟨a7, rfl, rfl, rfl, w7⟩ := open_int Try.underlying22 (hval 7 22 v7 rfl rfl) h7
  obtain ⟨a8, rfl, rfl, rfl, w8⟩ := open_int Try.underlying22 (hval 8 22 v8 rfl rfl) h8
  rcases (mods12 w4) with hw | hw | hw
  · refine (law_calls ((ΓFs_ok.add (by kernel_rfl) (orSpec_ok of70S_ok (orSpec_ok of74S_ok (orSpec_ok of7fS_ok (orSpec_ok ofe8S_ok ofe9S_ok)))))) (A.pure a0_0 a0_1 a0_2 a0_3 a0_4 a0_5 a0_6 a0_7 a0_8 a0_9 a0_10 a0_11 a0_12 a0_13 a0_14 a0_15 a0_16 a0_17 a0_18 a0_19 a0_20 a0_21 a0_22 a1_0 a1_1 a1_2 a1_3 a1_4 a1_5 a1_6 a1_7 a2 a3 a4 a5 a6 a7 a8 w0_0 w0_1 w0_2 w0_3 w0_4 w0_5 w0_6 w0_7 w0_8 w0_15 w0_16 w0_17 w0_18 w0_19 w0_20 w0_21 w0_22 w1_0 w1_1 w1_2 w1_3 w1_4 w1_5 w1_6 w1_7 w2 w3 w4 w5 w6 w7 w8 hw) (l := [.agg #[.int .u32 a0_0, .int .u32 a0_1, .int .u32 a0_2, .int .u32 a0_3, .int .u32 a0_4, .int .u32 a0_5, .int .u32 a0_6, .int .u32 a0_7, .int .u32 a0_8, .bool a0_9, .bool a0_10, .bool a0_11, .bool a0_12, .bool a0_13, .bool a0_14, .int .u64 a0_15, .int .u64 a0_16, .int .u64 a0_17, .int .u64 a0_18, .int .u64 a0_19, .int .u64 a0_20, .int .u64 a0_21, .int .u64 a0_22], .agg #[.int .u32 a1_0, .int .u32 a1_1, .int .u32 a1_2, .int .u32 a1_3, .int .u32 a1_4, .int .u32 a1_5, .int .u32 a1_6, .int .u32 a1_7], .int .u8 a2, .int .u8 a3, .int .u8 a4, .int .u8 a5, .int .u32 a6, .int .u32 a7, .int .u32 a8]) rfl (by kernel_rfl) W).mono fun e W' ⟨he, bel⟩ => ?_
    subst he
    exact ⟨_, rfl, _, _, _, [], _, [], hW', trodAll_mk1 (shut_bool Try.underlying4 _), (trodAll_cons_mk (Below.trod laid (by kernel_rfl) (of_decide_eq_true (by kernel_rfl)) ho0 bel (by simp)) (trodAll_cons_mk (Below.trod laid (by kernel_rfl) (of_decide_eq_true (by kernel_rfl)) ho1 bel (by simp)) (trodAll_cons_mk (shut_int Try.underlying5 w2) (trodAll_cons_mk (shut_int Try.underlying5 w3) (trodAll_cons_mk (shut_int Try.underlying5 w4) (trodAll_cons_mk (shut_int Try.underlying5 w5) (trodAll_cons_mk (shut_int Try.underlying22 w6) (trodAll_cons_mk (shut_int Try.underlying22 w7) (trodAll_cons_mk (shut_int Try.underlying22 w8) trodAll_mk0))))))))), rfl, bel.frame _, fun h => by cases h⟩
  · refine (law_calls ((ΓFs_ok.add (by kernel_rfl) offfS_ok)) (B.pure a0_0 a0_1 a0_2 a0_3 a0_4 a0_5 a0_6 a0_7 a0_8 a0_9 a0_10 a0_11 a0_12 a0_13 a0_14 a0_15 a0_16 a0_17 a0_18 a0_19 a0_20 a0_21 a0_22 a1_0 a1_1 a1_2 a1_3 a1_4 a1_5 a1_6 a1_7 a2 a3 a4 a5 a6 a7 a8 w0_0 w0_1 w0_2 w0_3 w0_4 w0_5 w0_6 w0_7 w0_8 w0_15 w0_16 w0_17 w0_18 w0_19 w0_20 w0_21 w0_22 w1_0 w1_1 w1_2 w1_3 w1_4 w1_5 w1_6 w1_7 w2 w3 w4 w5 w6 w7 w8 hw) (l := [.agg #[.int .u32 a0_0, .int .u32 a0_1, .int .u32 a0_2, .int .u32 a0_3, .int .u32 a0_4, .int .u32 a0_5, .int .u32 a0_6, .int .u32 a0_7, .int .u32 a0_8, .bool a0_9, .bool a0_10, .bool a0_11, .bool a0_12, .bool a0_13, .bool a0_14, .int .u64 a0_15, .int .u64 a0_16, .int .u64 a0_17, .int .u64 a0_18, .int .u64 a0_19, .int .u64 a0_20, .int .u64 a0_21, .int .u64 a0_22], .agg #[.int .u32 a1_0, .int .u32 a1_1, .int .u32 a1_2, .int .u32 a1_3, .int .u32 a1_4, .int .u32 a1_5, .int .u32 a1_6, .int .u32 a1_7], .int .u8 a2, .int .u8 a3, .int .u8 a4, .int .u8 a5, .int .u32 a6, .int .u32 a7, .int .u32 a8]) rfl (by kernel_rfl) W).mono fun e W' ⟨he, bel⟩ => ?_
    subst he
    exact ⟨_, rfl, _, _, _, [], _, [], hW', trodAll_mk1 (shut_bool Try.underlying4 _), (trodAll_cons_mk (Below.trod laid (by kernel_rfl) (of_decide_eq_true (by kernel_rfl)) ho0 bel (by simp)) (trodAll_cons_mk (Below.trod laid (by kernel_rfl) (of_decide_eq_true (by kernel_rfl)) ho1 bel (by simp)) (trodAll_cons_mk (shut_int Try.underlying5 w2) (trodAll_cons_mk (shut_int Try.underlying5 w3) (trodAll_cons_mk (shut_int Try.underlying5 w4) (trodAll_cons_mk (shut_int Try.underlying5 w5) (trodAll_cons_mk (shut_int Try.underlying22 w6) (trodAll_cons_mk (shut_int Try.underlying22 w7) (trodAll_cons_mk (shut_int Try.underlying22 w8) trodAll_mk0))))))))), rfl, bel.frame _, fun h => by cases h⟩
  · refine (law_calls ((ΓFs_ok.add (by kernel_rfl) (orSpec_ok ofebS_ok (orSpec_ok ofc2S_ok (orSpec_ok ofc3S_ok (orSpec_ok of0f82S_ok of0f8dS_ok)))))) (C.pure a0_0 a0_1 a0_2 a0_3 a0_4 a0_5 a0_6 a0_7 a0_8 a0_9 a0_10 a0_11 a0_12 a0_13 a0_14 a0_15 a0_16 a0_17 a0_18 a0_19 a0_20 a0_21 a0_22 a1_0 a1_1 a1_2 a1_3 a1_4 a1_5 a1_6 a1_7 a2 a3 a4 a5 a6 a7 a8 w0_0 w0_1 w0_2 w0_3 w0_4 w0_5 w0_6 w0_7 w0_8 w0_15 w0_16 w0_17 w0_18 w0_19 w0_20 w0_21 w0_22 w1_0 w1_1 w1_2 w1_3 w1_4 w1_5 w1_6 w1_7 w2 w3 w4 w5 w6 w7 w8 hw) (l := [.agg #[.int .u32 a0_0, .int .u32 a0_1, .int .u32 a0_2, .int .u32 a0_3, .int .u32 a0_4, .int .u32 a0_5, .int .u32 a0_6, .int .u32 a0_7, .int .u32 a0_8, .bool a0_9, .bool a0_10, .bool a0_11, .bool a0_12, .bool a0_13, .bool a0_14, .int .u64 a0_15, .int .u64 a0_16, .int .u64 a0_17, .int .u64 a0_18, .int .u64 a0_19, .int .u64 a0_20, .int .u64 a0_21, .int .u64 a0_22], .agg #[.int .u32 a1_0, .int .u32 a1_1, .int .u32 a1_2, .int .u32 a1_3, .int .u32 a1_4, .int .u32 a1_5, .int .u32 a1_6, .int .u32 a1_7], .int .u8 a2, .int .u8 a3, .int .u8 a4, .int .u8 a5, .int .u32 a6, .int .u32 a7, .int .u32 a8]) rfl (by kernel_rfl) W).mono fun e W' ⟨he, bel⟩ => ?_
    subst he
    exact ⟨_, rfl, _, _, _, [], _, [], hW', trodAll_mk1 (shut_bool Try.underlying4 _), (trodAll_cons_mk (Below.trod laid (by kernel_rfl) (of_decide_eq_true (by kernel_rfl)) ho0 bel (by simp)) (trodAll_cons_mk (Below.trod laid (by kernel_rfl) (of_decide_eq_true (by kernel_rfl)) ho1 bel (by simp)) (trodAll_cons_mk (shut_int Try.underlying5 w2) (trodAll_cons_mk (shut_int Try.underlying5 w3) (trodAll_cons_mk (shut_int Try.underlying5 w4) (trodAll_cons_mk (shut_int Try.underlying5 w5) (trodAll_cons_mk (shut_int Try.underlying22 w6) (trodAll_cons_mk (shut_int Try.underlying22 w7) (trodAll_cons_mk (shut_int Try.underlying22 w8) trodAll_mk0))))))))), rfl, bel.frame _, fun h => by cases h⟩
theorem over : Rows.flowTellsRow.holds Try.pinned (OpenSpec.ofChange Rows.flowTellsSpec) :=
  OpenClaim.holds_of_wide 5 Try.f5 rfl rfl rfl rfl rfl rfl rfl ⟨rfl, rfl, rfl, rfl, rfl⟩ rfl rfl rfl rfl rfl (by kernel_rfl) Try.func5 (by kernel_rfl)
    (of_decide_eq_true (by kernel_rfl)) (by unfold Func.isWrapper; rw [if_neg (by decide +kernel)]; exact ⟨rfl, rfl⟩)
    (fun os started H enc _ => lifted os started H enc)
end Go.Proofs.Ytpgdpoloipifeaa.flowTells
namespace Go.Proofs.Ytpgdpoloipifeaa
theorem flowTells_holds : Rows.FlowTellsSaid := flowTells.over
#print axioms flowTells_holds
end Go.Proofs.Ytpgdpoloipifeaa
