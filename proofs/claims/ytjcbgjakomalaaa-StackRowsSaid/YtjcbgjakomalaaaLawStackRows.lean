/- StackRows holds of the given program. -/
import Derived.Test.YtjcbgjakomalaaaRows
import Derived.Test.YtjcbgjakomalaaaPureStackRows
namespace Go.Proofs.Ytjcbgjakomalaaa.stackRows
open Go.ChangeShapes Go.WideShapes Go.ChangeAt Go.RowKit Go.Ev
set_option linter.unusedVariables false
theorem own : ownKnob Try.prog.godebug = none := by kernel_rfl
theorem laid : laidOutB Try.prog = true := by kernel_rfl
theorem cellsE : Try.prog.cellsOf 22 = 1 := by kernel_rfl
set_option maxRecDepth 100000 in
theorem lifted (os : Os) (started : os.Started) (H : Type) (enc : TypeId × Value → H) :
    ReturnsInHanded {} Try.checked os 4 .any (Rows.stackRowsSpec.pre6 enc Try.prog Try.f4 Rows.stackRowsRow.domain false) (Rows.stackRowsSpec.post enc Try.prog Try.f4 false true false false) := by
  refine returnsInHanded_of_change_sized (C := Try.checked) own started (by kernel_rfl) Try.func4
    (ChangeSpec.witness6 (enc := enc) (C := Try.checked) false ⟨#[], #[.slice none 0 0, .int .u8 0], []⟩ 8 (by kernel_rfl) (by kernel_rfl) (by kernel_rfl) (by kernel_rfl)) ?_
  intro W base args ds gs before hval0 hW hcnd hsz0 _
  have hval : ∀ (j : Nat) t v, Try.f4.params[j]? = some t → args[j]? = some v → Value.okWide Try.prog W .any base t v := hval0
  have hW' := hW
  obtain ⟨p, q, hA0, hV, rfl, hfz, hnd⟩ := hW
  have hA : DataW.TrodAll enc Try.prog W 0 (fun _ => true) true Try.f4.params.toList args.toList ds p := hA0
  rw [Try.params4] at hA hval
  obtain ⟨v0, vs0, d0, ds0, p0, q0, hargs, rfl, rfl, h0, r0⟩ := trodAll_cons hA
  obtain ⟨v1, vs1, d1, ds1, p1, q1, rfl, rfl, rfl, h1, r1⟩ := trodAll_cons r0
  obtain ⟨rfl, rfl, rfl⟩ := trodAll_nil r1
  obtain rfl : args = #[v0, v1] := by cases args; simp_all
  obtain ⟨rfl, rfl⟩ := trodVars_none hV
  obtain ⟨a1, rfl, rfl, rfl, w1⟩ := open_int Try.underlying5 (hval 1 5 v1 rfl rfl) h1
  obtain ⟨a0, len, cap, rfl⟩ := okWide_slice Try.underlying27 (hval 0 27 v0 rfl rfl)
  have h0k := h0
  obtain ⟨fuel, hf⟩ := h0
  simp only [List.append_nil] at hW'
  have hlt : ∀ x ∈ p0, x.block < W.heap.size := fun x hx => by simpa using hW'.lt x hx
  have hback : ∀ (W' : World), Below W.heap.size W W' → DataW.Trod enc Try.prog W' 0 (fun b => decide (b < W.heap.size)) true 27 (.slice a0 len cap) d0 p0 :=
    fun W' hn => Below.trod laid (by kernel_rfl) (of_decide_eq_true (by kernel_rfl)) h0k hn hlt
  have key : Calls Try.prog 4 #[.slice a0 len cap, .int .u8 a1] W fun e W' => e = .returned (.bool true) ∧ Below W.heap.size W W' := by
    rcases open_ints Try.underlying27 Try.underlying22 cellsE hf with ⟨hcs, hx⟩ | ⟨a, len', cap', zs, hcs, _, hl, hm, hzl, hx, hcell, hwz⟩
    · simp [Value.cells] at hcs
      obtain ⟨rfl, rfl, rfl⟩ := hcs
      exact law_calls ΓSr0_ok (pure0 none a1) (l := [.slice none 0 0, .int .u8 a1]) rfl (by kernel_rfl) W
    · simp [Value.cells] at hcs
      obtain ⟨rfl, rfl, rfl⟩ := hcs
      simp only [if_true] at hzl
      by_cases hc0 : cap = 0
      · subst hc0
        obtain rfl : len = 0 := by omega
        exact law_calls ΓSr0_ok (pure0 (some a) a1) (l := [.slice (some a) 0 0, .int .u8 a1]) rfl (by kernel_rfl) W
      · obtain ⟨b, off, spot⟩ := a
        have hspot : spot = none := by simpa [Addr.add] using World.cell?_spot (hcell 0 (by omega))
        subst hspot
        have cj : ∀ j, j < zs.length → W.cell? ⟨b, off + j, none⟩ = some (.int .u32 (zs.getD j 0)) := fun j hj => by rw [← add_plain]; exact hcell j hj
        have hb : b < W.heap.size := by
          by_cases hb : b < W.heap.size
          · exact hb
          · have h2 := cj 0 (by omega)
            have h3 : W.heap[b]? = none := Array.getElem?_eq_none (by omega)
            simp [World.cell?, h3] at h2
        refine law_callsR ΓSr_ok (pure1 off len cap (fun i => .int .u32 (zs.getD (i - off) 0)) a1 w1 fun i hi => ⟨_, rfl, hwz _ ?_⟩) (g := b) (l := [.slice (some ⟨b, off, none⟩) len cap, .int .u8 a1]) rfl (by kernel_rfl) W hb fun i h1 h2 => ?_
        · rw [Nat.add_sub_cancel_left, List.getD_eq_getElem?_getD, List.getElem?_eq_getElem (by omega)]
          exact List.getElem_mem _
        · have := cj (i - off) (by omega)
          rwa [show off + (i - off) = i by omega] at this
  refine key.mono fun e W' ⟨he, bel⟩ => ?_
  subst he
  exact ⟨_, rfl, _, _, _, [], _, [], hW', trodAll_mk1 (shut_bool Try.underlying4 _), (trodAll_cons_mk (hback _ bel) (trodAll_cons_mk (shut_int Try.underlying5 w1) trodAll_mk0)), rfl, bel.frame _, fun h => by cases h⟩
theorem over : Rows.stackRowsRow.holds Try.pinned (OpenSpec.ofChange Rows.stackRowsSpec) :=
  OpenClaim.holds_of_wide 4 Try.f4 rfl rfl rfl rfl rfl rfl rfl ⟨rfl, rfl, rfl, rfl, rfl⟩ rfl rfl rfl rfl rfl (by kernel_rfl) Try.func4 (by kernel_rfl)
    (of_decide_eq_true (by kernel_rfl)) (by unfold Func.isWrapper; rw [if_neg (by decide +kernel)]; exact ⟨rfl, rfl⟩)
    (fun os started H enc _ => lifted os started H enc)
end Go.Proofs.Ytjcbgjakomalaaa.stackRows
namespace Go.Proofs.Ytjcbgjakomalaaa
theorem stackRows_holds : Rows.StackRowsSaid := stackRows.over
#print axioms stackRows_holds
end Go.Proofs.Ytjcbgjakomalaaa
