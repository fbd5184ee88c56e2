/- Contracts: registers. -/
import Derived.Test.YtpgdpoloipifeaaEvV
import Derived.Test.YtpgdpoloipifeaaCRg2f
namespace Go.Proofs.Ytpgdpoloipifeaa
open Go Go.Ev
set_option linter.unusedVariables false
set_option linter.unusedSimpArgs false
set_option maxRecDepth 100000
abbrev cCRg3z0 (s_0 s_1 s_2 s_3 s_4 s_5 s_6 s_7 s_8 : Int) (s_9 s_10 s_11 s_12 s_13 s_14 : Bool) (s_15 s_16 s_17 s_18 s_19 s_20 s_21 s_22 : Int) : List Sv := [vw s_0, vw s_1, vw s_2, vw s_3, vw s_4, vw s_5, vw s_6, vw s_7, vw s_8, vb s_9, vb s_10, vb s_11, vb s_12, vb s_13, vb s_14, vd s_15, vd s_16, vd s_17, vd s_18, vd s_19, vd s_20, vd s_21, vd s_22]
abbrev cCRg3z2 (o_0 o_1 o_2 o_3 o_4 o_5 : Int) : List Sv := [vi o_0, vi o_1, vi o_2, vi o_3, vi o_4, vw o_5]
theorem get_formO (s_0 s_1 s_2 s_3 s_4 s_5 s_6 s_7 s_8 : Int) (s_9 s_10 s_11 s_12 s_13 s_14 : Bool) (s_15 s_16 s_17 s_18 s_19 s_20 s_21 s_22 o_0 o_1 o_2 o_3 o_4 o_5 : Int) :
    evF Try.prog ΓRgF 400 129 [.agg (cCRg3z0 s_0 s_1 s_2 s_3 s_4 s_5 s_6 s_7 s_8 s_9 s_10 s_11 s_12 s_13 s_14 s_15 s_16 s_17 s_18 s_19 s_20 s_21 s_22), .agg (cCRg3z2 o_0 o_1 o_2 o_3 o_4 o_5)] [] (fun x _ => some x) (fun _ _ => none) =
    (bif o_0 == 4 then some (vd ((IntKind.wrap IntKind.u64 o_5)))
 else bif !isV o_1 then some (vd 0) else none) := by kernel_rfl
theorem get_niceO (s_0 s_1 s_2 s_3 s_4 s_5 s_6 s_7 s_8 : Int) (s_9 s_10 s_11 s_12 s_13 s_14 : Bool) (s_15 s_16 s_17 s_18 s_19 s_20 s_21 s_22 o_0 o_1 o_2 o_3 o_4 o_5 : Int) (hv : isV o_1 = false) (hg : (in32 s_0 && (in32 s_1 && (in32 s_2 && (in32 s_3 && (in32 s_4 && (in32 s_5 && (in32 s_6 && (in32 s_7 && (in32 o_5))))))))) = true) :
    evF Try.prog ΓRgF 400 129 [.agg (cCRg3z0 s_0 s_1 s_2 s_3 s_4 s_5 s_6 s_7 s_8 s_9 s_10 s_11 s_12 s_13 s_14 s_15 s_16 s_17 s_18 s_19 s_20 s_21 s_22), .agg (cCRg3z2 o_0 o_1 o_2 o_3 o_4 o_5)] [] (fun x _ => some x) (fun _ _ => none) = some (.v (.int .u64 (getV o_0 o_1 o_5 s_0 s_1 s_2 s_3 s_4 s_5 s_6 s_7 s_15 s_16 s_17 s_18 s_19 s_20 s_21 s_22))) := by
  rw [get_formO]
  try simp only [bitsL_eq]
  simp only [Bool.and_eq_true] at hg
  obtain ⟨g0, g1, g2, g3, g4, g5, g6, g7, g8⟩ := hg
  unfold getV
  rw [hv]
  cases h4 : (o_0 == 4) <;> simp [w64_32 g8]
abbrev cCRg3z3 (o_0 o_2 o_3 o_4 o_5 : Int) : List Sv := [vi o_0, vi 0, vi o_2, vi o_3, vi o_4, vw o_5]
theorem get_form0 (s_0 s_1 s_2 s_3 s_4 s_5 s_6 s_7 s_8 : Int) (s_9 s_10 s_11 s_12 s_13 s_14 : Bool) (s_15 s_16 s_17 s_18 s_19 s_20 s_21 s_22 o_0 o_2 o_3 o_4 o_5 : Int) :
    evF Try.prog ΓRg2 400 129 [.agg (cCRg3z0 s_0 s_1 s_2 s_3 s_4 s_5 s_6 s_7 s_8 s_9 s_10 s_11 s_12 s_13 s_14 s_15 s_16 s_17 s_18 s_19 s_20 s_21 s_22), .agg (cCRg3z3 o_0 o_2 o_3 o_4 o_5)] [] (fun x _ => some x) (fun _ _ => none) =
    (bif o_0 == 4 then some (vd ((IntKind.wrap IntKind.u64 o_5)))
 else
 bif o_0 == 1 then some (vd ((IntKind.wrap IntKind.u64 s_0)))
 else
 bif o_0 == 2 then
 some (vd ((IntKind.wrap IntKind.u64 (IntKind.wrap IntKind.u8 (Int.fdiv s_0 1)))))
 else bif o_0 == 5 then some (vd s_15) else some (vd 0)) := by kernel_rfl
theorem get_nice0 (s_0 s_1 s_2 s_3 s_4 s_5 s_6 s_7 s_8 : Int) (s_9 s_10 s_11 s_12 s_13 s_14 : Bool) (s_15 s_16 s_17 s_18 s_19 s_20 s_21 s_22 o_0 o_2 o_3 o_4 o_5 : Int) (hg : (in32 s_0 && (in32 s_1 && (in32 s_2 && (in32 s_3 && (in32 s_4 && (in32 s_5 && (in32 s_6 && (in32 s_7 && (in32 o_5))))))))) = true) :
    evF Try.prog ΓRg2 400 129 [.agg (cCRg3z0 s_0 s_1 s_2 s_3 s_4 s_5 s_6 s_7 s_8 s_9 s_10 s_11 s_12 s_13 s_14 s_15 s_16 s_17 s_18 s_19 s_20 s_21 s_22), .agg (cCRg3z3 o_0 o_2 o_3 o_4 o_5)] [] (fun x _ => some x) (fun _ _ => none) = some (.v (.int .u64 (getV o_0 0 o_5 s_0 s_1 s_2 s_3 s_4 s_5 s_6 s_7 s_15 s_16 s_17 s_18 s_19 s_20 s_21 s_22))) := by
  rw [get_form0]
  try simp only [bitsL_eq]
  simp only [Bool.and_eq_true] at hg
  obtain ⟨g0, g1, g2, g3, g4, g5, g6, g7, g8⟩ := hg
  have k4 : ((4 : Int) == 1) = false ∧ ((4 : Int) == 2) = false ∧ ((4 : Int) == 5) = false := by decide
  unfold getV sel8
  cases h4 : (o_0 == 4) <;> cases h1 : (o_0 == 1) <;> cases h2 : (o_0 == 2) <;> cases h5 : (o_0 == 5) <;> simp [isV, w64_32 g0, w64_32 g1, w64_32 g2, w64_32 g3, w64_32 g4, w64_32 g5, w64_32 g6, w64_32 g7, w64_32 g8, wr_u8, fdivOne, fdiv256, w64_b, and_255_32 g0, and_255_32 g1, and_255_32 g2, and_255_32 g3, and_255_hi g0, and_255_hi g1, and_255_hi g2, and_255_hi g3]
abbrev cCRg3z4 (o_0 o_2 o_3 o_4 o_5 : Int) : List Sv := [vi o_0, vi 1, vi o_2, vi o_3, vi o_4, vw o_5]
theorem get_form1 (s_0 s_1 s_2 s_3 s_4 s_5 s_6 s_7 s_8 : Int) (s_9 s_10 s_11 s_12 s_13 s_14 : Bool) (s_15 s_16 s_17 s_18 s_19 s_20 s_21 s_22 o_0 o_2 o_3 o_4 o_5 : Int) :
    evF Try.prog ΓRg2 400 129 [.agg (cCRg3z0 s_0 s_1 s_2 s_3 s_4 s_5 s_6 s_7 s_8 s_9 s_10 s_11 s_12 s_13 s_14 s_15 s_16 s_17 s_18 s_19 s_20 s_21 s_22), .agg (cCRg3z4 o_0 o_2 o_3 o_4 o_5)] [] (fun x _ => some x) (fun _ _ => none) =
    (bif o_0 == 4 then some (vd ((IntKind.wrap IntKind.u64 o_5)))
 else
 bif o_0 == 1 then some (vd ((IntKind.wrap IntKind.u64 s_1)))
 else
 bif o_0 == 2 then
 some (vd ((IntKind.wrap IntKind.u64 (IntKind.wrap IntKind.u8 (Int.fdiv s_1 1)))))
 else bif o_0 == 5 then some (vd s_16) else some (vd 0)) := by kernel_rfl
theorem get_nice1 (s_0 s_1 s_2 s_3 s_4 s_5 s_6 s_7 s_8 : Int) (s_9 s_10 s_11 s_12 s_13 s_14 : Bool) (s_15 s_16 s_17 s_18 s_19 s_20 s_21 s_22 o_0 o_2 o_3 o_4 o_5 : Int) (hg : (in32 s_0 && (in32 s_1 && (in32 s_2 && (in32 s_3 && (in32 s_4 && (in32 s_5 && (in32 s_6 && (in32 s_7 && (in32 o_5))))))))) = true) :
    evF Try.prog ΓRg2 400 129 [.agg (cCRg3z0 s_0 s_1 s_2 s_3 s_4 s_5 s_6 s_7 s_8 s_9 s_10 s_11 s_12 s_13 s_14 s_15 s_16 s_17 s_18 s_19 s_20 s_21 s_22), .agg (cCRg3z4 o_0 o_2 o_3 o_4 o_5)] [] (fun x _ => some x) (fun _ _ => none) = some (.v (.int .u64 (getV o_0 1 o_5 s_0 s_1 s_2 s_3 s_4 s_5 s_6 s_7 s_15 s_16 s_17 s_18 s_19 s_20 s_21 s_22))) := by
  rw [get_form1]
  try simp only [bitsL_eq]
  simp only [Bool.and_eq_true] at hg
  obtain ⟨g0, g1, g2, g3, g4, g5, g6, g7, g8⟩ := hg
  have k4 : ((4 : Int) == 1) = false ∧ ((4 : Int) == 2) = false ∧ ((4 : Int) == 5) = false := by decide
  unfold getV sel8
  cases h4 : (o_0 == 4) <;> cases h1 : (o_0 == 1) <;> cases h2 : (o_0 == 2) <;> cases h5 : (o_0 == 5) <;> simp [isV, w64_32 g0, w64_32 g1, w64_32 g2, w64_32 g3, w64_32 g4, w64_32 g5, w64_32 g6, w64_32 g7, w64_32 g8, wr_u8, fdivOne, fdiv256, w64_b, and_255_32 g0, and_255_32 g1, and_255_32 g2, and_255_32 g3, and_255_hi g0, and_255_hi g1, and_255_hi g2, and_255_hi g3]
abbrev cCRg3z5 (o_0 o_2 o_3 o_4 o_5 : Int) : List Sv := [vi o_0, vi 2, vi o_2, vi o_3, vi o_4, vw o_5]
theorem get_form2 (s_0 s_1 s_2 s_3 s_4 s_5 s_6 s_7 s_8 : Int) (s_9 s_10 s_11 s_12 s_13 s_14 : Bool) (s_15 s_16 s_17 s_18 s_19 s_20 s_21 s_22 o_0 o_2 o_3 o_4 o_5 : Int) :
    evF Try.prog ΓRg2 400 129 [.agg (cCRg3z0 s_0 s_1 s_2 s_3 s_4 s_5 s_6 s_7 s_8 s_9 s_10 s_11 s_12 s_13 s_14 s_15 s_16 s_17 s_18 s_19 s_20 s_21 s_22), .agg (cCRg3z5 o_0 o_2 o_3 o_4 o_5)] [] (fun x _ => some x) (fun _ _ => none) =
    (bif o_0 == 4 then some (vd ((IntKind.wrap IntKind.u64 o_5)))
 else
 bif o_0 == 1 then some (vd ((IntKind.wrap IntKind.u64 s_2)))
 else
 bif o_0 == 2 then
 some (vd ((IntKind.wrap IntKind.u64 (IntKind.wrap IntKind.u8 (Int.fdiv s_2 1)))))
 else bif o_0 == 5 then some (vd s_17) else some (vd 0)) := by kernel_rfl
theorem get_nice2 (s_0 s_1 s_2 s_3 s_4 s_5 s_6 s_7 s_8 : Int) (s_9 s_10 s_11 s_12 s_13 s_14 : Bool) (s_15 s_16 s_17 s_18 s_19 s_20 s_21 s_22 o_0 o_2 o_3 o_4 o_5 : Int) (hg : (in32 s_0 && (in32 s_1 && (in32 s_2 && (in32 s_3 && (in32 s_4 && (in32 s_5 && (in32 s_6 && (in32 s_7 && (in32 o_5))))))))) = true) :
    evF Try.prog ΓRg2 400 129 [.agg (cCRg3z0 s_0 s_1 s_2 s_3 s_4 s_5 s_6 s_7 s_8 s_9 s_10 s_11 s_12 s_13 s_14 s_15 s_16 s_17 s_18 s_19 s_20 s_21 s_22), .agg (cCRg3z5 o_0 o_2 o_3 o_4 o_5)] [] (fun x _ => some x) (fun _ _ => none) = some (.v (.int .u64 (getV o_0 2 o_5 s_0 s_1 s_2 s_3 s_4 s_5 s_6 s_7 s_15 s_16 s_17 s_18 s_19 s_20 s_21 s_22))) := by
  rw [get_form2]
  try simp only [bitsL_eq]
  simp only [Bool.and_eq_true] at hg
  obtain ⟨g0, g1, g2, g3, g4, g5, g6, g7, g8⟩ := hg
  have k4 : ((4 : Int) == 1) = false ∧ ((4 : Int) == 2) = false ∧ ((4 : Int) == 5) = false := by decide
  unfold getV sel8
  cases h4 : (o_0 == 4) <;> cases h1 : (o_0 == 1) <;> cases h2 : (o_0 == 2) <;> cases h5 : (o_0 == 5) <;> simp [isV, w64_32 g0, w64_32 g1, w64_32 g2, w64_32 g3, w64_32 g4, w64_32 g5, w64_32 g6, w64_32 g7, w64_32 g8, wr_u8, fdivOne, fdiv256, w64_b, and_255_32 g0, and_255_32 g1, and_255_32 g2, and_255_32 g3, and_255_hi g0, and_255_hi g1, and_255_hi g2, and_255_hi g3]
abbrev cCRg3z6 (o_0 o_2 o_3 o_4 o_5 : Int) : List Sv := [vi o_0, vi 3, vi o_2, vi o_3, vi o_4, vw o_5]
theorem get_form3 (s_0 s_1 s_2 s_3 s_4 s_5 s_6 s_7 s_8 : Int) (s_9 s_10 s_11 s_12 s_13 s_14 : Bool) (s_15 s_16 s_17 s_18 s_19 s_20 s_21 s_22 o_0 o_2 o_3 o_4 o_5 : Int) :
    evF Try.prog ΓRg2 400 129 [.agg (cCRg3z0 s_0 s_1 s_2 s_3 s_4 s_5 s_6 s_7 s_8 s_9 s_10 s_11 s_12 s_13 s_14 s_15 s_16 s_17 s_18 s_19 s_20 s_21 s_22), .agg (cCRg3z6 o_0 o_2 o_3 o_4 o_5)] [] (fun x _ => some x) (fun _ _ => none) =
    (bif o_0 == 4 then some (vd ((IntKind.wrap IntKind.u64 o_5)))
 else
 bif o_0 == 1 then some (vd ((IntKind.wrap IntKind.u64 s_3)))
 else
 bif o_0 == 2 then
 some (vd ((IntKind.wrap IntKind.u64 (IntKind.wrap IntKind.u8 (Int.fdiv s_3 1)))))
 else bif o_0 == 5 then some (vd s_18) else some (vd 0)) := by kernel_rfl
theorem get_nice3 (s_0 s_1 s_2 s_3 s_4 s_5 s_6 s_7 s_8 : Int) (s_9 s_10 s_11 s_12 s_13 s_14 : Bool) (s_15 s_16 s_17 s_18 s_19 s_20 s_21 s_22 o_0 o_2 o_3 o_4 o_5 : Int) (hg : (in32 s_0 && (in32 s_1 && (in32 s_2 && (in32 s_3 && (in32 s_4 && (in32 s_5 && (in32 s_6 && (in32 s_7 && (in32 o_5))))))))) = true) :
    evF Try.prog ΓRg2 400 129 [.agg (cCRg3z0 s_0 s_1 s_2 s_3 s_4 s_5 s_6 s_7 s_8 s_9 s_10 s_11 s_12 s_13 s_14 s_15 s_16 s_17 s_18 s_19 s_20 s_21 s_22), .agg (cCRg3z6 o_0 o_2 o_3 o_4 o_5)] [] (fun x _ => some x) (fun _ _ => none) = some (.v (.int .u64 (getV o_0 3 o_5 s_0 s_1 s_2 s_3 s_4 s_5 s_6 s_7 s_15 s_16 s_17 s_18 s_19 s_20 s_21 s_22))) := by
  rw [get_form3]
  try simp only [bitsL_eq]
  simp only [Bool.and_eq_true] at hg
  obtain ⟨g0, g1, g2, g3, g4, g5, g6, g7, g8⟩ := hg
  have k4 : ((4 : Int) == 1) = false ∧ ((4 : Int) == 2) = false ∧ ((4 : Int) == 5) = false := by decide
  unfold getV sel8
  cases h4 : (o_0 == 4) <;> cases h1 : (o_0 == 1) <;> cases h2 : (o_0 == 2) <;> cases h5 : (o_0 == 5) <;> simp [isV, w64_32 g0, w64_32 g1, w64_32 g2, w64_32 g3, w64_32 g4, w64_32 g5, w64_32 g6, w64_32 g7, w64_32 g8, wr_u8, fdivOne, fdiv256, w64_b, and_255_32 g0, and_255_32 g1, and_255_32 g2, and_255_32 g3, and_255_hi g0, and_255_hi g1, and_255_hi g2, and_255_hi g3]
abbrev cCRg3z7 (o_0 o_2 o_3 o_4 o_5 : Int) : List Sv := [vi o_0, vi 4, vi o_2, vi o_3, vi o_4, vw o_5]
theorem get_form4 (s_0 s_1 s_2 s_3 s_4 s_5 s_6 s_7 s_8 : Int) (s_9 s_10 s_11 s_12 s_13 s_14 : Bool) (s_15 s_16 s_17 s_18 s_19 s_20 s_21 s_22 o_0 o_2 o_3 o_4 o_5 : Int) :
    evF Try.prog ΓRg2 400 129 [.agg (cCRg3z0 s_0 s_1 s_2 s_3 s_4 s_5 s_6 s_7 s_8 s_9 s_10 s_11 s_12 s_13 s_14 s_15 s_16 s_17 s_18 s_19 s_20 s_21 s_22), .agg (cCRg3z7 o_0 o_2 o_3 o_4 o_5)] [] (fun x _ => some x) (fun _ _ => none) =
    (bif o_0 == 4 then some (vd ((IntKind.wrap IntKind.u64 o_5)))
 else
 bif o_0 == 1 then some (vd ((IntKind.wrap IntKind.u64 s_4)))
 else
 bif o_0 == 2 then
 some (vd ((IntKind.wrap IntKind.u64 (IntKind.wrap IntKind.u8 (Int.fdiv s_0 256)))))
 else bif o_0 == 5 then some (vd s_19) else some (vd 0)) := by kernel_rfl
theorem get_nice4 (s_0 s_1 s_2 s_3 s_4 s_5 s_6 s_7 s_8 : Int) (s_9 s_10 s_11 s_12 s_13 s_14 : Bool) (s_15 s_16 s_17 s_18 s_19 s_20 s_21 s_22 o_0 o_2 o_3 o_4 o_5 : Int) (hg : (in32 s_0 && (in32 s_1 && (in32 s_2 && (in32 s_3 && (in32 s_4 && (in32 s_5 && (in32 s_6 && (in32 s_7 && (in32 o_5))))))))) = true) :
    evF Try.prog ΓRg2 400 129 [.agg (cCRg3z0 s_0 s_1 s_2 s_3 s_4 s_5 s_6 s_7 s_8 s_9 s_10 s_11 s_12 s_13 s_14 s_15 s_16 s_17 s_18 s_19 s_20 s_21 s_22), .agg (cCRg3z7 o_0 o_2 o_3 o_4 o_5)] [] (fun x _ => some x) (fun _ _ => none) = some (.v (.int .u64 (getV o_0 4 o_5 s_0 s_1 s_2 s_3 s_4 s_5 s_6 s_7 s_15 s_16 s_17 s_18 s_19 s_20 s_21 s_22))) := by
  rw [get_form4]
  try simp only [bitsL_eq]
  simp only [Bool.and_eq_true] at hg
  obtain ⟨g0, g1, g2, g3, g4, g5, g6, g7, g8⟩ := hg
  have k4 : ((4 : Int) == 1) = false ∧ ((4 : Int) == 2) = false ∧ ((4 : Int) == 5) = false := by decide
  unfold getV sel8
  cases h4 : (o_0 == 4) <;> cases h1 : (o_0 == 1) <;> cases h2 : (o_0 == 2) <;> cases h5 : (o_0 == 5) <;> simp [isV, w64_32 g0, w64_32 g1, w64_32 g2, w64_32 g3, w64_32 g4, w64_32 g5, w64_32 g6, w64_32 g7, w64_32 g8, wr_u8, fdivOne, fdiv256, w64_b, and_255_32 g0, and_255_32 g1, and_255_32 g2, and_255_32 g3, and_255_hi g0, and_255_hi g1, and_255_hi g2, and_255_hi g3]
abbrev cCRg3z8 (o_0 o_2 o_3 o_4 o_5 : Int) : List Sv := [vi o_0, vi 5, vi o_2, vi o_3, vi o_4, vw o_5]
theorem get_form5 (s_0 s_1 s_2 s_3 s_4 s_5 s_6 s_7 s_8 : Int) (s_9 s_10 s_11 s_12 s_13 s_14 : Bool) (s_15 s_16 s_17 s_18 s_19 s_20 s_21 s_22 o_0 o_2 o_3 o_4 o_5 : Int) :
    evF Try.prog ΓRg2 400 129 [.agg (cCRg3z0 s_0 s_1 s_2 s_3 s_4 s_5 s_6 s_7 s_8 s_9 s_10 s_11 s_12 s_13 s_14 s_15 s_16 s_17 s_18 s_19 s_20 s_21 s_22), .agg (cCRg3z8 o_0 o_2 o_3 o_4 o_5)] [] (fun x _ => some x) (fun _ _ => none) =
    (bif o_0 == 4 then some (vd ((IntKind.wrap IntKind.u64 o_5)))
 else
 bif o_0 == 1 then some (vd ((IntKind.wrap IntKind.u64 s_5)))
 else
 bif o_0 == 2 then
 some (vd ((IntKind.wrap IntKind.u64 (IntKind.wrap IntKind.u8 (Int.fdiv s_1 256)))))
 else bif o_0 == 5 then some (vd s_20) else some (vd 0)) := by kernel_rfl
theorem get_nice5 (s_0 s_1 s_2 s_3 s_4 s_5 s_6 s_7 s_8 : Int) (s_9 s_10 s_11 s_12 s_13 s_14 : Bool) (s_15 s_16 s_17 s_18 s_19 s_20 s_21 s_22 o_0 o_2 o_3 o_4 o_5 : Int) (hg : (in32 s_0 && (in32 s_1 && (in32 s_2 && (in32 s_3 && (in32 s_4 && (in32 s_5 && (in32 s_6 && (in32 s_7 && (in32 o_5))))))))) = true) :
    evF Try.prog ΓRg2 400 129 [.agg (cCRg3z0 s_0 s_1 s_2 s_3 s_4 s_5 s_6 s_7 s_8 s_9 s_10 s_11 s_12 s_13 s_14 s_15 s_16 s_17 s_18 s_19 s_20 s_21 s_22), .agg (cCRg3z8 o_0 o_2 o_3 o_4 o_5)] [] (fun x _ => some x) (fun _ _ => none) = some (.v (.int .u64 (getV o_0 5 o_5 s_0 s_1 s_2 s_3 s_4 s_5 s_6 s_7 s_15 s_16 s_17 s_18 s_19 s_20 s_21 s_22))) := by
  rw [get_form5]
  try simp only [bitsL_eq]
  simp only [Bool.and_eq_true] at hg
  obtain ⟨g0, g1, g2, g3, g4, g5, g6, g7, g8⟩ := hg
  have k4 : ((4 : Int) == 1) = false ∧ ((4 : Int) == 2) = false ∧ ((4 : Int) == 5) = false := by decide
  unfold getV sel8
  cases h4 : (o_0 == 4) <;> cases h1 : (o_0 == 1) <;> cases h2 : (o_0 == 2) <;> cases h5 : (o_0 == 5) <;> simp [isV, w64_32 g0, w64_32 g1, w64_32 g2, w64_32 g3, w64_32 g4, w64_32 g5, w64_32 g6, w64_32 g7, w64_32 g8, wr_u8, fdivOne, fdiv256, w64_b, and_255_32 g0, and_255_32 g1, and_255_32 g2, and_255_32 g3, and_255_hi g0, and_255_hi g1, and_255_hi g2, and_255_hi g3]
abbrev cCRg3z9 (o_0 o_2 o_3 o_4 o_5 : Int) : List Sv := [vi o_0, vi 6, vi o_2, vi o_3, vi o_4, vw o_5]
theorem get_form6 (s_0 s_1 s_2 s_3 s_4 s_5 s_6 s_7 s_8 : Int) (s_9 s_10 s_11 s_12 s_13 s_14 : Bool) (s_15 s_16 s_17 s_18 s_19 s_20 s_21 s_22 o_0 o_2 o_3 o_4 o_5 : Int) :
    evF Try.prog ΓRg2 400 129 [.agg (cCRg3z0 s_0 s_1 s_2 s_3 s_4 s_5 s_6 s_7 s_8 s_9 s_10 s_11 s_12 s_13 s_14 s_15 s_16 s_17 s_18 s_19 s_20 s_21 s_22), .agg (cCRg3z9 o_0 o_2 o_3 o_4 o_5)] [] (fun x _ => some x) (fun _ _ => none) =
    (bif o_0 == 4 then some (vd ((IntKind.wrap IntKind.u64 o_5)))
 else
 bif o_0 == 1 then some (vd ((IntKind.wrap IntKind.u64 s_6)))
 else
 bif o_0 == 2 then
 some (vd ((IntKind.wrap IntKind.u64 (IntKind.wrap IntKind.u8 (Int.fdiv s_2 256)))))
 else bif o_0 == 5 then some (vd s_21) else some (vd 0)) := by kernel_rfl
theorem get_nice6 (s_0 s_1 s_2 s_3 s_4 s_5 s_6 s_7 s_8 : Int) (s_9 s_10 s_11 s_12 s_13 s_14 : Bool) (s_15 s_16 s_17 s_18 s_19 s_20 s_21 s_22 o_0 o_2 o_3 o_4 o_5 : Int) (hg : (in32 s_0 && (in32 s_1 && (in32 s_2 && (in32 s_3 && (in32 s_4 && (in32 s_5 && (in32 s_6 && (in32 s_7 && (in32 o_5))))))))) = true) :
    evF Try.prog ΓRg2 400 129 [.agg (cCRg3z0 s_0 s_1 s_2 s_3 s_4 s_5 s_6 s_7 s_8 s_9 s_10 s_11 s_12 s_13 s_14 s_15 s_16 s_17 s_18 s_19 s_20 s_21 s_22), .agg (cCRg3z9 o_0 o_2 o_3 o_4 o_5)] [] (fun x _ => some x) (fun _ _ => none) = some (.v (.int .u64 (getV o_0 6 o_5 s_0 s_1 s_2 s_3 s_4 s_5 s_6 s_7 s_15 s_16 s_17 s_18 s_19 s_20 s_21 s_22))) := by
  rw [get_form6]
  try simp only [bitsL_eq]
  simp only [Bool.and_eq_true] at hg
  obtain ⟨g0, g1, g2, g3, g4, g5, g6, g7, g8⟩ := hg
  have k4 : ((4 : Int) == 1) = false ∧ ((4 : Int) == 2) = false ∧ ((4 : Int) == 5) = false := by decide
  unfold getV sel8
  cases h4 : (o_0 == 4) <;> cases h1 : (o_0 == 1) <;> cases h2 : (o_0 == 2) <;> cases h5 : (o_0 == 5) <;> simp [isV, w64_32 g0, w64_32 g1, w64_32 g2, w64_32 g3, w64_32 g4, w64_32 g5, w64_32 g6, w64_32 g7, w64_32 g8, wr_u8, fdivOne, fdiv256, w64_b, and_255_32 g0, and_255_32 g1, and_255_32 g2, and_255_32 g3, and_255_hi g0, and_255_hi g1, and_255_hi g2, and_255_hi g3]
abbrev cCRg3z10 (o_0 o_2 o_3 o_4 o_5 : Int) : List Sv := [vi o_0, vi 7, vi o_2, vi o_3, vi o_4, vw o_5]
theorem get_form7 (s_0 s_1 s_2 s_3 s_4 s_5 s_6 s_7 s_8 : Int) (s_9 s_10 s_11 s_12 s_13 s_14 : Bool) (s_15 s_16 s_17 s_18 s_19 s_20 s_21 s_22 o_0 o_2 o_3 o_4 o_5 : Int) :
    evF Try.prog ΓRg2 400 129 [.agg (cCRg3z0 s_0 s_1 s_2 s_3 s_4 s_5 s_6 s_7 s_8 s_9 s_10 s_11 s_12 s_13 s_14 s_15 s_16 s_17 s_18 s_19 s_20 s_21 s_22), .agg (cCRg3z10 o_0 o_2 o_3 o_4 o_5)] [] (fun x _ => some x) (fun _ _ => none) =
    (bif o_0 == 4 then some (vd ((IntKind.wrap IntKind.u64 o_5)))
 else
 bif o_0 == 1 then some (vd ((IntKind.wrap IntKind.u64 s_7)))
 else
 bif o_0 == 2 then
 some (vd ((IntKind.wrap IntKind.u64 (IntKind.wrap IntKind.u8 (Int.fdiv s_3 256)))))
 else bif o_0 == 5 then some (vd s_22) else some (vd 0)) := by kernel_rfl
theorem get_nice7 (s_0 s_1 s_2 s_3 s_4 s_5 s_6 s_7 s_8 : Int) (s_9 s_10 s_11 s_12 s_13 s_14 : Bool) (s_15 s_16 s_17 s_18 s_19 s_20 s_21 s_22 o_0 o_2 o_3 o_4 o_5 : Int) (hg : (in32 s_0 && (in32 s_1 && (in32 s_2 && (in32 s_3 && (in32 s_4 && (in32 s_5 && (in32 s_6 && (in32 s_7 && (in32 o_5))))))))) = true) :
    evF Try.prog ΓRg2 400 129 [.agg (cCRg3z0 s_0 s_1 s_2 s_3 s_4 s_5 s_6 s_7 s_8 s_9 s_10 s_11 s_12 s_13 s_14 s_15 s_16 s_17 s_18 s_19 s_20 s_21 s_22), .agg (cCRg3z10 o_0 o_2 o_3 o_4 o_5)] [] (fun x _ => some x) (fun _ _ => none) = some (.v (.int .u64 (getV o_0 7 o_5 s_0 s_1 s_2 s_3 s_4 s_5 s_6 s_7 s_15 s_16 s_17 s_18 s_19 s_20 s_21 s_22))) := by
  rw [get_form7]
  try simp only [bitsL_eq]
  simp only [Bool.and_eq_true] at hg
  obtain ⟨g0, g1, g2, g3, g4, g5, g6, g7, g8⟩ := hg
  have k4 : ((4 : Int) == 1) = false ∧ ((4 : Int) == 2) = false ∧ ((4 : Int) == 5) = false := by decide
  unfold getV sel8
  cases h4 : (o_0 == 4) <;> cases h1 : (o_0 == 1) <;> cases h2 : (o_0 == 2) <;> cases h5 : (o_0 == 5) <;> simp [isV, w64_32 g0, w64_32 g1, w64_32 g2, w64_32 g3, w64_32 g4, w64_32 g5, w64_32 g6, w64_32 g7, w64_32 g8, wr_u8, fdivOne, fdiv256, w64_b, and_255_32 g0, and_255_32 g1, and_255_32 g2, and_255_32 g3, and_255_hi g0, and_255_hi g1, and_255_hi g2, and_255_hi g3]
def getS : Nice := fun R args kv => match args with
  | [.agg [.v (.int .u32 s_0), .v (.int .u32 s_1), .v (.int .u32 s_2), .v (.int .u32 s_3), .v (.int .u32 s_4), .v (.int .u32 s_5), .v (.int .u32 s_6), .v (.int .u32 s_7), .v (.int .u32 s_8), .v (.bool s_9), .v (.bool s_10), .v (.bool s_11), .v (.bool s_12), .v (.bool s_13), .v (.bool s_14), .v (.int .u64 s_15), .v (.int .u64 s_16), .v (.int .u64 s_17), .v (.int .u64 s_18), .v (.int .u64 s_19), .v (.int .u64 s_20), .v (.int .u64 s_21), .v (.int .u64 s_22)], .agg [.v (.int .i64 o_0), .v (.int .i64 o_1), .v (.int .i64 o_2), .v (.int .i64 o_3), .v (.int .i64 o_4), .v (.int .u32 o_5)]] => bif in32 s_0 && (in32 s_1 && (in32 s_2 && (in32 s_3 && (in32 s_4 && (in32 s_5 && (in32 s_6 && (in32 s_7 && (in32 o_5)))))))) then kv (.v (.int .u64 (getV o_0 o_1 o_5 s_0 s_1 s_2 s_3 s_4 s_5 s_6 s_7 s_15 s_16 s_17 s_18 s_19 s_20 s_21 s_22))) else none
  | _ => none
theorem getS_ok : NiceOkX Try.prog X0 129 getS := by
  intro R args kv r h
  unfold getS at h
  split at h
  · rename_i s_0 s_1 s_2 s_3 s_4 s_5 s_6 s_7 s_8 s_9 s_10 s_11 s_12 s_13 s_14 s_15 s_16 s_17 s_18 s_19 s_20 s_21 s_22 o_0 o_1 o_2 o_3 o_4 o_5
    obtain ⟨hg, h2⟩ := cond_some h
    clear h
    cases hv : isV o_1 with
    | false => exact ⟨_, ΓRgF, 400, h2, rfl, rfl, ΓRgF_ok, get_niceO _ _ _ _ _ _ _ _ _ _ _ _ _ _ _ _ _ _ _ _ _ _ _ _ _ _ _ _ _ hv hg⟩
    | true =>
      rcases isV_cases hv with rfl | rfl | rfl | rfl | rfl | rfl | rfl | rfl
      · exact ⟨_, ΓRg2, 400, h2, rfl, rfl, ΓRg2_ok, get_nice0 _ _ _ _ _ _ _ _ _ _ _ _ _ _ _ _ _ _ _ _ _ _ _ _ _ _ _ _ hg⟩
      · exact ⟨_, ΓRg2, 400, h2, rfl, rfl, ΓRg2_ok, get_nice1 _ _ _ _ _ _ _ _ _ _ _ _ _ _ _ _ _ _ _ _ _ _ _ _ _ _ _ _ hg⟩
      · exact ⟨_, ΓRg2, 400, h2, rfl, rfl, ΓRg2_ok, get_nice2 _ _ _ _ _ _ _ _ _ _ _ _ _ _ _ _ _ _ _ _ _ _ _ _ _ _ _ _ hg⟩
      · exact ⟨_, ΓRg2, 400, h2, rfl, rfl, ΓRg2_ok, get_nice3 _ _ _ _ _ _ _ _ _ _ _ _ _ _ _ _ _ _ _ _ _ _ _ _ _ _ _ _ hg⟩
      · exact ⟨_, ΓRg2, 400, h2, rfl, rfl, ΓRg2_ok, get_nice4 _ _ _ _ _ _ _ _ _ _ _ _ _ _ _ _ _ _ _ _ _ _ _ _ _ _ _ _ hg⟩
      · exact ⟨_, ΓRg2, 400, h2, rfl, rfl, ΓRg2_ok, get_nice5 _ _ _ _ _ _ _ _ _ _ _ _ _ _ _ _ _ _ _ _ _ _ _ _ _ _ _ _ hg⟩
      · exact ⟨_, ΓRg2, 400, h2, rfl, rfl, ΓRg2_ok, get_nice6 _ _ _ _ _ _ _ _ _ _ _ _ _ _ _ _ _ _ _ _ _ _ _ _ _ _ _ _ hg⟩
      · exact ⟨_, ΓRg2, 400, h2, rfl, rfl, ΓRg2_ok, get_nice7 _ _ _ _ _ _ _ _ _ _ _ _ _ _ _ _ _ _ _ _ _ _ _ _ _ _ _ _ hg⟩
  · cases h
theorem rget_formO (s_0 s_1 s_2 s_3 s_4 s_5 s_6 s_7 s_8 : Int) (s_9 s_10 s_11 s_12 s_13 s_14 : Bool) (s_15 s_16 s_17 s_18 s_19 s_20 s_21 s_22 o_0 o_1 o_2 o_3 o_4 o_5 : Int) :
    evF Try.prog ΓRgF 400 78 [.agg (cCRg3z0 s_0 s_1 s_2 s_3 s_4 s_5 s_6 s_7 s_8 s_9 s_10 s_11 s_12 s_13 s_14 s_15 s_16 s_17 s_18 s_19 s_20 s_21 s_22), .agg (cCRg3z2 o_0 o_1 o_2 o_3 o_4 o_5)] [] (fun x _ => some x) (fun _ _ => none) =
    (bif o_0 == 4 then some (vd ((IntKind.wrap IntKind.u64 o_5)))
 else bif !isV o_1 && true then some (vd 0) else none) := by kernel_rfl
theorem rget_niceO (s_0 s_1 s_2 s_3 s_4 s_5 s_6 s_7 s_8 : Int) (s_9 s_10 s_11 s_12 s_13 s_14 : Bool) (s_15 s_16 s_17 s_18 s_19 s_20 s_21 s_22 o_0 o_1 o_2 o_3 o_4 o_5 : Int) (hv : isV o_1 = false) (hg : (in32 s_0 && (in32 s_1 && (in32 s_2 && (in32 s_3 && (in32 s_4 && (in32 s_5 && (in32 s_6 && (in32 s_7 && (in32 o_5))))))))) = true) :
    evF Try.prog ΓRgF 400 78 [.agg (cCRg3z0 s_0 s_1 s_2 s_3 s_4 s_5 s_6 s_7 s_8 s_9 s_10 s_11 s_12 s_13 s_14 s_15 s_16 s_17 s_18 s_19 s_20 s_21 s_22), .agg (cCRg3z2 o_0 o_1 o_2 o_3 o_4 o_5)] [] (fun x _ => some x) (fun _ _ => none) = some (.v (.int .u64 (getV o_0 o_1 o_5 s_0 s_1 s_2 s_3 s_4 s_5 s_6 s_7 s_15 s_16 s_17 s_18 s_19 s_20 s_21 s_22))) := by
  rw [rget_formO]
  try simp only [bitsL_eq]
  simp only [Bool.and_eq_true] at hg
  obtain ⟨g0, g1, g2, g3, g4, g5, g6, g7, g8⟩ := hg
  unfold getV
  rw [hv]
  cases h4 : (o_0 == 4) <;> simp [w64_32 g8]
theorem rget_form0 (s_0 s_1 s_2 s_3 s_4 s_5 s_6 s_7 s_8 : Int) (s_9 s_10 s_11 s_12 s_13 s_14 : Bool) (s_15 s_16 s_17 s_18 s_19 s_20 s_21 s_22 o_0 o_2 o_3 o_4 o_5 : Int) :
    evF Try.prog ΓRg2 400 78 [.agg (cCRg3z0 s_0 s_1 s_2 s_3 s_4 s_5 s_6 s_7 s_8 s_9 s_10 s_11 s_12 s_13 s_14 s_15 s_16 s_17 s_18 s_19 s_20 s_21 s_22), .agg (cCRg3z3 o_0 o_2 o_3 o_4 o_5)] [] (fun x _ => some x) (fun _ _ => none) =
    (bif o_0 == 4 then some (vd ((IntKind.wrap IntKind.u64 o_5)))
 else
 bif o_0 == 1 then some (vd ((IntKind.wrap IntKind.u64 s_0)))
 else
 bif o_0 == 2 then
 some (vd ((IntKind.wrap IntKind.u64 (bitsL BinOp.and IntKind.u32 (Int.fdiv s_0 1) 255))))
 else bif o_0 == 5 then some (vd s_15) else some (vd 0)) := by kernel_rfl
theorem rget_nice0 (s_0 s_1 s_2 s_3 s_4 s_5 s_6 s_7 s_8 : Int) (s_9 s_10 s_11 s_12 s_13 s_14 : Bool) (s_15 s_16 s_17 s_18 s_19 s_20 s_21 s_22 o_0 o_2 o_3 o_4 o_5 : Int) (hg : (in32 s_0 && (in32 s_1 && (in32 s_2 && (in32 s_3 && (in32 s_4 && (in32 s_5 && (in32 s_6 && (in32 s_7 && (in32 o_5))))))))) = true) :
    evF Try.prog ΓRg2 400 78 [.agg (cCRg3z0 s_0 s_1 s_2 s_3 s_4 s_5 s_6 s_7 s_8 s_9 s_10 s_11 s_12 s_13 s_14 s_15 s_16 s_17 s_18 s_19 s_20 s_21 s_22), .agg (cCRg3z3 o_0 o_2 o_3 o_4 o_5)] [] (fun x _ => some x) (fun _ _ => none) = some (.v (.int .u64 (getV o_0 0 o_5 s_0 s_1 s_2 s_3 s_4 s_5 s_6 s_7 s_15 s_16 s_17 s_18 s_19 s_20 s_21 s_22))) := by
  rw [rget_form0]
  try simp only [bitsL_eq]
  simp only [Bool.and_eq_true] at hg
  obtain ⟨g0, g1, g2, g3, g4, g5, g6, g7, g8⟩ := hg
  have k4 : ((4 : Int) == 1) = false ∧ ((4 : Int) == 2) = false ∧ ((4 : Int) == 5) = false := by decide
  unfold getV sel8
  cases h4 : (o_0 == 4) <;> cases h1 : (o_0 == 1) <;> cases h2 : (o_0 == 2) <;> cases h5 : (o_0 == 5) <;> simp [isV, w64_32 g0, w64_32 g1, w64_32 g2, w64_32 g3, w64_32 g4, w64_32 g5, w64_32 g6, w64_32 g7, w64_32 g8, wr_u8, fdivOne, fdiv256, w64_b, and_255_32 g0, and_255_32 g1, and_255_32 g2, and_255_32 g3, and_255_hi g0, and_255_hi g1, and_255_hi g2, and_255_hi g3]
theorem rget_form1 (s_0 s_1 s_2 s_3 s_4 s_5 s_6 s_7 s_8 : Int) (s_9 s_10 s_11 s_12 s_13 s_14 : Bool) (s_15 s_16 s_17 s_18 s_19 s_20 s_21 s_22 o_0 o_2 o_3 o_4 o_5 : Int) :
    evF Try.prog ΓRg2 400 78 [.agg (cCRg3z0 s_0 s_1 s_2 s_3 s_4 s_5 s_6 s_7 s_8 s_9 s_10 s_11 s_12 s_13 s_14 s_15 s_16 s_17 s_18 s_19 s_20 s_21 s_22), .agg (cCRg3z4 o_0 o_2 o_3 o_4 o_5)] [] (fun x _ => some x) (fun _ _ => none) =
    (bif o_0 == 4 then some (vd ((IntKind.wrap IntKind.u64 o_5)))
 else
 bif o_0 == 1 then some (vd ((IntKind.wrap IntKind.u64 s_1)))
 else
 bif o_0 == 2 then
 some (vd ((IntKind.wrap IntKind.u64 (bitsL BinOp.and IntKind.u32 (Int.fdiv s_1 1) 255))))
 else bif o_0 == 5 then some (vd s_16) else some (vd 0)) := by kernel_rfl
theorem rget_nice1 (s_0 s_1 s_2 s_3 s_4 s_5 s_6 s_7 s_8 : Int) (s_9 s_10 s_11 s_12 s_13 s_14 : Bool) (s_15 s_16 s_17 s_18 s_19 s_20 s_21 s_22 o_0 o_2 o_3 o_4 o_5 : Int) (hg : (in32 s_0 && (in32 s_1 && (in32 s_2 && (in32 s_3 && (in32 s_4 && (in32 s_5 && (in32 s_6 && (in32 s_7 && (in32 o_5))))))))) = true) :
    evF Try.prog ΓRg2 400 78 [.agg (cCRg3z0 s_0 s_1 s_2 s_3 s_4 s_5 s_6 s_7 s_8 s_9 s_10 s_11 s_12 s_13 s_14 s_15 s_16 s_17 s_18 s_19 s_20 s_21 s_22), .agg (cCRg3z4 o_0 o_2 o_3 o_4 o_5)] [] (fun x _ => some x) (fun _ _ => none) = some (.v (.int .u64 (getV o_0 1 o_5 s_0 s_1 s_2 s_3 s_4 s_5 s_6 s_7 s_15 s_16 s_17 s_18 s_19 s_20 s_21 s_22))) := by
  rw [rget_form1]
  try simp only [bitsL_eq]
  simp only [Bool.and_eq_true] at hg
  obtain ⟨g0, g1, g2, g3, g4, g5, g6, g7, g8⟩ := hg
  have k4 : ((4 : Int) == 1) = false ∧ ((4 : Int) == 2) = false ∧ ((4 : Int) == 5) = false := by decide
  unfold getV sel8
  cases h4 : (o_0 == 4) <;> cases h1 : (o_0 == 1) <;> cases h2 : (o_0 == 2) <;> cases h5 : (o_0 == 5) <;> simp [isV, w64_32 g0, w64_32 g1, w64_32 g2, w64_32 g3, w64_32 g4, w64_32 g5, w64_32 g6, w64_32 g7, w64_32 g8, wr_u8, fdivOne, fdiv256, w64_b, and_255_32 g0, and_255_32 g1, and_255_32 g2, and_255_32 g3, and_255_hi g0, and_255_hi g1, and_255_hi g2, and_255_hi g3]
theorem rget_form2 (s_0 s_1 s_2 s_3 s_4 s_5 s_6 s_7 s_8 : Int) (s_9 s_10 s_11 s_12 s_13 s_14 : Bool) (s_15 s_16 s_17 s_18 s_19 s_20 s_21 s_22 o_0 o_2 o_3 o_4 o_5 : Int) :
    evF Try.prog ΓRg2 400 78 [.agg (cCRg3z0 s_0 s_1 s_2 s_3 s_4 s_5 s_6 s_7 s_8 s_9 s_10 s_11 s_12 s_13 s_14 s_15 s_16 s_17 s_18 s_19 s_20 s_21 s_22), .agg (cCRg3z5 o_0 o_2 o_3 o_4 o_5)] [] (fun x _ => some x) (fun _ _ => none) =
    (bif o_0 == 4 then some (vd ((IntKind.wrap IntKind.u64 o_5)))
 else
 bif o_0 == 1 then some (vd ((IntKind.wrap IntKind.u64 s_2)))
 else
 bif o_0 == 2 then
 some (vd ((IntKind.wrap IntKind.u64 (bitsL BinOp.and IntKind.u32 (Int.fdiv s_2 1) 255))))
 else bif o_0 == 5 then some (vd s_17) else some (vd 0)) := by kernel_rfl
theorem rget_nice2 (s_0 s_1 s_2 s_3 s_4 s_5 s_6 s_7 s_8 : Int) (s_9 s_10 s_11 s_12 s_13 s_14 : Bool) (s_15 s_16 s_17 s_18 s_19 s_20 s_21 s_22 o_0 o_2 o_3 o_4 o_5 : Int) (hg : (in32 s_0 && (in32 s_1 && (in32 s_2 && (in32 s_3 && (in32 s_4 && (in32 s_5 && (in32 s_6 && (in32 s_7 && (in32 o_5))))))))) = true) :
    evF Try.prog ΓRg2 400 78 [.agg (cCRg3z0 s_0 s_1 s_2 s_3 s_4 s_5 s_6 s_7 s_8 s_9 s_10 s_11 s_12 s_13 s_14 s_15 s_16 s_17 s_18 s_19 s_20 s_21 s_22), .agg (cCRg3z5 o_0 o_2 o_3 o_4 o_5)] [] (fun x _ => some x) (fun _ _ => none) = some (.v (.int .u64 (getV o_0 2 o_5 s_0 s_1 s_2 s_3 s_4 s_5 s_6 s_7 s_15 s_16 s_17 s_18 s_19 s_20 s_21 s_22))) := by
  rw [rget_form2]
  try simp only [bitsL_eq]
  simp only [Bool.and_eq_true] at hg
  obtain ⟨g0, g1, g2, g3, g4, g5, g6, g7, g8⟩ := hg
  have k4 : ((4 : Int) == 1) = false ∧ ((4 : Int) == 2) = false ∧ ((4 : Int) == 5) = false := by decide
  unfold getV sel8
  cases h4 : (o_0 == 4) <;> cases h1 : (o_0 == 1) <;> cases h2 : (o_0 == 2) <;> cases h5 : (o_0 == 5) <;> simp [isV, w64_32 g0, w64_32 g1, w64_32 g2, w64_32 g3, w64_32 g4, w64_32 g5, w64_32 g6, w64_32 g7, w64_32 g8, wr_u8, fdivOne, fdiv256, w64_b, and_255_32 g0, and_255_32 g1, and_255_32 g2, and_255_32 g3, and_255_hi g0, and_255_hi g1, and_255_hi g2, and_255_hi g3]
theorem rget_form3 (s_0 s_1 s_2 s_3 s_4 s_5 s_6 s_7 s_8 : Int) (s_9 s_10 s_11 s_12 s_13 s_14 : Bool) (s_15 s_16 s_17 s_18 s_19 s_20 s_21 s_22 o_0 o_2 o_3 o_4 o_5 : Int) :
    evF Try.prog ΓRg2 400 78 [.agg (cCRg3z0 s_0 s_1 s_2 s_3 s_4 s_5 s_6 s_7 s_8 s_9 s_10 s_11 s_12 s_13 s_14 s_15 s_16 s_17 s_18 s_19 s_20 s_21 s_22), .agg (cCRg3z6 o_0 o_2 o_3 o_4 o_5)] [] (fun x _ => some x) (fun _ _ => none) =
    (bif o_0 == 4 then some (vd ((IntKind.wrap IntKind.u64 o_5)))
 else
 bif o_0 == 1 then some (vd ((IntKind.wrap IntKind.u64 s_3)))
 else
 bif o_0 == 2 then
 some (vd ((IntKind.wrap IntKind.u64 (bitsL BinOp.and IntKind.u32 (Int.fdiv s_3 1) 255))))
 else bif o_0 == 5 then some (vd s_18) else some (vd 0)) := by kernel_rfl
theorem rget_nice3 (s_0 s_1 s_2 s_3 s_4 s_5 s_6 s_7 s_8 : Int) (s_9 s_10 s_11 s_12 s_13 s_14 : Bool) (s_15 s_16 s_17 s_18 s_19 s_20 s_21 s_22 o_0 o_2 o_3 o_4 o_5 : Int) (hg : (in32 s_0 && (in32 s_1 && (in32 s_2 && (in32 s_3 && (in32 s_4 && (in32 s_5 && (in32 s_6 && (in32 s_7 && (in32 o_5))))))))) = true) :
    evF Try.prog ΓRg2 400 78 [.agg (cCRg3z0 s_0 s_1 s_2 s_3 s_4 s_5 s_6 s_7 s_8 s_9 s_10 s_11 s_12 s_13 s_14 s_15 s_16 s_17 s_18 s_19 s_20 s_21 s_22), .agg (cCRg3z6 o_0 o_2 o_3 o_4 o_5)] [] (fun x _ => some x) (fun _ _ => none) = some (.v (.int .u64 (getV o_0 3 o_5 s_0 s_1 s_2 s_3 s_4 s_5 s_6 s_7 s_15 s_16 s_17 s_18 s_19 s_20 s_21 s_22))) := by
  rw [rget_form3]
  try simp only [bitsL_eq]
  simp only [Bool.and_eq_true] at hg
  obtain ⟨g0, g1, g2, g3, g4, g5, g6, g7, g8⟩ := hg
  have k4 : ((4 : Int) == 1) = false ∧ ((4 : Int) == 2) = false ∧ ((4 : Int) == 5) = false := by decide
  unfold getV sel8
  cases h4 : (o_0 == 4) <;> cases h1 : (o_0 == 1) <;> cases h2 : (o_0 == 2) <;> cases h5 : (o_0 == 5) <;> simp [isV, w64_32 g0, w64_32 g1, w64_32 g2, w64_32 g3, w64_32 g4, w64_32 g5, w64_32 g6, w64_32 g7, w64_32 g8, wr_u8, fdivOne, fdiv256, w64_b, and_255_32 g0, and_255_32 g1, and_255_32 g2, and_255_32 g3, and_255_hi g0, and_255_hi g1, and_255_hi g2, and_255_hi g3]
theorem rget_form4 (s_0 s_1 s_2 s_3 s_4 s_5 s_6 s_7 s_8 : Int) (s_9 s_10 s_11 s_12 s_13 s_14 : Bool) (s_15 s_16 s_17 s_18 s_19 s_20 s_21 s_22 o_0 o_2 o_3 o_4 o_5 : Int) :
    evF Try.prog ΓRg2 400 78 [.agg (cCRg3z0 s_0 s_1 s_2 s_3 s_4 s_5 s_6 s_7 s_8 s_9 s_10 s_11 s_12 s_13 s_14 s_15 s_16 s_17 s_18 s_19 s_20 s_21 s_22), .agg (cCRg3z7 o_0 o_2 o_3 o_4 o_5)] [] (fun x _ => some x) (fun _ _ => none) =
    (bif o_0 == 4 then some (vd ((IntKind.wrap IntKind.u64 o_5)))
 else
 bif o_0 == 1 then some (vd ((IntKind.wrap IntKind.u64 s_4)))
 else
 bif o_0 == 2 then
 some (vd ((IntKind.wrap IntKind.u64 (bitsL BinOp.and IntKind.u32 (Int.fdiv s_0 256) 255))))
 else bif o_0 == 5 then some (vd s_19) else some (vd 0)) := by kernel_rfl
theorem rget_nice4 (s_0 s_1 s_2 s_3 s_4 s_5 s_6 s_7 s_8 : Int) (s_9 s_10 s_11 s_12 s_13 s_14 : Bool) (s_15 s_16 s_17 s_18 s_19 s_20 s_21 s_22 o_0 o_2 o_3 o_4 o_5 : Int) (hg : (in32 s_0 && (in32 s_1 && (in32 s_2 && (in32 s_3 && (in32 s_4 && (in32 s_5 && (in32 s_6 && (in32 s_7 && (in32 o_5))))))))) = true) :
    evF Try.prog ΓRg2 400 78 [.agg (cCRg3z0 s_0 s_1 s_2 s_3 s_4 s_5 s_6 s_7 s_8 s_9 s_10 s_11 s_12 s_13 s_14 s_15 s_16 s_17 s_18 s_19 s_20 s_21 s_22), .agg (cCRg3z7 o_0 o_2 o_3 o_4 o_5)] [] (fun x _ => some x) (fun _ _ => none) = some (.v (.int .u64 (getV o_0 4 o_5 s_0 s_1 s_2 s_3 s_4 s_5 s_6 s_7 s_15 s_16 s_17 s_18 s_19 s_20 s_21 s_22))) := by
  rw [rget_form4]
  try simp only [bitsL_eq]
  simp only [Bool.and_eq_true] at hg
  obtain ⟨g0, g1, g2, g3, g4, g5, g6, g7, g8⟩ := hg
  have k4 : ((4 : Int) == 1) = false ∧ ((4 : Int) == 2) = false ∧ ((4 : Int) == 5) = false := by decide
  unfold getV sel8
  cases h4 : (o_0 == 4) <;> cases h1 : (o_0 == 1) <;> cases h2 : (o_0 == 2) <;> cases h5 : (o_0 == 5) <;> simp [isV, w64_32 g0, w64_32 g1, w64_32 g2, w64_32 g3, w64_32 g4, w64_32 g5, w64_32 g6, w64_32 g7, w64_32 g8, wr_u8, fdivOne, fdiv256, w64_b, and_255_32 g0, and_255_32 g1, and_255_32 g2, and_255_32 g3, and_255_hi g0, and_255_hi g1, and_255_hi g2, and_255_hi g3]
theorem rget_form5 (s_0 s_1 s_2 s_3 s_4 s_5 s_6 s_7 s_8 : Int) (s_9 s_10 s_11 s_12 s_13 s_14 : Bool) (s_15 s_16 s_17 s_18 s_19 s_20 s_21 s_22 o_0 o_2 o_3 o_4 o_5 : Int) :
    evF Try.prog ΓRg2 400 78 [.agg (cCRg3z0 s_0 s_1 s_2 s_3 s_4 s_5 s_6 s_7 s_8 s_9 s_10 s_11 s_12 s_13 s_14 s_15 s_16 s_17 s_18 s_19 s_20 s_21 s_22), .agg (cCRg3z8 o_0 o_2 o_3 o_4 o_5)] [] (fun x _ => some x) (fun _ _ => none) =
    (bif o_0 == 4 then some (vd ((IntKind.wrap IntKind.u64 o_5)))
 else
 bif o_0 == 1 then some (vd ((IntKind.wrap IntKind.u64 s_5)))
 else
 bif o_0 == 2 then
 some (vd ((IntKind.wrap IntKind.u64 (bitsL BinOp.and IntKind.u32 (Int.fdiv s_1 256) 255))))
 else bif o_0 == 5 then some (vd s_20) else some (vd 0)) := by kernel_rfl
theorem rget_nice5 (s_0 s_1 s_2 s_3 s_4 s_5 s_6 s_7 s_8 : Int) (s_9 s_10 s_11 s_12 s_13 s_14 : Bool) (s_15 s_16 s_17 s_18 s_19 s_20 s_21 s_22 o_0 o_2 o_3 o_4 o_5 : Int) (hg : (in32 s_0 && (in32 s_1 && (in32 s_2 && (in32 s_3 && (in32 s_4 && (in32 s_5 && (in32 s_6 && (in32 s_7 && (in32 o_5))))))))) = true) :
    evF Try.prog ΓRg2 400 78 [.agg (cCRg3z0 s_0 s_1 s_2 s_3 s_4 s_5 s_6 s_7 s_8 s_9 s_10 s_11 s_12 s_13 s_14 s_15 s_16 s_17 s_18 s_19 s_20 s_21 s_22), .agg (cCRg3z8 o_0 o_2 o_3 o_4 o_5)] [] (fun x _ => some x) (fun _ _ => none) = some (.v (.int .u64 (getV o_0 5 o_5 s_0 s_1 s_2 s_3 s_4 s_5 s_6 s_7 s_15 s_16 s_17 s_18 s_19 s_20 s_21 s_22))) := by
  rw [rget_form5]
  try simp only [bitsL_eq]
  simp only [Bool.and_eq_true] at hg
  obtain ⟨g0, g1, g2, g3, g4, g5, g6, g7, g8⟩ := hg
  have k4 : ((4 : Int) == 1) = false ∧ ((4 : Int) == 2) = false ∧ ((4 : Int) == 5) = false := by decide
  unfold getV sel8
  cases h4 : (o_0 == 4) <;> cases h1 : (o_0 == 1) <;> cases h2 : (o_0 == 2) <;> cases h5 : (o_0 == 5) <;> simp [isV, w64_32 g0, w64_32 g1, w64_32 g2, w64_32 g3, w64_32 g4, w64_32 g5, w64_32 g6, w64_32 g7, w64_32 g8, wr_u8, fdivOne, fdiv256, w64_b, and_255_32 g0, and_255_32 g1, and_255_32 g2, and_255_32 g3, and_255_hi g0, and_255_hi g1, and_255_hi g2, and_255_hi g3]
theorem rget_form6 (s_0 s_1 s_2 s_3 s_4 s_5 s_6 s_7 s_8 : Int) (s_9 s_10 s_11 s_12 s_13 s_14 : Bool) (s_15 s_16 s_17 s_18 s_19 s_20 s_21 s_22 o_0 o_2 o_3 o_4 o_5 : Int) :
    evF Try.prog ΓRg2 400 78 [.agg (cCRg3z0 s_0 s_1 s_2 s_3 s_4 s_5 s_6 s_7 s_8 s_9 s_10 s_11 s_12 s_13 s_14 s_15 s_16 s_17 s_18 s_19 s_20 s_21 s_22), .agg (cCRg3z9 o_0 o_2 o_3 o_4 o_5)] [] (fun x _ => some x) (fun _ _ => none) =
    (bif o_0 == 4 then some (vd ((IntKind.wrap IntKind.u64 o_5)))
 else
 bif o_0 == 1 then some (vd ((IntKind.wrap IntKind.u64 s_6)))
 else
 bif o_0 == 2 then
 some (vd ((IntKind.wrap IntKind.u64 (bitsL BinOp.and IntKind.u32 (Int.fdiv s_2 256) 255))))
 else bif o_0 == 5 then some (vd s_21) else some (vd 0)) := by kernel_rfl
theorem rget_nice6 (s_0 s_1 s_2 s_3 s_4 s_5 s_6 s_7 s_8 : Int) (s_9 s_10 s_11 s_12 s_13 s_14 : Bool) (s_15 s_16 s_17 s_18 s_19 s_20 s_21 s_22 o_0 o_2 o_3 o_4 o_5 : Int) (hg : (in32 s_0 && (in32 s_1 && (in32 s_2 && (in32 s_3 && (in32 s_4 && (in32 s_5 && (in32 s_6 && (in32 s_7 && (in32 o_5))))))))) = true) :
    evF Try.prog ΓRg2 400 78 [.agg (cCRg3z0 s_0 s_1 s_2 s_3 s_4 s_5 s_6 s_7 s_8 s_9 s_10 s_11 s_12 s_13 s_14 s_15 s_16 s_17 s_18 s_19 s_20 s_21 s_22), .agg (cCRg3z9 o_0 o_2 o_3 o_4 o_5)] [] (fun x _ => some x) (fun _ _ => none) = some (.v (.int .u64 (getV o_0 6 o_5 s_0 s_1 s_2 s_3 s_4 s_5 s_6 s_7 s_15 s_16 s_17 s_18 s_19 s_20 s_21 s_22))) := by
  rw [rget_form6]
  try simp only [bitsL_eq]
  simp only [Bool.and_eq_true] at hg
  obtain ⟨g0, g1, g2, g3, g4, g5, g6, g7, g8⟩ := hg
  have k4 : ((4 : Int) == 1) = false ∧ ((4 : Int) == 2) = false ∧ ((4 : Int) == 5) = false := by decide
  unfold getV sel8
  cases h4 : (o_0 == 4) <;> cases h1 : (o_0 == 1) <;> cases h2 : (o_0 == 2) <;> cases h5 : (o_0 == 5) <;> simp [isV, w64_32 g0, w64_32 g1, w64_32 g2, w64_32 g3, w64_32 g4, w64_32 g5, w64_32 g6, w64_32 g7, w64_32 g8, wr_u8, fdivOne, fdiv256, w64_b, and_255_32 g0, and_255_32 g1, and_255_32 g2, and_255_32 g3, and_255_hi g0, and_255_hi g1, and_255_hi g2, and_255_hi g3]
theorem rget_form7 (s_0 s_1 s_2 s_3 s_4 s_5 s_6 s_7 s_8 : Int) (s_9 s_10 s_11 s_12 s_13 s_14 : Bool) (s_15 s_16 s_17 s_18 s_19 s_20 s_21 s_22 o_0 o_2 o_3 o_4 o_5 : Int) :
    evF Try.prog ΓRg2 400 78 [.agg (cCRg3z0 s_0 s_1 s_2 s_3 s_4 s_5 s_6 s_7 s_8 s_9 s_10 s_11 s_12 s_13 s_14 s_15 s_16 s_17 s_18 s_19 s_20 s_21 s_22), .agg (cCRg3z10 o_0 o_2 o_3 o_4 o_5)] [] (fun x _ => some x) (fun _ _ => none) =
    (bif o_0 == 4 then some (vd ((IntKind.wrap IntKind.u64 o_5)))
 else
 bif o_0 == 1 then some (vd ((IntKind.wrap IntKind.u64 s_7)))
 else
 bif o_0 == 2 then
 some (vd ((IntKind.wrap IntKind.u64 (bitsL BinOp.and IntKind.u32 (Int.fdiv s_3 256) 255))))
 else bif o_0 == 5 then some (vd s_22) else some (vd 0)) := by kernel_rfl
theorem rget_nice7 (s_0 s_1 s_2 s_3 s_4 s_5 s_6 s_7 s_8 : Int) (s_9 s_10 s_11 s_12 s_13 s_14 : Bool) (s_15 s_16 s_17 s_18 s_19 s_20 s_21 s_22 o_0 o_2 o_3 o_4 o_5 : Int) (hg : (in32 s_0 && (in32 s_1 && (in32 s_2 && (in32 s_3 && (in32 s_4 && (in32 s_5 && (in32 s_6 && (in32 s_7 && (in32 o_5))))))))) = true) :
    evF Try.prog ΓRg2 400 78 [.agg (cCRg3z0 s_0 s_1 s_2 s_3 s_4 s_5 s_6 s_7 s_8 s_9 s_10 s_11 s_12 s_13 s_14 s_15 s_16 s_17 s_18 s_19 s_20 s_21 s_22), .agg (cCRg3z10 o_0 o_2 o_3 o_4 o_5)] [] (fun x _ => some x) (fun _ _ => none) = some (.v (.int .u64 (getV o_0 7 o_5 s_0 s_1 s_2 s_3 s_4 s_5 s_6 s_7 s_15 s_16 s_17 s_18 s_19 s_20 s_21 s_22))) := by
  rw [rget_form7]
  try simp only [bitsL_eq]
  simp only [Bool.and_eq_true] at hg
  obtain ⟨g0, g1, g2, g3, g4, g5, g6, g7, g8⟩ := hg
  have k4 : ((4 : Int) == 1) = false ∧ ((4 : Int) == 2) = false ∧ ((4 : Int) == 5) = false := by decide
  unfold getV sel8
  cases h4 : (o_0 == 4) <;> cases h1 : (o_0 == 1) <;> cases h2 : (o_0 == 2) <;> cases h5 : (o_0 == 5) <;> simp [isV, w64_32 g0, w64_32 g1, w64_32 g2, w64_32 g3, w64_32 g4, w64_32 g5, w64_32 g6, w64_32 g7, w64_32 g8, wr_u8, fdivOne, fdiv256, w64_b, and_255_32 g0, and_255_32 g1, and_255_32 g2, and_255_32 g3, and_255_hi g0, and_255_hi g1, and_255_hi g2, and_255_hi g3]
def rgetS : Nice := fun R args kv => match args with
  | [.agg [.v (.int .u32 s_0), .v (.int .u32 s_1), .v (.int .u32 s_2), .v (.int .u32 s_3), .v (.int .u32 s_4), .v (.int .u32 s_5), .v (.int .u32 s_6), .v (.int .u32 s_7), .v (.int .u32 s_8), .v (.bool s_9), .v (.bool s_10), .v (.bool s_11), .v (.bool s_12), .v (.bool s_13), .v (.bool s_14), .v (.int .u64 s_15), .v (.int .u64 s_16), .v (.int .u64 s_17), .v (.int .u64 s_18), .v (.int .u64 s_19), .v (.int .u64 s_20), .v (.int .u64 s_21), .v (.int .u64 s_22)], .agg [.v (.int .i64 o_0), .v (.int .i64 o_1), .v (.int .i64 o_2), .v (.int .i64 o_3), .v (.int .i64 o_4), .v (.int .u32 o_5)]] => bif in32 s_0 && (in32 s_1 && (in32 s_2 && (in32 s_3 && (in32 s_4 && (in32 s_5 && (in32 s_6 && (in32 s_7 && (in32 o_5)))))))) then kv (.v (.int .u64 (getV o_0 o_1 o_5 s_0 s_1 s_2 s_3 s_4 s_5 s_6 s_7 s_15 s_16 s_17 s_18 s_19 s_20 s_21 s_22))) else none
  | _ => none
theorem rgetS_ok : NiceOkX Try.prog X0 78 rgetS := by
  intro R args kv r h
  unfold rgetS at h
  split at h
  · rename_i s_0 s_1 s_2 s_3 s_4 s_5 s_6 s_7 s_8 s_9 s_10 s_11 s_12 s_13 s_14 s_15 s_16 s_17 s_18 s_19 s_20 s_21 s_22 o_0 o_1 o_2 o_3 o_4 o_5
    obtain ⟨hg, h2⟩ := cond_some h
    clear h
    cases hv : isV o_1 with
    | false => exact ⟨_, ΓRgF, 400, h2, rfl, rfl, ΓRgF_ok, rget_niceO _ _ _ _ _ _ _ _ _ _ _ _ _ _ _ _ _ _ _ _ _ _ _ _ _ _ _ _ _ hv hg⟩
    | true =>
      rcases isV_cases hv with rfl | rfl | rfl | rfl | rfl | rfl | rfl | rfl
      · exact ⟨_, ΓRg2, 400, h2, rfl, rfl, ΓRg2_ok, rget_nice0 _ _ _ _ _ _ _ _ _ _ _ _ _ _ _ _ _ _ _ _ _ _ _ _ _ _ _ _ hg⟩
      · exact ⟨_, ΓRg2, 400, h2, rfl, rfl, ΓRg2_ok, rget_nice1 _ _ _ _ _ _ _ _ _ _ _ _ _ _ _ _ _ _ _ _ _ _ _ _ _ _ _ _ hg⟩
      · exact ⟨_, ΓRg2, 400, h2, rfl, rfl, ΓRg2_ok, rget_nice2 _ _ _ _ _ _ _ _ _ _ _ _ _ _ _ _ _ _ _ _ _ _ _ _ _ _ _ _ hg⟩
      · exact ⟨_, ΓRg2, 400, h2, rfl, rfl, ΓRg2_ok, rget_nice3 _ _ _ _ _ _ _ _ _ _ _ _ _ _ _ _ _ _ _ _ _ _ _ _ _ _ _ _ hg⟩
      · exact ⟨_, ΓRg2, 400, h2, rfl, rfl, ΓRg2_ok, rget_nice4 _ _ _ _ _ _ _ _ _ _ _ _ _ _ _ _ _ _ _ _ _ _ _ _ _ _ _ _ hg⟩
      · exact ⟨_, ΓRg2, 400, h2, rfl, rfl, ΓRg2_ok, rget_nice5 _ _ _ _ _ _ _ _ _ _ _ _ _ _ _ _ _ _ _ _ _ _ _ _ _ _ _ _ hg⟩
      · exact ⟨_, ΓRg2, 400, h2, rfl, rfl, ΓRg2_ok, rget_nice6 _ _ _ _ _ _ _ _ _ _ _ _ _ _ _ _ _ _ _ _ _ _ _ _ _ _ _ _ hg⟩
      · exact ⟨_, ΓRg2, 400, h2, rfl, rfl, ΓRg2_ok, rget_nice7 _ _ _ _ _ _ _ _ _ _ _ _ _ _ _ _ _ _ _ _ _ _ _ _ _ _ _ _ hg⟩
  · cases h
abbrev cCRg3z1 (s_0 s_1 s_2 s_3 s_4 s_5 s_6 s_7 s_8 : Int) (s_9 s_10 s_11 s_12 s_13 s_14 : Bool) (s_15 s_16 s_17 s_18 s_19 s_20 s_21 s_22 : Int) : List Sv := [vw s_0, vw s_1, vw s_2, vw s_3, vw s_4, vw s_5, vw s_6, vw s_7, vw s_8, vb s_9, vb s_10, vb s_11, vb s_12, vb s_13, vb s_14, vd s_15, vd s_16, vd s_17, vd s_18, vd s_19, vd s_20, vd s_21, vd s_22]
theorem set_formO (s_0 s_1 s_2 s_3 s_4 s_5 s_6 s_7 s_8 : Int) (s_9 s_10 s_11 s_12 s_13 s_14 : Bool) (s_15 s_16 s_17 s_18 s_19 s_20 s_21 s_22 o_0 o_1 o_2 o_3 o_4 o_5 v : Int) :
    evF Try.prog ΓRgF 400 115 [.agg (cCRg3z0 s_0 s_1 s_2 s_3 s_4 s_5 s_6 s_7 s_8 s_9 s_10 s_11 s_12 s_13 s_14 s_15 s_16 s_17 s_18 s_19 s_20 s_21 s_22), .agg (cCRg3z2 o_0 o_1 o_2 o_3 o_4 o_5), vd v] [] (fun x _ => some x) (fun _ _ => none) =
    (bif !isV o_1 then
 some
 (Sv.agg
 (cCRg3z1 s_0 s_1 s_2 s_3 s_4 s_5 s_6 s_7 s_8 s_9 s_10 s_11 s_12 s_13 s_14 s_15 s_16 s_17 s_18 s_19 s_20 s_21 s_22))
 else none) := by kernel_rfl
theorem set_niceO (s_0 s_1 s_2 s_3 s_4 s_5 s_6 s_7 s_8 : Int) (s_9 s_10 s_11 s_12 s_13 s_14 : Bool) (s_15 s_16 s_17 s_18 s_19 s_20 s_21 s_22 o_0 o_1 o_2 o_3 o_4 o_5 v : Int) (hv : isV o_1 = false) (hg : (in32 s_0 && (in32 s_1 && (in32 s_2 && (in32 s_3 && (in64 v))))) = true) :
    evF Try.prog ΓRgF 400 115 [.agg (cCRg3z0 s_0 s_1 s_2 s_3 s_4 s_5 s_6 s_7 s_8 s_9 s_10 s_11 s_12 s_13 s_14 s_15 s_16 s_17 s_18 s_19 s_20 s_21 s_22), .agg (cCRg3z2 o_0 o_1 o_2 o_3 o_4 o_5), vd v] [] (fun x _ => some x) (fun _ _ => none) = some (.agg [.v (.int .u32 (setA o_0 o_1 0 s_0 v)), .v (.int .u32 (setA o_0 o_1 1 s_1 v)), .v (.int .u32 (setA o_0 o_1 2 s_2 v)), .v (.int .u32 (setA o_0 o_1 3 s_3 v)), .v (.int .u32 (setB o_0 o_1 4 s_4 v)), .v (.int .u32 (setB o_0 o_1 5 s_5 v)), .v (.int .u32 (setB o_0 o_1 6 s_6 v)), .v (.int .u32 (setB o_0 o_1 7 s_7 v)), vw s_8, vb s_9, vb s_10, vb s_11, vb s_12, vb s_13, vb s_14, .v (.int .u64 (setX o_0 o_1 0 s_15 v)), .v (.int .u64 (setX o_0 o_1 1 s_16 v)), .v (.int .u64 (setX o_0 o_1 2 s_17 v)), .v (.int .u64 (setX o_0 o_1 3 s_18 v)), .v (.int .u64 (setX o_0 o_1 4 s_19 v)), .v (.int .u64 (setX o_0 o_1 5 s_20 v)), .v (.int .u64 (setX o_0 o_1 6 s_21 v)), .v (.int .u64 (setX o_0 o_1 7 s_22 v))]) := by
  rw [set_formO]
  try simp only [bitsL_eq]
  simp only [Bool.and_eq_true] at hg
  obtain ⟨g0, g1, g2, g3, g4⟩ := hg
  have n0 : ∀ j : Int, 0 ≤ j → j ≤ 7 → (o_1 == j) = false := fun j h0 h7 => by
    cases h : (o_1 == j) with
    | false => rfl
    | true => rw [beq_iff_eq.1 h] at hv; unfold isV at hv; simp [h0, h7] at hv
  have q0 := n0 0 (by decide) (by decide); have q1 := n0 1 (by decide) (by decide); have q2 := n0 2 (by decide) (by decide); have q3 := n0 3 (by decide) (by decide); have q4 := n0 4 (by decide) (by decide); have q5 := n0 5 (by decide) (by decide); have q6 := n0 6 (by decide) (by decide); have q7 := n0 7 (by decide) (by decide)
  rw [hv]
  simp [setA, setB, setX, q0, q1, q2, q3, q4, q5, q6, q7]
theorem set_form0 (s_0 s_1 s_2 s_3 s_4 s_5 s_6 s_7 s_8 : Int) (s_9 s_10 s_11 s_12 s_13 s_14 : Bool) (s_15 s_16 s_17 s_18 s_19 s_20 s_21 s_22 o_0 o_2 o_3 o_4 o_5 v : Int) :
    evF Try.prog ΓRg2 400 115 [.agg (cCRg3z0 s_0 s_1 s_2 s_3 s_4 s_5 s_6 s_7 s_8 s_9 s_10 s_11 s_12 s_13 s_14 s_15 s_16 s_17 s_18 s_19 s_20 s_21 s_22), .agg (cCRg3z3 o_0 o_2 o_3 o_4 o_5), vd v] [] (fun x _ => some x) (fun _ _ => none) =
    (bif o_0 == 1 then
 some
 (Sv.agg
 [vw ((IntKind.wrap IntKind.u32 v)), vw s_1,
 vw s_2, vw s_3, vw s_4,
 vw s_5, vw s_6, vw s_7,
 vw s_8, vb s_9, vb s_10, vb s_11,
 vb s_12, vb s_13, vb s_14, vd s_15,
 vd s_16, vd s_17, vd s_18,
 vd s_19, vd s_20, vd s_21,
 vd s_22])
 else
 bif o_0 == 2 then
 some
 (Sv.agg
 [Sv.v
 (Value.int IntKind.u32
 (bitsL BinOp.or IntKind.u32 (bitsL BinOp.andNot IntKind.u32 s_0 255)
 (IntKind.wrap IntKind.u32 (IntKind.wrap IntKind.u32 (IntKind.wrap IntKind.u8 v) * 1)))),
 vw s_1, vw s_2, vw s_3,
 vw s_4, vw s_5, vw s_6,
 vw s_7, vw s_8, vb s_9, vb s_10,
 vb s_11, vb s_12, vb s_13, vb s_14,
 vd s_15, vd s_16, vd s_17,
 vd s_18, vd s_19, vd s_20,
 vd s_21, vd s_22])
 else
 bif o_0 == 5 then
 some
 (Sv.agg
 [vw s_0, vw s_1, vw s_2,
 vw s_3, vw s_4, vw s_5,
 vw s_6, vw s_7, vw s_8,
 vb s_9, vb s_10, vb s_11, vb s_12, vb s_13,
 vb s_14, vd v, vd s_16,
 vd s_17, vd s_18, vd s_19,
 vd s_20, vd s_21, vd s_22])
 else
 some
 (Sv.agg
 (cCRg3z1 s_0 s_1 s_2 s_3 s_4 s_5 s_6 s_7 s_8 s_9 s_10 s_11 s_12 s_13 s_14 s_15 s_16 s_17 s_18 s_19 s_20 s_21 s_22))) := by kernel_rfl
theorem set_nice0 (s_0 s_1 s_2 s_3 s_4 s_5 s_6 s_7 s_8 : Int) (s_9 s_10 s_11 s_12 s_13 s_14 : Bool) (s_15 s_16 s_17 s_18 s_19 s_20 s_21 s_22 o_0 o_2 o_3 o_4 o_5 v : Int) (hg : (in32 s_0 && (in32 s_1 && (in32 s_2 && (in32 s_3 && (in64 v))))) = true) :
    evF Try.prog ΓRg2 400 115 [.agg (cCRg3z0 s_0 s_1 s_2 s_3 s_4 s_5 s_6 s_7 s_8 s_9 s_10 s_11 s_12 s_13 s_14 s_15 s_16 s_17 s_18 s_19 s_20 s_21 s_22), .agg (cCRg3z3 o_0 o_2 o_3 o_4 o_5), vd v] [] (fun x _ => some x) (fun _ _ => none) = some (.agg [.v (.int .u32 (setA o_0 0 0 s_0 v)), .v (.int .u32 (setA o_0 0 1 s_1 v)), .v (.int .u32 (setA o_0 0 2 s_2 v)), .v (.int .u32 (setA o_0 0 3 s_3 v)), .v (.int .u32 (setB o_0 0 4 s_4 v)), .v (.int .u32 (setB o_0 0 5 s_5 v)), .v (.int .u32 (setB o_0 0 6 s_6 v)), .v (.int .u32 (setB o_0 0 7 s_7 v)), vw s_8, vb s_9, vb s_10, vb s_11, vb s_12, vb s_13, vb s_14, .v (.int .u64 (setX o_0 0 0 s_15 v)), .v (.int .u64 (setX o_0 0 1 s_16 v)), .v (.int .u64 (setX o_0 0 2 s_17 v)), .v (.int .u64 (setX o_0 0 3 s_18 v)), .v (.int .u64 (setX o_0 0 4 s_19 v)), .v (.int .u64 (setX o_0 0 5 s_20 v)), .v (.int .u64 (setX o_0 0 6 s_21 v)), .v (.int .u64 (setX o_0 0 7 s_22 v))]) := by
  rw [set_form0]
  try simp only [bitsL_eq]
  simp only [Bool.and_eq_true] at hg
  obtain ⟨g0, g1, g2, g3, g4⟩ := hg
  cases h1 : (o_0 == 1) <;> cases h2 : (o_0 == 2) <;> cases h5 : (o_0 == 5) <;> first
    | (have e1 := beq_iff_eq.1 h1; subst e1; cases h2; done)
    | (have e1 := beq_iff_eq.1 h1; subst e1; cases h5; done)
    | (have e1 := beq_iff_eq.1 h2; subst e1; cases h5; done)
    | simp [setA, setB, setX, h1, h2, h5, wr_u8, wr_u32 v, w32_b0, w32_b1, w32_b8, and_255_64 g4, lo_set g0, lo_set g1, lo_set g2, lo_set g3, hi_set g0, hi_set g1, hi_set g2, hi_set g3]
theorem set_form1 (s_0 s_1 s_2 s_3 s_4 s_5 s_6 s_7 s_8 : Int) (s_9 s_10 s_11 s_12 s_13 s_14 : Bool) (s_15 s_16 s_17 s_18 s_19 s_20 s_21 s_22 o_0 o_2 o_3 o_4 o_5 v : Int) :
    evF Try.prog ΓRg2 400 115 [.agg (cCRg3z0 s_0 s_1 s_2 s_3 s_4 s_5 s_6 s_7 s_8 s_9 s_10 s_11 s_12 s_13 s_14 s_15 s_16 s_17 s_18 s_19 s_20 s_21 s_22), .agg (cCRg3z4 o_0 o_2 o_3 o_4 o_5), vd v] [] (fun x _ => some x) (fun _ _ => none) =
    (bif o_0 == 1 then
 some
 (Sv.agg
 [vw s_0, vw ((IntKind.wrap IntKind.u32 v)),
 vw s_2, vw s_3, vw s_4,
 vw s_5, vw s_6, vw s_7,
 vw s_8, vb s_9, vb s_10, vb s_11,
 vb s_12, vb s_13, vb s_14, vd s_15,
 vd s_16, vd s_17, vd s_18,
 vd s_19, vd s_20, vd s_21,
 vd s_22])
 else
 bif o_0 == 2 then
 some
 (Sv.agg
 [vw s_0,
 Sv.v
 (Value.int IntKind.u32
 (bitsL BinOp.or IntKind.u32 (bitsL BinOp.andNot IntKind.u32 s_1 255)
 (IntKind.wrap IntKind.u32 (IntKind.wrap IntKind.u32 (IntKind.wrap IntKind.u8 v) * 1)))),
 vw s_2, vw s_3, vw s_4,
 vw s_5, vw s_6, vw s_7,
 vw s_8, vb s_9, vb s_10, vb s_11,
 vb s_12, vb s_13, vb s_14, vd s_15,
 vd s_16, vd s_17, vd s_18,
 vd s_19, vd s_20, vd s_21,
 vd s_22])
 else
 bif o_0 == 5 then
 some
 (Sv.agg
 [vw s_0, vw s_1, vw s_2,
 vw s_3, vw s_4, vw s_5,
 vw s_6, vw s_7, vw s_8,
 vb s_9, vb s_10, vb s_11, vb s_12, vb s_13,
 vb s_14, vd s_15, vd v,
 vd s_17, vd s_18, vd s_19,
 vd s_20, vd s_21, vd s_22])
 else
 some
 (Sv.agg
 (cCRg3z1 s_0 s_1 s_2 s_3 s_4 s_5 s_6 s_7 s_8 s_9 s_10 s_11 s_12 s_13 s_14 s_15 s_16 s_17 s_18 s_19 s_20 s_21 s_22))) := by kernel_rfl
theorem set_nice1 (s_0 s_1 s_2 s_3 s_4 s_5 s_6 s_7 s_8 : Int) (s_9 s_10 s_11 s_12 s_13 s_14 : Bool) (s_15 s_16 s_17 s_18 s_19 s_20 s_21 s_22 o_0 o_2 o_3 o_4 o_5 v : Int) (hg : (in32 s_0 && (in32 s_1 && (in32 s_2 && (in32 s_3 && (in64 v))))) = true) :
    evF Try.prog ΓRg2 400 115 [.agg (cCRg3z0 s_0 s_1 s_2 s_3 s_4 s_5 s_6 s_7 s_8 s_9 s_10 s_11 s_12 s_13 s_14 s_15 s_16 s_17 s_18 s_19 s_20 s_21 s_22), .agg (cCRg3z4 o_0 o_2 o_3 o_4 o_5), vd v] [] (fun x _ => some x) (fun _ _ => none) = some (.agg [.v (.int .u32 (setA o_0 1 0 s_0 v)), .v (.int .u32 (setA o_0 1 1 s_1 v)), .v (.int .u32 (setA o_0 1 2 s_2 v)), .v (.int .u32 (setA o_0 1 3 s_3 v)), .v (.int .u32 (setB o_0 1 4 s_4 v)), .v (.int .u32 (setB o_0 1 5 s_5 v)), .v (.int .u32 (setB o_0 1 6 s_6 v)), .v (.int .u32 (setB o_0 1 7 s_7 v)), vw s_8, vb s_9, vb s_10, vb s_11, vb s_12, vb s_13, vb s_14, .v (.int .u64 (setX o_0 1 0 s_15 v)), .v (.int .u64 (setX o_0 1 1 s_16 v)), .v (.int .u64 (setX o_0 1 2 s_17 v)), .v (.int .u64 (setX o_0 1 3 s_18 v)), .v (.int .u64 (setX o_0 1 4 s_19 v)), .v (.int .u64 (setX o_0 1 5 s_20 v)), .v (.int .u64 (setX o_0 1 6 s_21 v)), .v (.int .u64 (setX o_0 1 7 s_22 v))]) := by
  rw [set_form1]
  try simp only [bitsL_eq]
  simp only [Bool.and_eq_true] at hg
  obtain ⟨g0, g1, g2, g3, g4⟩ := hg
  cases h1 : (o_0 == 1) <;> cases h2 : (o_0 == 2) <;> cases h5 : (o_0 == 5) <;> first
    | (have e1 := beq_iff_eq.1 h1; subst e1; cases h2; done)
    | (have e1 := beq_iff_eq.1 h1; subst e1; cases h5; done)
    | (have e1 := beq_iff_eq.1 h2; subst e1; cases h5; done)
    | simp [setA, setB, setX, h1, h2, h5, wr_u8, wr_u32 v, w32_b0, w32_b1, w32_b8, and_255_64 g4, lo_set g0, lo_set g1, lo_set g2, lo_set g3, hi_set g0, hi_set g1, hi_set g2, hi_set g3]
theorem set_form2 (s_0 s_1 s_2 s_3 s_4 s_5 s_6 s_7 s_8 : Int) (s_9 s_10 s_11 s_12 s_13 s_14 : Bool) (s_15 s_16 s_17 s_18 s_19 s_20 s_21 s_22 o_0 o_2 o_3 o_4 o_5 v : Int) :
    evF Try.prog ΓRg2 400 115 [.agg (cCRg3z0 s_0 s_1 s_2 s_3 s_4 s_5 s_6 s_7 s_8 s_9 s_10 s_11 s_12 s_13 s_14 s_15 s_16 s_17 s_18 s_19 s_20 s_21 s_22), .agg (cCRg3z5 o_0 o_2 o_3 o_4 o_5), vd v] [] (fun x _ => some x) (fun _ _ => none) =
    (bif o_0 == 1 then
 some
 (Sv.agg
 [vw s_0, vw s_1,
 vw ((IntKind.wrap IntKind.u32 v)), vw s_3,
 vw s_4, vw s_5, vw s_6,
 vw s_7, vw s_8, vb s_9, vb s_10,
 vb s_11, vb s_12, vb s_13, vb s_14,
 vd s_15, vd s_16, vd s_17,
 vd s_18, vd s_19, vd s_20,
 vd s_21, vd s_22])
 else
 bif o_0 == 2 then
 some
 (Sv.agg
 [vw s_0, vw s_1,
 Sv.v
 (Value.int IntKind.u32
 (bitsL BinOp.or IntKind.u32 (bitsL BinOp.andNot IntKind.u32 s_2 255)
 (IntKind.wrap IntKind.u32 (IntKind.wrap IntKind.u32 (IntKind.wrap IntKind.u8 v) * 1)))),
 vw s_3, vw s_4, vw s_5,
 vw s_6, vw s_7, vw s_8,
 vb s_9, vb s_10, vb s_11, vb s_12, vb s_13,
 vb s_14, vd s_15, vd s_16,
 vd s_17, vd s_18, vd s_19,
 vd s_20, vd s_21, vd s_22])
 else
 bif o_0 == 5 then
 some
 (Sv.agg
 [vw s_0, vw s_1, vw s_2,
 vw s_3, vw s_4, vw s_5,
 vw s_6, vw s_7, vw s_8,
 vb s_9, vb s_10, vb s_11, vb s_12, vb s_13,
 vb s_14, vd s_15, vd s_16,
 vd v, vd s_18, vd s_19,
 vd s_20, vd s_21, vd s_22])
 else
 some
 (Sv.agg
 (cCRg3z1 s_0 s_1 s_2 s_3 s_4 s_5 s_6 s_7 s_8 s_9 s_10 s_11 s_12 s_13 s_14 s_15 s_16 s_17 s_18 s_19 s_20 s_21 s_22))) := by kernel_rfl
theorem set_nice2 (s_0 s_1 s_2 s_3 s_4 s_5 s_6 s_7 s_8 : Int) (s_9 s_10 s_11 s_12 s_13 s_14 : Bool) (s_15 s_16 s_17 s_18 s_19 s_20 s_21 s_22 o_0 o_2 o_3 o_4 o_5 v : Int) (hg : (in32 s_0 && (in32 s_1 && (in32 s_2 && (in32 s_3 && (in64 v))))) = true) :
    evF Try.prog ΓRg2 400 115 [.agg (cCRg3z0 s_0 s_1 s_2 s_3 s_4 s_5 s_6 s_7 s_8 s_9 s_10 s_11 s_12 s_13 s_14 s_15 s_16 s_17 s_18 s_19 s_20 s_21 s_22), .agg (cCRg3z5 o_0 o_2 o_3 o_4 o_5), vd v] [] (fun x _ => some x) (fun _ _ => none) = some (.agg [.v (.int .u32 (setA o_0 2 0 s_0 v)), .v (.int .u32 (setA o_0 2 1 s_1 v)), .v (.int .u32 (setA o_0 2 2 s_2 v)), .v (.int .u32 (setA o_0 2 3 s_3 v)), .v (.int .u32 (setB o_0 2 4 s_4 v)), .v (.int .u32 (setB o_0 2 5 s_5 v)), .v (.int .u32 (setB o_0 2 6 s_6 v)), .v (.int .u32 (setB o_0 2 7 s_7 v)), vw s_8, vb s_9, vb s_10, vb s_11, vb s_12, vb s_13, vb s_14, .v (.int .u64 (setX o_0 2 0 s_15 v)), .v (.int .u64 (setX o_0 2 1 s_16 v)), .v (.int .u64 (setX o_0 2 2 s_17 v)), .v (.int .u64 (setX o_0 2 3 s_18 v)), .v (.int .u64 (setX o_0 2 4 s_19 v)), .v (.int .u64 (setX o_0 2 5 s_20 v)), .v (.int .u64 (setX o_0 2 6 s_21 v)), .v (.int .u64 (setX o_0 2 7 s_22 v))]) := by
  rw [set_form2]
  try simp only [bitsL_eq]
  simp only [Bool.and_eq_true] at hg
  obtain ⟨g0, g1, g2, g3, g4⟩ := hg
  cases h1 : (o_0 == 1) <;> cases h2 : (o_0 == 2) <;> cases h5 : (o_0 == 5) <;> first
    | (have e1 := beq_iff_eq.1 h1; subst e1; cases h2; done)
    | (have e1 := beq_iff_eq.1 h1; subst e1; cases h5; done)
    | (have e1 := beq_iff_eq.1 h2; subst e1; cases h5; done)
    | simp [setA, setB, setX, h1, h2, h5, wr_u8, wr_u32 v, w32_b0, w32_b1, w32_b8, and_255_64 g4, lo_set g0, lo_set g1, lo_set g2, lo_set g3, hi_set g0, hi_set g1, hi_set g2, hi_set g3]
theorem set_form3 (s_0 s_1 s_2 s_3 s_4 s_5 s_6 s_7 s_8 : Int) (s_9 s_10 s_11 s_12 s_13 s_14 : Bool) (s_15 s_16 s_17 s_18 s_19 s_20 s_21 s_22 o_0 o_2 o_3 o_4 o_5 v : Int) :
    evF Try.prog ΓRg2 400 115 [.agg (cCRg3z0 s_0 s_1 s_2 s_3 s_4 s_5 s_6 s_7 s_8 s_9 s_10 s_11 s_12 s_13 s_14 s_15 s_16 s_17 s_18 s_19 s_20 s_21 s_22), .agg (cCRg3z6 o_0 o_2 o_3 o_4 o_5), vd v] [] (fun x _ => some x) (fun _ _ => none) =
    (bif o_0 == 1 then
 some
 (Sv.agg
 [vw s_0, vw s_1, vw s_2,
 vw ((IntKind.wrap IntKind.u32 v)), vw s_4,
 vw s_5, vw s_6, vw s_7,
 vw s_8, vb s_9, vb s_10, vb s_11,
 vb s_12, vb s_13, vb s_14, vd s_15,
 vd s_16, vd s_17, vd s_18,
 vd s_19, vd s_20, vd s_21,
 vd s_22])
 else
 bif o_0 == 2 then
 some
 (Sv.agg
 [vw s_0, vw s_1, vw s_2,
 Sv.v
 (Value.int IntKind.u32
 (bitsL BinOp.or IntKind.u32 (bitsL BinOp.andNot IntKind.u32 s_3 255)
 (IntKind.wrap IntKind.u32 (IntKind.wrap IntKind.u32 (IntKind.wrap IntKind.u8 v) * 1)))),
 vw s_4, vw s_5, vw s_6,
 vw s_7, vw s_8, vb s_9, vb s_10,
 vb s_11, vb s_12, vb s_13, vb s_14,
 vd s_15, vd s_16, vd s_17,
 vd s_18, vd s_19, vd s_20,
 vd s_21, vd s_22])
 else
 bif o_0 == 5 then
 some
 (Sv.agg
 [vw s_0, vw s_1, vw s_2,
 vw s_3, vw s_4, vw s_5,
 vw s_6, vw s_7, vw s_8,
 vb s_9, vb s_10, vb s_11, vb s_12, vb s_13,
 vb s_14, vd s_15, vd s_16,
 vd s_17, vd v, vd s_19,
 vd s_20, vd s_21, vd s_22])
 else
 some
 (Sv.agg
 (cCRg3z1 s_0 s_1 s_2 s_3 s_4 s_5 s_6 s_7 s_8 s_9 s_10 s_11 s_12 s_13 s_14 s_15 s_16 s_17 s_18 s_19 s_20 s_21 s_22))) := by kernel_rfl
theorem set_nice3 (s_0 s_1 s_2 s_3 s_4 s_5 s_6 s_7 s_8 : Int) (s_9 s_10 s_11 s_12 s_13 s_14 : Bool) (s_15 s_16 s_17 s_18 s_19 s_20 s_21 s_22 o_0 o_2 o_3 o_4 o_5 v : Int) (hg : (in32 s_0 && (in32 s_1 && (in32 s_2 && (in32 s_3 && (in64 v))))) = true) :
    evF Try.prog ΓRg2 400 115 [.agg (cCRg3z0 s_0 s_1 s_2 s_3 s_4 s_5 s_6 s_7 s_8 s_9 s_10 s_11 s_12 s_13 s_14 s_15 s_16 s_17 s_18 s_19 s_20 s_21 s_22), .agg (cCRg3z6 o_0 o_2 o_3 o_4 o_5), vd v] [] (fun x _ => some x) (fun _ _ => none) = some (.agg [.v (.int .u32 (setA o_0 3 0 s_0 v)), .v (.int .u32 (setA o_0 3 1 s_1 v)), .v (.int .u32 (setA o_0 3 2 s_2 v)), .v (.int .u32 (setA o_0 3 3 s_3 v)), .v (.int .u32 (setB o_0 3 4 s_4 v)), .v (.int .u32 (setB o_0 3 5 s_5 v)), .v (.int .u32 (setB o_0 3 6 s_6 v)), .v (.int .u32 (setB o_0 3 7 s_7 v)), vw s_8, vb s_9, vb s_10, vb s_11, vb s_12, vb s_13, vb s_14, .v (.int .u64 (setX o_0 3 0 s_15 v)), .v (.int .u64 (setX o_0 3 1 s_16 v)), .v (.int .u64 (setX o_0 3 2 s_17 v)), .v (.int .u64 (setX o_0 3 3 s_18 v)), .v (.int .u64 (setX o_0 3 4 s_19 v)), .v (.int .u64 (setX o_0 3 5 s_20 v)), .v (.int .u64 (setX o_0 3 6 s_21 v)), .v (.int .u64 (setX o_0 3 7 s_22 v))]) := by
  rw [set_form3]
  try simp only [bitsL_eq]
  simp only [Bool.and_eq_true] at hg
  obtain ⟨g0, g1, g2, g3, g4⟩ := hg
  cases h1 : (o_0 == 1) <;> cases h2 : (o_0 == 2) <;> cases h5 : (o_0 == 5) <;> first
    | (have e1 := beq_iff_eq.1 h1; subst e1; cases h2; done)
    | (have e1 := beq_iff_eq.1 h1; subst e1; cases h5; done)
    | (have e1 := beq_iff_eq.1 h2; subst e1; cases h5; done)
    | simp [setA, setB, setX, h1, h2, h5, wr_u8, wr_u32 v, w32_b0, w32_b1, w32_b8, and_255_64 g4, lo_set g0, lo_set g1, lo_set g2, lo_set g3, hi_set g0, hi_set g1, hi_set g2, hi_set g3]
theorem set_form4 (s_0 s_1 s_2 s_3 s_4 s_5 s_6 s_7 s_8 : Int) (s_9 s_10 s_11 s_12 s_13 s_14 : Bool) (s_15 s_16 s_17 s_18 s_19 s_20 s_21 s_22 o_0 o_2 o_3 o_4 o_5 v : Int) :
    evF Try.prog ΓRg2 400 115 [.agg (cCRg3z0 s_0 s_1 s_2 s_3 s_4 s_5 s_6 s_7 s_8 s_9 s_10 s_11 s_12 s_13 s_14 s_15 s_16 s_17 s_18 s_19 s_20 s_21 s_22), .agg (cCRg3z7 o_0 o_2 o_3 o_4 o_5), vd v] [] (fun x _ => some x) (fun _ _ => none) =
    (bif o_0 == 1 then
 some
 (Sv.agg
 [vw s_0, vw s_1, vw s_2,
 vw s_3, vw ((IntKind.wrap IntKind.u32 v)),
 vw s_5, vw s_6, vw s_7,
 vw s_8, vb s_9, vb s_10, vb s_11,
 vb s_12, vb s_13, vb s_14, vd s_15,
 vd s_16, vd s_17, vd s_18,
 vd s_19, vd s_20, vd s_21,
 vd s_22])
 else
 bif o_0 == 2 then
 some
 (Sv.agg
 [Sv.v
 (Value.int IntKind.u32
 (bitsL BinOp.or IntKind.u32 (bitsL BinOp.andNot IntKind.u32 s_0 65280)
 (IntKind.wrap IntKind.u32 (IntKind.wrap IntKind.u32 (IntKind.wrap IntKind.u8 v) * 256)))),
 vw s_1, vw s_2, vw s_3,
 vw s_4, vw s_5, vw s_6,
 vw s_7, vw s_8, vb s_9, vb s_10,
 vb s_11, vb s_12, vb s_13, vb s_14,
 vd s_15, vd s_16, vd s_17,
 vd s_18, vd s_19, vd s_20,
 vd s_21, vd s_22])
 else
 bif o_0 == 5 then
 some
 (Sv.agg
 [vw s_0, vw s_1, vw s_2,
 vw s_3, vw s_4, vw s_5,
 vw s_6, vw s_7, vw s_8,
 vb s_9, vb s_10, vb s_11, vb s_12, vb s_13,
 vb s_14, vd s_15, vd s_16,
 vd s_17, vd s_18, vd v,
 vd s_20, vd s_21, vd s_22])
 else
 some
 (Sv.agg
 (cCRg3z1 s_0 s_1 s_2 s_3 s_4 s_5 s_6 s_7 s_8 s_9 s_10 s_11 s_12 s_13 s_14 s_15 s_16 s_17 s_18 s_19 s_20 s_21 s_22))) := by kernel_rfl
theorem set_nice4 (s_0 s_1 s_2 s_3 s_4 s_5 s_6 s_7 s_8 : Int) (s_9 s_10 s_11 s_12 s_13 s_14 : Bool) (s_15 s_16 s_17 s_18 s_19 s_20 s_21 s_22 o_0 o_2 o_3 o_4 o_5 v : Int) (hg : (in32 s_0 && (in32 s_1 && (in32 s_2 && (in32 s_3 && (in64 v))))) = true) :
    evF Try.prog ΓRg2 400 115 [.agg (cCRg3z0 s_0 s_1 s_2 s_3 s_4 s_5 s_6 s_7 s_8 s_9 s_10 s_11 s_12 s_13 s_14 s_15 s_16 s_17 s_18 s_19 s_20 s_21 s_22), .agg (cCRg3z7 o_0 o_2 o_3 o_4 o_5), vd v] [] (fun x _ => some x) (fun _ _ => none) = some (.agg [.v (.int .u32 (setA o_0 4 0 s_0 v)), .v (.int .u32 (setA o_0 4 1 s_1 v)), .v (.int .u32 (setA o_0 4 2 s_2 v)), .v (.int .u32 (setA o_0 4 3 s_3 v)), .v (.int .u32 (setB o_0 4 4 s_4 v)), .v (.int .u32 (setB o_0 4 5 s_5 v)), .v (.int .u32 (setB o_0 4 6 s_6 v)), .v (.int .u32 (setB o_0 4 7 s_7 v)), vw s_8, vb s_9, vb s_10, vb s_11, vb s_12, vb s_13, vb s_14, .v (.int .u64 (setX o_0 4 0 s_15 v)), .v (.int .u64 (setX o_0 4 1 s_16 v)), .v (.int .u64 (setX o_0 4 2 s_17 v)), .v (.int .u64 (setX o_0 4 3 s_18 v)), .v (.int .u64 (setX o_0 4 4 s_19 v)), .v (.int .u64 (setX o_0 4 5 s_20 v)), .v (.int .u64 (setX o_0 4 6 s_21 v)), .v (.int .u64 (setX o_0 4 7 s_22 v))]) := by
  rw [set_form4]
  try simp only [bitsL_eq]
  simp only [Bool.and_eq_true] at hg
  obtain ⟨g0, g1, g2, g3, g4⟩ := hg
  cases h1 : (o_0 == 1) <;> cases h2 : (o_0 == 2) <;> cases h5 : (o_0 == 5) <;> first
    | (have e1 := beq_iff_eq.1 h1; subst e1; cases h2; done)
    | (have e1 := beq_iff_eq.1 h1; subst e1; cases h5; done)
    | (have e1 := beq_iff_eq.1 h2; subst e1; cases h5; done)
    | simp [setA, setB, setX, h1, h2, h5, wr_u8, wr_u32 v, w32_b0, w32_b1, w32_b8, and_255_64 g4, lo_set g0, lo_set g1, lo_set g2, lo_set g3, hi_set g0, hi_set g1, hi_set g2, hi_set g3]
theorem set_form5 (s_0 s_1 s_2 s_3 s_4 s_5 s_6 s_7 s_8 : Int) (s_9 s_10 s_11 s_12 s_13 s_14 : Bool) (s_15 s_16 s_17 s_18 s_19 s_20 s_21 s_22 o_0 o_2 o_3 o_4 o_5 v : Int) :
    evF Try.prog ΓRg2 400 115 [.agg (cCRg3z0 s_0 s_1 s_2 s_3 s_4 s_5 s_6 s_7 s_8 s_9 s_10 s_11 s_12 s_13 s_14 s_15 s_16 s_17 s_18 s_19 s_20 s_21 s_22), .agg (cCRg3z8 o_0 o_2 o_3 o_4 o_5), vd v] [] (fun x _ => some x) (fun _ _ => none) =
    (bif o_0 == 1 then
 some
 (Sv.agg
 [vw s_0, vw s_1, vw s_2,
 vw s_3, vw s_4,
 vw ((IntKind.wrap IntKind.u32 v)), vw s_6,
 vw s_7, vw s_8, vb s_9, vb s_10,
 vb s_11, vb s_12, vb s_13, vb s_14,
 vd s_15, vd s_16, vd s_17,
 vd s_18, vd s_19, vd s_20,
 vd s_21, vd s_22])
 else
 bif o_0 == 2 then
 some
 (Sv.agg
 [vw s_0,
 Sv.v
 (Value.int IntKind.u32
 (bitsL BinOp.or IntKind.u32 (bitsL BinOp.andNot IntKind.u32 s_1 65280)
 (IntKind.wrap IntKind.u32 (IntKind.wrap IntKind.u32 (IntKind.wrap IntKind.u8 v) * 256)))),
 vw s_2, vw s_3, vw s_4,
 vw s_5, vw s_6, vw s_7,
 vw s_8, vb s_9, vb s_10, vb s_11,
 vb s_12, vb s_13, vb s_14, vd s_15,
 vd s_16, vd s_17, vd s_18,
 vd s_19, vd s_20, vd s_21,
 vd s_22])
 else
 bif o_0 == 5 then
 some
 (Sv.agg
 [vw s_0, vw s_1, vw s_2,
 vw s_3, vw s_4, vw s_5,
 vw s_6, vw s_7, vw s_8,
 vb s_9, vb s_10, vb s_11, vb s_12, vb s_13,
 vb s_14, vd s_15, vd s_16,
 vd s_17, vd s_18, vd s_19,
 vd v, vd s_21, vd s_22])
 else
 some
 (Sv.agg
 (cCRg3z1 s_0 s_1 s_2 s_3 s_4 s_5 s_6 s_7 s_8 s_9 s_10 s_11 s_12 s_13 s_14 s_15 s_16 s_17 s_18 s_19 s_20 s_21 s_22))) := by kernel_rfl
theorem set_nice5 (s_0 s_1 s_2 s_3 s_4 s_5 s_6 s_7 s_8 : Int) (s_9 s_10 s_11 s_12 s_13 s_14 : Bool) (s_15 s_16 s_17 s_18 s_19 s_20 s_21 s_22 o_0 o_2 o_3 o_4 o_5 v : Int) (hg : (in32 s_0 && (in32 s_1 && (in32 s_2 && (in32 s_3 && (in64 v))))) = true) :
    evF Try.prog ΓRg2 400 115 [.agg (cCRg3z0 s_0 s_1 s_2 s_3 s_4 s_5 s_6 s_7 s_8 s_9 s_10 s_11 s_12 s_13 s_14 s_15 s_16 s_17 s_18 s_19 s_20 s_21 s_22), .agg (cCRg3z8 o_0 o_2 o_3 o_4 o_5), vd v] [] (fun x _ => some x) (fun _ _ => none) = some (.agg [.v (.int .u32 (setA o_0 5 0 s_0 v)), .v (.int .u32 (setA o_0 5 1 s_1 v)), .v (.int .u32 (setA o_0 5 2 s_2 v)), .v (.int .u32 (setA o_0 5 3 s_3 v)), .v (.int .u32 (setB o_0 5 4 s_4 v)), .v (.int .u32 (setB o_0 5 5 s_5 v)), .v (.int .u32 (setB o_0 5 6 s_6 v)), .v (.int .u32 (setB o_0 5 7 s_7 v)), vw s_8, vb s_9, vb s_10, vb s_11, vb s_12, vb s_13, vb s_14, .v (.int .u64 (setX o_0 5 0 s_15 v)), .v (.int .u64 (setX o_0 5 1 s_16 v)), .v (.int .u64 (setX o_0 5 2 s_17 v)), .v (.int .u64 (setX o_0 5 3 s_18 v)), .v (.int .u64 (setX o_0 5 4 s_19 v)), .v (.int .u64 (setX o_0 5 5 s_20 v)), .v (.int .u64 (setX o_0 5 6 s_21 v)), .v (.int .u64 (setX o_0 5 7 s_22 v))]) := by
  rw [set_form5]
  try simp only [bitsL_eq]
  simp only [Bool.and_eq_true] at hg
  obtain ⟨g0, g1, g2, g3, g4⟩ := hg
  cases h1 : (o_0 == 1) <;> cases h2 : (o_0 == 2) <;> cases h5 : (o_0 == 5) <;> first
    | (have e1 := beq_iff_eq.1 h1; subst e1; cases h2; done)
    | (have e1 := beq_iff_eq.1 h1; subst e1; cases h5; done)
    | (have e1 := beq_iff_eq.1 h2; subst e1; cases h5; done)
    | simp [setA, setB, setX, h1, h2, h5, wr_u8, wr_u32 v, w32_b0, w32_b1, w32_b8, and_255_64 g4, lo_set g0, lo_set g1, lo_set g2, lo_set g3, hi_set g0, hi_set g1, hi_set g2, hi_set g3]
theorem set_form6 (s_0 s_1 s_2 s_3 s_4 s_5 s_6 s_7 s_8 : Int) (s_9 s_10 s_11 s_12 s_13 s_14 : Bool) (s_15 s_16 s_17 s_18 s_19 s_20 s_21 s_22 o_0 o_2 o_3 o_4 o_5 v : Int) :
    evF Try.prog ΓRg2 400 115 [.agg (cCRg3z0 s_0 s_1 s_2 s_3 s_4 s_5 s_6 s_7 s_8 s_9 s_10 s_11 s_12 s_13 s_14 s_15 s_16 s_17 s_18 s_19 s_20 s_21 s_22), .agg (cCRg3z9 o_0 o_2 o_3 o_4 o_5), vd v] [] (fun x _ => some x) (fun _ _ => none) =
    (bif o_0 == 1 then
 some
 (Sv.agg
 [vw s_0, vw s_1, vw s_2,
 vw s_3, vw s_4, vw s_5,
 vw ((IntKind.wrap IntKind.u32 v)), vw s_7,
 vw s_8, vb s_9, vb s_10, vb s_11,
 vb s_12, vb s_13, vb s_14, vd s_15,
 vd s_16, vd s_17, vd s_18,
 vd s_19, vd s_20, vd s_21,
 vd s_22])
 else
 bif o_0 == 2 then
 some
 (Sv.agg
 [vw s_0, vw s_1,
 Sv.v
 (Value.int IntKind.u32
 (bitsL BinOp.or IntKind.u32 (bitsL BinOp.andNot IntKind.u32 s_2 65280)
 (IntKind.wrap IntKind.u32 (IntKind.wrap IntKind.u32 (IntKind.wrap IntKind.u8 v) * 256)))),
 vw s_3, vw s_4, vw s_5,
 vw s_6, vw s_7, vw s_8,
 vb s_9, vb s_10, vb s_11, vb s_12, vb s_13,
 vb s_14, vd s_15, vd s_16,
 vd s_17, vd s_18, vd s_19,
 vd s_20, vd s_21, vd s_22])
 else
 bif o_0 == 5 then
 some
 (Sv.agg
 [vw s_0, vw s_1, vw s_2,
 vw s_3, vw s_4, vw s_5,
 vw s_6, vw s_7, vw s_8,
 vb s_9, vb s_10, vb s_11, vb s_12, vb s_13,
 vb s_14, vd s_15, vd s_16,
 vd s_17, vd s_18, vd s_19,
 vd s_20, vd v, vd s_22])
 else
 some
 (Sv.agg
 (cCRg3z1 s_0 s_1 s_2 s_3 s_4 s_5 s_6 s_7 s_8 s_9 s_10 s_11 s_12 s_13 s_14 s_15 s_16 s_17 s_18 s_19 s_20 s_21 s_22))) := by kernel_rfl
theorem set_nice6 (s_0 s_1 s_2 s_3 s_4 s_5 s_6 s_7 s_8 : Int) (s_9 s_10 s_11 s_12 s_13 s_14 : Bool) (s_15 s_16 s_17 s_18 s_19 s_20 s_21 s_22 o_0 o_2 o_3 o_4 o_5 v : Int) (hg : (in32 s_0 && (in32 s_1 && (in32 s_2 && (in32 s_3 && (in64 v))))) = true) :
    evF Try.prog ΓRg2 400 115 [.agg (cCRg3z0 s_0 s_1 s_2 s_3 s_4 s_5 s_6 s_7 s_8 s_9 s_10 s_11 s_12 s_13 s_14 s_15 s_16 s_17 s_18 s_19 s_20 s_21 s_22), .agg (cCRg3z9 o_0 o_2 o_3 o_4 o_5), vd v] [] (fun x _ => some x) (fun _ _ => none) = some (.agg [.v (.int .u32 (setA o_0 6 0 s_0 v)), .v (.int .u32 (setA o_0 6 1 s_1 v)), .v (.int .u32 (setA o_0 6 2 s_2 v)), .v (.int .u32 (setA o_0 6 3 s_3 v)), .v (.int .u32 (setB o_0 6 4 s_4 v)), .v (.int .u32 (setB o_0 6 5 s_5 v)), .v (.int .u32 (setB o_0 6 6 s_6 v)), .v (.int .u32 (setB o_0 6 7 s_7 v)), vw s_8, vb s_9, vb s_10, vb s_11, vb s_12, vb s_13, vb s_14, .v (.int .u64 (setX o_0 6 0 s_15 v)), .v (.int .u64 (setX o_0 6 1 s_16 v)), .v (.int .u64 (setX o_0 6 2 s_17 v)), .v (.int .u64 (setX o_0 6 3 s_18 v)), .v (.int .u64 (setX o_0 6 4 s_19 v)), .v (.int .u64 (setX o_0 6 5 s_20 v)), .v (.int .u64 (setX o_0 6 6 s_21 v)), .v (.int .u64 (setX o_0 6 7 s_22 v))]) := by
  rw [set_form6]
  try simp only [bitsL_eq]
  simp only [Bool.and_eq_true] at hg
  obtain ⟨g0, g1, g2, g3, g4⟩ := hg
  cases h1 : (o_0 == 1) <;> cases h2 : (o_0 == 2) <;> cases h5 : (o_0 == 5) <;> first
    | (have e1 := beq_iff_eq.1 h1; subst e1; cases h2; done)
    | (have e1 := beq_iff_eq.1 h1; subst e1; cases h5; done)
    | (have e1 := beq_iff_eq.1 h2; subst e1; cases h5; done)
    | simp [setA, setB, setX, h1, h2, h5, wr_u8, wr_u32 v, w32_b0, w32_b1, w32_b8, and_255_64 g4, lo_set g0, lo_set g1, lo_set g2, lo_set g3, hi_set g0, hi_set g1, hi_set g2, hi_set g3]
theorem set_form7 (s_0 s_1 s_2 s_3 s_4 s_5 s_6 s_7 s_8 : Int) (s_9 s_10 s_11 s_12 s_13 s_14 : Bool) (s_15 s_16 s_17 s_18 s_19 s_20 s_21 s_22 o_0 o_2 o_3 o_4 o_5 v : Int) :
    evF Try.prog ΓRg2 400 115 [.agg (cCRg3z0 s_0 s_1 s_2 s_3 s_4 s_5 s_6 s_7 s_8 s_9 s_10 s_11 s_12 s_13 s_14 s_15 s_16 s_17 s_18 s_19 s_20 s_21 s_22), .agg (cCRg3z10 o_0 o_2 o_3 o_4 o_5), vd v] [] (fun x _ => some x) (fun _ _ => none) =
    (bif o_0 == 1 then
 some
 (Sv.agg
 [vw s_0, vw s_1, vw s_2,
 vw s_3, vw s_4, vw s_5,
 vw s_6, vw ((IntKind.wrap IntKind.u32 v)),
 vw s_8, vb s_9, vb s_10, vb s_11,
 vb s_12, vb s_13, vb s_14, vd s_15,
 vd s_16, vd s_17, vd s_18,
 vd s_19, vd s_20, vd s_21,
 vd s_22])
 else
 bif o_0 == 2 then
 some
 (Sv.agg
 [vw s_0, vw s_1, vw s_2,
 Sv.v
 (Value.int IntKind.u32
 (bitsL BinOp.or IntKind.u32 (bitsL BinOp.andNot IntKind.u32 s_3 65280)
 (IntKind.wrap IntKind.u32 (IntKind.wrap IntKind.u32 (IntKind.wrap IntKind.u8 v) * 256)))),
 vw s_4, vw s_5, vw s_6,
 vw s_7, vw s_8, vb s_9, vb s_10,
 vb s_11, vb s_12, vb s_13, vb s_14,
 vd s_15, vd s_16, vd s_17,
 vd s_18, vd s_19, vd s_20,
 vd s_21, vd s_22])
 else
 bif o_0 == 5 then
 some
 (Sv.agg
 [vw s_0, vw s_1, vw s_2,
 vw s_3, vw s_4, vw s_5,
 vw s_6, vw s_7, vw s_8,
 vb s_9, vb s_10, vb s_11, vb s_12, vb s_13,
 vb s_14, vd s_15, vd s_16,
 vd s_17, vd s_18, vd s_19,
 vd s_20, vd s_21, vd v])
 else
 some
 (Sv.agg
 (cCRg3z1 s_0 s_1 s_2 s_3 s_4 s_5 s_6 s_7 s_8 s_9 s_10 s_11 s_12 s_13 s_14 s_15 s_16 s_17 s_18 s_19 s_20 s_21 s_22))) := by kernel_rfl
theorem set_nice7 (s_0 s_1 s_2 s_3 s_4 s_5 s_6 s_7 s_8 : Int) (s_9 s_10 s_11 s_12 s_13 s_14 : Bool) (s_15 s_16 s_17 s_18 s_19 s_20 s_21 s_22 o_0 o_2 o_3 o_4 o_5 v : Int) (hg : (in32 s_0 && (in32 s_1 && (in32 s_2 && (in32 s_3 && (in64 v))))) = true) :
    evF Try.prog ΓRg2 400 115 [.agg (cCRg3z0 s_0 s_1 s_2 s_3 s_4 s_5 s_6 s_7 s_8 s_9 s_10 s_11 s_12 s_13 s_14 s_15 s_16 s_17 s_18 s_19 s_20 s_21 s_22), .agg (cCRg3z10 o_0 o_2 o_3 o_4 o_5), vd v] [] (fun x _ => some x) (fun _ _ => none) = some (.agg [.v (.int .u32 (setA o_0 7 0 s_0 v)), .v (.int .u32 (setA o_0 7 1 s_1 v)), .v (.int .u32 (setA o_0 7 2 s_2 v)), .v (.int .u32 (setA o_0 7 3 s_3 v)), .v (.int .u32 (setB o_0 7 4 s_4 v)), .v (.int .u32 (setB o_0 7 5 s_5 v)), .v (.int .u32 (setB o_0 7 6 s_6 v)), .v (.int .u32 (setB o_0 7 7 s_7 v)), vw s_8, vb s_9, vb s_10, vb s_11, vb s_12, vb s_13, vb s_14, .v (.int .u64 (setX o_0 7 0 s_15 v)), .v (.int .u64 (setX o_0 7 1 s_16 v)), .v (.int .u64 (setX o_0 7 2 s_17 v)), .v (.int .u64 (setX o_0 7 3 s_18 v)), .v (.int .u64 (setX o_0 7 4 s_19 v)), .v (.int .u64 (setX o_0 7 5 s_20 v)), .v (.int .u64 (setX o_0 7 6 s_21 v)), .v (.int .u64 (setX o_0 7 7 s_22 v))]) := by
  rw [set_form7]
  try simp only [bitsL_eq]
  simp only [Bool.and_eq_true] at hg
  obtain ⟨g0, g1, g2, g3, g4⟩ := hg
  cases h1 : (o_0 == 1) <;> cases h2 : (o_0 == 2) <;> cases h5 : (o_0 == 5) <;> first
    | (have e1 := beq_iff_eq.1 h1; subst e1; cases h2; done)
    | (have e1 := beq_iff_eq.1 h1; subst e1; cases h5; done)
    | (have e1 := beq_iff_eq.1 h2; subst e1; cases h5; done)
    | simp [setA, setB, setX, h1, h2, h5, wr_u8, wr_u32 v, w32_b0, w32_b1, w32_b8, and_255_64 g4, lo_set g0, lo_set g1, lo_set g2, lo_set g3, hi_set g0, hi_set g1, hi_set g2, hi_set g3]
def setS : Nice := fun R args kv => match args with
  | [.agg [.v (.int .u32 s_0), .v (.int .u32 s_1), .v (.int .u32 s_2), .v (.int .u32 s_3), .v (.int .u32 s_4), .v (.int .u32 s_5), .v (.int .u32 s_6), .v (.int .u32 s_7), .v (.int .u32 s_8), .v (.bool s_9), .v (.bool s_10), .v (.bool s_11), .v (.bool s_12), .v (.bool s_13), .v (.bool s_14), .v (.int .u64 s_15), .v (.int .u64 s_16), .v (.int .u64 s_17), .v (.int .u64 s_18), .v (.int .u64 s_19), .v (.int .u64 s_20), .v (.int .u64 s_21), .v (.int .u64 s_22)], .agg [.v (.int .i64 o_0), .v (.int .i64 o_1), .v (.int .i64 o_2), .v (.int .i64 o_3), .v (.int .i64 o_4), .v (.int .u32 o_5)], .v (.int .u64 v)] => bif in32 s_0 && (in32 s_1 && (in32 s_2 && (in32 s_3 && (in64 v)))) then kv (.agg [.v (.int .u32 (setA o_0 o_1 0 s_0 v)), .v (.int .u32 (setA o_0 o_1 1 s_1 v)), .v (.int .u32 (setA o_0 o_1 2 s_2 v)), .v (.int .u32 (setA o_0 o_1 3 s_3 v)), .v (.int .u32 (setB o_0 o_1 4 s_4 v)), .v (.int .u32 (setB o_0 o_1 5 s_5 v)), .v (.int .u32 (setB o_0 o_1 6 s_6 v)), .v (.int .u32 (setB o_0 o_1 7 s_7 v)), .v (.int .u32 s_8), .v (.bool s_9), .v (.bool s_10), .v (.bool s_11), .v (.bool s_12), .v (.bool s_13), .v (.bool s_14), .v (.int .u64 (setX o_0 o_1 0 s_15 v)), .v (.int .u64 (setX o_0 o_1 1 s_16 v)), .v (.int .u64 (setX o_0 o_1 2 s_17 v)), .v (.int .u64 (setX o_0 o_1 3 s_18 v)), .v (.int .u64 (setX o_0 o_1 4 s_19 v)), .v (.int .u64 (setX o_0 o_1 5 s_20 v)), .v (.int .u64 (setX o_0 o_1 6 s_21 v)), .v (.int .u64 (setX o_0 o_1 7 s_22 v))]) else none
  | _ => none
theorem setS_ok : NiceOkX Try.prog X0 115 setS := by
  intro R args kv r h
  unfold setS at h
  split at h
  · rename_i s_0 s_1 s_2 s_3 s_4 s_5 s_6 s_7 s_8 s_9 s_10 s_11 s_12 s_13 s_14 s_15 s_16 s_17 s_18 s_19 s_20 s_21 s_22 o_0 o_1 o_2 o_3 o_4 o_5 v
    obtain ⟨hg, h2⟩ := cond_some h
    clear h
    cases hv : isV o_1 with
    | false => exact ⟨_, ΓRgF, 400, h2, rfl, rfl, ΓRgF_ok, set_niceO _ _ _ _ _ _ _ _ _ _ _ _ _ _ _ _ _ _ _ _ _ _ _ _ _ _ _ _ _ _ hv hg⟩
    | true =>
      rcases isV_cases hv with rfl | rfl | rfl | rfl | rfl | rfl | rfl | rfl
      · exact ⟨_, ΓRg2, 400, h2, rfl, rfl, ΓRg2_ok, set_nice0 _ _ _ _ _ _ _ _ _ _ _ _ _ _ _ _ _ _ _ _ _ _ _ _ _ _ _ _ _ hg⟩
      · exact ⟨_, ΓRg2, 400, h2, rfl, rfl, ΓRg2_ok, set_nice1 _ _ _ _ _ _ _ _ _ _ _ _ _ _ _ _ _ _ _ _ _ _ _ _ _ _ _ _ _ hg⟩
      · exact ⟨_, ΓRg2, 400, h2, rfl, rfl, ΓRg2_ok, set_nice2 _ _ _ _ _ _ _ _ _ _ _ _ _ _ _ _ _ _ _ _ _ _ _ _ _ _ _ _ _ hg⟩
      · exact ⟨_, ΓRg2, 400, h2, rfl, rfl, ΓRg2_ok, set_nice3 _ _ _ _ _ _ _ _ _ _ _ _ _ _ _ _ _ _ _ _ _ _ _ _ _ _ _ _ _ hg⟩
      · exact ⟨_, ΓRg2, 400, h2, rfl, rfl, ΓRg2_ok, set_nice4 _ _ _ _ _ _ _ _ _ _ _ _ _ _ _ _ _ _ _ _ _ _ _ _ _ _ _ _ _ hg⟩
      · exact ⟨_, ΓRg2, 400, h2, rfl, rfl, ΓRg2_ok, set_nice5 _ _ _ _ _ _ _ _ _ _ _ _ _ _ _ _ _ _ _ _ _ _ _ _ _ _ _ _ _ hg⟩
      · exact ⟨_, ΓRg2, 400, h2, rfl, rfl, ΓRg2_ok, set_nice6 _ _ _ _ _ _ _ _ _ _ _ _ _ _ _ _ _ _ _ _ _ _ _ _ _ _ _ _ _ hg⟩
      · exact ⟨_, ΓRg2, 400, h2, rfl, rfl, ΓRg2_ok, set_nice7 _ _ _ _ _ _ _ _ _ _ _ _ _ _ _ _ _ _ _ _ _ _ _ _ _ _ _ _ _ hg⟩
  · cases h
theorem rset_formO (s_0 s_1 s_2 s_3 s_4 s_5 s_6 s_7 s_8 : Int) (s_9 s_10 s_11 s_12 s_13 s_14 : Bool) (s_15 s_16 s_17 s_18 s_19 s_20 s_21 s_22 o_0 o_1 o_2 o_3 o_4 o_5 v : Int) :
    evF Try.prog ΓRgF 400 74 [.agg (cCRg3z0 s_0 s_1 s_2 s_3 s_4 s_5 s_6 s_7 s_8 s_9 s_10 s_11 s_12 s_13 s_14 s_15 s_16 s_17 s_18 s_19 s_20 s_21 s_22), .agg (cCRg3z2 o_0 o_1 o_2 o_3 o_4 o_5), vd v] [] (fun x _ => some x) (fun _ _ => none) =
    (bif !isV o_1 && true then
 some
 (Sv.agg
 (cCRg3z1 s_0 s_1 s_2 s_3 s_4 s_5 s_6 s_7 s_8 s_9 s_10 s_11 s_12 s_13 s_14 s_15 s_16 s_17 s_18 s_19 s_20 s_21 s_22))
 else none) := by kernel_rfl
theorem rset_niceO (s_0 s_1 s_2 s_3 s_4 s_5 s_6 s_7 s_8 : Int) (s_9 s_10 s_11 s_12 s_13 s_14 : Bool) (s_15 s_16 s_17 s_18 s_19 s_20 s_21 s_22 o_0 o_1 o_2 o_3 o_4 o_5 v : Int) (hv : isV o_1 = false) (hg : (in32 s_0 && (in32 s_1 && (in32 s_2 && (in32 s_3 && (in64 v))))) = true) :
    evF Try.prog ΓRgF 400 74 [.agg (cCRg3z0 s_0 s_1 s_2 s_3 s_4 s_5 s_6 s_7 s_8 s_9 s_10 s_11 s_12 s_13 s_14 s_15 s_16 s_17 s_18 s_19 s_20 s_21 s_22), .agg (cCRg3z2 o_0 o_1 o_2 o_3 o_4 o_5), vd v] [] (fun x _ => some x) (fun _ _ => none) = some (.agg [.v (.int .u32 (setA o_0 o_1 0 s_0 v)), .v (.int .u32 (setA o_0 o_1 1 s_1 v)), .v (.int .u32 (setA o_0 o_1 2 s_2 v)), .v (.int .u32 (setA o_0 o_1 3 s_3 v)), .v (.int .u32 (setB o_0 o_1 4 s_4 v)), .v (.int .u32 (setB o_0 o_1 5 s_5 v)), .v (.int .u32 (setB o_0 o_1 6 s_6 v)), .v (.int .u32 (setB o_0 o_1 7 s_7 v)), vw s_8, vb s_9, vb s_10, vb s_11, vb s_12, vb s_13, vb s_14, .v (.int .u64 (setX o_0 o_1 0 s_15 v)), .v (.int .u64 (setX o_0 o_1 1 s_16 v)), .v (.int .u64 (setX o_0 o_1 2 s_17 v)), .v (.int .u64 (setX o_0 o_1 3 s_18 v)), .v (.int .u64 (setX o_0 o_1 4 s_19 v)), .v (.int .u64 (setX o_0 o_1 5 s_20 v)), .v (.int .u64 (setX o_0 o_1 6 s_21 v)), .v (.int .u64 (setX o_0 o_1 7 s_22 v))]) := by
  rw [rset_formO]
  try simp only [bitsL_eq]
  simp only [Bool.and_eq_true] at hg
  obtain ⟨g0, g1, g2, g3, g4⟩ := hg
  have n0 : ∀ j : Int, 0 ≤ j → j ≤ 7 → (o_1 == j) = false := fun j h0 h7 => by
    cases h : (o_1 == j) with
    | false => rfl
    | true => rw [beq_iff_eq.1 h] at hv; unfold isV at hv; simp [h0, h7] at hv
  have q0 := n0 0 (by decide) (by decide); have q1 := n0 1 (by decide) (by decide); have q2 := n0 2 (by decide) (by decide); have q3 := n0 3 (by decide) (by decide); have q4 := n0 4 (by decide) (by decide); have q5 := n0 5 (by decide) (by decide); have q6 := n0 6 (by decide) (by decide); have q7 := n0 7 (by decide) (by decide)
  rw [hv]
  simp [setA, setB, setX, q0, q1, q2, q3, q4, q5, q6, q7]
theorem rset_form0 (s_0 s_1 s_2 s_3 s_4 s_5 s_6 s_7 s_8 : Int) (s_9 s_10 s_11 s_12 s_13 s_14 : Bool) (s_15 s_16 s_17 s_18 s_19 s_20 s_21 s_22 o_0 o_2 o_3 o_4 o_5 v : Int) :
    evF Try.prog ΓRg2 400 74 [.agg (cCRg3z0 s_0 s_1 s_2 s_3 s_4 s_5 s_6 s_7 s_8 s_9 s_10 s_11 s_12 s_13 s_14 s_15 s_16 s_17 s_18 s_19 s_20 s_21 s_22), .agg (cCRg3z3 o_0 o_2 o_3 o_4 o_5), vd v] [] (fun x _ => some x) (fun _ _ => none) =
    (bif o_0 == 1 then
 some
 (Sv.agg
 [vw ((IntKind.wrap IntKind.u32 v)), vw s_1,
 vw s_2, vw s_3, vw s_4,
 vw s_5, vw s_6, vw s_7,
 vw s_8, vb s_9, vb s_10, vb s_11,
 vb s_12, vb s_13, vb s_14, vd s_15,
 vd s_16, vd s_17, vd s_18,
 vd s_19, vd s_20, vd s_21,
 vd s_22])
 else
 bif o_0 == 2 then
 some
 (Sv.agg
 [Sv.v
 (Value.int IntKind.u32
 (bitsL BinOp.or IntKind.u32 (bitsL BinOp.andNot IntKind.u32 s_0 255)
 (IntKind.wrap IntKind.u32 (IntKind.wrap IntKind.u32 (bitsL BinOp.and IntKind.u64 v 255) * 1)))),
 vw s_1, vw s_2, vw s_3,
 vw s_4, vw s_5, vw s_6,
 vw s_7, vw s_8, vb s_9, vb s_10,
 vb s_11, vb s_12, vb s_13, vb s_14,
 vd s_15, vd s_16, vd s_17,
 vd s_18, vd s_19, vd s_20,
 vd s_21, vd s_22])
 else
 bif o_0 == 5 then
 some
 (Sv.agg
 [vw s_0, vw s_1, vw s_2,
 vw s_3, vw s_4, vw s_5,
 vw s_6, vw s_7, vw s_8,
 vb s_9, vb s_10, vb s_11, vb s_12, vb s_13,
 vb s_14, vd v, vd s_16,
 vd s_17, vd s_18, vd s_19,
 vd s_20, vd s_21, vd s_22])
 else
 some
 (Sv.agg
 (cCRg3z1 s_0 s_1 s_2 s_3 s_4 s_5 s_6 s_7 s_8 s_9 s_10 s_11 s_12 s_13 s_14 s_15 s_16 s_17 s_18 s_19 s_20 s_21 s_22))) := by kernel_rfl
theorem rset_nice0 (s_0 s_1 s_2 s_3 s_4 s_5 s_6 s_7 s_8 : Int) (s_9 s_10 s_11 s_12 s_13 s_14 : Bool) (s_15 s_16 s_17 s_18 s_19 s_20 s_21 s_22 o_0 o_2 o_3 o_4 o_5 v : Int) (hg : (in32 s_0 && (in32 s_1 && (in32 s_2 && (in32 s_3 && (in64 v))))) = true) :
    evF Try.prog ΓRg2 400 74 [.agg (cCRg3z0 s_0 s_1 s_2 s_3 s_4 s_5 s_6 s_7 s_8 s_9 s_10 s_11 s_12 s_13 s_14 s_15 s_16 s_17 s_18 s_19 s_20 s_21 s_22), .agg (cCRg3z3 o_0 o_2 o_3 o_4 o_5), vd v] [] (fun x _ => some x) (fun _ _ => none) = some (.agg [.v (.int .u32 (setA o_0 0 0 s_0 v)), .v (.int .u32 (setA o_0 0 1 s_1 v)), .v (.int .u32 (setA o_0 0 2 s_2 v)), .v (.int .u32 (setA o_0 0 3 s_3 v)), .v (.int .u32 (setB o_0 0 4 s_4 v)), .v (.int .u32 (setB o_0 0 5 s_5 v)), .v (.int .u32 (setB o_0 0 6 s_6 v)), .v (.int .u32 (setB o_0 0 7 s_7 v)), vw s_8, vb s_9, vb s_10, vb s_11, vb s_12, vb s_13, vb s_14, .v (.int .u64 (setX o_0 0 0 s_15 v)), .v (.int .u64 (setX o_0 0 1 s_16 v)), .v (.int .u64 (setX o_0 0 2 s_17 v)), .v (.int .u64 (setX o_0 0 3 s_18 v)), .v (.int .u64 (setX o_0 0 4 s_19 v)), .v (.int .u64 (setX o_0 0 5 s_20 v)), .v (.int .u64 (setX o_0 0 6 s_21 v)), .v (.int .u64 (setX o_0 0 7 s_22 v))]) := by
  rw [rset_form0]
  try simp only [bitsL_eq]
  simp only [Bool.and_eq_true] at hg
  obtain ⟨g0, g1, g2, g3, g4⟩ := hg
  cases h1 : (o_0 == 1) <;> cases h2 : (o_0 == 2) <;> cases h5 : (o_0 == 5) <;> first
    | (have e1 := beq_iff_eq.1 h1; subst e1; cases h2; done)
    | (have e1 := beq_iff_eq.1 h1; subst e1; cases h5; done)
    | (have e1 := beq_iff_eq.1 h2; subst e1; cases h5; done)
    | simp [setA, setB, setX, h1, h2, h5, wr_u8, wr_u32 v, w32_b0, w32_b1, w32_b8, and_255_64 g4, lo_set g0, lo_set g1, lo_set g2, lo_set g3, hi_set g0, hi_set g1, hi_set g2, hi_set g3]
theorem rset_form1 (s_0 s_1 s_2 s_3 s_4 s_5 s_6 s_7 s_8 : Int) (s_9 s_10 s_11 s_12 s_13 s_14 : Bool) (s_15 s_16 s_17 s_18 s_19 s_20 s_21 s_22 o_0 o_2 o_3 o_4 o_5 v : Int) :
    evF Try.prog ΓRg2 400 74 [.agg (cCRg3z0 s_0 s_1 s_2 s_3 s_4 s_5 s_6 s_7 s_8 s_9 s_10 s_11 s_12 s_13 s_14 s_15 s_16 s_17 s_18 s_19 s_20 s_21 s_22), .agg (cCRg3z4 o_0 o_2 o_3 o_4 o_5), vd v] [] (fun x _ => some x) (fun _ _ => none) =
    (bif o_0 == 1 then
 some
 (Sv.agg
 [vw s_0, vw ((IntKind.wrap IntKind.u32 v)),
 vw s_2, vw s_3, vw s_4,
 vw s_5, vw s_6, vw s_7,
 vw s_8, vb s_9, vb s_10, vb s_11,
 vb s_12, vb s_13, vb s_14, vd s_15,
 vd s_16, vd s_17, vd s_18,
 vd s_19, vd s_20, vd s_21,
 vd s_22])
 else
 bif o_0 == 2 then
 some
 (Sv.agg
 [vw s_0,
 Sv.v
 (Value.int IntKind.u32
 (bitsL BinOp.or IntKind.u32 (bitsL BinOp.andNot IntKind.u32 s_1 255)
 (IntKind.wrap IntKind.u32 (IntKind.wrap IntKind.u32 (bitsL BinOp.and IntKind.u64 v 255) * 1)))),
 vw s_2, vw s_3, vw s_4,
 vw s_5, vw s_6, vw s_7,
 vw s_8, vb s_9, vb s_10, vb s_11,
 vb s_12, vb s_13, vb s_14, vd s_15,
 vd s_16, vd s_17, vd s_18,
 vd s_19, vd s_20, vd s_21,
 vd s_22])
 else
 bif o_0 == 5 then
 some
 (Sv.agg
 [vw s_0, vw s_1, vw s_2,
 vw s_3, vw s_4, vw s_5,
 vw s_6, vw s_7, vw s_8,
 vb s_9, vb s_10, vb s_11, vb s_12, vb s_13,
 vb s_14, vd s_15, vd v,
 vd s_17, vd s_18, vd s_19,
 vd s_20, vd s_21, vd s_22])
 else
 some
 (Sv.agg
 (cCRg3z1 s_0 s_1 s_2 s_3 s_4 s_5 s_6 s_7 s_8 s_9 s_10 s_11 s_12 s_13 s_14 s_15 s_16 s_17 s_18 s_19 s_20 s_21 s_22))) := by kernel_rfl
theorem rset_nice1 (s_0 s_1 s_2 s_3 s_4 s_5 s_6 s_7 s_8 : Int) (s_9 s_10 s_11 s_12 s_13 s_14 : Bool) (s_15 s_16 s_17 s_18 s_19 s_20 s_21 s_22 o_0 o_2 o_3 o_4 o_5 v : Int) (hg : (in32 s_0 && (in32 s_1 && (in32 s_2 && (in32 s_3 && (in64 v))))) = true) :
    evF Try.prog ΓRg2 400 74 [.agg (cCRg3z0 s_0 s_1 s_2 s_3 s_4 s_5 s_6 s_7 s_8 s_9 s_10 s_11 s_12 s_13 s_14 s_15 s_16 s_17 s_18 s_19 s_20 s_21 s_22), .agg (cCRg3z4 o_0 o_2 o_3 o_4 o_5), vd v] [] (fun x _ => some x) (fun _ _ => none) = some (.agg [.v (.int .u32 (setA o_0 1 0 s_0 v)), .v (.int .u32 (setA o_0 1 1 s_1 v)), .v (.int .u32 (setA o_0 1 2 s_2 v)), .v (.int .u32 (setA o_0 1 3 s_3 v)), .v (.int .u32 (setB o_0 1 4 s_4 v)), .v (.int .u32 (setB o_0 1 5 s_5 v)), .v (.int .u32 (setB o_0 1 6 s_6 v)), .v (.int .u32 (setB o_0 1 7 s_7 v)), vw s_8, vb s_9, vb s_10, vb s_11, vb s_12, vb s_13, vb s_14, .v (.int .u64 (setX o_0 1 0 s_15 v)), .v (.int .u64 (setX o_0 1 1 s_16 v)), .v (.int .u64 (setX o_0 1 2 s_17 v)), .v (.int .u64 (setX o_0 1 3 s_18 v)), .v (.int .u64 (setX o_0 1 4 s_19 v)), .v (.int .u64 (setX o_0 1 5 s_20 v)), .v (.int .u64 (setX o_0 1 6 s_21 v)), .v (.int .u64 (setX o_0 1 7 s_22 v))]) := by
  rw [rset_form1]
  try simp only [bitsL_eq]
  simp only [Bool.and_eq_true] at hg
  obtain ⟨g0, g1, g2, g3, g4⟩ := hg
  cases h1 : (o_0 == 1) <;> cases h2 : (o_0 == 2) <;> cases h5 : (o_0 == 5) <;> first
    | (have e1 := beq_iff_eq.1 h1; subst e1; cases h2; done)
    | (have e1 := beq_iff_eq.1 h1; subst e1; cases h5; done)
    | (have e1 := beq_iff_eq.1 h2; subst e1; cases h5; done)
    | simp [setA, setB, setX, h1, h2, h5, wr_u8, wr_u32 v, w32_b0, w32_b1, w32_b8, and_255_64 g4, lo_set g0, lo_set g1, lo_set g2, lo_set g3, hi_set g0, hi_set g1, hi_set g2, hi_set g3]
theorem rset_form2 (s_0 s_1 s_2 s_3 s_4 s_5 s_6 s_7 s_8 : Int) (s_9 s_10 s_11 s_12 s_13 s_14 : Bool) (s_15 s_16 s_17 s_18 s_19 s_20 s_21 s_22 o_0 o_2 o_3 o_4 o_5 v : Int) :
    evF Try.prog ΓRg2 400 74 [.agg (cCRg3z0 s_0 s_1 s_2 s_3 s_4 s_5 s_6 s_7 s_8 s_9 s_10 s_11 s_12 s_13 s_14 s_15 s_16 s_17 s_18 s_19 s_20 s_21 s_22), .agg (cCRg3z5 o_0 o_2 o_3 o_4 o_5), vd v] [] (fun x _ => some x) (fun _ _ => none) =
    (bif o_0 == 1 then
 some
 (Sv.agg
 [vw s_0, vw s_1,
 vw ((IntKind.wrap IntKind.u32 v)), vw s_3,
 vw s_4, vw s_5, vw s_6,
 vw s_7, vw s_8, vb s_9, vb s_10,
 vb s_11, vb s_12, vb s_13, vb s_14,
 vd s_15, vd s_16, vd s_17,
 vd s_18, vd s_19, vd s_20,
 vd s_21, vd s_22])
 else
 bif o_0 == 2 then
 some
 (Sv.agg
 [vw s_0, vw s_1,
 Sv.v
 (Value.int IntKind.u32
 (bitsL BinOp.or IntKind.u32 (bitsL BinOp.andNot IntKind.u32 s_2 255)
 (IntKind.wrap IntKind.u32 (IntKind.wrap IntKind.u32 (bitsL BinOp.and IntKind.u64 v 255) * 1)))),
 vw s_3, vw s_4, vw s_5,
 vw s_6, vw s_7, vw s_8,
 vb s_9, vb s_10, vb s_11, vb s_12, vb s_13,
 vb s_14, vd s_15, vd s_16,
 vd s_17, vd s_18, vd s_19,
 vd s_20, vd s_21, vd s_22])
 else
 bif o_0 == 5 then
 some
 (Sv.agg
 [vw s_0, vw s_1, vw s_2,
 vw s_3, vw s_4, vw s_5,
 vw s_6, vw s_7, vw s_8,
 vb s_9, vb s_10, vb s_11, vb s_12, vb s_13,
 vb s_14, vd s_15, vd s_16,
 vd v, vd s_18, vd s_19,
 vd s_20, vd s_21, vd s_22])
 else
 some
 (Sv.agg
 (cCRg3z1 s_0 s_1 s_2 s_3 s_4 s_5 s_6 s_7 s_8 s_9 s_10 s_11 s_12 s_13 s_14 s_15 s_16 s_17 s_18 s_19 s_20 s_21 s_22))) := by kernel_rfl
theorem rset_nice2 (s_0 s_1 s_2 s_3 s_4 s_5 s_6 s_7 s_8 : Int) (s_9 s_10 s_11 s_12 s_13 s_14 : Bool) (s_15 s_16 s_17 s_18 s_19 s_20 s_21 s_22 o_0 o_2 o_3 o_4 o_5 v : Int) (hg : (in32 s_0 && (in32 s_1 && (in32 s_2 && (in32 s_3 && (in64 v))))) = true) :
    evF Try.prog ΓRg2 400 74 [.agg (cCRg3z0 s_0 s_1 s_2 s_3 s_4 s_5 s_6 s_7 s_8 s_9 s_10 s_11 s_12 s_13 s_14 s_15 s_16 s_17 s_18 s_19 s_20 s_21 s_22), .agg (cCRg3z5 o_0 o_2 o_3 o_4 o_5), vd v] [] (fun x _ => some x) (fun _ _ => none) = some (.agg [.v (.int .u32 (setA o_0 2 0 s_0 v)), .v (.int .u32 (setA o_0 2 1 s_1 v)), .v (.int .u32 (setA o_0 2 2 s_2 v)), .v (.int .u32 (setA o_0 2 3 s_3 v)), .v (.int .u32 (setB o_0 2 4 s_4 v)), .v (.int .u32 (setB o_0 2 5 s_5 v)), .v (.int .u32 (setB o_0 2 6 s_6 v)), .v (.int .u32 (setB o_0 2 7 s_7 v)), vw s_8, vb s_9, vb s_10, vb s_11, vb s_12, vb s_13, vb s_14, .v (.int .u64 (setX o_0 2 0 s_15 v)), .v (.int .u64 (setX o_0 2 1 s_16 v)), .v (.int .u64 (setX o_0 2 2 s_17 v)), .v (.int .u64 (setX o_0 2 3 s_18 v)), .v (.int .u64 (setX o_0 2 4 s_19 v)), .v (.int .u64 (setX o_0 2 5 s_20 v)), .v (.int .u64 (setX o_0 2 6 s_21 v)), .v (.int .u64 (setX o_0 2 7 s_22 v))]) := by
  rw [rset_form2]
  try simp only [bitsL_eq]
  simp only [Bool.and_eq_true] at hg
  obtain ⟨g0, g1, g2, g3, g4⟩ := hg
  cases h1 : (o_0 == 1) <;> cases h2 : (o_0 == 2) <;> cases h5 : (o_0 == 5) <;> first
    | (have e1 := beq_iff_eq.1 h1; subst e1; cases h2; done)
    | (have e1 := beq_iff_eq.1 h1; subst e1; cases h5; done)
    | (have e1 := beq_iff_eq.1 h2; subst e1; cases h5; done)
    | simp [setA, setB, setX, h1, h2, h5, wr_u8, wr_u32 v, w32_b0, w32_b1, w32_b8, and_255_64 g4, lo_set g0, lo_set g1, lo_set g2, lo_set g3, hi_set g0, hi_set g1, hi_set g2, hi_set g3]
theorem rset_form3 (s_0 s_1 s_2 s_3 s_4 s_5 s_6 s_7 s_8 : Int) (s_9 s_10 s_11 s_12 s_13 s_14 : Bool) (s_15 s_16 s_17 s_18 s_19 s_20 s_21 s_22 o_0 o_2 o_3 o_4 o_5 v : Int) :
    evF Try.prog ΓRg2 400 74 [.agg (cCRg3z0 s_0 s_1 s_2 s_3 s_4 s_5 s_6 s_7 s_8 s_9 s_10 s_11 s_12 s_13 s_14 s_15 s_16 s_17 s_18 s_19 s_20 s_21 s_22), .agg (cCRg3z6 o_0 o_2 o_3 o_4 o_5), vd v] [] (fun x _ => some x) (fun _ _ => none) =
    (bif o_0 == 1 then
 some
 (Sv.agg
 [vw s_0, vw s_1, vw s_2,
 vw ((IntKind.wrap IntKind.u32 v)), vw s_4,
 vw s_5, vw s_6, vw s_7,
 vw s_8, vb s_9, vb s_10, vb s_11,
 vb s_12, vb s_13, vb s_14, vd s_15,
 vd s_16, vd s_17, vd s_18,
 vd s_19, vd s_20, vd s_21,
 vd s_22])
 else
 bif o_0 == 2 then
 some
 (Sv.agg
 [vw s_0, vw s_1, vw s_2,
 Sv.v
 (Value.int IntKind.u32
 (bitsL BinOp.or IntKind.u32 (bitsL BinOp.andNot IntKind.u32 s_3 255)
 (IntKind.wrap IntKind.u32 (IntKind.wrap IntKind.u32 (bitsL BinOp.and IntKind.u64 v 255) * 1)))),
 vw s_4, vw s_5, vw s_6,
 vw s_7, vw s_8, vb s_9, vb s_10,
 vb s_11, vb s_12, vb s_13, vb s_14,
 vd s_15, vd s_16, vd s_17,
 vd s_18, vd s_19, vd s_20,
 vd s_21, vd s_22])
 else
 bif o_0 == 5 then
 some
 (Sv.agg
 [vw s_0, vw s_1, vw s_2,
 vw s_3, vw s_4, vw s_5,
 vw s_6, vw s_7, vw s_8,
 vb s_9, vb s_10, vb s_11, vb s_12, vb s_13,
 vb s_14, vd s_15, vd s_16,
 vd s_17, vd v, vd s_19,
 vd s_20, vd s_21, vd s_22])
 else
 some
 (Sv.agg
 (cCRg3z1 s_0 s_1 s_2 s_3 s_4 s_5 s_6 s_7 s_8 s_9 s_10 s_11 s_12 s_13 s_14 s_15 s_16 s_17 s_18 s_19 s_20 s_21 s_22))) := by kernel_rfl
theorem rset_nice3 (s_0 s_1 s_2 s_3 s_4 s_5 s_6 s_7 s_8 : Int) (s_9 s_10 s_11 s_12 s_13 s_14 : Bool) (s_15 s_16 s_17 s_18 s_19 s_20 s_21 s_22 o_0 o_2 o_3 o_4 o_5 v : Int) (hg : (in32 s_0 && (in32 s_1 && (in32 s_2 && (in32 s_3 && (in64 v))))) = true) :
    evF Try.prog ΓRg2 400 74 [.agg (cCRg3z0 s_0 s_1 s_2 s_3 s_4 s_5 s_6 s_7 s_8 s_9 s_10 s_11 s_12 s_13 s_14 s_15 s_16 s_17 s_18 s_19 s_20 s_21 s_22), .agg (cCRg3z6 o_0 o_2 o_3 o_4 o_5), vd v] [] (fun x _ => some x) (fun _ _ => none) = some (.agg [.v (.int .u32 (setA o_0 3 0 s_0 v)), .v (.int .u32 (setA o_0 3 1 s_1 v)), .v (.int .u32 (setA o_0 3 2 s_2 v)), .v (.int .u32 (setA o_0 3 3 s_3 v)), .v (.int .u32 (setB o_0 3 4 s_4 v)), .v (.int .u32 (setB o_0 3 5 s_5 v)), .v (.int .u32 (setB o_0 3 6 s_6 v)), .v (.int .u32 (setB o_0 3 7 s_7 v)), vw s_8, vb s_9, vb s_10, vb s_11, vb s_12, vb s_13, vb s_14, .v (.int .u64 (setX o_0 3 0 s_15 v)), .v (.int .u64 (setX o_0 3 1 s_16 v)), .v (.int .u64 (setX o_0 3 2 s_17 v)), .v (.int .u64 (setX o_0 3 3 s_18 v)), .v (.int .u64 (setX o_0 3 4 s_19 v)), .v (.int .u64 (setX o_0 3 5 s_20 v)), .v (.int .u64 (setX o_0 3 6 s_21 v)), .v (.int .u64 (setX o_0 3 7 s_22 v))]) := by
  rw [rset_form3]
  try simp only [bitsL_eq]
  simp only [Bool.and_eq_true] at hg
  obtain ⟨g0, g1, g2, g3, g4⟩ := hg
  cases h1 : (o_0 == 1) <;> cases h2 : (o_0 == 2) <;> cases h5 : (o_0 == 5) <;> first
    | (have e1 := beq_iff_eq.1 h1; subst e1; cases h2; done)
    | (have e1 := beq_iff_eq.1 h1; subst e1; cases h5; done)
    | (have e1 := beq_iff_eq.1 h2; subst e1; cases h5; done)
    | simp [setA, setB, setX, h1, h2, h5, wr_u8, wr_u32 v, w32_b0, w32_b1, w32_b8, and_255_64 g4, lo_set g0, lo_set g1, lo_set g2, lo_set g3, hi_set g0, hi_set g1, hi_set g2, hi_set g3]
theorem rset_form4 (s_0 s_1 s_2 s_3 s_4 s_5 s_6 s_7 s_8 : Int) (s_9 s_10 s_11 s_12 s_13 s_14 : Bool) (s_15 s_16 s_17 s_18 s_19 s_20 s_21 s_22 o_0 o_2 o_3 o_4 o_5 v : Int) :
    evF Try.prog ΓRg2 400 74 [.agg (cCRg3z0 s_0 s_1 s_2 s_3 s_4 s_5 s_6 s_7 s_8 s_9 s_10 s_11 s_12 s_13 s_14 s_15 s_16 s_17 s_18 s_19 s_20 s_21 s_22), .agg (cCRg3z7 o_0 o_2 o_3 o_4 o_5), vd v] [] (fun x _ => some x) (fun _ _ => none) =
    (bif o_0 == 1 then
 some
 (Sv.agg
 [vw s_0, vw s_1, vw s_2,
 vw s_3, vw ((IntKind.wrap IntKind.u32 v)),
 vw s_5, vw s_6, vw s_7,
 vw s_8, vb s_9, vb s_10, vb s_11,
 vb s_12, vb s_13, vb s_14, vd s_15,
 vd s_16, vd s_17, vd s_18,
 vd s_19, vd s_20, vd s_21,
 vd s_22])
 else
 bif o_0 == 2 then
 some
 (Sv.agg
 [Sv.v
 (Value.int IntKind.u32
 (bitsL BinOp.or IntKind.u32 (bitsL BinOp.andNot IntKind.u32 s_0 65280)
 (IntKind.wrap IntKind.u32 (IntKind.wrap IntKind.u32 (bitsL BinOp.and IntKind.u64 v 255) * 256)))),
 vw s_1, vw s_2, vw s_3,
 vw s_4, vw s_5, vw s_6,
 vw s_7, vw s_8, vb s_9, vb s_10,
 vb s_11, vb s_12, vb s_13, vb s_14,
 vd s_15, vd s_16, vd s_17,
 vd s_18, vd s_19, vd s_20,
 vd s_21, vd s_22])
 else
 bif o_0 == 5 then
 some
 (Sv.agg
 [vw s_0, vw s_1, vw s_2,
 vw s_3, vw s_4, vw s_5,
 vw s_6, vw s_7, vw s_8,
 vb s_9, vb s_10, vb s_11, vb s_12, vb s_13,
 vb s_14, vd s_15, vd s_16,
 vd s_17, vd s_18, vd v,
 vd s_20, vd s_21, vd s_22])
 else
 some
 (Sv.agg
 (cCRg3z1 s_0 s_1 s_2 s_3 s_4 s_5 s_6 s_7 s_8 s_9 s_10 s_11 s_12 s_13 s_14 s_15 s_16 s_17 s_18 s_19 s_20 s_21 s_22))) := by kernel_rfl
theorem rset_nice4 (s_0 s_1 s_2 s_3 s_4 s_5 s_6 s_7 s_8 : Int) (s_9 s_10 s_11 s_12 s_13 s_14 : Bool) (s_15 s_16 s_17 s_18 s_19 s_20 s_21 s_22 o_0 o_2 o_3 o_4 o_5 v : Int) (hg : (in32 s_0 && (in32 s_1 && (in32 s_2 && (in32 s_3 && (in64 v))))) = true) :
    evF Try.prog ΓRg2 400 74 [.agg (cCRg3z0 s_0 s_1 s_2 s_3 s_4 s_5 s_6 s_7 s_8 s_9 s_10 s_11 s_12 s_13 s_14 s_15 s_16 s_17 s_18 s_19 s_20 s_21 s_22), .agg (cCRg3z7 o_0 o_2 o_3 o_4 o_5), vd v] [] (fun x _ => some x) (fun _ _ => none) = some (.agg [.v (.int .u32 (setA o_0 4 0 s_0 v)), .v (.int .u32 (setA o_0 4 1 s_1 v)), .v (.int .u32 (setA o_0 4 2 s_2 v)), .v (.int .u32 (setA o_0 4 3 s_3 v)), .v (.int .u32 (setB o_0 4 4 s_4 v)), .v (.int .u32 (setB o_0 4 5 s_5 v)), .v (.int .u32 (setB o_0 4 6 s_6 v)), .v (.int .u32 (setB o_0 4 7 s_7 v)), vw s_8, vb s_9, vb s_10, vb s_11, vb s_12, vb s_13, vb s_14, .v (.int .u64 (setX o_0 4 0 s_15 v)), .v (.int .u64 (setX o_0 4 1 s_16 v)), .v (.int .u64 (setX o_0 4 2 s_17 v)), .v (.int .u64 (setX o_0 4 3 s_18 v)), .v (.int .u64 (setX o_0 4 4 s_19 v)), .v (.int .u64 (setX o_0 4 5 s_20 v)), .v (.int .u64 (setX o_0 4 6 s_21 v)), .v (.int .u64 (setX o_0 4 7 s_22 v))]) := by
  rw [rset_form4]
  try simp only [bitsL_eq]
  simp only [Bool.and_eq_true] at hg
  obtain ⟨g0, g1, g2, g3, g4⟩ := hg
  cases h1 : (o_0 == 1) <;> cases h2 : (o_0 == 2) <;> cases h5 : (o_0 == 5) <;> first
    | (have e1 := beq_iff_eq.1 h1; subst e1; cases h2; done)
    | (have e1 := beq_iff_eq.1 h1; subst e1; cases h5; done)
    | (have e1 := beq_iff_eq.1 h2; subst e1; cases h5; done)
    | simp [setA, setB, setX, h1, h2, h5, wr_u8, wr_u32 v, w32_b0, w32_b1, w32_b8, and_255_64 g4, lo_set g0, lo_set g1, lo_set g2, lo_set g3, hi_set g0, hi_set g1, hi_set g2, hi_set g3]
theorem rset_form5 (s_0 s_1 s_2 s_3 s_4 s_5 s_6 s_7 s_8 : Int) (s_9 s_10 s_11 s_12 s_13 s_14 : Bool) (s_15 s_16 s_17 s_18 s_19 s_20 s_21 s_22 o_0 o_2 o_3 o_4 o_5 v : Int) :
    evF Try.prog ΓRg2 400 74 [.agg (cCRg3z0 s_0 s_1 s_2 s_3 s_4 s_5 s_6 s_7 s_8 s_9 s_10 s_11 s_12 s_13 s_14 s_15 s_16 s_17 s_18 s_19 s_20 s_21 s_22), .agg (cCRg3z8 o_0 o_2 o_3 o_4 o_5), vd v] [] (fun x _ => some x) (fun _ _ => none) =
    (bif o_0 == 1 then
 some
 (Sv.agg
 [vw s_0, vw s_1, vw s_2,
 vw s_3, vw s_4,
 vw ((IntKind.wrap IntKind.u32 v)), vw s_6,
 vw s_7, vw s_8, vb s_9, vb s_10,
 vb s_11, vb s_12, vb s_13, vb s_14,
 vd s_15, vd s_16, vd s_17,
 vd s_18, vd s_19, vd s_20,
 vd s_21, vd s_22])
 else
 bif o_0 == 2 then
 some
 (Sv.agg
 [vw s_0,
 Sv.v
 (Value.int IntKind.u32
 (bitsL BinOp.or IntKind.u32 (bitsL BinOp.andNot IntKind.u32 s_1 65280)
 (IntKind.wrap IntKind.u32 (IntKind.wrap IntKind.u32 (bitsL BinOp.and IntKind.u64 v 255) * 256)))),
 vw s_2, vw s_3, vw s_4,
 vw s_5, vw s_6, vw s_7,
 vw s_8, vb s_9, vb s_10, vb s_11,
 vb s_12, vb s_13, vb s_14, vd s_15,
 vd s_16, vd s_17, vd s_18,
 vd s_19, vd s_20, vd s_21,
 vd s_22])
 else
 bif o_0 == 5 then
 some
 (Sv.agg
 [vw s_0, vw s_1, vw s_2,
 vw s_3, vw s_4, vw s_5,
 vw s_6, vw s_7, vw s_8,
 vb s_9, vb s_10, vb s_11, vb s_12, vb s_13,
 vb s_14, vd s_15, vd s_16,
 vd s_17, vd s_18, vd s_19,
 vd v, vd s_21, vd s_22])
 else
 some
 (Sv.agg
 (cCRg3z1 s_0 s_1 s_2 s_3 s_4 s_5 s_6 s_7 s_8 s_9 s_10 s_11 s_12 s_13 s_14 s_15 s_16 s_17 s_18 s_19 s_20 s_21 s_22))) := by kernel_rfl
theorem rset_nice5 (s_0 s_1 s_2 s_3 s_4 s_5 s_6 s_7 s_8 : Int) (s_9 s_10 s_11 s_12 s_13 s_14 : Bool) (s_15 s_16 s_17 s_18 s_19 s_20 s_21 s_22 o_0 o_2 o_3 o_4 o_5 v : Int) (hg : (in32 s_0 && (in32 s_1 && (in32 s_2 && (in32 s_3 && (in64 v))))) = true) :
    evF Try.prog ΓRg2 400 74 [.agg (cCRg3z0 s_0 s_1 s_2 s_3 s_4 s_5 s_6 s_7 s_8 s_9 s_10 s_11 s_12 s_13 s_14 s_15 s_16 s_17 s_18 s_19 s_20 s_21 s_22), .agg (cCRg3z8 o_0 o_2 o_3 o_4 o_5), vd v] [] (fun x _ => some x) (fun _ _ => none) = some (.agg [.v (.int .u32 (setA o_0 5 0 s_0 v)), .v (.int .u32 (setA o_0 5 1 s_1 v)), .v (.int .u32 (setA o_0 5 2 s_2 v)), .v (.int .u32 (setA o_0 5 3 s_3 v)), .v (.int .u32 (setB o_0 5 4 s_4 v)), .v (.int .u32 (setB o_0 5 5 s_5 v)), .v (.int .u32 (setB o_0 5 6 s_6 v)), .v (.int .u32 (setB o_0 5 7 s_7 v)), vw s_8, vb s_9, vb s_10, vb s_11, vb s_12, vb s_13, vb s_14, .v (.int .u64 (setX o_0 5 0 s_15 v)), .v (.int .u64 (setX o_0 5 1 s_16 v)), .v (.int .u64 (setX o_0 5 2 s_17 v)), .v (.int .u64 (setX o_0 5 3 s_18 v)), .v (.int .u64 (setX o_0 5 4 s_19 v)), .v (.int .u64 (setX o_0 5 5 s_20 v)), .v (.int .u64 (setX o_0 5 6 s_21 v)), .v (.int .u64 (setX o_0 5 7 s_22 v))]) := by
  rw [rset_form5]
  try simp only [bitsL_eq]
  simp only [Bool.and_eq_true] at hg
  obtain ⟨g0, g1, g2, g3, g4⟩ := hg
  cases h1 : (o_0 == 1) <;> cases h2 : (o_0 == 2) <;> cases h5 : (o_0 == 5) <;> first
    | (have e1 := beq_iff_eq.1 h1; subst e1; cases h2; done)
    | (have e1 := beq_iff_eq.1 h1; subst e1; cases h5; done)
    | (have e1 := beq_iff_eq.1 h2; subst e1; cases h5; done)
    | simp [setA, setB, setX, h1, h2, h5, wr_u8, wr_u32 v, w32_b0, w32_b1, w32_b8, and_255_64 g4, lo_set g0, lo_set g1, lo_set g2, lo_set g3, hi_set g0, hi_set g1, hi_set g2, hi_set g3]
theorem rset_form6 (s_0 s_1 s_2 s_3 s_4 s_5 s_6 s_7 s_8 : Int) (s_9 s_10 s_11 s_12 s_13 s_14 : Bool) (s_15 s_16 s_17 s_18 s_19 s_20 s_21 s_22 o_0 o_2 o_3 o_4 o_5 v : Int) :
    evF Try.prog ΓRg2 400 74 [.agg (cCRg3z0 s_0 s_1 s_2 s_3 s_4 s_5 s_6 s_7 s_8 s_9 s_10 s_11 s_12 s_13 s_14 s_15 s_16 s_17 s_18 s_19 s_20 s_21 s_22), .agg (cCRg3z9 o_0 o_2 o_3 o_4 o_5), vd v] [] (fun x _ => some x) (fun _ _ => none) =
    (bif o_0 == 1 then
 some
 (Sv.agg
 [vw s_0, vw s_1, vw s_2,
 vw s_3, vw s_4, vw s_5,
 vw ((IntKind.wrap IntKind.u32 v)), vw s_7,
 vw s_8, vb s_9, vb s_10, vb s_11,
 vb s_12, vb s_13, vb s_14, vd s_15,
 vd s_16, vd s_17, vd s_18,
 vd s_19, vd s_20, vd s_21,
 vd s_22])
 else
 bif o_0 == 2 then
 some
 (Sv.agg
 [vw s_0, vw s_1,
 Sv.v
 (Value.int IntKind.u32
 (bitsL BinOp.or IntKind.u32 (bitsL BinOp.andNot IntKind.u32 s_2 65280)
 (IntKind.wrap IntKind.u32 (IntKind.wrap IntKind.u32 (bitsL BinOp.and IntKind.u64 v 255) * 256)))),
 vw s_3, vw s_4, vw s_5,
 vw s_6, vw s_7, vw s_8,
 vb s_9, vb s_10, vb s_11, vb s_12, vb s_13,
 vb s_14, vd s_15, vd s_16,
 vd s_17, vd s_18, vd s_19,
 vd s_20, vd s_21, vd s_22])
 else
 bif o_0 == 5 then
 some
 (Sv.agg
 [vw s_0, vw s_1, vw s_2,
 vw s_3, vw s_4, vw s_5,
 vw s_6, vw s_7, vw s_8,
 vb s_9, vb s_10, vb s_11, vb s_12, vb s_13,
 vb s_14, vd s_15, vd s_16,
 vd s_17, vd s_18, vd s_19,
 vd s_20, vd v, vd s_22])
 else
 some
 (Sv.agg
 (cCRg3z1 s_0 s_1 s_2 s_3 s_4 s_5 s_6 s_7 s_8 s_9 s_10 s_11 s_12 s_13 s_14 s_15 s_16 s_17 s_18 s_19 s_20 s_21 s_22))) := by kernel_rfl
theorem rset_nice6 (s_0 s_1 s_2 s_3 s_4 s_5 s_6 s_7 s_8 : Int) (s_9 s_10 s_11 s_12 s_13 s_14 : Bool) (s_15 s_16 s_17 s_18 s_19 s_20 s_21 s_22 o_0 o_2 o_3 o_4 o_5 v : Int) (hg : (in32 s_0 && (in32 s_1 && (in32 s_2 && (in32 s_3 && (in64 v))))) = true) :
    evF Try.prog ΓRg2 400 74 [.agg (cCRg3z0 s_0 s_1 s_2 s_3 s_4 s_5 s_6 s_7 s_8 s_9 s_10 s_11 s_12 s_13 s_14 s_15 s_16 s_17 s_18 s_19 s_20 s_21 s_22), .agg (cCRg3z9 o_0 o_2 o_3 o_4 o_5), vd v] [] (fun x _ => some x) (fun _ _ => none) = some (.agg [.v (.int .u32 (setA o_0 6 0 s_0 v)), .v (.int .u32 (setA o_0 6 1 s_1 v)), .v (.int .u32 (setA o_0 6 2 s_2 v)), .v (.int .u32 (setA o_0 6 3 s_3 v)), .v (.int .u32 (setB o_0 6 4 s_4 v)), .v (.int .u32 (setB o_0 6 5 s_5 v)), .v (.int .u32 (setB o_0 6 6 s_6 v)), .v (.int .u32 (setB o_0 6 7 s_7 v)), vw s_8, vb s_9, vb s_10, vb s_11, vb s_12, vb s_13, vb s_14, .v (.int .u64 (setX o_0 6 0 s_15 v)), .v (.int .u64 (setX o_0 6 1 s_16 v)), .v (.int .u64 (setX o_0 6 2 s_17 v)), .v (.int .u64 (setX o_0 6 3 s_18 v)), .v (.int .u64 (setX o_0 6 4 s_19 v)), .v (.int .u64 (setX o_0 6 5 s_20 v)), .v (.int .u64 (setX o_0 6 6 s_21 v)), .v (.int .u64 (setX o_0 6 7 s_22 v))]) := by
  rw [rset_form6]
  try simp only [bitsL_eq]
  simp only [Bool.and_eq_true] at hg
  obtain ⟨g0, g1, g2, g3, g4⟩ := hg
  cases h1 : (o_0 == 1) <;> cases h2 : (o_0 == 2) <;> cases h5 : (o_0 == 5) <;> first
    | (have e1 := beq_iff_eq.1 h1; subst e1; cases h2; done)
    | (have e1 := beq_iff_eq.1 h1; subst e1; cases h5; done)
    | (have e1 := beq_iff_eq.1 h2; subst e1; cases h5; done)
    | simp [setA, setB, setX, h1, h2, h5, wr_u8, wr_u32 v, w32_b0, w32_b1, w32_b8, and_255_64 g4, lo_set g0, lo_set g1, lo_set g2, lo_set g3, hi_set g0, hi_set g1, hi_set g2, hi_set g3]
theorem rset_form7 (s_0 s_1 s_2 s_3 s_4 s_5 s_6 s_7 s_8 : Int) (s_9 s_10 s_11 s_12 s_13 s_14 : Bool) (s_15 s_16 s_17 s_18 s_19 s_20 s_21 s_22 o_0 o_2 o_3 o_4 o_5 v : Int) :
    evF Try.prog ΓRg2 400 74 [.agg (cCRg3z0 s_0 s_1 s_2 s_3 s_4 s_5 s_6 s_7 s_8 s_9 s_10 s_11 s_12 s_13 s_14 s_15 s_16 s_17 s_18 s_19 s_20 s_21 s_22), .agg (cCRg3z10 o_0 o_2 o_3 o_4 o_5), vd v] [] (fun x _ => some x) (fun _ _ => none) =
    (bif o_0 == 1 then
 some
 (Sv.agg
 [vw s_0, vw s_1, vw s_2,
 vw s_3, vw s_4, vw s_5,
 vw s_6, vw ((IntKind.wrap IntKind.u32 v)),
 vw s_8, vb s_9, vb s_10, vb s_11,
 vb s_12, vb s_13, vb s_14, vd s_15,
 vd s_16, vd s_17, vd s_18,
 vd s_19, vd s_20, vd s_21,
 vd s_22])
 else
 bif o_0 == 2 then
 some
 (Sv.agg
 [vw s_0, vw s_1, vw s_2,
 Sv.v
 (Value.int IntKind.u32
 (bitsL BinOp.or IntKind.u32 (bitsL BinOp.andNot IntKind.u32 s_3 65280)
 (IntKind.wrap IntKind.u32 (IntKind.wrap IntKind.u32 (bitsL BinOp.and IntKind.u64 v 255) * 256)))),
 vw s_4, vw s_5, vw s_6,
 vw s_7, vw s_8, vb s_9, vb s_10,
 vb s_11, vb s_12, vb s_13, vb s_14,
 vd s_15, vd s_16, vd s_17,
 vd s_18, vd s_19, vd s_20,
 vd s_21, vd s_22])
 else
 bif o_0 == 5 then
 some
 (Sv.agg
 [vw s_0, vw s_1, vw s_2,
 vw s_3, vw s_4, vw s_5,
 vw s_6, vw s_7, vw s_8,
 vb s_9, vb s_10, vb s_11, vb s_12, vb s_13,
 vb s_14, vd s_15, vd s_16,
 vd s_17, vd s_18, vd s_19,
 vd s_20, vd s_21, vd v])
 else
 some
 (Sv.agg
 (cCRg3z1 s_0 s_1 s_2 s_3 s_4 s_5 s_6 s_7 s_8 s_9 s_10 s_11 s_12 s_13 s_14 s_15 s_16 s_17 s_18 s_19 s_20 s_21 s_22))) := by kernel_rfl
theorem rset_nice7 (s_0 s_1 s_2 s_3 s_4 s_5 s_6 s_7 s_8 : Int) (s_9 s_10 s_11 s_12 s_13 s_14 : Bool) (s_15 s_16 s_17 s_18 s_19 s_20 s_21 s_22 o_0 o_2 o_3 o_4 o_5 v : Int) (hg : (in32 s_0 && (in32 s_1 && (in32 s_2 && (in32 s_3 && (in64 v))))) = true) :
    evF Try.prog ΓRg2 400 74 [.agg (cCRg3z0 s_0 s_1 s_2 s_3 s_4 s_5 s_6 s_7 s_8 s_9 s_10 s_11 s_12 s_13 s_14 s_15 s_16 s_17 s_18 s_19 s_20 s_21 s_22), .agg (cCRg3z10 o_0 o_2 o_3 o_4 o_5), vd v] [] (fun x _ => some x) (fun _ _ => none) = some (.agg [.v (.int .u32 (setA o_0 7 0 s_0 v)), .v (.int .u32 (setA o_0 7 1 s_1 v)), .v (.int .u32 (setA o_0 7 2 s_2 v)), .v (.int .u32 (setA o_0 7 3 s_3 v)), .v (.int .u32 (setB o_0 7 4 s_4 v)), .v (.int .u32 (setB o_0 7 5 s_5 v)), .v (.int .u32 (setB o_0 7 6 s_6 v)), .v (.int .u32 (setB o_0 7 7 s_7 v)), vw s_8, vb s_9, vb s_10, vb s_11, vb s_12, vb s_13, vb s_14, .v (.int .u64 (setX o_0 7 0 s_15 v)), .v (.int .u64 (setX o_0 7 1 s_16 v)), .v (.int .u64 (setX o_0 7 2 s_17 v)), .v (.int .u64 (setX o_0 7 3 s_18 v)), .v (.int .u64 (setX o_0 7 4 s_19 v)), .v (.int .u64 (setX o_0 7 5 s_20 v)), .v (.int .u64 (setX o_0 7 6 s_21 v)), .v (.int .u64 (setX o_0 7 7 s_22 v))]) := by
  rw [rset_form7]
  try simp only [bitsL_eq]
  simp only [Bool.and_eq_true] at hg
  obtain ⟨g0, g1, g2, g3, g4⟩ := hg
  cases h1 : (o_0 == 1) <;> cases h2 : (o_0 == 2) <;> cases h5 : (o_0 == 5) <;> first
    | (have e1 := beq_iff_eq.1 h1; subst e1; cases h2; done)
    | (have e1 := beq_iff_eq.1 h1; subst e1; cases h5; done)
    | (have e1 := beq_iff_eq.1 h2; subst e1; cases h5; done)
    | simp [setA, setB, setX, h1, h2, h5, wr_u8, wr_u32 v, w32_b0, w32_b1, w32_b8, and_255_64 g4, lo_set g0, lo_set g1, lo_set g2, lo_set g3, hi_set g0, hi_set g1, hi_set g2, hi_set g3]
def rsetS : Nice := fun R args kv => match args with
  | [.agg [.v (.int .u32 s_0), .v (.int .u32 s_1), .v (.int .u32 s_2), .v (.int .u32 s_3), .v (.int .u32 s_4), .v (.int .u32 s_5), .v (.int .u32 s_6), .v (.int .u32 s_7), .v (.int .u32 s_8), .v (.bool s_9), .v (.bool s_10), .v (.bool s_11), .v (.bool s_12), .v (.bool s_13), .v (.bool s_14), .v (.int .u64 s_15), .v (.int .u64 s_16), .v (.int .u64 s_17), .v (.int .u64 s_18), .v (.int .u64 s_19), .v (.int .u64 s_20), .v (.int .u64 s_21), .v (.int .u64 s_22)], .agg [.v (.int .i64 o_0), .v (.int .i64 o_1), .v (.int .i64 o_2), .v (.int .i64 o_3), .v (.int .i64 o_4), .v (.int .u32 o_5)], .v (.int .u64 v)] => bif in32 s_0 && (in32 s_1 && (in32 s_2 && (in32 s_3 && (in64 v)))) then kv (.agg [.v (.int .u32 (setA o_0 o_1 0 s_0 v)), .v (.int .u32 (setA o_0 o_1 1 s_1 v)), .v (.int .u32 (setA o_0 o_1 2 s_2 v)), .v (.int .u32 (setA o_0 o_1 3 s_3 v)), .v (.int .u32 (setB o_0 o_1 4 s_4 v)), .v (.int .u32 (setB o_0 o_1 5 s_5 v)), .v (.int .u32 (setB o_0 o_1 6 s_6 v)), .v (.int .u32 (setB o_0 o_1 7 s_7 v)), .v (.int .u32 s_8), .v (.bool s_9), .v (.bool s_10), .v (.bool s_11), .v (.bool s_12), .v (.bool s_13), .v (.bool s_14), .v (.int .u64 (setX o_0 o_1 0 s_15 v)), .v (.int .u64 (setX o_0 o_1 1 s_16 v)), .v (.int .u64 (setX o_0 o_1 2 s_17 v)), .v (.int .u64 (setX o_0 o_1 3 s_18 v)), .v (.int .u64 (setX o_0 o_1 4 s_19 v)), .v (.int .u64 (setX o_0 o_1 5 s_20 v)), .v (.int .u64 (setX o_0 o_1 6 s_21 v)), .v (.int .u64 (setX o_0 o_1 7 s_22 v))]) else none
  | _ => none
theorem rsetS_ok : NiceOkX Try.prog X0 74 rsetS := by
  intro R args kv r h
  unfold rsetS at h
  split at h
  · rename_i s_0 s_1 s_2 s_3 s_4 s_5 s_6 s_7 s_8 s_9 s_10 s_11 s_12 s_13 s_14 s_15 s_16 s_17 s_18 s_19 s_20 s_21 s_22 o_0 o_1 o_2 o_3 o_4 o_5 v
    obtain ⟨hg, h2⟩ := cond_some h
    clear h
    cases hv : isV o_1 with
    | false => exact ⟨_, ΓRgF, 400, h2, rfl, rfl, ΓRgF_ok, rset_niceO _ _ _ _ _ _ _ _ _ _ _ _ _ _ _ _ _ _ _ _ _ _ _ _ _ _ _ _ _ _ hv hg⟩
    | true =>
      rcases isV_cases hv with rfl | rfl | rfl | rfl | rfl | rfl | rfl | rfl
      · exact ⟨_, ΓRg2, 400, h2, rfl, rfl, ΓRg2_ok, rset_nice0 _ _ _ _ _ _ _ _ _ _ _ _ _ _ _ _ _ _ _ _ _ _ _ _ _ _ _ _ _ hg⟩
      · exact ⟨_, ΓRg2, 400, h2, rfl, rfl, ΓRg2_ok, rset_nice1 _ _ _ _ _ _ _ _ _ _ _ _ _ _ _ _ _ _ _ _ _ _ _ _ _ _ _ _ _ hg⟩
      · exact ⟨_, ΓRg2, 400, h2, rfl, rfl, ΓRg2_ok, rset_nice2 _ _ _ _ _ _ _ _ _ _ _ _ _ _ _ _ _ _ _ _ _ _ _ _ _ _ _ _ _ hg⟩
      · exact ⟨_, ΓRg2, 400, h2, rfl, rfl, ΓRg2_ok, rset_nice3 _ _ _ _ _ _ _ _ _ _ _ _ _ _ _ _ _ _ _ _ _ _ _ _ _ _ _ _ _ hg⟩
      · exact ⟨_, ΓRg2, 400, h2, rfl, rfl, ΓRg2_ok, rset_nice4 _ _ _ _ _ _ _ _ _ _ _ _ _ _ _ _ _ _ _ _ _ _ _ _ _ _ _ _ _ hg⟩
      · exact ⟨_, ΓRg2, 400, h2, rfl, rfl, ΓRg2_ok, rset_nice5 _ _ _ _ _ _ _ _ _ _ _ _ _ _ _ _ _ _ _ _ _ _ _ _ _ _ _ _ _ hg⟩
      · exact ⟨_, ΓRg2, 400, h2, rfl, rfl, ΓRg2_ok, rset_nice6 _ _ _ _ _ _ _ _ _ _ _ _ _ _ _ _ _ _ _ _ _ _ _ _ _ _ _ _ _ hg⟩
      · exact ⟨_, ΓRg2, 400, h2, rfl, rfl, ΓRg2_ok, rset_nice7 _ _ _ _ _ _ _ _ _ _ _ _ _ _ _ _ _ _ _ _ _ _ _ _ _ _ _ _ _ hg⟩
  · cases h
def ΓRg3 : Env := ((((ΓRg2.add 129 (pureSpec getS)).add 78 (pureSpec rgetS)).add 115 (pureSpec setS)).add 74 (pureSpec rsetS))
theorem ΓRg3_ok : EnvOk Try.prog X0 ΓRg3 := ((((ΓRg2_ok.add (by kernel_rfl) (specOk_of_niceX getS_ok)).add (by kernel_rfl) (specOk_of_niceX rgetS_ok)).add (by kernel_rfl) (specOk_of_niceX setS_ok)).add (by kernel_rfl) (specOk_of_niceX rsetS_ok))
end Go.Proofs.Ytpgdpoloipifeaa
