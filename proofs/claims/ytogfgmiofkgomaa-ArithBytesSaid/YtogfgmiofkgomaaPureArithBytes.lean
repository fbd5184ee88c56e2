/- ArithBytes: the reckoning of the law, and that it is true. -/
import Derived.Test.YtogfgmiofkgomaaCAr6
namespace Go.Proofs.Ytogfgmiofkgomaa.arithBytes
open Go Go.Ev
set_option linter.unusedVariables false
set_option linter.unusedSimpArgs false
set_option maxRecDepth 100000
theorem form (a0 : Int) (a1 : Int) (a2 : Bool) :
    evF Try.prog ΓAr6 400 5 [.v (.int .u32 a0), .v (.int .u32 a1), .v (.bool a2)] [] isT (fun _ _ => none) =
    (bif in32 a0 && in32 a1 then
    bif in32 (Int.fdiv a0 1) && in32 (Int.fdiv a1 1) then
    bif in32 (Int.fdiv a0 1) && in32 (Int.fdiv a1 1) then
    bif in32 (Int.fdiv a0 256) && in32 (Int.fdiv a1 256) then
    bif in32 (Int.fdiv a0 256) && in32 (Int.fdiv a1 256) then
    bif in32 (Int.fdiv a0 65536) && in32 (Int.fdiv a1 65536) then
    bif in32 (Int.fdiv a0 65536) && in32 (Int.fdiv a1 65536) then
    bif in32 (Int.fdiv a0 16777216) && in32 (Int.fdiv a1 16777216) then
    bif in32 (Int.fdiv a0 16777216) && in32 (Int.fdiv a1 16777216) then
    bif in32 a0 && in32 a1 then
    bif
    bitsL BinOp.or IntKind.u32
    (bitsL BinOp.or IntKind.u32
    (bitsL BinOp.or IntKind.u32
    (bitsL BinOp.or IntKind.u32 0 (IntKind.wrap IntKind.u32 (addV (Int.fdiv a0 1) (Int.fdiv a1 1) 1 a2 * 1)))
    (IntKind.wrap IntKind.u32
    (addV (Int.fdiv a0 256) (Int.fdiv a1 256) 1 (decide (256 ≤ addS (Int.fdiv a0 1) (Int.fdiv a1 1) 1 a2)) * 256)))
    (IntKind.wrap IntKind.u32
    (addV (Int.fdiv a0 65536) (Int.fdiv a1 65536) 1
    (decide (256 ≤ addS (Int.fdiv a0 256) (Int.fdiv a1 256) 1 (decide (256 ≤ addS (Int.fdiv a0 1) (Int.fdiv a1 1) 1 a2)))) *
    65536)))
    (IntKind.wrap IntKind.u32
    (addV (Int.fdiv a0 16777216) (Int.fdiv a1 16777216) 1
    (decide
    (256 ≤
    addS (Int.fdiv a0 65536) (Int.fdiv a1 65536) 1
    (decide
    (256 ≤ addS (Int.fdiv a0 256) (Int.fdiv a1 256) 1 (decide (256 ≤ addS (Int.fdiv a0 1) (Int.fdiv a1 1) 1 a2)))))) *
    16777216)) ==
    addV a0 a1 4 a2 then
    bif
    decide
    (256 ≤
    addS (Int.fdiv a0 16777216) (Int.fdiv a1 16777216) 1
    (decide
    (256 ≤
    addS (Int.fdiv a0 65536) (Int.fdiv a1 65536) 1
    (decide
    (256 ≤ addS (Int.fdiv a0 256) (Int.fdiv a1 256) 1 (decide (256 ≤ addS (Int.fdiv a0 1) (Int.fdiv a1 1) 1 a2))))))) ==
    decide (4294967296 ≤ addS a0 a1 4 a2) then
    bif
    bitsL BinOp.or IntKind.u32
    (bitsL BinOp.or IntKind.u32
    (bitsL BinOp.or IntKind.u32
    (bitsL BinOp.or IntKind.u32 0 (IntKind.wrap IntKind.u32 (subV (Int.fdiv a0 1) (Int.fdiv a1 1) 1 a2 * 1)))
    (IntKind.wrap IntKind.u32
    (subV (Int.fdiv a0 256) (Int.fdiv a1 256) 1 (decide (subS (Int.fdiv a0 1) (Int.fdiv a1 1) 1 a2 < 0)) * 256)))
    (IntKind.wrap IntKind.u32
    (subV (Int.fdiv a0 65536) (Int.fdiv a1 65536) 1
    (decide (subS (Int.fdiv a0 256) (Int.fdiv a1 256) 1 (decide (subS (Int.fdiv a0 1) (Int.fdiv a1 1) 1 a2 < 0)) < 0)) *
    65536)))
    (IntKind.wrap IntKind.u32
    (subV (Int.fdiv a0 16777216) (Int.fdiv a1 16777216) 1
    (decide
    (subS (Int.fdiv a0 65536) (Int.fdiv a1 65536) 1
    (decide (subS (Int.fdiv a0 256) (Int.fdiv a1 256) 1 (decide (subS (Int.fdiv a0 1) (Int.fdiv a1 1) 1 a2 < 0)) < 0)) <
    0)) *
    16777216)) ==
    subV a0 a1 4 a2 then
    some
    (decide
    (subS (Int.fdiv a0 16777216) (Int.fdiv a1 16777216) 1
    (decide
    (subS (Int.fdiv a0 65536) (Int.fdiv a1 65536) 1
    (decide (subS (Int.fdiv a0 256) (Int.fdiv a1 256) 1 (decide (subS (Int.fdiv a0 1) (Int.fdiv a1 1) 1 a2 < 0)) < 0)) <
    0)) <
    0) ==
    decide (subS a0 a1 4 a2 < 0))
    else some false
    else some false
    else some false
    else none
    else none
    else none
    else none
    else none
    else none
    else none
    else none
    else none
    else none) := by kernel_rfl
set_option maxHeartbeats 1000000 in
theorem pure (a0 : Int) (a1 : Int) (a2 : Bool) (w0 : (Lit.int .u32 a0).wf = true) (w1 : (Lit.int .u32 a1).wf = true) :
    evF Try.prog ΓAr6 400 5 [.v (.int .u32 a0), .v (.int .u32 a1), .v (.bool a2)] [] isT (fun _ _ => none) = some true := by
  rw [form]
  try simp only [bitsL_eq]
  have b0 := wf_u32 w0
  have b1 := wf_u32 w1
  have g0 := in32_iff.2 b0
  have g1 := in32_iff.2 b1
  simp only [g0, g1, in32_div b0.1 b0.2 1 (by decide), in32_div b1.1 b1.2 1 (by decide), in32_div b0.1 b0.2 256 (by decide), in32_div b1.1 b1.2 256 (by decide), in32_div b0.1 b0.2 65536 (by decide), in32_div b1.1 b1.2 65536 (by decide),
    in32_div b0.1 b0.2 16777216 (by decide), in32_div b1.1 b1.2 16777216 (by decide), Bool.and_self, cond_true, addV1, subV1]
  have f : ∀ (x k : Int), 0 < k → Int.fdiv x k = x / k := fun x k h => Int.fdiv_eq_ediv_of_nonneg _ (by omega)
  simp only [f _ 1 (by decide), f _ 256 (by decide), f _ 65536 (by decide), f _ 16777216 (by decide)]
  have hc := b2i_bd a2
  obtain ⟨x0, x1, x2, x3, j0, j1, j2, j3, ja, i0, i1, i2, i3⟩ := split4 b0.1 b0.2
  obtain ⟨y0, y1, y2, y3, l0, l1, l2, l3, la, m0, m1, m2, m3⟩ := split4 b1.1 b1.2
  obtain ⟨t0, h0⟩ : ∃ t, t = x0 + y0 + b2i a2 := ⟨_, rfl⟩
  obtain ⟨q0, c0⟩ := addStep i0 m0 hc h0
  obtain ⟨p0, z0, n0, n0', n0e, n0b⟩ := byte1 t0
  rw [n0] at q0 c0
  obtain ⟨t1, h1⟩ : ∃ t, t = x1 + y1 + p0 := ⟨_, rfl⟩
  obtain ⟨q1, c1⟩ := addStep i1 m1 c0 h1
  obtain ⟨p1, z1, n1, n1', n1e, n1b⟩ := byte1 t1
  rw [n1] at q1 c1
  obtain ⟨t2, h2⟩ : ∃ t, t = x2 + y2 + p1 := ⟨_, rfl⟩
  obtain ⟨q2, c2⟩ := addStep i2 m2 c1 h2
  obtain ⟨p2, z2, n2, n2', n2e, n2b⟩ := byte1 t2
  rw [n2] at q2 c2
  obtain ⟨t3, h3⟩ : ∃ t, t = x3 + y3 + p2 := ⟨_, rfl⟩
  obtain ⟨p3, z3, n3, n3', n3e, n3b⟩ := byte1 t3
  have s0 : addS (a0 / 1) (a1 / 1) 1 a2 = t0 := by rw [addS1, h0, Int.ediv_one, Int.ediv_one, j0, l0]
  have s1 : addS (a0 / 256) (a1 / 256) 1 (decide (256 ≤ t0)) = t1 := by rw [addS1, h1, j1, l1, q0]
  have s2 : addS (a0 / 65536) (a1 / 65536) 1 (decide (256 ≤ t1)) = t2 := by rw [addS1, h2, j2, l2, q1]
  have s3 : addS (a0 / 16777216) (a1 / 16777216) 1 (decide (256 ≤ t2)) = t3 := by rw [addS1, h3, j3, l3, q2]
  obtain ⟨d0, e0⟩ : ∃ t, t = x0 - y0 - b2i a2 := ⟨_, rfl⟩
  obtain ⟨k0, f0⟩ := subStep i0 m0 hc e0
  obtain ⟨u0, v0, o0, o0', o0e, o0b⟩ := byte1 d0
  rw [o0] at k0 f0
  obtain ⟨d1, e1⟩ : ∃ t, t = x1 - y1 - -u0 := ⟨_, rfl⟩
  obtain ⟨k1, f1⟩ := subStep i1 m1 f0 e1
  obtain ⟨u1, v1, o1, o1', o1e, o1b⟩ := byte1 d1
  rw [o1] at k1 f1
  obtain ⟨d2, e2⟩ : ∃ t, t = x2 - y2 - -u1 := ⟨_, rfl⟩
  obtain ⟨k2, f2⟩ := subStep i2 m2 f1 e2
  obtain ⟨u2, v2, o2, o2', o2e, o2b⟩ := byte1 d2
  rw [o2] at k2 f2
  obtain ⟨d3, e3⟩ : ∃ t, t = x3 - y3 - -u2 := ⟨_, rfl⟩
  obtain ⟨u3, v3, o3, o3', o3e, o3b⟩ := byte1 d3
  have r0 : subS (a0 / 1) (a1 / 1) 1 a2 = d0 := by rw [subS1, e0, Int.ediv_one, Int.ediv_one, j0, l0]
  have r1 : subS (a0 / 256) (a1 / 256) 1 (decide (d0 < 0)) = d1 := by rw [subS1, e1, j1, l1, k0]
  have r2 : subS (a0 / 65536) (a1 / 65536) 1 (decide (d1 < 0)) = d2 := by rw [subS1, e2, j2, l2, k1]
  have r3 : subS (a0 / 16777216) (a1 / 16777216) 1 (decide (d2 < 0)) = d3 := by rw [subS1, e3, j3, l3, k2]
  simp only [s0, s1, s2, s3, r0, r1, r2, r3, n0', n1', n2', n3', o0', o1', o2', o3']
  rw [or_4 n0b n1b n2b n3b, or_4 o0b o1b o2b o3b]
  have v4 : addV a0 a1 4 a2 = (a0 % 4294967296 + a1 % 4294967296 + b2i a2) % 4294967296 := rfl
  have u4 : subV a0 a1 4 a2 = (a0 % 4294967296 - a1 % 4294967296 - b2i a2) % 4294967296 := rfl
  have p4 : addS a0 a1 4 a2 = a0 % 4294967296 + a1 % 4294967296 + b2i a2 := rfl
  have q4 : subS a0 a1 4 a2 = a0 % 4294967296 - a1 % 4294967296 - b2i a2 := rfl
  rw [v4, u4, p4, q4, Int.emod_eq_of_lt b0.1 b0.2, Int.emod_eq_of_lt b1.1 b1.2, ja, la, sum4 (h0.symm.trans n0e) (h1.symm.trans n1e) (h2.symm.trans n2e) (h3.symm.trans n3e), dif4 (e0.symm.trans o0e) (e1.symm.trans o1e) (e2.symm.trans o2e) (e3.symm.trans o3e),
    mod4 n0b n1b n2b n3b, mod4 o0b o1b o2b o3b, ge4 n0b n1b n2b n3b n3e, lt4 o0b o1b o2b o3b o3e]
  simp only [beq_self_eq_true, cond_true]
end Go.Proofs.Ytogfgmiofkgomaa.arithBytes
