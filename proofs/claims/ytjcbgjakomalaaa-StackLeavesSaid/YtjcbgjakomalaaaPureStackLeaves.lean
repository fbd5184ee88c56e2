/- StackLeaves: the reckoning of the law, and that it is true. -/
import Derived.Test.YtjcbgjakomalaaaCSk3
import Derived.Test.YtjcbgjakomalaaaNStr
namespace Go.Proofs.Ytjcbgjakomalaaa.stackLeaves
open Go Go.Ev
set_option linter.unusedVariables false
set_option linter.unusedSimpArgs false
set_option maxRecDepth 100000
theorem or4 {b0 b1 b2 b3 : Int} (h0 : 0 ≤ b0 ∧ b0 < 256) (h1 : 0 ≤ b1 ∧ b1 < 256) (h2 : 0 ≤ b2 ∧ b2 < 256) (h3 : 0 ≤ b3 ∧ b3 < 256) :
    bitsL .or .u32 (bitsL .or .u32 (bitsL .or .u32 (IntKind.wrap .u32 b0) (IntKind.wrap .u32 (IntKind.wrap .u32 b1 * 256))) (IntKind.wrap .u32 (IntKind.wrap .u32 b2 * 65536))) (IntKind.wrap .u32 (IntKind.wrap .u32 b3 * 16777216)) = b0 + b1 * 256 + b2 * 65536 + b3 * 16777216 := by
  rw [wr_u32_id (n := b0) (by omega) (by omega), wr_u32_id (n := b1) (by omega) (by omega), wr_u32_id (n := b2) (by omega) (by omega), wr_u32_id (n := b3) (by omega) (by omega), wr_u32_id (n := b1 * 256) (by omega) (by omega), wr_u32_id (n := b2 * 65536) (by omega) (by omega), wr_u32_id (n := b3 * 16777216) (by omega) (by omega)]
  simp only [bitsL_eq]
  have j1 := or_join 8 (l := b0) (h := b1) (by omega) (by show b0 < 256; omega) (by omega) (by show b0 + b1 * 256 < _; omega)
  have j2 := or_join 16 (l := b0 + b1 * 256) (h := b2) (by omega) (by show b0 + b1 * 256 < 65536; omega) (by omega) (by show b0 + b1 * 256 + b2 * 65536 < _; omega)
  have j3 := or_join 24 (l := b0 + b1 * 256 + b2 * 65536) (h := b3) (by omega) (by show b0 + b1 * 256 + b2 * 65536 < 16777216; omega) (by omega) (by show b0 + b1 * 256 + b2 * 65536 + b3 * 16777216 < _; omega)
  rw [show (2 : Int) ^ 8 = 256 from rfl] at j1
  rw [show (2 : Int) ^ 16 = 65536 from rfl] at j2
  rw [show (2 : Int) ^ 24 = 16777216 from rfl] at j3
  rw [j1, j2, j3]
theorem ld4 {M : Int → Int} (h : isBy M) {p : Int} (h0 : 0 ≤ p) (h1 : p + 4 ≤ 256) : ldV M 36864 256 p 4 true = M (36864 + p) + M (36864 + p + 1) * 256 + M (36864 + p + 2) * 65536 + M (36864 + p + 3) * 16777216 := by
  unfold ldV
  rw [seg4 h0 h1]
  have e0 : IntKind.wrap .u32 (36864 + p) = 36864 + p := wr_u32_id (by omega) (by omega)
  rw [e0]
  obtain ⟨v, hv⟩ : ∃ v, v = M (36864 + p) + M (36864 + p + 1) * 256 + M (36864 + p + 2) * 65536 + M (36864 + p + 3) * 16777216 := ⟨_, rfl⟩
  have q0 := h (36864 + p)
  have q1 := h (36864 + p + 1)
  have q2 := h (36864 + p + 2)
  have q3 := h (36864 + p + 3)
  have hv0 : 0 ≤ v ∧ v < 4294967296 := by omega
  have hk : ∀ k : Nat, k < 4 → M (IntKind.wrap .u32 (36864 + p + (k : Int))) = v / 2 ^ (8 * k) % 256 := fun k hk => by
    have e : IntKind.wrap .u32 (36864 + p + (k : Int)) = 36864 + p + (k : Int) := by rw [wr_u32]; omega
    rw [e]
    match k, hk with
    | 0, _ => simp; omega
    | 1, _ => show M (36864 + p + 1) = v / 256 % 256; omega
    | 2, _ => show M (36864 + p + 2) = v / 65536 % 256; omega
    | 3, _ => show M (36864 + p + 3) = v / 16777216 % 256; omega
  have := ldGo_eq M (36864 + p) 4 0 v (by omega) hk hv0.1 (by omega) (by show (0 : Int) * 2 ^ (8 * 4) + v % 4294967296 < _; omega)
  rw [← hv]
  show ldGo M (36864 + p) 4 0 = v
  rw [this]
  show (0 : Int) * 2 ^ (8 * 4) + v % 4294967296 = v
  omega
theorem form (a0_0 : Int) (a0_1 : Int) (a0_2 : Int) (a0_3 : Int) (a0_4 : Int) (a0_5 : Int) (a0_6 : Int) (a0_7 : Int) (a1 : Int) (a2 : Int)
    (x1 : Int) (ex1 : x1 = (IntKind.wrap IntKind.u32 (Int.tmod a1 250)))
    (x2 : Int → Int) (ex2 : x2 = (wrM (fun x => 0) 36864 (rowF (fun x => 0) (fillB a2) 256) 256))
    (x3 : Int) (ex3 : x3 = (-1))
    (x4 : Option (Sv × List SObj)) (ex4 : x4 = (skPT 16384 4096 false false true 36864 256 true true false 103 x2 (stRV false a0_0) (stRV false a0_1) (stRV false a0_2) (stRV false a0_3) (stRV false a0_4) x1 (stRV false a0_6) (stRV false a0_7) 0 true true true false false false 0 0 0 0 0 0 0 0 49 0 0 0 0 x3 x3 1 0 0 0 x3 x3 1 0 0 false 1))
    (x5 : Nat → Int) (ex5 : x5 = (rdB x2 (IntKind.wrap IntKind.u32 (36864 + x1)))) :
    evF Try.prog ΓSk3 400 14 [.agg [.v (.int .u32 a0_0), .v (.int .u32 a0_1), .v (.int .u32 a0_2), .v (.int .u32 a0_3), .v (.int .u32 a0_4), .v (.int .u32 a0_5), .v (.int .u32 a0_6), .v (.int .u32 a0_7)], .v (.int .u8 a1), .v (.int .u32 a2)] [] isT (fun _ _ => none) =
    (bif in32 a0_0 && (in32 a0_1 && (in32 a0_2 && (in32 a0_3 && (in32 a0_4 && (in32 a0_5 && (in32 a0_6 && (in32 a0_7 && true))))))) then bif in32 (stRV false a0_0) && (in32 (stRV false a0_1) && (in32 (stRV false a0_2) && (in32 (stRV false a0_3) && (in32 (stRV false a0_4) && (in32 x1 && (in32 (stRV false a0_6) && (in32 (stRV false a0_7) && true))))))) && !1 + 12 == 1 + 6 then bif ansI x4 23 == 0 then bif ansI x4 4 == IntKind.wrap IntKind.u32 (x1 + 4) then bif ansI x4 5 == bitsL BinOp.or IntKind.u32 (bitsL BinOp.or IntKind.u32 (bitsL BinOp.or IntKind.u32 (IntKind.wrap IntKind.u32 (rowF (fun x => 0) x5 4 0)) (IntKind.wrap IntKind.u32 (IntKind.wrap IntKind.u32 (rowF (fun x => 0) x5 4 1) * 256))) (IntKind.wrap IntKind.u32 (IntKind.wrap IntKind.u32 (rowF (fun x => 0) x5 4 2) * 65536))) (IntKind.wrap IntKind.u32 (IntKind.wrap IntKind.u32 (rowF (fun x => 0) x5 4 3) * 16777216)) then bif ansB x4 9 == true && (ansB x4 10 == true && (ansB x4 11 == true && (ansB x4 12 == false && (ansB x4 13 == false && (ansB x4 14 == false && true))))) then bif ansI x4 8 == 0 then some (alikeV (ansM x4 1) x2) else some false else some false else some false else some false else some false else none else none) := by
  subst ex1
  subst ex2
  subst ex3
  subst ex4
  subst ex5
  kernel_rfl
set_option maxHeartbeats 1000000 in
theorem pure (a0_0 : Int) (a0_1 : Int) (a0_2 : Int) (a0_3 : Int) (a0_4 : Int) (a0_5 : Int) (a0_6 : Int) (a0_7 : Int) (a1 : Int) (a2 : Int) (w0_0 : (Lit.int .u32 a0_0).wf = true) (w0_1 : (Lit.int .u32 a0_1).wf = true) (w0_2 : (Lit.int .u32 a0_2).wf = true) (w0_3 : (Lit.int .u32 a0_3).wf = true) (w0_4 : (Lit.int .u32 a0_4).wf = true) (w0_5 : (Lit.int .u32 a0_5).wf = true) (w0_6 : (Lit.int .u32 a0_6).wf = true) (w0_7 : (Lit.int .u32 a0_7).wf = true) (w1 : (Lit.int .u8 a1).wf = true) (w2 : (Lit.int .u32 a2).wf = true) :
    evF Try.prog ΓSk3 400 14 [.agg [.v (.int .u32 a0_0), .v (.int .u32 a0_1), .v (.int .u32 a0_2), .v (.int .u32 a0_3), .v (.int .u32 a0_4), .v (.int .u32 a0_5), .v (.int .u32 a0_6), .v (.int .u32 a0_7)], .v (.int .u8 a1), .v (.int .u32 a2)] [] isT (fun _ _ => none) = some true := by
  obtain ⟨x1, ex1⟩ : ∃ x : Int, x = (IntKind.wrap IntKind.u32 (Int.tmod a1 250)) := ⟨_, rfl⟩
  obtain ⟨x2, ex2⟩ : ∃ x : Int → Int, x = (wrM (fun x => 0) 36864 (rowF (fun x => 0) (fillB a2) 256) 256) := ⟨_, rfl⟩
  obtain ⟨x3, ex3⟩ : ∃ x : Int, x = (-1) := ⟨_, rfl⟩
  obtain ⟨x4, ex4⟩ : ∃ x : Option (Sv × List SObj), x = (skPT 16384 4096 false false true 36864 256 true true false 103 x2 (stRV false a0_0) (stRV false a0_1) (stRV false a0_2) (stRV false a0_3) (stRV false a0_4) x1 (stRV false a0_6) (stRV false a0_7) 0 true true true false false false 0 0 0 0 0 0 0 0 49 0 0 0 0 x3 x3 1 0 0 0 x3 x3 1 0 0 false 1) := ⟨_, rfl⟩
  obtain ⟨x5, ex5⟩ : ∃ x : Nat → Int, x = (rdB x2 (IntKind.wrap IntKind.u32 (36864 + x1))) := ⟨_, rfl⟩
  rw [form a0_0 a0_1 a0_2 a0_3 a0_4 a0_5 a0_6 a0_7 a1 a2 x1 ex1 x2 ex2 x3 ex3 x4 ex4 x5 ex5]
  have i0_0 : in32 a0_0 = true := in32_iff.2 (wf_u32 w0_0)
  have i0_1 : in32 a0_1 = true := in32_iff.2 (wf_u32 w0_1)
  have i0_2 : in32 a0_2 = true := in32_iff.2 (wf_u32 w0_2)
  have i0_3 : in32 a0_3 = true := in32_iff.2 (wf_u32 w0_3)
  have i0_4 : in32 a0_4 = true := in32_iff.2 (wf_u32 w0_4)
  have i0_5 : in32 a0_5 = true := in32_iff.2 (wf_u32 w0_5)
  have i0_6 : in32 a0_6 = true := in32_iff.2 (wf_u32 w0_6)
  have i0_7 : in32 a0_7 = true := in32_iff.2 (wf_u32 w0_7)
  have b1 := wf_u8 w1
  have q1 : x1 = a1 % 250 := by rw [ex1, Int.tmod_eq_emod_of_nonneg b1.1, wr_u32_id (by omega) (by omega)]
  have p0 : 0 ≤ x1 := by omega
  have p1 : x1 < 250 := by omega
  have ix : in32 x1 = true := in32_iff.2 (by omega)
  have hM : isBy x2 := by rw [ex2]; exact isBy_fill a2
  have s0 : in32 (stRV false a0_0) = true := stRV_in _ i0_0
  have s1 : in32 (stRV false a0_1) = true := stRV_in _ i0_1
  have s2 : in32 (stRV false a0_2) = true := stRV_in _ i0_2
  have s3 : in32 (stRV false a0_3) = true := stRV_in _ i0_3
  have s4 : in32 (stRV false a0_4) = true := stRV_in _ i0_4
  have s5 : in32 (stRV false a0_5) = true := stRV_in _ i0_5
  have s6 : in32 (stRV false a0_6) = true := stRV_in _ i0_6
  have s7 : in32 (stRV false a0_7) = true := stRV_in _ i0_7
  have hok : skOk 36864 256 x1 (mayV true true false 0) = true := by
    unfold skOk
    have := seg4 (p := x1) p0 (by omega)
    rw [show ((bytesN 4 : Nat) : Int) = 4 from rfl] at this
    rw [show mayV true true false 0 = true from rfl, this]; rfl
  have h4 : x4 = some (.tup [.agg [.v (.int .u32 (stRV false a0_0)), .v (.int .u32 (stRV false a0_1)), .v (.int .u32 (stRV false a0_2)), .v (.int .u32 (stRV false a0_3)), .v (.int .u32 (IntKind.wrap .u32 (x1 + 4))), .v (.int .u32 (IntKind.wrap .u32 (ldV x2 36864 256 x1 4 true))), .v (.int .u32 (stRV false a0_6)), .v (.int .u32 (stRV false a0_7)), .v (.int .u32 0), .v (.bool true), .v (.bool true), .v (.bool true), .v (.bool false), .v (.bool false), .v (.bool false), .v (.int .u64 0), .v (.int .u64 0), .v (.int .u64 0), .v (.int .u64 0), .v (.int .u64 0), .v (.int .u64 0), .v (.int .u64 0), .v (.int .u64 0)], .v (.int .i64 0)], [.cells [.ptr 1 0, .v (.int .u32 16384), .v (.int .u32 4096), .v (.bool false), .v (.bool false), .v (.bool true), .v (.int .u32 36864), .v (.int .u32 256), .v (.bool true), .v (.bool true), .v (.bool false)] 103, .ext 0 x2]) := by
    rw [ex4, skP_tree]
    simp only [show ((49 : Int) == 23) = false from rfl, show ((49 : Int) == 49) = true from rfl, s0, s1, s2, s3, s4, ix, s6, s7, hok, show in32 36864 = true from rfl, show in32 256 = true from rfl, show (endV true == 0) = true from rfl, Bool.and_self, Bool.not_true, cond_true, cond_false]
    rfl
  have hl := ld4 hM p0 (by omega)
  have r : ∀ k : Nat, k < 4 → rowF (fun _ => 0) x5 4 (k : Int) = x2 (36864 + x1 + (k : Int)) := fun k hk => by
    unfold rowF
    rw [show decide (0 ≤ (k : Int)) = true from decide_eq_true (by omega), show decide ((k : Int) < ((4 : Nat) : Int)) = true from decide_eq_true (by omega), ex5]
    simp only [Bool.and_self, cond_true]
    unfold rdB
    congr 1
    simp only [wr_u32, Int.toNat_natCast]; omega
  have r0 : rowF (fun _ => 0) x5 4 0 = x2 (36864 + x1) := by have := r 0 (by omega); simpa using this
  have r1 : rowF (fun _ => 0) x5 4 1 = x2 (36864 + x1 + 1) := by have := r 1 (by omega); simpa using this
  have r2 : rowF (fun _ => 0) x5 4 2 = x2 (36864 + x1 + 2) := by have := r 2 (by omega); simpa using this
  have r3 : rowF (fun _ => 0) x5 4 3 = x2 (36864 + x1 + 3) := by have := r 3 (by omega); simpa using this
  have y0 := hM (36864 + x1)
  have y1 := hM (36864 + x1 + 1)
  have y2 := hM (36864 + x1 + 2)
  have y3 := hM (36864 + x1 + 3)
  have hor := or4 y0 y1 y2 y3
  rw [r0, r1, r2, r3, hor, ← hl, h4]
  have hw : IntKind.wrap .u32 (ldV x2 36864 256 x1 4 true) = ldV x2 36864 256 x1 4 true := wr_u32_id (by rw [hl]; omega) (by rw [hl]; omega)
  rw [hw]
  simp only [i0_0, i0_1, i0_2, i0_3, i0_4, i0_5, i0_6, i0_7, s0, s1, s2, s3, s4, ix, s6, s7, Bool.and_self, cond_true, Nat.reduceAdd, Nat.reduceBEq, Bool.not_false]
  show (bif (0 : Int) == 0 then bif IntKind.wrap .u32 (x1 + 4) == IntKind.wrap .u32 (x1 + 4) then bif ldV x2 36864 256 x1 4 true == ldV x2 36864 256 x1 4 true then some (alikeV x2 x2) else some false else some false else some false) = some true
  simp only [beq_self_eq_true, cond_true, alikeV_self]
end Go.Proofs.Ytjcbgjakomalaaa.stackLeaves
