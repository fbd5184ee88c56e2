/- BusOutside: the reckoning of the law, and that it is true. -/
import Derived.Test.YtjcbgjakomalaaaCBo
namespace Go.Proofs.Ytjcbgjakomalaaa.busOutside
open Go Go.Ev
set_option linter.unusedVariables false
set_option linter.unusedSimpArgs false
set_option maxRecDepth 100000
theorem form (a0_0 : Int) (a0_1 : Int) (a0_2 : Bool) (a0_3 : Bool) (a0_4 : Bool) (a1 : Int) (a2 : Int) (a3 : Int) (a4 : Int) (a5 : Int)
    (x1 : Int) (ex1 : x1 = (IntKind.wrap IntKind.u32 (a0_0 - 1)))
    (x2 : Bool) (ex2 : x2 = (in32 x1))
    (x3 : Bool) (ex3 : x3 = (withinV a0_0 a0_1 x1))
    (x4 : Int) (ex4 : x4 = (IntKind.wrap IntKind.u32 (a0_0 + a0_1)))
    (x5 : Bool) (ex5 : x5 = (in32 x4))
    (x6 : Bool) (ex6 : x6 = (withinV a0_0 a0_1 x4))
    (x7 : Int) (ex7 : x7 = (IntKind.wrap IntKind.u32 (x4 + 1)))
    (x8 : Bool) (ex8 : x8 = (in32 x7))
    (x9 : Bool) (ex9 : x9 = (withinV a0_0 a0_1 x7))
    (x10 : Bool) (ex10 : x10 = (in32 (IntKind.wrap IntKind.u32 (a0_1 - 1))))
    (x11 : Bool) (ex11 : x11 = (in32 (IntKind.wrap IntKind.u32 (a0_1 - 7))))
    (x12 : Bool) (ex12 : x12 = (true && (true && (true && (true && (true && (true && (true && true))))))))
    (x13 : Option Bool) (ex13 : x13 = (bif in32 a0_0 && (in32 a0_1 && x8) then bif x9 then some true else bif x8 && (in32 a0_0 && (in32 a0_1 && (in32 a1 && (x10 && (in32 a0_1 && (x11 && (true && (!x9 && x12)))))))) then some true else none else none))
    (x14 : Option Bool) (ex14 : x14 = (bif in32 a0_0 && (in32 a0_1 && x5) then bif x6 then x13 else bif x5 && (in32 a0_0 && (in32 a0_1 && (in32 a1 && (x10 && (in32 a0_1 && (x11 && (true && (!x6 && x12)))))))) then x13 else none else none))
    (x15 : Option Bool) (ex15 : x15 = (bif in32 a0_0 && (in32 a0_1 && x2) then bif x3 then x14 else bif x2 && (in32 a0_0 && (in32 a0_1 && (in32 a1 && (x10 && (in32 a0_1 && (x11 && (true && (!x3 && x12)))))))) then x14 else none else none)) :
    evF Try.prog ΓBo 400 3 [.agg [.v (.int .u32 a0_0), .v (.int .u32 a0_1), .v (.bool a0_2), .v (.bool a0_3), .v (.bool a0_4)], .v (.int .u32 a1), .v (.int .i64 a2), .v (.int .u64 a3), .v (.int .u32 a4), .v (.int .u8 a5)] [] isT (fun _ _ => none) =
    (bif in32 a0_0 && (in32 a0_1 && in32 a4) then bif withinV a0_0 a0_1 a4 then x15 else bif in32 a4 && (in32 a0_0 && (in32 a0_1 && (in32 a1 && (x10 && (in32 a0_1 && (x11 && (true && (!withinV a0_0 a0_1 a4 && x12)))))))) then x15 else none else none) := by
  subst ex1
  subst ex2
  subst ex3
  subst ex4
  subst ex5
  subst ex6
  subst ex7
  subst ex8
  subst ex9
  subst ex10
  subst ex11
  subst ex12
  subst ex13
  subst ex14
  subst ex15
  kernel_rfl
set_option maxHeartbeats 1000000 in
theorem pure (a0_0 : Int) (a0_1 : Int) (a0_2 : Bool) (a0_3 : Bool) (a0_4 : Bool) (a1 : Int) (a2 : Int) (a3 : Int) (a4 : Int) (a5 : Int) (w0_0 : (Lit.int .u32 a0_0).wf = true) (w0_1 : (Lit.int .u32 a0_1).wf = true) (w1 : (Lit.int .u32 a1).wf = true) (w2 : (Lit.int .i64 a2).wf = true) (w3 : (Lit.int .u64 a3).wf = true) (w4 : (Lit.int .u32 a4).wf = true) (w5 : (Lit.int .u8 a5).wf = true) :
    evF Try.prog ΓBo 400 3 [.agg [.v (.int .u32 a0_0), .v (.int .u32 a0_1), .v (.bool a0_2), .v (.bool a0_3), .v (.bool a0_4)], .v (.int .u32 a1), .v (.int .i64 a2), .v (.int .u64 a3), .v (.int .u32 a4), .v (.int .u8 a5)] [] isT (fun _ _ => none) = some true := by
  obtain ⟨x1, ex1⟩ : ∃ x : Int, x = (IntKind.wrap IntKind.u32 (a0_0 - 1)) := ⟨_, rfl⟩
  obtain ⟨x2, ex2⟩ : ∃ x : Bool, x = (in32 x1) := ⟨_, rfl⟩
  obtain ⟨x3, ex3⟩ : ∃ x : Bool, x = (withinV a0_0 a0_1 x1) := ⟨_, rfl⟩
  obtain ⟨x4, ex4⟩ : ∃ x : Int, x = (IntKind.wrap IntKind.u32 (a0_0 + a0_1)) := ⟨_, rfl⟩
  obtain ⟨x5, ex5⟩ : ∃ x : Bool, x = (in32 x4) := ⟨_, rfl⟩
  obtain ⟨x6, ex6⟩ : ∃ x : Bool, x = (withinV a0_0 a0_1 x4) := ⟨_, rfl⟩
  obtain ⟨x7, ex7⟩ : ∃ x : Int, x = (IntKind.wrap IntKind.u32 (x4 + 1)) := ⟨_, rfl⟩
  obtain ⟨x8, ex8⟩ : ∃ x : Bool, x = (in32 x7) := ⟨_, rfl⟩
  obtain ⟨x9, ex9⟩ : ∃ x : Bool, x = (withinV a0_0 a0_1 x7) := ⟨_, rfl⟩
  obtain ⟨x10, ex10⟩ : ∃ x : Bool, x = (in32 (IntKind.wrap IntKind.u32 (a0_1 - 1))) := ⟨_, rfl⟩
  obtain ⟨x11, ex11⟩ : ∃ x : Bool, x = (in32 (IntKind.wrap IntKind.u32 (a0_1 - 7))) := ⟨_, rfl⟩
  obtain ⟨x12, ex12⟩ : ∃ x : Bool, x = (true && (true && (true && (true && (true && (true && (true && true))))))) := ⟨_, rfl⟩
  obtain ⟨x13, ex13⟩ : ∃ x : Option Bool, x = (bif in32 a0_0 && (in32 a0_1 && x8) then bif x9 then some true else bif x8 && (in32 a0_0 && (in32 a0_1 && (in32 a1 && (x10 && (in32 a0_1 && (x11 && (true && (!x9 && x12)))))))) then some true else none else none) := ⟨_, rfl⟩
  obtain ⟨x14, ex14⟩ : ∃ x : Option Bool, x = (bif in32 a0_0 && (in32 a0_1 && x5) then bif x6 then x13 else bif x5 && (in32 a0_0 && (in32 a0_1 && (in32 a1 && (x10 && (in32 a0_1 && (x11 && (true && (!x6 && x12)))))))) then x13 else none else none) := ⟨_, rfl⟩
  obtain ⟨x15, ex15⟩ : ∃ x : Option Bool, x = (bif in32 a0_0 && (in32 a0_1 && x2) then bif x3 then x14 else bif x2 && (in32 a0_0 && (in32 a0_1 && (in32 a1 && (x10 && (in32 a0_1 && (x11 && (true && (!x3 && x12)))))))) then x14 else none else none) := ⟨_, rfl⟩
  rw [form a0_0 a0_1 a0_2 a0_3 a0_4 a1 a2 a3 a4 a5 x1 ex1 x2 ex2 x3 ex3 x4 ex4 x5 ex5 x6 ex6 x7 ex7 x8 ex8 x9 ex9 x10 ex10 x11 ex11 x12 ex12 x13 ex13 x14 ex14 x15 ex15]
  have i0 : in32 a0_0 = true := in32_iff.2 (wf_u32 w0_0)
  have i1 : in32 a0_1 = true := in32_iff.2 (wf_u32 w0_1)
  have ia : in32 a1 = true := in32_iff.2 (wf_u32 w1)
  have ip : in32 a4 = true := in32_iff.2 (wf_u32 w4)
  have t12 : x12 = true := by rw [ex12]; rfl
  have t10 : x10 = true := by rw [ex10]; exact in32_wr _
  have t11 : x11 = true := by rw [ex11]; exact in32_wr _
  have t2 : x2 = true := by rw [ex2, ex1]; exact in32_wr _
  have t5 : x5 = true := by rw [ex5, ex4]; exact in32_wr _
  have t8 : x8 = true := by rw [ex8, ex7]; exact in32_wr _
  have q13 : x13 = some true := by
    rw [ex13, i0, i1, ia, t8, t10, t11, t12]
    cases x9 <;> rfl
  have q14 : x14 = some true := by
    rw [ex14, i0, i1, ia, t5, t10, t11, t12, q13]
    cases x6 <;> rfl
  have q15 : x15 = some true := by
    rw [ex15, i0, i1, ia, t2, t10, t11, t12, q14]
    cases x3 <;> rfl
  rw [i0, i1, ia, ip, t10, t11, t12, q15]
  cases withinV a0_0 a0_1 a4 <;> rfl
end Go.Proofs.Ytjcbgjakomalaaa.busOutside
