/- The bytes of a row that is moved, one by one. -/
import Derived.Test.YtjcbgjakomalaaaEvV
import Derived.Test.YtjcbgjakomalaaaCSn
import Derived.Test.YtjcbgjakomalaaaNLoop
namespace Go.Proofs.Ytjcbgjakomalaaa
open Go Go.Ev
set_option linter.unusedVariables false
set_option linter.unusedSimpArgs false
set_option maxRecDepth 100000
theorem rw1_form (n : Int) (bk : Bool) (x11 x13 x15 : Sv) (A C j : Int) (F : Int → Int) (o0 o1 o2 o3 o4 o5 o6 o7 o8 o9 o10 o11 o12 o13 o14 o15 : SObj) (g : List Sv) :
    ev Try.prog ΓSn 60 (fun _ => none) (roundOf Try.prog 10 0) (fr 137 [0, 3, 11, 13, 15, 16, 17, 18, 19] [.v (.int .u8 n), .v (.bool bk), x11, x13, x15, .sl 16 0 256 256, .v (.int .i64 A), .v (.int .i64 C), .v (.int .i64 j)] g) [o0, o1, o2, o3, o4, o5, o6, o7, o8, o9, o10, o11, o12, o13, o14, o15, .arr .u8 5 256 F, .dead] (liveD [0, 3, 11, 13, 15, 16, 17, 18, 19] 18) =
    (bif decide (j < IntKind.wrap IntKind.i64 (Int.tmod n 40)) then
bif true && (decide (0 ≤ A) && decide (A < 256)) then
bif decide (A < 256) then
bif true && (decide (0 ≤ C) && decide (C < 256)) then
bif true && (true && decide (C < 256)) then
bif bk then
some
(0, 137,
[vy n, vb bk, x11, x13, x15, Sv.sl 16 0 256 256,
vi ((IntKind.wrap IntKind.i64 (A - 1))),
vi ((IntKind.wrap IntKind.i64 (C - 1))),
vi ((IntKind.wrap IntKind.i64 (j + 1)))],
[o0, o1, o2, o3, o4, o5, o6, o7, o8, o9, o10, o11, o12, o13, o14, o15, SObj.arr IntKind.u8 5 256 (updM F C (F A)),
SObj.dead])
else
some
(0, 137,
[vy n, vb bk, x11, x13, x15, Sv.sl 16 0 256 256,
vi ((IntKind.wrap IntKind.i64 (A + 1))),
vi ((IntKind.wrap IntKind.i64 (C + 1))),
vi ((IntKind.wrap IntKind.i64 (j + 1)))],
[o0, o1, o2, o3, o4, o5, o6, o7, o8, o9, o10, o11, o12, o13, o14, o15, SObj.arr IntKind.u8 5 256 (updM F C (F A)),
SObj.dead])
else none
else none
else none
else none
else
some
(2, 137,
[vy n, vb bk, x11, x13, x15, Sv.sl 16 0 256 256, vi A,
vi C, vi j],
[o0, o1, o2, o3, o4, o5, o6, o7, o8, o9, o10, o11, o12, o13, o14, o15, SObj.arr IntKind.u8 5 256 F, SObj.dead])) := by kernel_rfl
structure R1S where
  n : Int
  bk : Bool
  x11 : Sv
  x13 : Sv
  x15 : Sv
  A : Int
  C : Int
  F : Int → Int
  o0 : SObj
  o1 : SObj
  o2 : SObj
  o3 : SObj
  o4 : SObj
  o5 : SObj
  o6 : SObj
  o7 : SObj
  o8 : SObj
  o9 : SObj
  o10 : SObj
  o11 : SObj
  o12 : SObj
  o13 : SObj
  o14 : SObj
  o15 : SObj
abbrev r1n (s : R1S) : Nat := modN s.n 40
def r1V (s : R1S) (i : Nat) : List Sv := [.v (.int .u8 s.n), .v (.bool s.bk), s.x11, s.x13, s.x15, .sl 16 0 256 256, .v (.int .i64 (aI s.bk s.A i)), .v (.int .i64 (aI s.bk s.C i)), .v (.int .i64 (i : Int))]
def r1M (s : R1S) (i : Nat) : List SObj := [s.o0, s.o1, s.o2, s.o3, s.o4, s.o5, s.o6, s.o7, s.o8, s.o9, s.o10, s.o11, s.o12, s.o13, s.o14, s.o15, .arr .u8 5 256 (rowsF s.F (aI s.bk s.A) (aI s.bk s.C) i), .dead]
def r1Inv (s : R1S) : Prop := (0 ≤ s.n ∧ s.n < 256) ∧ (50 ≤ s.A ∧ s.A < 150) ∧ (50 ≤ s.C ∧ s.C < 150) ∧ clM 18 [s.o0, s.o1, s.o2, s.o3, s.o4, s.o5, s.o6, s.o7, s.o8, s.o9, s.o10, s.o11, s.o12, s.o13, s.o14, s.o15] = true ∧ clL 18 [s.x11, s.x13, s.x15] = true
def r1L : Rounds (CntS R1S) (CntS R1S) := cntL 137 [0, 3, 11, 13, 15, 16, 17, 18, 19] r1n r1V r1M r1Inv
theorem r1n_lt (s : R1S) (h : 0 ≤ s.n) : IntKind.wrap .i64 (Int.tmod s.n 40) = (r1n s : Int) ∧ r1n s < 40 := by
  unfold r1n modN
  rw [Int.tmod_eq_emod_of_nonneg h, wr_i64_id (by omega) (by omega)]
  omega
theorem r1L_ok : r1L.OkD Try.prog ΓSn 60 (roundOf Try.prog 10 0) 18 := cntL_okD
  (fun s g i hs hi => by
    obtain ⟨hn, hA, hC, hm, hl⟩ := hs
    obtain ⟨e1, e2⟩ := r1n_lt s hn.1
    have hi' : i < 40 := by omega
    obtain ⟨a0, a1⟩ := aI_in (bk := s.bk) (i := i) hA.1 hA.2 (by omega)
    obtain ⟨c0, c1⟩ := aI_in (bk := s.bk) (i := i) hC.1 hC.2 (by omega)
    refine (rw1_form s.n s.bk s.x11 s.x13 s.x15 (aI s.bk s.A i) (aI s.bk s.C i) (i : Int) (rowsF s.F (aI s.bk s.A) (aI s.bk s.C) i) s.o0 s.o1 s.o2 s.o3 s.o4 s.o5 s.o6 s.o7 s.o8 s.o9 s.o10 s.o11 s.o12 s.o13 s.o14 s.o15 g).trans ?_
    rw [e1]
    have d1 : decide ((i : Int) < (r1n s : Int)) = true := decide_eq_true (by omega)
    have d2 : decide (0 ≤ aI s.bk s.A i) = true := decide_eq_true (by omega)
    have d3 : decide (aI s.bk s.A i < 256) = true := decide_eq_true (by omega)
    have d4 : decide (0 ≤ aI s.bk s.C i) = true := decide_eq_true (by omega)
    have d5 : decide (aI s.bk s.C i < 256) = true := decide_eq_true (by omega)
    have w1 : IntKind.wrap .i64 ((i : Int) + 1) = ((i + 1 : Nat) : Int) := by rw [wr_i64_id (by omega) (by omega)]; omega
    have w2 : IntKind.wrap .i64 (aI s.bk s.A i + 1) = aI s.bk s.A i + 1 := wr_i64_id (by omega) (by omega)
    have w3 : IntKind.wrap .i64 (aI s.bk s.A i - 1) = aI s.bk s.A i - 1 := wr_i64_id (by omega) (by omega)
    have w4 : IntKind.wrap .i64 (aI s.bk s.C i + 1) = aI s.bk s.C i + 1 := wr_i64_id (by omega) (by omega)
    have w5 : IntKind.wrap .i64 (aI s.bk s.C i - 1) = aI s.bk s.C i - 1 := wr_i64_id (by omega) (by omega)
    have z1 : ∀ x : Int, x + ((0 : Nat) : Int) = x := fun x => by omega
    have z2 : ∀ x : Int, ((0 : Nat) : Int) + x = x := fun x => by omega
    simp only [d1, d2, d3, d4, d5, w1, w2, w3, w4, w5, z1, z2, Bool.and_self, Bool.and_true, cond_true]
    unfold r1V r1M
    cases hb : s.bk
    · have q1 : ∀ x : Int, aI false x (i + 1) = aI false x i + 1 := fun x => by simp only [aI, cond_false]; omega
      simp only [q1, cond_false]; rfl
    · have q1 : ∀ x : Int, aI true x (i + 1) = aI true x i - 1 := fun x => by simp only [aI, cond_true]; omega
      simp only [q1, cond_true]; rfl)
  (fun s g hs => by
    obtain ⟨hn, hA, hC, hm, hl⟩ := hs
    obtain ⟨e1, e2⟩ := r1n_lt s hn.1
    refine (rw1_form s.n s.bk s.x11 s.x13 s.x15 (aI s.bk s.A (r1n s)) (aI s.bk s.C (r1n s)) (r1n s : Int) (rowsF s.F (aI s.bk s.A) (aI s.bk s.C) (r1n s)) s.o0 s.o1 s.o2 s.o3 s.o4 s.o5 s.o6 s.o7 s.o8 s.o9 s.o10 s.o11 s.o12 s.o13 s.o14 s.o15 g).trans ?_
    rw [e1]
    have d1 : decide ((r1n s : Int) < (r1n s : Int)) = false := decide_eq_false (by omega)
    rw [d1]; rfl)
  (fun s i hs _ => by
    obtain ⟨hn, hA, hC, hm, hl⟩ := hs
    refine ⟨rfl, ?_, ?_⟩
    · simp only [clM_cons, clM_nil, Bool.and_eq_true] at hm
      simp only [r1M, clM_cons, clM_nil, hm, clO_arr, clO_dead, Bool.and_self]
    · simp only [clL_cons, clL_nil, Bool.and_eq_true] at hl
      simp only [r1V, clL_cons, clL_nil, clS_v, clS_sl, hl, show Nat.blt 16 18 = true from rfl, Bool.and_self])
def r1Dec : (R : Type) → List Sv → List SObj → (R1S → Option R) → Option R := fun R l m k => match l with
  | [.v (.int .u8 n), .v (.bool bk), x11, x13, x15, .sl q q0 q1 q2, .v (.int .i64 A), .v (.int .i64 C), .v (.int .i64 z)] => (match m with
    | [o0, o1, o2, o3, o4, o5, o6, o7, o8, o9, o10, o11, o12, o13, o14, o15, .arr .u8 e en F, .dead] => bif decide (0 ≤ n) && (decide (n < 256) && (decide (50 ≤ A) && (decide (A < 150) && (decide (50 ≤ C) && (decide (C < 150) && (clM 18 [o0, o1, o2, o3, o4, o5, o6, o7, o8, o9, o10, o11, o12, o13, o14, o15] && (clL 18 [x11, x13, x15] && ((z == 0) && (Nat.beq q 16 && (Nat.beq q0 0 && (Nat.beq q1 256 && (Nat.beq q2 256 && (Nat.beq e 5 && (Nat.beq en 256)))))))))))))) then k ⟨n, bk, x11, x13, x15, A, C, F, o0, o1, o2, o3, o4, o5, o6, o7, o8, o9, o10, o11, o12, o13, o14, o15⟩ else none
    | _ => none)
  | _ => none
theorem r1Dec_ok : ∀ (R : Type) l m (k : R1S → Option R) r, r1Dec R l m k = some r → ∃ s, k s = some r ∧ l = r1V s 0 ∧ m = r1M s 0 ∧ r1Inv s := by
  intro R l m k r h
  unfold r1Dec at h
  split at h
  · split at h
    · obtain ⟨hg, h2⟩ := cond_some h
      simp only [Bool.and_eq_true, beq_iff_eq, decide_eq_true_eq, natB] at hg
      obtain ⟨n0, n1, A0, A1, C0, C1, hm, hl, rfl, rfl, rfl, rfl, rfl, rfl, rfl⟩ := hg
      refine ⟨_, h2, ?_, rfl, ⟨n0, n1⟩, ⟨A0, A1⟩, ⟨C0, C1⟩, hm, hl⟩
      simp only [r1V, aI_zero]; rfl
    · cases h
  · cases h
noncomputable def ΓRo1 : Env := ΓSn.hook 10 0 (cntHook Try.prog X0 r1L r1n 0 (roundOf Try.prog 10 0) r1Dec)
theorem ΓRo1_ok : EnvOk Try.prog X0 ΓRo1 := ΓSn_ok.hook (a := .loop (roundOf Try.prog 10 0)) (by kernel_rfl) (cntHookD_ok ΓSn_ok r1L_ok r1Dec_ok)
end Go.Proofs.Ytjcbgjakomalaaa
