/- The bytes of a row that is filled. -/
import Derived.Test.YtjcbgjakomalaaaEvV
import Derived.Test.YtjcbgjakomalaaaCSn
import Derived.Test.YtjcbgjakomalaaaNLoop
namespace Go.Proofs.Ytjcbgjakomalaaa
open Go Go.Ev
set_option linter.unusedVariables false
set_option linter.unusedSimpArgs false
set_option maxRecDepth 100000
theorem fa_form (at_ v K j : Int) (x9 x13 x15 : Sv) (F : Int → Int) (o0 o1 o2 o3 o4 o5 o6 o7 o8 o9 o10 o11 o12 o13 o14 o15 : SObj) (g : List Sv) :
    ev Try.prog ΓSn 60 (fun _ => none) (roundOf Try.prog 11 0) (fr 120 [1, 2, 9, 12, 13, 15, 16, 17, 18] [.v (.int .u8 at_), .v (.int .u32 v), x9, .v (.int .i64 1), x13, x15, .v (.int .i64 K), .sl 16 0 256 256, .v (.int .i64 j)] g) [o0, o1, o2, o3, o4, o5, o6, o7, o8, o9, o10, o11, o12, o13, o14, o15, .arr .u8 5 256 F, .dead] (liveD [1, 2, 9, 12, 13, 15, 16, 17, 18] 18) =
    (bif decide (j < IntKind.wrap IntKind.i64 (K * 1)) then
bif decide (0 ≤ IntKind.wrap IntKind.i64 (8 * Int.tmod j 1)) then
bif
true &&
(decide (0 ≤ IntKind.wrap IntKind.i64 (IntKind.wrap IntKind.i64 (Int.tmod at_ 100) + j)) &&
decide (IntKind.wrap IntKind.i64 (IntKind.wrap IntKind.i64 (Int.tmod at_ 100) + j) < 256)) then
bif true && (true && decide (IntKind.wrap IntKind.i64 (IntKind.wrap IntKind.i64 (Int.tmod at_ 100) + j) < 256)) then
some
(0, 120,
[vy at_, vw v, x9, vi 1, x13, x15,
vi K, Sv.sl 16 0 256 256, vi ((IntKind.wrap IntKind.i64 (j + 1)))],
[o0, o1, o2, o3, o4, o5, o6, o7, o8, o9, o10, o11, o12, o13, o14, o15,
SObj.arr IntKind.u8 5 256
(updM F (IntKind.wrap IntKind.i64 (IntKind.wrap IntKind.i64 (Int.tmod at_ 100) + j))
(IntKind.wrap IntKind.u8 (Int.fdiv v (2 ^ min (Int.toNat (IntKind.wrap IntKind.i64 (8 * Int.tmod j 1))) 32)))),
SObj.dead])
else none
else none
else none
else
some
(2, 120,
[vy at_, vw v, x9, vi 1, x13, x15,
vi K, Sv.sl 16 0 256 256, vi j],
[o0, o1, o2, o3, o4, o5, o6, o7, o8, o9, o10, o11, o12, o13, o14, o15, SObj.arr IntKind.u8 5 256 F, SObj.dead])) := by kernel_rfl
structure faS where
  at_ : Int
  v : Int
  K : Int
  x9 : Sv
  x13 : Sv
  x15 : Sv
  F : Int → Int
  o0 : SObj
  o1 : SObj
  o2 : SObj
  o3 : SObj
  o4 : SObj
  o5 : SObj
  o6 : SObj
  o7 : SObj
  o8 : SObj
  o9 : SObj
  o10 : SObj
  o11 : SObj
  o12 : SObj
  o13 : SObj
  o14 : SObj
  o15 : SObj
abbrev fan (s : faS) : Nat := toN (s.K * 1)
def faV (s : faS) (i : Nat) : List Sv := [.v (.int .u8 s.at_), .v (.int .u32 s.v), s.x9, .v (.int .i64 1), s.x13, s.x15, .v (.int .i64 s.K), .sl 16 0 256 256, .v (.int .i64 (i : Int))]
def faM (s : faS) (i : Nat) : List SObj := [s.o0, s.o1, s.o2, s.o3, s.o4, s.o5, s.o6, s.o7, s.o8, s.o9, s.o10, s.o11, s.o12, s.o13, s.o14, s.o15, .arr .u8 5 256 (fillF s.F (Int.tmod s.at_ 100) 1 s.v i), .dead]
def faInv (s : faS) : Prop := (0 ≤ s.at_ ∧ s.at_ < 256) ∧ (0 ≤ s.K ∧ s.K < 30) ∧ clM 18 [s.o0, s.o1, s.o2, s.o3, s.o4, s.o5, s.o6, s.o7, s.o8, s.o9, s.o10, s.o11, s.o12, s.o13, s.o14, s.o15] = true ∧ clL 18 [s.x9, s.x13, s.x15] = true
def faL : Rounds (CntS faS) (CntS faS) := cntL 120 [1, 2, 9, 12, 13, 15, 16, 17, 18] fan faV faM faInv
theorem faL_ok : faL.OkD Try.prog ΓSn 60 (roundOf Try.prog 11 0) 18 := cntL_okD
  (fun s g i hs hi => by
    obtain ⟨ha, hK, hm, hl⟩ := hs
    have hi' : (i : Int) < s.K * 1 := by unfold fan toN at hi; omega
    have e1 : IntKind.wrap .i64 (s.K * 1) = s.K * 1 := wr_i64_id (by omega) (by omega)
    have e2 : Int.tmod s.at_ 100 = s.at_ % 100 := Int.tmod_eq_emod_of_nonneg ha.1
    have e3 : IntKind.wrap .i64 (Int.tmod s.at_ 100) = Int.tmod s.at_ 100 := by rw [e2]; exact wr_i64_id (by omega) (by omega)
    have e4 : IntKind.wrap .i64 (Int.tmod s.at_ 100 + (i : Int)) = Int.tmod s.at_ 100 + (i : Int) := by rw [e2]; exact wr_i64_id (by omega) (by omega)
    have e5 : Int.tmod (i : Int) 1 = ((i % 1 : Nat) : Int) := by rw [Int.tmod_eq_emod_of_nonneg (by omega)]; rfl
    have e6 : IntKind.wrap .i64 (8 * ((i % 1 : Nat) : Int)) = 8 * ((i % 1 : Nat) : Int) := wr_i64_id (by omega) (by omega)
    have e7 : min (8 * ((i % 1 : Nat) : Int)).toNat 32 = 8 * (i % 1) := by omega
    have d1 : decide ((i : Int) < s.K * 1) = true := decide_eq_true hi'
    have d2 : decide (0 ≤ 8 * ((i % 1 : Nat) : Int)) = true := decide_eq_true (by omega)
    have d3 : decide (0 ≤ Int.tmod s.at_ 100 + (i : Int)) = true := decide_eq_true (by rw [e2]; omega)
    have d4 : decide (Int.tmod s.at_ 100 + (i : Int) < 256) = true := decide_eq_true (by rw [e2]; omega)
    have w1 : IntKind.wrap .i64 ((i : Int) + 1) = ((i + 1 : Nat) : Int) := by rw [wr_i64_id (by omega) (by omega)]; omega
    refine (fa_form s.at_ s.v s.K (i : Int) s.x9 s.x13 s.x15 (fillF s.F (Int.tmod s.at_ 100) 1 s.v i) s.o0 s.o1 s.o2 s.o3 s.o4 s.o5 s.o6 s.o7 s.o8 s.o9 s.o10 s.o11 s.o12 s.o13 s.o14 s.o15 g).trans ?_
    simp only [e1, e3, e4, e5, e6, e7, d1, d2, d3, d4, w1, Bool.and_self, Bool.and_true, cond_true]
    rfl)
  (fun s g hs => by
    obtain ⟨ha, hK, hm, hl⟩ := hs
    have e1 : IntKind.wrap .i64 (s.K * 1) = s.K * 1 := wr_i64_id (by omega) (by omega)
    have d1 : decide (((fan s : Nat) : Int) < s.K * 1) = false := decide_eq_false (by unfold fan toN; omega)
    refine (fa_form s.at_ s.v s.K ((fan s : Nat) : Int) s.x9 s.x13 s.x15 (fillF s.F (Int.tmod s.at_ 100) 1 s.v (fan s)) s.o0 s.o1 s.o2 s.o3 s.o4 s.o5 s.o6 s.o7 s.o8 s.o9 s.o10 s.o11 s.o12 s.o13 s.o14 s.o15 g).trans ?_
    rw [e1, d1]; rfl)
  (fun s i hs _ => by
    obtain ⟨ha, hK, hm, hl⟩ := hs
    refine ⟨rfl, ?_, ?_⟩
    · simp only [clM_cons, clM_nil, Bool.and_eq_true] at hm
      simp only [faM, clM_cons, clM_nil, hm, clO_arr, clO_dead, Bool.and_self]
    · simp only [clL_cons, clL_nil, Bool.and_eq_true] at hl
      simp only [faV, clL_cons, clL_nil, clS_v, clS_sl, hl, show Nat.blt 16 18 = true from rfl, Bool.and_self])
def faDec : (R : Type) → List Sv → List SObj → (faS → Option R) → Option R := fun R l m k => match l with
  | [.v (.int .u8 at_), .v (.int .u32 v), x9, .v (.int .i64 sz), x13, x15, .v (.int .i64 K), .sl q q0 q1 q2, .v (.int .i64 z)] => (match m with
    | [o0, o1, o2, o3, o4, o5, o6, o7, o8, o9, o10, o11, o12, o13, o14, o15, .arr .u8 e en F, .dead] => bif decide (0 ≤ at_) && (decide (at_ < 256) && (decide (0 ≤ K) && (decide (K < 30) && (clM 18 [o0, o1, o2, o3, o4, o5, o6, o7, o8, o9, o10, o11, o12, o13, o14, o15] && (clL 18 [x9, x13, x15] && ((sz == 1) && ((z == 0) && (Nat.beq q 16 && (Nat.beq q0 0 && (Nat.beq q1 256 && (Nat.beq q2 256 && (Nat.beq e 5 && (Nat.beq en 256))))))))))))) then k ⟨at_, v, K, x9, x13, x15, F, o0, o1, o2, o3, o4, o5, o6, o7, o8, o9, o10, o11, o12, o13, o14, o15⟩ else none
    | _ => none)
  | _ => none
theorem faDec_ok : ∀ (R : Type) l m (k : faS → Option R) r, faDec R l m k = some r → ∃ s, k s = some r ∧ l = faV s 0 ∧ m = faM s 0 ∧ faInv s := by
  intro R l m k r h
  unfold faDec at h
  split at h
  · split at h
    · obtain ⟨hg, h2⟩ := cond_some h
      clear h
      simp only [Bool.and_eq_true, beq_iff_eq, decide_eq_true_eq, natB] at hg
      obtain ⟨n0, n1, A0, A1, hm, hl, rfl, rfl, rfl, rfl, rfl, rfl, rfl, rfl⟩ := hg
      exact ⟨_, h2, rfl, rfl, ⟨n0, n1⟩, ⟨A0, A1⟩, hm, hl⟩
    · cases h
  · cases h
noncomputable def faH : Hook := cntHook Try.prog X0 faL fan 0 (roundOf Try.prog 11 0) faDec
theorem faH_ok : HookOk Try.prog X0 (.block 0 (.loop (roundOf Try.prog 11 0))) faH := cntHookD_ok ΓSn_ok faL_ok faDec_ok
theorem fw_form (at_ v K j : Int) (x9 x13 x15 : Sv) (F : Int → Int) (o0 o1 o2 o3 o4 o5 o6 o7 o8 o9 o10 o11 o12 o13 o14 o15 : SObj) (g : List Sv) :
    ev Try.prog ΓSn 60 (fun _ => none) (roundOf Try.prog 11 0) (fr 120 [1, 2, 9, 12, 13, 15, 16, 17, 18] [.v (.int .u8 at_), .v (.int .u32 v), x9, .v (.int .i64 4), x13, x15, .v (.int .i64 K), .sl 16 0 256 256, .v (.int .i64 j)] g) [o0, o1, o2, o3, o4, o5, o6, o7, o8, o9, o10, o11, o12, o13, o14, o15, .arr .u8 5 256 F, .dead] (liveD [1, 2, 9, 12, 13, 15, 16, 17, 18] 18) =
    (bif decide (j < IntKind.wrap IntKind.i64 (K * 4)) then
bif decide (0 ≤ IntKind.wrap IntKind.i64 (8 * Int.tmod j 4)) then
bif
true &&
(decide (0 ≤ IntKind.wrap IntKind.i64 (IntKind.wrap IntKind.i64 (Int.tmod at_ 100) + j)) &&
decide (IntKind.wrap IntKind.i64 (IntKind.wrap IntKind.i64 (Int.tmod at_ 100) + j) < 256)) then
bif true && (true && decide (IntKind.wrap IntKind.i64 (IntKind.wrap IntKind.i64 (Int.tmod at_ 100) + j) < 256)) then
some
(0, 120,
[vy at_, vw v, x9, vi 4, x13, x15,
vi K, Sv.sl 16 0 256 256, vi ((IntKind.wrap IntKind.i64 (j + 1)))],
[o0, o1, o2, o3, o4, o5, o6, o7, o8, o9, o10, o11, o12, o13, o14, o15,
SObj.arr IntKind.u8 5 256
(updM F (IntKind.wrap IntKind.i64 (IntKind.wrap IntKind.i64 (Int.tmod at_ 100) + j))
(IntKind.wrap IntKind.u8 (Int.fdiv v (2 ^ min (Int.toNat (IntKind.wrap IntKind.i64 (8 * Int.tmod j 4))) 32)))),
SObj.dead])
else none
else none
else none
else
some
(2, 120,
[vy at_, vw v, x9, vi 4, x13, x15,
vi K, Sv.sl 16 0 256 256, vi j],
[o0, o1, o2, o3, o4, o5, o6, o7, o8, o9, o10, o11, o12, o13, o14, o15, SObj.arr IntKind.u8 5 256 F, SObj.dead])) := by kernel_rfl
structure fwS where
  at_ : Int
  v : Int
  K : Int
  x9 : Sv
  x13 : Sv
  x15 : Sv
  F : Int → Int
  o0 : SObj
  o1 : SObj
  o2 : SObj
  o3 : SObj
  o4 : SObj
  o5 : SObj
  o6 : SObj
  o7 : SObj
  o8 : SObj
  o9 : SObj
  o10 : SObj
  o11 : SObj
  o12 : SObj
  o13 : SObj
  o14 : SObj
  o15 : SObj
abbrev fwn (s : fwS) : Nat := toN (s.K * 4)
def fwV (s : fwS) (i : Nat) : List Sv := [.v (.int .u8 s.at_), .v (.int .u32 s.v), s.x9, .v (.int .i64 4), s.x13, s.x15, .v (.int .i64 s.K), .sl 16 0 256 256, .v (.int .i64 (i : Int))]
def fwM (s : fwS) (i : Nat) : List SObj := [s.o0, s.o1, s.o2, s.o3, s.o4, s.o5, s.o6, s.o7, s.o8, s.o9, s.o10, s.o11, s.o12, s.o13, s.o14, s.o15, .arr .u8 5 256 (fillF s.F (Int.tmod s.at_ 100) 4 s.v i), .dead]
def fwInv (s : fwS) : Prop := (0 ≤ s.at_ ∧ s.at_ < 256) ∧ (0 ≤ s.K ∧ s.K < 30) ∧ clM 18 [s.o0, s.o1, s.o2, s.o3, s.o4, s.o5, s.o6, s.o7, s.o8, s.o9, s.o10, s.o11, s.o12, s.o13, s.o14, s.o15] = true ∧ clL 18 [s.x9, s.x13, s.x15] = true
def fwL : Rounds (CntS fwS) (CntS fwS) := cntL 120 [1, 2, 9, 12, 13, 15, 16, 17, 18] fwn fwV fwM fwInv
theorem fwL_ok : fwL.OkD Try.prog ΓSn 60 (roundOf Try.prog 11 0) 18 := cntL_okD
  (fun s g i hs hi => by
    obtain ⟨ha, hK, hm, hl⟩ := hs
    have hi' : (i : Int) < s.K * 4 := by unfold fwn toN at hi; omega
    have e1 : IntKind.wrap .i64 (s.K * 4) = s.K * 4 := wr_i64_id (by omega) (by omega)
    have e2 : Int.tmod s.at_ 100 = s.at_ % 100 := Int.tmod_eq_emod_of_nonneg ha.1
    have e3 : IntKind.wrap .i64 (Int.tmod s.at_ 100) = Int.tmod s.at_ 100 := by rw [e2]; exact wr_i64_id (by omega) (by omega)
    have e4 : IntKind.wrap .i64 (Int.tmod s.at_ 100 + (i : Int)) = Int.tmod s.at_ 100 + (i : Int) := by rw [e2]; exact wr_i64_id (by omega) (by omega)
    have e5 : Int.tmod (i : Int) 4 = ((i % 4 : Nat) : Int) := by rw [Int.tmod_eq_emod_of_nonneg (by omega)]; rfl
    have e6 : IntKind.wrap .i64 (8 * ((i % 4 : Nat) : Int)) = 8 * ((i % 4 : Nat) : Int) := wr_i64_id (by omega) (by omega)
    have e7 : min (8 * ((i % 4 : Nat) : Int)).toNat 32 = 8 * (i % 4) := by omega
    have d1 : decide ((i : Int) < s.K * 4) = true := decide_eq_true hi'
    have d2 : decide (0 ≤ 8 * ((i % 4 : Nat) : Int)) = true := decide_eq_true (by omega)
    have d3 : decide (0 ≤ Int.tmod s.at_ 100 + (i : Int)) = true := decide_eq_true (by rw [e2]; omega)
    have d4 : decide (Int.tmod s.at_ 100 + (i : Int) < 256) = true := decide_eq_true (by rw [e2]; omega)
    have w1 : IntKind.wrap .i64 ((i : Int) + 1) = ((i + 1 : Nat) : Int) := by rw [wr_i64_id (by omega) (by omega)]; omega
    refine (fw_form s.at_ s.v s.K (i : Int) s.x9 s.x13 s.x15 (fillF s.F (Int.tmod s.at_ 100) 4 s.v i) s.o0 s.o1 s.o2 s.o3 s.o4 s.o5 s.o6 s.o7 s.o8 s.o9 s.o10 s.o11 s.o12 s.o13 s.o14 s.o15 g).trans ?_
    simp only [e1, e3, e4, e5, e6, e7, d1, d2, d3, d4, w1, Bool.and_self, Bool.and_true, cond_true]
    rfl)
  (fun s g hs => by
    obtain ⟨ha, hK, hm, hl⟩ := hs
    have e1 : IntKind.wrap .i64 (s.K * 4) = s.K * 4 := wr_i64_id (by omega) (by omega)
    have d1 : decide (((fwn s : Nat) : Int) < s.K * 4) = false := decide_eq_false (by unfold fwn toN; omega)
    refine (fw_form s.at_ s.v s.K ((fwn s : Nat) : Int) s.x9 s.x13 s.x15 (fillF s.F (Int.tmod s.at_ 100) 4 s.v (fwn s)) s.o0 s.o1 s.o2 s.o3 s.o4 s.o5 s.o6 s.o7 s.o8 s.o9 s.o10 s.o11 s.o12 s.o13 s.o14 s.o15 g).trans ?_
    rw [e1, d1]; rfl)
  (fun s i hs _ => by
    obtain ⟨ha, hK, hm, hl⟩ := hs
    refine ⟨rfl, ?_, ?_⟩
    · simp only [clM_cons, clM_nil, Bool.and_eq_true] at hm
      simp only [fwM, clM_cons, clM_nil, hm, clO_arr, clO_dead, Bool.and_self]
    · simp only [clL_cons, clL_nil, Bool.and_eq_true] at hl
      simp only [fwV, clL_cons, clL_nil, clS_v, clS_sl, hl, show Nat.blt 16 18 = true from rfl, Bool.and_self])
def fwDec : (R : Type) → List Sv → List SObj → (fwS → Option R) → Option R := fun R l m k => match l with
  | [.v (.int .u8 at_), .v (.int .u32 v), x9, .v (.int .i64 sz), x13, x15, .v (.int .i64 K), .sl q q0 q1 q2, .v (.int .i64 z)] => (match m with
    | [o0, o1, o2, o3, o4, o5, o6, o7, o8, o9, o10, o11, o12, o13, o14, o15, .arr .u8 e en F, .dead] => bif decide (0 ≤ at_) && (decide (at_ < 256) && (decide (0 ≤ K) && (decide (K < 30) && (clM 18 [o0, o1, o2, o3, o4, o5, o6, o7, o8, o9, o10, o11, o12, o13, o14, o15] && (clL 18 [x9, x13, x15] && ((sz == 4) && ((z == 0) && (Nat.beq q 16 && (Nat.beq q0 0 && (Nat.beq q1 256 && (Nat.beq q2 256 && (Nat.beq e 5 && (Nat.beq en 256))))))))))))) then k ⟨at_, v, K, x9, x13, x15, F, o0, o1, o2, o3, o4, o5, o6, o7, o8, o9, o10, o11, o12, o13, o14, o15⟩ else none
    | _ => none)
  | _ => none
theorem fwDec_ok : ∀ (R : Type) l m (k : fwS → Option R) r, fwDec R l m k = some r → ∃ s, k s = some r ∧ l = fwV s 0 ∧ m = fwM s 0 ∧ fwInv s := by
  intro R l m k r h
  unfold fwDec at h
  split at h
  · split at h
    · obtain ⟨hg, h2⟩ := cond_some h
      clear h
      simp only [Bool.and_eq_true, beq_iff_eq, decide_eq_true_eq, natB] at hg
      obtain ⟨n0, n1, A0, A1, hm, hl, rfl, rfl, rfl, rfl, rfl, rfl, rfl, rfl⟩ := hg
      exact ⟨_, h2, rfl, rfl, ⟨n0, n1⟩, ⟨A0, A1⟩, hm, hl⟩
    · cases h
  · cases h
noncomputable def fwH : Hook := cntHook Try.prog X0 fwL fwn 0 (roundOf Try.prog 11 0) fwDec
theorem fwH_ok : HookOk Try.prog X0 (.block 0 (.loop (roundOf Try.prog 11 0))) fwH := cntHookD_ok ΓSn_ok fwL_ok fwDec_ok
end Go.Proofs.Ytjcbgjakomalaaa
