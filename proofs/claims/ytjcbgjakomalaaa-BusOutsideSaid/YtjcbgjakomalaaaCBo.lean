/- The places of BusOutside, one by one. -/
import Derived.Test.YtjcbgjakomalaaaEvV
import Derived.Test.YtjcbgjakomalaaaCWi8
import Derived.Test.YtjcbgjakomalaaaNLoop
namespace Go.Proofs.Ytjcbgjakomalaaa
open Go Go.Ev
set_option linter.unusedVariables false
set_option linter.unusedSimpArgs false
set_option maxRecDepth 100000
theorem st_outside {M : Int → Int} {b s off p size v : Int} {may : Bool} (hp : in32 p = true) (hb : in32 b = true) (hs : in32 s = true) (ho : in32 off = true) (hw : withinV b s p = false) : stV M b s off size v may p = M p := by
  rw [in32_iff] at hp hb hs ho
  unfold stV
  cases hc : segE b s off ((bytesN size : Nat) : Int) may == 0
  · rfl
  · rw [cond_true]
    refine stB_out _ _ _ _ _ fun k hk => ?_
    have hn : bytesN size ≤ 8 := by unfold bytesN; cases size == 1 <;> cases size == 2 <;> cases size == 8 <;> decide
    have hcl : clampN ((bytesN size : Nat) : Int) = ((bytesN size : Nat) : Int) := by unfold clampN; rw [if_neg (by split <;> omega)]; split <;> omega
    unfold segE at hc
    rw [hcl] at hc
    cases may
    · cases hc
    · simp only [Bool.not_true, cond_false] at hc
      cases hd : decide (off + ((bytesN size : Nat) : Int) > s) || decide (b + s > 4294967296)
      · rw [Bool.or_eq_false_iff, decide_eq_false_iff_not, decide_eq_false_iff_not] at hd
        unfold withinV at hw
        intro e
        rw [e] at hw
        have w1 : IntKind.wrap .u32 (IntKind.wrap .u32 (b + off) + (k : Int)) = b + off + (k : Int) := by rw [wr_u32, wr_u32]; omega
        rw [w1, show decide (b ≤ b + off + (k : Int)) = true from decide_eq_true (by omega), show decide (b + off + (k : Int) < b + s) = true from decide_eq_true (by omega)] at hw
        cases hw
      · rw [hd] at hc; cases hc
theorem bo0_form (k1 : Sv) (k2 : Sv) (k3 : Sv) (at_ : Int) (size : Int) (v : Int) (was : Int) (p : Int) (db : Int) (ds : Int) (dr : Bool) (dw : Bool) (dx : Bool) (Ts : TypeId) (z0 : Int) (z1 : Int) (z2 : Int) (z3 : Int) (z4 : Int) (Tz : TypeId) (o1 : SObj) (j : Int) (g : List Sv) :
    ev Try.prog ΓK8 60 (fun _ => none) (roundOf Try.prog 3 2) (fr 82 [1, 2, 3, 5, 6, 14, 36, 37, 38, 54, 55, 56] [.v (.int .u32 at_), .v (.int .i64 size), .v (.int .u64 v), .v (.int .u8 was), .ptr 0 0, .v (.int .u32 p), k1, k2, k3, .sl 2 0 5 5, .v (.int .i64 5), .v (.int .i64 j)] g) [.cells [.v (.int .u32 db), .v (.int .u32 ds), .v (.bool dr), .v (.bool dw), .v (.bool dx)] Ts, o1, .cells [.v (.int .u32 z0), .v (.int .u32 z1), .v (.int .u32 z2), .v (.int .u32 z3), .v (.int .u32 z4)] Tz] (liveD [1, 2, 3, 5, 6, 14, 36, 37, 38, 54, 55, 56] 3) =
    (bif decide (j < 5) then
bif decide (0 ≤ j) && decide (j < 5) then
bif in32 p then
bif in32 db && (in32 ds && in32 (selL j 0 [z0, z1, z2, z3, z4])) && !6 == 3 then
bif in32 p then
bif stV (updM (fun x => 0) p was) db ds (selL j 0 [z0, z1, z2, z3, z4]) size v (mayV dr dw dx 1) p != was then
some
(1, 82,
[vw at_, vi size, vd v,
vy was, Sv.ptr 0 0, vw p, k1, k2, k3, Sv.sl 2 0 5 5,
vi 5, vi j],
[SObj.cells
[vw db, vw ds, vb dr, vb dw,
vb dx]
Ts,
o1,
SObj.cells
[vw z0, vw z1, vw z2,
vw z3, vw z4]
Tz])
else
some
(0, 82,
[vw at_, vi size, vd v,
vy was, Sv.ptr 0 0, vw p, k1, k2, k3, Sv.sl 2 0 5 5,
vi 5, vi ((IntKind.wrap IntKind.i64 (j + 1)))],
[SObj.cells
[vw db, vw ds, vb dr, vb dw,
vb dx]
Ts,
o1,
SObj.cells
[vw z0, vw z1, vw z2,
vw z3, vw z4]
Tz])
else none
else none
else none
else none
else
some
(4, 82,
[vw at_, vi size, vd v,
vy was, Sv.ptr 0 0, vw p, k1, k2, k3, Sv.sl 2 0 5 5,
vi 5, vi j],
[SObj.cells
[vw db, vw ds, vb dr, vb dw,
vb dx]
Ts,
o1,
SObj.cells
[vw z0, vw z1, vw z2,
vw z3, vw z4]
Tz])) := by kernel_rfl
structure bo0S where
  k1 : Sv
  k2 : Sv
  k3 : Sv
  at_ : Int
  size : Int
  v : Int
  was : Int
  p : Int
  db : Int
  ds : Int
  dr : Bool
  dw : Bool
  dx : Bool
  Ts : TypeId
  z0 : Int
  z1 : Int
  z2 : Int
  z3 : Int
  z4 : Int
  Tz : TypeId
  o1 : SObj
abbrev bo0n (s : bo0S) : Nat := 5
def bo0V (s : bo0S) (i : Nat) : List Sv := [.v (.int .u32 s.at_), .v (.int .i64 s.size), .v (.int .u64 s.v), .v (.int .u8 s.was), .ptr 0 0, .v (.int .u32 s.p), s.k1, s.k2, s.k3, .sl 2 0 5 5, .v (.int .i64 5), .v (.int .i64 (i : Int))]
def bo0M (s : bo0S) (i : Nat) : List SObj := [.cells [.v (.int .u32 s.db), .v (.int .u32 s.ds), .v (.bool s.dr), .v (.bool s.dw), .v (.bool s.dx)] s.Ts, s.o1, .cells [.v (.int .u32 s.z0), .v (.int .u32 s.z1), .v (.int .u32 s.z2), .v (.int .u32 s.z3), .v (.int .u32 s.z4)] s.Tz]
def bo0Inv (s : bo0S) : Prop := in32 s.p = true ∧ in32 s.db = true ∧ in32 s.ds = true ∧ in32 s.z0 = true ∧ in32 s.z1 = true ∧ in32 s.z2 = true ∧ in32 s.z3 = true ∧ in32 s.z4 = true ∧ withinV s.db s.ds s.p = false ∧ clM 3 [s.o1] = true ∧ clL 3 [s.k1, s.k2, s.k3] = true
def bo0L : Rounds (CntS bo0S) (CntS bo0S) := cntE 82 [1, 2, 3, 5, 6, 14, 36, 37, 38, 54, 55, 56] bo0n bo0V bo0M bo0Inv 3
theorem bo0L_ok : bo0L.OkD Try.prog ΓK8 60 (roundOf Try.prog 3 2) 3 := cntE_okD
  (fun s g i hs hi => by
    obtain ⟨h0, h1, h2, h3, h4, h5, h6, h7, hw, hm, hl⟩ := hs
    have hi : i < 5 := hi
    have d1 : decide ((i : Int) < 5) = true := decide_eq_true (by omega)
    have d2 : decide (0 ≤ (i : Int)) = true := decide_eq_true (by omega)
    have w1 : IntKind.wrap .i64 ((i : Int) + 1) = ((i + 1 : Nat) : Int) := by rw [wr_i64_id (by omega) (by omega)]; omega
    have hz : in32 (selL (i : Int) 0 [s.z0, s.z1, s.z2, s.z3, s.z4]) = true := selL_allW (p := fun x => in32 x = true) (by decide) (by intro x hx; simp only [List.mem_cons, List.not_mem_nil, or_false] at hx; rcases hx with rfl | rfl | rfl | rfl | rfl <;> assumption)
    have hst := st_outside (M := updM (fun _ => 0) s.p s.was) (size := s.size) (v := s.v) (may := mayV s.dr s.dw s.dx 1) h0 h1 h2 hz hw
    have hp : updM (fun _ => 0) s.p s.was s.p = s.was := by unfold updM; simp
    refine (bo0_form s.k1 s.k2 s.k3 s.at_ s.size s.v s.was s.p s.db s.ds s.dr s.dw s.dx s.Ts s.z0 s.z1 s.z2 s.z3 s.z4 s.Tz s.o1 (i : Int) g).trans ?_
    rw [hst, hp]
    simp only [d1, d2, w1, h0, h1, h2, hz, Nat.reduceBEq, Bool.and_self, Bool.and_true, Bool.not_false, cond_true, bne_self_eq_false, cond_false]
    rfl)
  (fun s g hs => bo0_form s.k1 s.k2 s.k3 s.at_ s.size s.v s.was s.p s.db s.ds s.dr s.dw s.dx s.Ts s.z0 s.z1 s.z2 s.z3 s.z4 s.Tz s.o1 ((5 : Nat) : Int) g)
  (fun s i hs _ => by
    obtain ⟨h0, h1, h2, h3, h4, h5, h6, h7, hw, hm, hl⟩ := hs
    refine ⟨rfl, ?_, ?_⟩
    · simp only [clM_cons, clM_nil, Bool.and_eq_true] at hm
      simp only [bo0M, clM_cons, clM_nil, hm, clO_cells, clL_cons, clL_nil, clS_v, Bool.and_self]
    · simp only [clL_cons, clL_nil, Bool.and_eq_true] at hl
      simp only [bo0V, clL_cons, clL_nil, clS_v, clS_sl, clS_ptr, hl, Bool.and_self]; rfl)
def bo0Dec : (R : Type) → List Sv → List SObj → (bo0S → Option R) → Option R := fun R l m k_ => match l with
  | [.v (.int .u32 at_), .v (.int .i64 size), .v (.int .u64 v), .v (.int .u8 was), .ptr b0 b1, .v (.int .u32 p), k1, k2, k3, .sl q q0 q1 q2, .v (.int .i64 n5), .v (.int .i64 j)] => (match m with
    | [W0, o1, W2] => (match W0 with
      | .cells [.v (.int .u32 db), .v (.int .u32 ds), .v (.bool dr), .v (.bool dw), .v (.bool dx)] Ts => (match W2 with
        | .cells [.v (.int .u32 z0), .v (.int .u32 z1), .v (.int .u32 z2), .v (.int .u32 z3), .v (.int .u32 z4)] Tz => bif in32 p && (in32 db && (in32 ds && (in32 z0 && (in32 z1 && (in32 z2 && (in32 z3 && (in32 z4 && (!withinV db ds p && (clM 3 [o1] && (clL 3 [k1, k2, k3] && ((j == 0) && ((n5 == 5) && (Nat.beq b0 0 && (Nat.beq b1 0 && (Nat.beq q 2 && (Nat.beq q0 0 && (Nat.beq q1 5 && (Nat.beq q2 5)))))))))))))))))) then k_ ⟨k1, k2, k3, at_, size, v, was, p, db, ds, dr, dw, dx, Ts, z0, z1, z2, z3, z4, Tz, o1⟩ else none
        | _ => none)
      | _ => none)
    | _ => none)
  | _ => none
theorem bo0Dec_ok : ∀ (R : Type) l m (k : bo0S → Option R) r, bo0Dec R l m k = some r → ∃ s, k s = some r ∧ l = bo0V s 0 ∧ m = bo0M s 0 ∧ bo0Inv s := by
  intro R l m k r h
  unfold bo0Dec at h
  split at h
  · split at h
    · split at h
      · split at h
        · obtain ⟨hg, hk2⟩ := cond_some h
          clear h
          simp only [Bool.and_eq_true, beq_iff_eq, natB, Bool.not_eq_true'] at hg
          obtain ⟨h0, h1, h2, h3, h4, h5, h6, h7, hw, hm, hl, rfl, rfl, rfl, rfl, rfl, rfl, rfl, rfl⟩ := hg
          exact ⟨_, hk2, rfl, rfl, h0, h1, h2, h3, h4, h5, h6, h7, hw, hm, hl⟩
        · cases h
      · cases h
    · cases h
  · cases h
noncomputable def bo0H : Hook := cntHook Try.prog X0 bo0L bo0n 2 (roundOf Try.prog 3 2) bo0Dec
theorem bo0H_ok : HookOk Try.prog X0 (.block 2 (.loop (roundOf Try.prog 3 2))) bo0H := cntEHook_ok ΓK8_ok bo0L_ok bo0Dec_ok
theorem bo1_form (k1 : Sv) (k2 : Sv) (k3 : Sv) (at_ : Int) (size : Int) (v : Int) (was : Int) (p : Int) (db : Int) (ds : Int) (dr : Bool) (dw : Bool) (dx : Bool) (Ts : TypeId) (z0 : Int) (z1 : Int) (z2 : Int) (z3 : Int) (z4 : Int) (Tz : TypeId) (o1 : SObj) (o2 : SObj) (o3 : SObj) (j : Int) (g : List Sv) :
    ev Try.prog ΓK8 60 (fun _ => none) (roundOf Try.prog 3 2) (fr 82 [1, 2, 3, 5, 6, 14, 36, 37, 38, 54, 55, 56] [.v (.int .u32 at_), .v (.int .i64 size), .v (.int .u64 v), .v (.int .u8 was), .ptr 0 0, .v (.int .u32 p), k1, k2, k3, .sl 4 0 5 5, .v (.int .i64 5), .v (.int .i64 j)] g) [.cells [.v (.int .u32 db), .v (.int .u32 ds), .v (.bool dr), .v (.bool dw), .v (.bool dx)] Ts, o1, o2, o3, .cells [.v (.int .u32 z0), .v (.int .u32 z1), .v (.int .u32 z2), .v (.int .u32 z3), .v (.int .u32 z4)] Tz] (liveD [1, 2, 3, 5, 6, 14, 36, 37, 38, 54, 55, 56] 5) =
    (bif decide (j < 5) then
bif decide (0 ≤ j) && decide (j < 5) then
bif in32 p then
bif in32 db && (in32 ds && in32 (selL j 0 [z0, z1, z2, z3, z4])) && !8 == 5 then
bif in32 p then
bif stV (updM (fun x => 0) p was) db ds (selL j 0 [z0, z1, z2, z3, z4]) size v (mayV dr dw dx 1) p != was then
some
(1, 82,
[vw at_, vi size, vd v,
vy was, Sv.ptr 0 0, vw p, k1, k2, k3, Sv.sl 4 0 5 5,
vi 5, vi j],
[SObj.cells
[vw db, vw ds, vb dr, vb dw,
vb dx]
Ts,
o1, o2, o3,
SObj.cells
[vw z0, vw z1, vw z2,
vw z3, vw z4]
Tz])
else
some
(0, 82,
[vw at_, vi size, vd v,
vy was, Sv.ptr 0 0, vw p, k1, k2, k3, Sv.sl 4 0 5 5,
vi 5, vi ((IntKind.wrap IntKind.i64 (j + 1)))],
[SObj.cells
[vw db, vw ds, vb dr, vb dw,
vb dx]
Ts,
o1, o2, o3,
SObj.cells
[vw z0, vw z1, vw z2,
vw z3, vw z4]
Tz])
else none
else none
else none
else none
else
some
(4, 82,
[vw at_, vi size, vd v,
vy was, Sv.ptr 0 0, vw p, k1, k2, k3, Sv.sl 4 0 5 5,
vi 5, vi j],
[SObj.cells
[vw db, vw ds, vb dr, vb dw,
vb dx]
Ts,
o1, o2, o3,
SObj.cells
[vw z0, vw z1, vw z2,
vw z3, vw z4]
Tz])) := by kernel_rfl
structure bo1S where
  k1 : Sv
  k2 : Sv
  k3 : Sv
  at_ : Int
  size : Int
  v : Int
  was : Int
  p : Int
  db : Int
  ds : Int
  dr : Bool
  dw : Bool
  dx : Bool
  Ts : TypeId
  z0 : Int
  z1 : Int
  z2 : Int
  z3 : Int
  z4 : Int
  Tz : TypeId
  o1 : SObj
  o2 : SObj
  o3 : SObj
abbrev bo1n (s : bo1S) : Nat := 5
def bo1V (s : bo1S) (i : Nat) : List Sv := [.v (.int .u32 s.at_), .v (.int .i64 s.size), .v (.int .u64 s.v), .v (.int .u8 s.was), .ptr 0 0, .v (.int .u32 s.p), s.k1, s.k2, s.k3, .sl 4 0 5 5, .v (.int .i64 5), .v (.int .i64 (i : Int))]
def bo1M (s : bo1S) (i : Nat) : List SObj := [.cells [.v (.int .u32 s.db), .v (.int .u32 s.ds), .v (.bool s.dr), .v (.bool s.dw), .v (.bool s.dx)] s.Ts, s.o1, s.o2, s.o3, .cells [.v (.int .u32 s.z0), .v (.int .u32 s.z1), .v (.int .u32 s.z2), .v (.int .u32 s.z3), .v (.int .u32 s.z4)] s.Tz]
def bo1Inv (s : bo1S) : Prop := in32 s.p = true ∧ in32 s.db = true ∧ in32 s.ds = true ∧ in32 s.z0 = true ∧ in32 s.z1 = true ∧ in32 s.z2 = true ∧ in32 s.z3 = true ∧ in32 s.z4 = true ∧ withinV s.db s.ds s.p = false ∧ clM 5 [s.o1, s.o2, s.o3] = true ∧ clL 5 [s.k1, s.k2, s.k3] = true
def bo1L : Rounds (CntS bo1S) (CntS bo1S) := cntE 82 [1, 2, 3, 5, 6, 14, 36, 37, 38, 54, 55, 56] bo1n bo1V bo1M bo1Inv 3
theorem bo1L_ok : bo1L.OkD Try.prog ΓK8 60 (roundOf Try.prog 3 2) 5 := cntE_okD
  (fun s g i hs hi => by
    obtain ⟨h0, h1, h2, h3, h4, h5, h6, h7, hw, hm, hl⟩ := hs
    have hi : i < 5 := hi
    have d1 : decide ((i : Int) < 5) = true := decide_eq_true (by omega)
    have d2 : decide (0 ≤ (i : Int)) = true := decide_eq_true (by omega)
    have w1 : IntKind.wrap .i64 ((i : Int) + 1) = ((i + 1 : Nat) : Int) := by rw [wr_i64_id (by omega) (by omega)]; omega
    have hz : in32 (selL (i : Int) 0 [s.z0, s.z1, s.z2, s.z3, s.z4]) = true := selL_allW (p := fun x => in32 x = true) (by decide) (by intro x hx; simp only [List.mem_cons, List.not_mem_nil, or_false] at hx; rcases hx with rfl | rfl | rfl | rfl | rfl <;> assumption)
    have hst := st_outside (M := updM (fun _ => 0) s.p s.was) (size := s.size) (v := s.v) (may := mayV s.dr s.dw s.dx 1) h0 h1 h2 hz hw
    have hp : updM (fun _ => 0) s.p s.was s.p = s.was := by unfold updM; simp
    refine (bo1_form s.k1 s.k2 s.k3 s.at_ s.size s.v s.was s.p s.db s.ds s.dr s.dw s.dx s.Ts s.z0 s.z1 s.z2 s.z3 s.z4 s.Tz s.o1 s.o2 s.o3 (i : Int) g).trans ?_
    rw [hst, hp]
    simp only [d1, d2, w1, h0, h1, h2, hz, Nat.reduceBEq, Bool.and_self, Bool.and_true, Bool.not_false, cond_true, bne_self_eq_false, cond_false]
    rfl)
  (fun s g hs => bo1_form s.k1 s.k2 s.k3 s.at_ s.size s.v s.was s.p s.db s.ds s.dr s.dw s.dx s.Ts s.z0 s.z1 s.z2 s.z3 s.z4 s.Tz s.o1 s.o2 s.o3 ((5 : Nat) : Int) g)
  (fun s i hs _ => by
    obtain ⟨h0, h1, h2, h3, h4, h5, h6, h7, hw, hm, hl⟩ := hs
    refine ⟨rfl, ?_, ?_⟩
    · simp only [clM_cons, clM_nil, Bool.and_eq_true] at hm
      simp only [bo1M, clM_cons, clM_nil, hm, clO_cells, clL_cons, clL_nil, clS_v, Bool.and_self]
    · simp only [clL_cons, clL_nil, Bool.and_eq_true] at hl
      simp only [bo1V, clL_cons, clL_nil, clS_v, clS_sl, clS_ptr, hl, Bool.and_self]; rfl)
def bo1Dec : (R : Type) → List Sv → List SObj → (bo1S → Option R) → Option R := fun R l m k_ => match l with
  | [.v (.int .u32 at_), .v (.int .i64 size), .v (.int .u64 v), .v (.int .u8 was), .ptr b0 b1, .v (.int .u32 p), k1, k2, k3, .sl q q0 q1 q2, .v (.int .i64 n5), .v (.int .i64 j)] => (match m with
    | [W0, o1, o2, o3, W4] => (match W0 with
      | .cells [.v (.int .u32 db), .v (.int .u32 ds), .v (.bool dr), .v (.bool dw), .v (.bool dx)] Ts => (match W4 with
        | .cells [.v (.int .u32 z0), .v (.int .u32 z1), .v (.int .u32 z2), .v (.int .u32 z3), .v (.int .u32 z4)] Tz => bif in32 p && (in32 db && (in32 ds && (in32 z0 && (in32 z1 && (in32 z2 && (in32 z3 && (in32 z4 && (!withinV db ds p && (clM 5 [o1, o2, o3] && (clL 5 [k1, k2, k3] && ((j == 0) && ((n5 == 5) && (Nat.beq b0 0 && (Nat.beq b1 0 && (Nat.beq q 4 && (Nat.beq q0 0 && (Nat.beq q1 5 && (Nat.beq q2 5)))))))))))))))))) then k_ ⟨k1, k2, k3, at_, size, v, was, p, db, ds, dr, dw, dx, Ts, z0, z1, z2, z3, z4, Tz, o1, o2, o3⟩ else none
        | _ => none)
      | _ => none)
    | _ => none)
  | _ => none
theorem bo1Dec_ok : ∀ (R : Type) l m (k : bo1S → Option R) r, bo1Dec R l m k = some r → ∃ s, k s = some r ∧ l = bo1V s 0 ∧ m = bo1M s 0 ∧ bo1Inv s := by
  intro R l m k r h
  unfold bo1Dec at h
  split at h
  · split at h
    · split at h
      · split at h
        · obtain ⟨hg, hk2⟩ := cond_some h
          clear h
          simp only [Bool.and_eq_true, beq_iff_eq, natB, Bool.not_eq_true'] at hg
          obtain ⟨h0, h1, h2, h3, h4, h5, h6, h7, hw, hm, hl, rfl, rfl, rfl, rfl, rfl, rfl, rfl, rfl⟩ := hg
          exact ⟨_, hk2, rfl, rfl, h0, h1, h2, h3, h4, h5, h6, h7, hw, hm, hl⟩
        · cases h
      · cases h
    · cases h
  · cases h
noncomputable def bo1H : Hook := cntHook Try.prog X0 bo1L bo1n 2 (roundOf Try.prog 3 2) bo1Dec
theorem bo1H_ok : HookOk Try.prog X0 (.block 2 (.loop (roundOf Try.prog 3 2))) bo1H := cntEHook_ok ΓK8_ok bo1L_ok bo1Dec_ok
theorem bo2_form (k1 : Sv) (k2 : Sv) (k3 : Sv) (at_ : Int) (size : Int) (v : Int) (was : Int) (p : Int) (db : Int) (ds : Int) (dr : Bool) (dw : Bool) (dx : Bool) (Ts : TypeId) (z0 : Int) (z1 : Int) (z2 : Int) (z3 : Int) (z4 : Int) (Tz : TypeId) (o1 : SObj) (o2 : SObj) (o3 : SObj) (o4 : SObj) (o5 : SObj) (j : Int) (g : List Sv) :
    ev Try.prog ΓK8 60 (fun _ => none) (roundOf Try.prog 3 2) (fr 82 [1, 2, 3, 5, 6, 14, 36, 37, 38, 54, 55, 56] [.v (.int .u32 at_), .v (.int .i64 size), .v (.int .u64 v), .v (.int .u8 was), .ptr 0 0, .v (.int .u32 p), k1, k2, k3, .sl 6 0 5 5, .v (.int .i64 5), .v (.int .i64 j)] g) [.cells [.v (.int .u32 db), .v (.int .u32 ds), .v (.bool dr), .v (.bool dw), .v (.bool dx)] Ts, o1, o2, o3, o4, o5, .cells [.v (.int .u32 z0), .v (.int .u32 z1), .v (.int .u32 z2), .v (.int .u32 z3), .v (.int .u32 z4)] Tz] (liveD [1, 2, 3, 5, 6, 14, 36, 37, 38, 54, 55, 56] 7) =
    (bif decide (j < 5) then
bif decide (0 ≤ j) && decide (j < 5) then
bif in32 p then
bif in32 db && (in32 ds && in32 (selL j 0 [z0, z1, z2, z3, z4])) && !10 == 7 then
bif in32 p then
bif stV (updM (fun x => 0) p was) db ds (selL j 0 [z0, z1, z2, z3, z4]) size v (mayV dr dw dx 1) p != was then
some
(1, 82,
[vw at_, vi size, vd v,
vy was, Sv.ptr 0 0, vw p, k1, k2, k3, Sv.sl 6 0 5 5,
vi 5, vi j],
[SObj.cells
[vw db, vw ds, vb dr, vb dw,
vb dx]
Ts,
o1, o2, o3, o4, o5,
SObj.cells
[vw z0, vw z1, vw z2,
vw z3, vw z4]
Tz])
else
some
(0, 82,
[vw at_, vi size, vd v,
vy was, Sv.ptr 0 0, vw p, k1, k2, k3, Sv.sl 6 0 5 5,
vi 5, vi ((IntKind.wrap IntKind.i64 (j + 1)))],
[SObj.cells
[vw db, vw ds, vb dr, vb dw,
vb dx]
Ts,
o1, o2, o3, o4, o5,
SObj.cells
[vw z0, vw z1, vw z2,
vw z3, vw z4]
Tz])
else none
else none
else none
else none
else
some
(4, 82,
[vw at_, vi size, vd v,
vy was, Sv.ptr 0 0, vw p, k1, k2, k3, Sv.sl 6 0 5 5,
vi 5, vi j],
[SObj.cells
[vw db, vw ds, vb dr, vb dw,
vb dx]
Ts,
o1, o2, o3, o4, o5,
SObj.cells
[vw z0, vw z1, vw z2,
vw z3, vw z4]
Tz])) := by kernel_rfl
structure bo2S where
  k1 : Sv
  k2 : Sv
  k3 : Sv
  at_ : Int
  size : Int
  v : Int
  was : Int
  p : Int
  db : Int
  ds : Int
  dr : Bool
  dw : Bool
  dx : Bool
  Ts : TypeId
  z0 : Int
  z1 : Int
  z2 : Int
  z3 : Int
  z4 : Int
  Tz : TypeId
  o1 : SObj
  o2 : SObj
  o3 : SObj
  o4 : SObj
  o5 : SObj
abbrev bo2n (s : bo2S) : Nat := 5
def bo2V (s : bo2S) (i : Nat) : List Sv := [.v (.int .u32 s.at_), .v (.int .i64 s.size), .v (.int .u64 s.v), .v (.int .u8 s.was), .ptr 0 0, .v (.int .u32 s.p), s.k1, s.k2, s.k3, .sl 6 0 5 5, .v (.int .i64 5), .v (.int .i64 (i : Int))]
def bo2M (s : bo2S) (i : Nat) : List SObj := [.cells [.v (.int .u32 s.db), .v (.int .u32 s.ds), .v (.bool s.dr), .v (.bool s.dw), .v (.bool s.dx)] s.Ts, s.o1, s.o2, s.o3, s.o4, s.o5, .cells [.v (.int .u32 s.z0), .v (.int .u32 s.z1), .v (.int .u32 s.z2), .v (.int .u32 s.z3), .v (.int .u32 s.z4)] s.Tz]
def bo2Inv (s : bo2S) : Prop := in32 s.p = true ∧ in32 s.db = true ∧ in32 s.ds = true ∧ in32 s.z0 = true ∧ in32 s.z1 = true ∧ in32 s.z2 = true ∧ in32 s.z3 = true ∧ in32 s.z4 = true ∧ withinV s.db s.ds s.p = false ∧ clM 7 [s.o1, s.o2, s.o3, s.o4, s.o5] = true ∧ clL 7 [s.k1, s.k2, s.k3] = true
def bo2L : Rounds (CntS bo2S) (CntS bo2S) := cntE 82 [1, 2, 3, 5, 6, 14, 36, 37, 38, 54, 55, 56] bo2n bo2V bo2M bo2Inv 3
theorem bo2L_ok : bo2L.OkD Try.prog ΓK8 60 (roundOf Try.prog 3 2) 7 := cntE_okD
  (fun s g i hs hi => by
    obtain ⟨h0, h1, h2, h3, h4, h5, h6, h7, hw, hm, hl⟩ := hs
    have hi : i < 5 := hi
    have d1 : decide ((i : Int) < 5) = true := decide_eq_true (by omega)
    have d2 : decide (0 ≤ (i : Int)) = true := decide_eq_true (by omega)
    have w1 : IntKind.wrap .i64 ((i : Int) + 1) = ((i + 1 : Nat) : Int) := by rw [wr_i64_id (by omega) (by omega)]; omega
    have hz : in32 (selL (i : Int) 0 [s.z0, s.z1, s.z2, s.z3, s.z4]) = true := selL_allW (p := fun x => in32 x = true) (by decide) (by intro x hx; simp only [List.mem_cons, List.not_mem_nil, or_false] at hx; rcases hx with rfl | rfl | rfl | rfl | rfl <;> assumption)
    have hst := st_outside (M := updM (fun _ => 0) s.p s.was) (size := s.size) (v := s.v) (may := mayV s.dr s.dw s.dx 1) h0 h1 h2 hz hw
    have hp : updM (fun _ => 0) s.p s.was s.p = s.was := by unfold updM; simp
    refine (bo2_form s.k1 s.k2 s.k3 s.at_ s.size s.v s.was s.p s.db s.ds s.dr s.dw s.dx s.Ts s.z0 s.z1 s.z2 s.z3 s.z4 s.Tz s.o1 s.o2 s.o3 s.o4 s.o5 (i : Int) g).trans ?_
    rw [hst, hp]
    simp only [d1, d2, w1, h0, h1, h2, hz, Nat.reduceBEq, Bool.and_self, Bool.and_true, Bool.not_false, cond_true, bne_self_eq_false, cond_false]
    rfl)
  (fun s g hs => bo2_form s.k1 s.k2 s.k3 s.at_ s.size s.v s.was s.p s.db s.ds s.dr s.dw s.dx s.Ts s.z0 s.z1 s.z2 s.z3 s.z4 s.Tz s.o1 s.o2 s.o3 s.o4 s.o5 ((5 : Nat) : Int) g)
  (fun s i hs _ => by
    obtain ⟨h0, h1, h2, h3, h4, h5, h6, h7, hw, hm, hl⟩ := hs
    refine ⟨rfl, ?_, ?_⟩
    · simp only [clM_cons, clM_nil, Bool.and_eq_true] at hm
      simp only [bo2M, clM_cons, clM_nil, hm, clO_cells, clL_cons, clL_nil, clS_v, Bool.and_self]
    · simp only [clL_cons, clL_nil, Bool.and_eq_true] at hl
      simp only [bo2V, clL_cons, clL_nil, clS_v, clS_sl, clS_ptr, hl, Bool.and_self]; rfl)
def bo2Dec : (R : Type) → List Sv → List SObj → (bo2S → Option R) → Option R := fun R l m k_ => match l with
  | [.v (.int .u32 at_), .v (.int .i64 size), .v (.int .u64 v), .v (.int .u8 was), .ptr b0 b1, .v (.int .u32 p), k1, k2, k3, .sl q q0 q1 q2, .v (.int .i64 n5), .v (.int .i64 j)] => (match m with
    | [W0, o1, o2, o3, o4, o5, W6] => (match W0 with
      | .cells [.v (.int .u32 db), .v (.int .u32 ds), .v (.bool dr), .v (.bool dw), .v (.bool dx)] Ts => (match W6 with
        | .cells [.v (.int .u32 z0), .v (.int .u32 z1), .v (.int .u32 z2), .v (.int .u32 z3), .v (.int .u32 z4)] Tz => bif in32 p && (in32 db && (in32 ds && (in32 z0 && (in32 z1 && (in32 z2 && (in32 z3 && (in32 z4 && (!withinV db ds p && (clM 7 [o1, o2, o3, o4, o5] && (clL 7 [k1, k2, k3] && ((j == 0) && ((n5 == 5) && (Nat.beq b0 0 && (Nat.beq b1 0 && (Nat.beq q 6 && (Nat.beq q0 0 && (Nat.beq q1 5 && (Nat.beq q2 5)))))))))))))))))) then k_ ⟨k1, k2, k3, at_, size, v, was, p, db, ds, dr, dw, dx, Ts, z0, z1, z2, z3, z4, Tz, o1, o2, o3, o4, o5⟩ else none
        | _ => none)
      | _ => none)
    | _ => none)
  | _ => none
theorem bo2Dec_ok : ∀ (R : Type) l m (k : bo2S → Option R) r, bo2Dec R l m k = some r → ∃ s, k s = some r ∧ l = bo2V s 0 ∧ m = bo2M s 0 ∧ bo2Inv s := by
  intro R l m k r h
  unfold bo2Dec at h
  split at h
  · split at h
    · split at h
      · split at h
        · obtain ⟨hg, hk2⟩ := cond_some h
          clear h
          simp only [Bool.and_eq_true, beq_iff_eq, natB, Bool.not_eq_true'] at hg
          obtain ⟨h0, h1, h2, h3, h4, h5, h6, h7, hw, hm, hl, rfl, rfl, rfl, rfl, rfl, rfl, rfl, rfl⟩ := hg
          exact ⟨_, hk2, rfl, rfl, h0, h1, h2, h3, h4, h5, h6, h7, hw, hm, hl⟩
        · cases h
      · cases h
    · cases h
  · cases h
noncomputable def bo2H : Hook := cntHook Try.prog X0 bo2L bo2n 2 (roundOf Try.prog 3 2) bo2Dec
theorem bo2H_ok : HookOk Try.prog X0 (.block 2 (.loop (roundOf Try.prog 3 2))) bo2H := cntEHook_ok ΓK8_ok bo2L_ok bo2Dec_ok
theorem bo3_form (k1 : Sv) (k2 : Sv) (k3 : Sv) (at_ : Int) (size : Int) (v : Int) (was : Int) (p : Int) (db : Int) (ds : Int) (dr : Bool) (dw : Bool) (dx : Bool) (Ts : TypeId) (z0 : Int) (z1 : Int) (z2 : Int) (z3 : Int) (z4 : Int) (Tz : TypeId) (o1 : SObj) (o2 : SObj) (o3 : SObj) (o4 : SObj) (o5 : SObj) (o6 : SObj) (o7 : SObj) (j : Int) (g : List Sv) :
    ev Try.prog ΓK8 60 (fun _ => none) (roundOf Try.prog 3 2) (fr 82 [1, 2, 3, 5, 6, 14, 36, 37, 38, 54, 55, 56] [.v (.int .u32 at_), .v (.int .i64 size), .v (.int .u64 v), .v (.int .u8 was), .ptr 0 0, .v (.int .u32 p), k1, k2, k3, .sl 8 0 5 5, .v (.int .i64 5), .v (.int .i64 j)] g) [.cells [.v (.int .u32 db), .v (.int .u32 ds), .v (.bool dr), .v (.bool dw), .v (.bool dx)] Ts, o1, o2, o3, o4, o5, o6, o7, .cells [.v (.int .u32 z0), .v (.int .u32 z1), .v (.int .u32 z2), .v (.int .u32 z3), .v (.int .u32 z4)] Tz] (liveD [1, 2, 3, 5, 6, 14, 36, 37, 38, 54, 55, 56] 9) =
    (bif decide (j < 5) then
bif decide (0 ≤ j) && decide (j < 5) then
bif in32 p then
bif in32 db && (in32 ds && in32 (selL j 0 [z0, z1, z2, z3, z4])) && !12 == 9 then
bif in32 p then
bif stV (updM (fun x => 0) p was) db ds (selL j 0 [z0, z1, z2, z3, z4]) size v (mayV dr dw dx 1) p != was then
some
(1, 82,
[vw at_, vi size, vd v,
vy was, Sv.ptr 0 0, vw p, k1, k2, k3, Sv.sl 8 0 5 5,
vi 5, vi j],
[SObj.cells
[vw db, vw ds, vb dr, vb dw,
vb dx]
Ts,
o1, o2, o3, o4, o5, o6, o7,
SObj.cells
[vw z0, vw z1, vw z2,
vw z3, vw z4]
Tz])
else
some
(0, 82,
[vw at_, vi size, vd v,
vy was, Sv.ptr 0 0, vw p, k1, k2, k3, Sv.sl 8 0 5 5,
vi 5, vi ((IntKind.wrap IntKind.i64 (j + 1)))],
[SObj.cells
[vw db, vw ds, vb dr, vb dw,
vb dx]
Ts,
o1, o2, o3, o4, o5, o6, o7,
SObj.cells
[vw z0, vw z1, vw z2,
vw z3, vw z4]
Tz])
else none
else none
else none
else none
else
some
(4, 82,
[vw at_, vi size, vd v,
vy was, Sv.ptr 0 0, vw p, k1, k2, k3, Sv.sl 8 0 5 5,
vi 5, vi j],
[SObj.cells
[vw db, vw ds, vb dr, vb dw,
vb dx]
Ts,
o1, o2, o3, o4, o5, o6, o7,
SObj.cells
[vw z0, vw z1, vw z2,
vw z3, vw z4]
Tz])) := by kernel_rfl
structure bo3S where
  k1 : Sv
  k2 : Sv
  k3 : Sv
  at_ : Int
  size : Int
  v : Int
  was : Int
  p : Int
  db : Int
  ds : Int
  dr : Bool
  dw : Bool
  dx : Bool
  Ts : TypeId
  z0 : Int
  z1 : Int
  z2 : Int
  z3 : Int
  z4 : Int
  Tz : TypeId
  o1 : SObj
  o2 : SObj
  o3 : SObj
  o4 : SObj
  o5 : SObj
  o6 : SObj
  o7 : SObj
abbrev bo3n (s : bo3S) : Nat := 5
def bo3V (s : bo3S) (i : Nat) : List Sv := [.v (.int .u32 s.at_), .v (.int .i64 s.size), .v (.int .u64 s.v), .v (.int .u8 s.was), .ptr 0 0, .v (.int .u32 s.p), s.k1, s.k2, s.k3, .sl 8 0 5 5, .v (.int .i64 5), .v (.int .i64 (i : Int))]
def bo3M (s : bo3S) (i : Nat) : List SObj := [.cells [.v (.int .u32 s.db), .v (.int .u32 s.ds), .v (.bool s.dr), .v (.bool s.dw), .v (.bool s.dx)] s.Ts, s.o1, s.o2, s.o3, s.o4, s.o5, s.o6, s.o7, .cells [.v (.int .u32 s.z0), .v (.int .u32 s.z1), .v (.int .u32 s.z2), .v (.int .u32 s.z3), .v (.int .u32 s.z4)] s.Tz]
def bo3Inv (s : bo3S) : Prop := in32 s.p = true ∧ in32 s.db = true ∧ in32 s.ds = true ∧ in32 s.z0 = true ∧ in32 s.z1 = true ∧ in32 s.z2 = true ∧ in32 s.z3 = true ∧ in32 s.z4 = true ∧ withinV s.db s.ds s.p = false ∧ clM 9 [s.o1, s.o2, s.o3, s.o4, s.o5, s.o6, s.o7] = true ∧ clL 9 [s.k1, s.k2, s.k3] = true
def bo3L : Rounds (CntS bo3S) (CntS bo3S) := cntE 82 [1, 2, 3, 5, 6, 14, 36, 37, 38, 54, 55, 56] bo3n bo3V bo3M bo3Inv 3
theorem bo3L_ok : bo3L.OkD Try.prog ΓK8 60 (roundOf Try.prog 3 2) 9 := cntE_okD
  (fun s g i hs hi => by
    obtain ⟨h0, h1, h2, h3, h4, h5, h6, h7, hw, hm, hl⟩ := hs
    have hi : i < 5 := hi
    have d1 : decide ((i : Int) < 5) = true := decide_eq_true (by omega)
    have d2 : decide (0 ≤ (i : Int)) = true := decide_eq_true (by omega)
    have w1 : IntKind.wrap .i64 ((i : Int) + 1) = ((i + 1 : Nat) : Int) := by rw [wr_i64_id (by omega) (by omega)]; omega
    have hz : in32 (selL (i : Int) 0 [s.z0, s.z1, s.z2, s.z3, s.z4]) = true := selL_allW (p := fun x => in32 x = true) (by decide) (by intro x hx; simp only [List.mem_cons, List.not_mem_nil, or_false] at hx; rcases hx with rfl | rfl | rfl | rfl | rfl <;> assumption)
    have hst := st_outside (M := updM (fun _ => 0) s.p s.was) (size := s.size) (v := s.v) (may := mayV s.dr s.dw s.dx 1) h0 h1 h2 hz hw
    have hp : updM (fun _ => 0) s.p s.was s.p = s.was := by unfold updM; simp
    refine (bo3_form s.k1 s.k2 s.k3 s.at_ s.size s.v s.was s.p s.db s.ds s.dr s.dw s.dx s.Ts s.z0 s.z1 s.z2 s.z3 s.z4 s.Tz s.o1 s.o2 s.o3 s.o4 s.o5 s.o6 s.o7 (i : Int) g).trans ?_
    rw [hst, hp]
    simp only [d1, d2, w1, h0, h1, h2, hz, Nat.reduceBEq, Bool.and_self, Bool.and_true, Bool.not_false, cond_true, bne_self_eq_false, cond_false]
    rfl)
  (fun s g hs => bo3_form s.k1 s.k2 s.k3 s.at_ s.size s.v s.was s.p s.db s.ds s.dr s.dw s.dx s.Ts s.z0 s.z1 s.z2 s.z3 s.z4 s.Tz s.o1 s.o2 s.o3 s.o4 s.o5 s.o6 s.o7 ((5 : Nat) : Int) g)
  (fun s i hs _ => by
    obtain ⟨h0, h1, h2, h3, h4, h5, h6, h7, hw, hm, hl⟩ := hs
    refine ⟨rfl, ?_, ?_⟩
    · simp only [clM_cons, clM_nil, Bool.and_eq_true] at hm
      simp only [bo3M, clM_cons, clM_nil, hm, clO_cells, clL_cons, clL_nil, clS_v, Bool.and_self]
    · simp only [clL_cons, clL_nil, Bool.and_eq_true] at hl
      simp only [bo3V, clL_cons, clL_nil, clS_v, clS_sl, clS_ptr, hl, Bool.and_self]; rfl)
def bo3Dec : (R : Type) → List Sv → List SObj → (bo3S → Option R) → Option R := fun R l m k_ => match l with
  | [.v (.int .u32 at_), .v (.int .i64 size), .v (.int .u64 v), .v (.int .u8 was), .ptr b0 b1, .v (.int .u32 p), k1, k2, k3, .sl q q0 q1 q2, .v (.int .i64 n5), .v (.int .i64 j)] => (match m with
    | [W0, o1, o2, o3, o4, o5, o6, o7, W8] => (match W0 with
      | .cells [.v (.int .u32 db), .v (.int .u32 ds), .v (.bool dr), .v (.bool dw), .v (.bool dx)] Ts => (match W8 with
        | .cells [.v (.int .u32 z0), .v (.int .u32 z1), .v (.int .u32 z2), .v (.int .u32 z3), .v (.int .u32 z4)] Tz => bif in32 p && (in32 db && (in32 ds && (in32 z0 && (in32 z1 && (in32 z2 && (in32 z3 && (in32 z4 && (!withinV db ds p && (clM 9 [o1, o2, o3, o4, o5, o6, o7] && (clL 9 [k1, k2, k3] && ((j == 0) && ((n5 == 5) && (Nat.beq b0 0 && (Nat.beq b1 0 && (Nat.beq q 8 && (Nat.beq q0 0 && (Nat.beq q1 5 && (Nat.beq q2 5)))))))))))))))))) then k_ ⟨k1, k2, k3, at_, size, v, was, p, db, ds, dr, dw, dx, Ts, z0, z1, z2, z3, z4, Tz, o1, o2, o3, o4, o5, o6, o7⟩ else none
        | _ => none)
      | _ => none)
    | _ => none)
  | _ => none
theorem bo3Dec_ok : ∀ (R : Type) l m (k : bo3S → Option R) r, bo3Dec R l m k = some r → ∃ s, k s = some r ∧ l = bo3V s 0 ∧ m = bo3M s 0 ∧ bo3Inv s := by
  intro R l m k r h
  unfold bo3Dec at h
  split at h
  · split at h
    · split at h
      · split at h
        · obtain ⟨hg, hk2⟩ := cond_some h
          clear h
          simp only [Bool.and_eq_true, beq_iff_eq, natB, Bool.not_eq_true'] at hg
          obtain ⟨h0, h1, h2, h3, h4, h5, h6, h7, hw, hm, hl, rfl, rfl, rfl, rfl, rfl, rfl, rfl, rfl⟩ := hg
          exact ⟨_, hk2, rfl, rfl, h0, h1, h2, h3, h4, h5, h6, h7, hw, hm, hl⟩
        · cases h
      · cases h
    · cases h
  · cases h
noncomputable def bo3H : Hook := cntHook Try.prog X0 bo3L bo3n 2 (roundOf Try.prog 3 2) bo3Dec
theorem bo3H_ok : HookOk Try.prog X0 (.block 2 (.loop (roundOf Try.prog 3 2))) bo3H := cntEHook_ok ΓK8_ok bo3L_ok bo3Dec_ok
def selB (n : Nat) (t : List Sv) (m : List SObj) : Bool := Nat.beq m.length n
noncomputable def boH : Hook := orHook (selB 3) bo0H (orHook (selB 5) bo1H (orHook (selB 7) bo2H bo3H))
noncomputable def ΓBo : Env := ΓW8.hook 3 2 boH
theorem ΓBo_ok : EnvOk Try.prog X0 ΓBo := ΓW8_ok.hook (a := .loop (roundOf Try.prog 3 2)) (by kernel_rfl) (orHook_ok bo0H_ok (orHook_ok bo1H_ok (orHook_ok bo2H_ok bo3H_ok)))
end Go.Proofs.Ytjcbgjakomalaaa
