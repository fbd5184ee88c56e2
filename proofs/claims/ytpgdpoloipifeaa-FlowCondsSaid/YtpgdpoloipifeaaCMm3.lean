/- Rows that are filled, written, read. -/
import Derived.Test.YtpgdpoloipifeaaEvV
import Derived.Test.YtpgdpoloipifeaaCMm0
import Derived.Test.YtpgdpoloipifeaaNRow
namespace Go.Proofs.Ytpgdpoloipifeaa
open Go Go.Ev
set_option linter.unusedVariables false
set_option linter.unusedSimpArgs false
set_option maxRecDepth 100000

theorem fill_round (a i : Int) (n : Nat) (T T2 : TypeId) (M F : Int → Int) (g : List Sv) :
    ev Try.prog ΓM0 60 (fun _ => none) (roundOf Try.prog 41 0) (fr 24 [0, 1, 5, 6] [.v (.int .i64 n), .v (.int .u32 a), .sl 0 0 n n, .v (.int .i64 i)] g) [.arr .u8 T n F] (liveK [0, 1, 5, 6]) =
    (bif decide (i < ↑n) then
bif true && (decide (0 ≤ i) && decide (i < ↑n)) then
bif true && (true && decide (i < ↑n)) then
some
(0, 24,
[vi (↑n),
vw ((IntKind.wrap IntKind.u32 (IntKind.wrap IntKind.u32 (a * 1664525) + 1013904223))),
Sv.sl 0 0 n n, vi ((IntKind.wrap IntKind.i64 (i + 1)))],
[SObj.arr IntKind.u8 T n
(updM F i
(IntKind.wrap IntKind.u8
(Int.fdiv (IntKind.wrap IntKind.u32 (IntKind.wrap IntKind.u32 (a * 1664525) + 1013904223)) 16777216)))])
else none
else none
else
some
(2, 24,
[vi (↑n), vw a, Sv.sl 0 0 n n, vi i],
[SObj.arr IntKind.u8 T n F])) := by kernel_rfl
def fillV (s : RwS) (i : Nat) : List Sv := [.v (.int .i64 s.n), .v (.int .u32 (lcgK s.a i)), .sl 0 0 s.n s.n, .v (.int .i64 i)]
def fillM (s : RwS) (i : Nat) : List SObj := [.arr .u8 s.T s.n (rowF s.F (fillB s.a) i)]
def fillL : Rounds (CntS RwS) (CntS RwS) := cntL 24 [0, 1, 5, 6] RwS.n fillV fillM rwInv
theorem fill_more (s : RwS) (g : List Sv) (i : Nat) (hn : s.n ≤ 4096) (hi : i < s.n) : ev Try.prog ΓM0 60 (fun _ => none) (roundOf Try.prog 41 0) (fr 24 [0, 1, 5, 6] (fillV s i) g) (fillM s i) (liveK [0, 1, 5, 6]) = some (0, 24, fillV s (i + 1), fillM s (i + 1)) := by
  have h := fill_round (lcgK s.a i) i s.n s.T s.T s.F (rowF s.F (fillB s.a) i) g
  rw [rw_lt hi, rw_ge, rw_next hi hn, rowF_step s.F (fillB s.a) i (v := IntKind.wrap .u8 (Int.fdiv (IntKind.wrap .u32 (IntKind.wrap .u32 (lcgK s.a i * 1664525) + 1013904223)) 16777216)) rfl] at h
  exact h
theorem fill_done (s : RwS) (g : List Sv) : ev Try.prog ΓM0 60 (fun _ => none) (roundOf Try.prog 41 0) (fr 24 [0, 1, 5, 6] (fillV s s.n) g) (fillM s s.n) (liveK [0, 1, 5, 6]) = some (2, 24, fillV s s.n, fillM s s.n) := by
  have h := fill_round (lcgK s.a s.n) s.n s.n s.T s.T s.F (rowF s.F (fillB s.a) s.n) g
  rw [rw_nlt] at h
  exact h
theorem fillL_ok : fillL.Ok Try.prog ΓM0 60 (roundOf Try.prog 41 0) := cntL_ok
  (fun s g i hs hi => by
    have hn : s.n ≤ 4096 := hs
    exact fill_more s g i hn hi)
  (fun s g hs => by
    have hn : s.n ≤ 4096 := hs
    exact fill_done s g)
def fillDec : (R : Type) → List Sv → List SObj → (RwS → Option R) → Option R := fun R l m k => match l with
  | [.v (.int .i64 n), .v (.int .u32 a), .sl 0 0 n1 n2, .v (.int .i64 i)] => (match m with
    | [.arr .u8 T n3 F] => bif (n == (n1 : Int)) && (Nat.beq n2 n1 && (Nat.beq n3 n1 && ((i == 0) && Nat.ble n1 4096))) then k ⟨a, n1, F, F, T, T⟩ else none
    | _ => none)
  | _ => none
theorem fillDec_ok : ∀ (R : Type) l m (k : RwS → Option R) r, fillDec R l m k = some r → ∃ s, k s = some r ∧ l = fillV s 0 ∧ m = fillM s 0 ∧ rwInv s := by
  intro R l m k r h
  unfold fillDec at h
  split at h
  · split at h
    · obtain ⟨hg, h2⟩ := cond_some h
      simp only [Bool.and_eq_true, beq_iff_eq, Nat.beq_eq, Nat.ble_eq] at hg
      obtain ⟨rfl, rfl, rfl, rfl, hn⟩ := hg
      exact ⟨_, h2, rfl, by unfold fillM; rw [rowF_zero], hn⟩
    · cases h
  · cases h
theorem lwr_round (a i : Int) (n : Nat) (T T2 : TypeId) (M F : Int → Int) (g : List Sv) :
    ev Try.prog ΓM0 60 (fun _ => none) (roundOf Try.prog 40 0) (fr 23 [0, 1, 8, 9, 10] [.ptr 0 0, .v (.int .u32 a), .sl 1 0 n n, .v (.int .i64 n), .v (.int .i64 i)] g) [.ext 0 M, .arr .u8 T n F] (liveK [0, 1, 8, 9, 10]) =
    (bif decide (i < ↑n) then
bif true && (decide (0 ≤ i) && decide (i < ↑n)) then
bif decide (i < ↑n) then
bif in32 (IntKind.wrap IntKind.u32 (a + IntKind.wrap IntKind.u32 i)) then
some
(0, 23,
[Sv.ptr 0 0, vw a, Sv.sl 1 0 n n, vi (↑n),
vi ((IntKind.wrap IntKind.i64 (i + 1)))],
[SObj.ext 0 (updM M (IntKind.wrap IntKind.u32 (a + IntKind.wrap IntKind.u32 i)) (F i)), SObj.arr IntKind.u8 T n F])
else none
else none
else none
else
some
(2, 23,
[Sv.ptr 0 0, vw a, Sv.sl 1 0 n n, vi (↑n),
vi i],
[SObj.ext 0 M, SObj.arr IntKind.u8 T n F])) := by kernel_rfl
def lwrV (s : RwS) (i : Nat) : List Sv := [.ptr 0 0, .v (.int .u32 s.a), .sl 1 0 s.n s.n, .v (.int .i64 s.n), .v (.int .i64 i)]
def lwrM (s : RwS) (i : Nat) : List SObj := [.ext 0 (wrM s.M s.a s.F i), .arr .u8 s.T s.n s.F]
def lwrL : Rounds (CntS RwS) (CntS RwS) := cntL 23 [0, 1, 8, 9, 10] RwS.n lwrV lwrM rwInv
theorem lwr_more (s : RwS) (g : List Sv) (i : Nat) (hn : s.n ≤ 4096) (hi : i < s.n) : ev Try.prog ΓM0 60 (fun _ => none) (roundOf Try.prog 40 0) (fr 23 [0, 1, 8, 9, 10] (lwrV s i) g) (lwrM s i) (liveK [0, 1, 8, 9, 10]) = some (0, 23, lwrV s (i + 1), lwrM s (i + 1)) := by
  have h := lwr_round s.a i s.n s.T s.T2 (wrM s.M s.a s.F i) s.F g
  rw [rw_lt hi] at h
  simp only [rw_ge, in32_wr, rw_next hi hn] at h
  rw [wrM_step s.M s.a s.F i (by omega) (rw_place hi hn)] at h
  exact h
theorem lwr_done (s : RwS) (g : List Sv) : ev Try.prog ΓM0 60 (fun _ => none) (roundOf Try.prog 40 0) (fr 23 [0, 1, 8, 9, 10] (lwrV s s.n) g) (lwrM s s.n) (liveK [0, 1, 8, 9, 10]) = some (2, 23, lwrV s s.n, lwrM s s.n) := by
  have h := lwr_round s.a s.n s.n s.T s.T2 (wrM s.M s.a s.F s.n) s.F g
  rw [rw_nlt] at h
  exact h
theorem lwrL_ok : lwrL.Ok Try.prog ΓM0 60 (roundOf Try.prog 40 0) := cntL_ok
  (fun s g i hs hi => by
    have hn : s.n ≤ 4096 := hs
    exact lwr_more s g i hn hi)
  (fun s g hs => by
    have hn : s.n ≤ 4096 := hs
    exact lwr_done s g)
def lwrDec : (R : Type) → List Sv → List SObj → (RwS → Option R) → Option R := fun R l m k => match l with
  | [.ptr 0 0, .v (.int .u32 a), .sl 1 0 n1 n2, .v (.int .i64 n), .v (.int .i64 i)] => (match m with
    | [.ext 0 M, .arr .u8 T n3 F] => bif (n == (n1 : Int)) && (Nat.beq n2 n1 && (Nat.beq n3 n1 && ((i == 0) && Nat.ble n1 4096))) then k ⟨a, n1, M, F, T, T⟩ else none
    | _ => none)
  | _ => none
theorem lwrDec_ok : ∀ (R : Type) l m (k : RwS → Option R) r, lwrDec R l m k = some r → ∃ s, k s = some r ∧ l = lwrV s 0 ∧ m = lwrM s 0 ∧ rwInv s := by
  intro R l m k r h
  unfold lwrDec at h
  split at h
  · split at h
    · obtain ⟨hg, h2⟩ := cond_some h
      simp only [Bool.and_eq_true, beq_iff_eq, Nat.beq_eq, Nat.ble_eq] at hg
      obtain ⟨rfl, rfl, rfl, rfl, hn⟩ := hg
      exact ⟨_, h2, rfl, by unfold lwrM; rw [wrM_zero], hn⟩
    · cases h
  · cases h
theorem lrd_round (a i : Int) (n : Nat) (T T2 : TypeId) (M F : Int → Int) (g : List Sv) :
    ev Try.prog ΓM0 60 (fun _ => none) (roundOf Try.prog 63 0) (fr 29 [0, 1, 7, 14, 15] [.ptr 0 0, .v (.int .u32 a), .sl 1 0 n n, .v (.int .i64 n), .v (.int .i64 i)] g) [.ext 0 M, .arr .u8 T n F] (liveK [0, 1, 7, 14, 15]) =
    (bif decide (i < ↑n) then
bif in32 (IntKind.wrap IntKind.u32 (a + IntKind.wrap IntKind.u32 i)) then
bif true && (decide (0 ≤ i) && decide (i < ↑n)) then
bif true && (true && decide (i < ↑n)) then
some
(0, 29,
[Sv.ptr 0 0, vw a, Sv.sl 1 0 n n, vi (↑n),
vi ((IntKind.wrap IntKind.i64 (i + 1)))],
[SObj.ext 0 M, SObj.arr IntKind.u8 T n (updM F i (M (IntKind.wrap IntKind.u32 (a + IntKind.wrap IntKind.u32 i))))])
else none
else none
else none
else
some
(2, 29,
[Sv.ptr 0 0, vw a, Sv.sl 1 0 n n, vi (↑n),
vi i],
[SObj.ext 0 M, SObj.arr IntKind.u8 T n F])) := by kernel_rfl
def lrdV (s : RwS) (i : Nat) : List Sv := [.ptr 0 0, .v (.int .u32 s.a), .sl 1 0 s.n s.n, .v (.int .i64 s.n), .v (.int .i64 i)]
def lrdM (s : RwS) (i : Nat) : List SObj := [.ext 0 s.M, .arr .u8 s.T s.n (rowF s.F (rdB s.M s.a) i)]
def lrdL : Rounds (CntS RwS) (CntS RwS) := cntL 29 [0, 1, 7, 14, 15] RwS.n lrdV lrdM rwInv
theorem lrd_more (s : RwS) (g : List Sv) (i : Nat) (hn : s.n ≤ 4096) (hi : i < s.n) : ev Try.prog ΓM0 60 (fun _ => none) (roundOf Try.prog 63 0) (fr 29 [0, 1, 7, 14, 15] (lrdV s i) g) (lrdM s i) (liveK [0, 1, 7, 14, 15]) = some (0, 29, lrdV s (i + 1), lrdM s (i + 1)) := by
  have h := lrd_round s.a i s.n s.T s.T2 s.M (rowF s.F (rdB s.M s.a) i) g
  rw [rw_lt hi] at h
  simp only [rw_ge, in32_wr, rw_next hi hn] at h
  rw [rowF_step s.F (rdB s.M s.a) i (v := s.M (IntKind.wrap .u32 (s.a + IntKind.wrap .u32 (i : Int)))) rfl] at h
  exact h
theorem lrd_done (s : RwS) (g : List Sv) : ev Try.prog ΓM0 60 (fun _ => none) (roundOf Try.prog 63 0) (fr 29 [0, 1, 7, 14, 15] (lrdV s s.n) g) (lrdM s s.n) (liveK [0, 1, 7, 14, 15]) = some (2, 29, lrdV s s.n, lrdM s s.n) := by
  have h := lrd_round s.a s.n s.n s.T s.T2 s.M (rowF s.F (rdB s.M s.a) s.n) g
  rw [rw_nlt] at h
  exact h
theorem lrdL_ok : lrdL.Ok Try.prog ΓM0 60 (roundOf Try.prog 63 0) := cntL_ok
  (fun s g i hs hi => by
    have hn : s.n ≤ 4096 := hs
    exact lrd_more s g i hn hi)
  (fun s g hs => by
    have hn : s.n ≤ 4096 := hs
    exact lrd_done s g)
def lrdDec : (R : Type) → List Sv → List SObj → (RwS → Option R) → Option R := fun R l m k => match l with
  | [.ptr 0 0, .v (.int .u32 a), .sl 1 0 n1 n2, .v (.int .i64 n), .v (.int .i64 i)] => (match m with
    | [.ext 0 M, .arr .u8 T n3 F] => bif (n == (n1 : Int)) && (Nat.beq n2 n1 && (Nat.beq n3 n1 && ((i == 0) && Nat.ble n1 4096))) then k ⟨a, n1, M, F, T, T⟩ else none
    | _ => none)
  | _ => none
theorem lrdDec_ok : ∀ (R : Type) l m (k : RwS → Option R) r, lrdDec R l m k = some r → ∃ s, k s = some r ∧ l = lrdV s 0 ∧ m = lrdM s 0 ∧ rwInv s := by
  intro R l m k r h
  unfold lrdDec at h
  split at h
  · split at h
    · obtain ⟨hg, h2⟩ := cond_some h
      simp only [Bool.and_eq_true, beq_iff_eq, Nat.beq_eq, Nat.ble_eq] at hg
      obtain ⟨rfl, rfl, rfl, rfl, hn⟩ := hg
      exact ⟨_, h2, rfl, by unfold lrdM; rw [rowF_zero], hn⟩
    · cases h
  · cases h
theorem lrwr_round (a i : Int) (n : Nat) (T T2 : TypeId) (M F : Int → Int) (g : List Sv) :
    ev Try.prog ΓM0 60 (fun _ => none) (roundOf Try.prog 84 0) (fr 25 [0, 1, 2, 6] [.ptr 0 0, .v (.int .u32 a), .sl 2 0 n n, .v (.int .i64 i)] g) [.cells [.mp 1] T2, .bm .u32 .u8 M, .arr .u8 T n F] (liveK [0, 1, 2, 6]) =
    (bif decide (i < ↑n) then
bif true && (decide (0 ≤ i) && decide (i < ↑n)) then
bif decide (i < ↑n) then
some
(0, 25,
[Sv.ptr 0 0, vw a, Sv.sl 2 0 n n,
vi ((IntKind.wrap IntKind.i64 (i + 1)))],
[SObj.cells [Sv.mp 1] T2,
SObj.bm IntKind.u32 IntKind.u8 (updM M (IntKind.wrap IntKind.u32 (a + IntKind.wrap IntKind.u32 i)) (F i)),
SObj.arr IntKind.u8 T n F])
else none
else none
else
some
(2, 25, [Sv.ptr 0 0, vw a, Sv.sl 2 0 n n, vi i],
[SObj.cells [Sv.mp 1] T2, SObj.bm IntKind.u32 IntKind.u8 M, SObj.arr IntKind.u8 T n F])) := by kernel_rfl
def lrwrV (s : RwS) (i : Nat) : List Sv := [.ptr 0 0, .v (.int .u32 s.a), .sl 2 0 s.n s.n, .v (.int .i64 i)]
def lrwrM (s : RwS) (i : Nat) : List SObj := [.cells [.mp 1] s.T2, .bm .u32 .u8 (wrM s.M s.a s.F i), .arr .u8 s.T s.n s.F]
def lrwrL : Rounds (CntS RwS) (CntS RwS) := cntL 25 [0, 1, 2, 6] RwS.n lrwrV lrwrM rwInv
theorem lrwr_more (s : RwS) (g : List Sv) (i : Nat) (hn : s.n ≤ 4096) (hi : i < s.n) : ev Try.prog ΓM0 60 (fun _ => none) (roundOf Try.prog 84 0) (fr 25 [0, 1, 2, 6] (lrwrV s i) g) (lrwrM s i) (liveK [0, 1, 2, 6]) = some (0, 25, lrwrV s (i + 1), lrwrM s (i + 1)) := by
  have h := lrwr_round s.a i s.n s.T s.T2 (wrM s.M s.a s.F i) s.F g
  rw [rw_lt hi] at h
  simp only [rw_ge, in32_wr, rw_next hi hn] at h
  rw [wrM_step s.M s.a s.F i (by omega) (rw_place hi hn)] at h
  exact h
theorem lrwr_done (s : RwS) (g : List Sv) : ev Try.prog ΓM0 60 (fun _ => none) (roundOf Try.prog 84 0) (fr 25 [0, 1, 2, 6] (lrwrV s s.n) g) (lrwrM s s.n) (liveK [0, 1, 2, 6]) = some (2, 25, lrwrV s s.n, lrwrM s s.n) := by
  have h := lrwr_round s.a s.n s.n s.T s.T2 (wrM s.M s.a s.F s.n) s.F g
  rw [rw_nlt] at h
  exact h
theorem lrwrL_ok : lrwrL.Ok Try.prog ΓM0 60 (roundOf Try.prog 84 0) := cntL_ok
  (fun s g i hs hi => by
    have hn : s.n ≤ 4096 := hs
    exact lrwr_more s g i hn hi)
  (fun s g hs => by
    have hn : s.n ≤ 4096 := hs
    exact lrwr_done s g)
def lrwrDec : (R : Type) → List Sv → List SObj → (RwS → Option R) → Option R := fun R l m k => match l with
  | [.ptr 0 0, .v (.int .u32 a), .sl 2 0 n1 n2, .v (.int .i64 i)] => (match m with
    | [.cells [.mp 1] T2, .bm .u32 .u8 M, .arr .u8 T n3 F] => bif Nat.beq n2 n1 && (Nat.beq n3 n1 && ((i == 0) && Nat.ble n1 4096)) then k ⟨a, n1, M, F, T, T2⟩ else none
    | _ => none)
  | _ => none
theorem lrwrDec_ok : ∀ (R : Type) l m (k : RwS → Option R) r, lrwrDec R l m k = some r → ∃ s, k s = some r ∧ l = lrwrV s 0 ∧ m = lrwrM s 0 ∧ rwInv s := by
  intro R l m k r h
  unfold lrwrDec at h
  split at h
  · split at h
    · obtain ⟨hg, h2⟩ := cond_some h
      simp only [Bool.and_eq_true, beq_iff_eq, Nat.beq_eq, Nat.ble_eq] at hg
      obtain ⟨rfl, rfl, rfl, hn⟩ := hg
      exact ⟨_, h2, rfl, by unfold lrwrM; rw [wrM_zero], hn⟩
    · cases h
  · cases h
theorem lrrd_round (a i : Int) (n : Nat) (T T2 : TypeId) (M F : Int → Int) (g : List Sv) :
    ev Try.prog ΓM0 60 (fun _ => none) (roundOf Try.prog 35 0) (fr 32 [0, 1, 2, 7, 8] [.ptr 0 0, .v (.int .u32 a), .v (.int .i64 n), .sl 2 0 n n, .v (.int .i64 i)] g) [.cells [.mp 1] T2, .bm .u32 .u8 M, .arr .u8 T n F] (liveK [0, 1, 2, 7, 8]) =
    (bif decide (i < ↑n) then
bif true && (decide (0 ≤ i) && decide (i < ↑n)) then
bif true && (true && decide (i < ↑n)) then
some
(0, 32,
[Sv.ptr 0 0, vw a, vi (↑n), Sv.sl 2 0 n n,
vi ((IntKind.wrap IntKind.i64 (i + 1)))],
[SObj.cells [Sv.mp 1] T2, SObj.bm IntKind.u32 IntKind.u8 M,
SObj.arr IntKind.u8 T n (updM F i (M (IntKind.wrap IntKind.u32 (a + IntKind.wrap IntKind.u32 i))))])
else none
else none
else
some
(2, 32,
[Sv.ptr 0 0, vw a, vi (↑n), Sv.sl 2 0 n n,
vi i],
[SObj.cells [Sv.mp 1] T2, SObj.bm IntKind.u32 IntKind.u8 M, SObj.arr IntKind.u8 T n F])) := by kernel_rfl
def lrrdV (s : RwS) (i : Nat) : List Sv := [.ptr 0 0, .v (.int .u32 s.a), .v (.int .i64 s.n), .sl 2 0 s.n s.n, .v (.int .i64 i)]
def lrrdM (s : RwS) (i : Nat) : List SObj := [.cells [.mp 1] s.T2, .bm .u32 .u8 s.M, .arr .u8 s.T s.n (rowF s.F (rdB s.M s.a) i)]
def lrrdL : Rounds (CntS RwS) (CntS RwS) := cntL 32 [0, 1, 2, 7, 8] RwS.n lrrdV lrrdM rwInv
theorem lrrd_more (s : RwS) (g : List Sv) (i : Nat) (hn : s.n ≤ 4096) (hi : i < s.n) : ev Try.prog ΓM0 60 (fun _ => none) (roundOf Try.prog 35 0) (fr 32 [0, 1, 2, 7, 8] (lrrdV s i) g) (lrrdM s i) (liveK [0, 1, 2, 7, 8]) = some (0, 32, lrrdV s (i + 1), lrrdM s (i + 1)) := by
  have h := lrrd_round s.a i s.n s.T s.T2 s.M (rowF s.F (rdB s.M s.a) i) g
  rw [rw_lt hi] at h
  simp only [rw_ge, in32_wr, rw_next hi hn] at h
  rw [rowF_step s.F (rdB s.M s.a) i (v := s.M (IntKind.wrap .u32 (s.a + IntKind.wrap .u32 (i : Int)))) rfl] at h
  exact h
theorem lrrd_done (s : RwS) (g : List Sv) : ev Try.prog ΓM0 60 (fun _ => none) (roundOf Try.prog 35 0) (fr 32 [0, 1, 2, 7, 8] (lrrdV s s.n) g) (lrrdM s s.n) (liveK [0, 1, 2, 7, 8]) = some (2, 32, lrrdV s s.n, lrrdM s s.n) := by
  have h := lrrd_round s.a s.n s.n s.T s.T2 s.M (rowF s.F (rdB s.M s.a) s.n) g
  rw [rw_nlt] at h
  exact h
theorem lrrdL_ok : lrrdL.Ok Try.prog ΓM0 60 (roundOf Try.prog 35 0) := cntL_ok
  (fun s g i hs hi => by
    have hn : s.n ≤ 4096 := hs
    exact lrrd_more s g i hn hi)
  (fun s g hs => by
    have hn : s.n ≤ 4096 := hs
    exact lrrd_done s g)
def lrrdDec : (R : Type) → List Sv → List SObj → (RwS → Option R) → Option R := fun R l m k => match l with
  | [.ptr 0 0, .v (.int .u32 a), .v (.int .i64 n), .sl 2 0 n1 n2, .v (.int .i64 i)] => (match m with
    | [.cells [.mp 1] T2, .bm .u32 .u8 M, .arr .u8 T n3 F] => bif (n == (n1 : Int)) && (Nat.beq n2 n1 && (Nat.beq n3 n1 && ((i == 0) && Nat.ble n1 4096))) then k ⟨a, n1, M, F, T, T2⟩ else none
    | _ => none)
  | _ => none
theorem lrrdDec_ok : ∀ (R : Type) l m (k : RwS → Option R) r, lrrdDec R l m k = some r → ∃ s, k s = some r ∧ l = lrrdV s 0 ∧ m = lrrdM s 0 ∧ rwInv s := by
  intro R l m k r h
  unfold lrrdDec at h
  split at h
  · split at h
    · obtain ⟨hg, h2⟩ := cond_some h
      simp only [Bool.and_eq_true, beq_iff_eq, Nat.beq_eq, Nat.ble_eq] at hg
      obtain ⟨rfl, rfl, rfl, rfl, hn⟩ := hg
      exact ⟨_, h2, rfl, by unfold lrrdM; rw [rowF_zero], hn⟩
    · cases h
  · cases h
noncomputable def ΓMh : Env := (((((ΓM0.hook 41 0 (cntHook Try.prog X0 fillL RwS.n 0 (roundOf Try.prog 41 0) fillDec)).hook 40 0 (cntHook Try.prog X0 lwrL RwS.n 0 (roundOf Try.prog 40 0) lwrDec)).hook 63 0 (cntHook Try.prog X0 lrdL RwS.n 0 (roundOf Try.prog 63 0) lrdDec)).hook 84 0 (cntHook Try.prog X0 lrwrL RwS.n 0 (roundOf Try.prog 84 0) lrwrDec)).hook 35 0 (cntHook Try.prog X0 lrrdL RwS.n 0 (roundOf Try.prog 35 0) lrrdDec))
theorem ΓMh_ok : EnvOk Try.prog X0 ΓMh := (((((ΓM0_ok.hook (a := .loop (roundOf Try.prog 41 0)) (by kernel_rfl) (cntHook_ok ΓM0_ok fillL_ok fillDec_ok)).hook (a := .loop (roundOf Try.prog 40 0)) (by kernel_rfl) (cntHook_ok ΓM0_ok lwrL_ok lwrDec_ok)).hook (a := .loop (roundOf Try.prog 63 0)) (by kernel_rfl) (cntHook_ok ΓM0_ok lrdL_ok lrdDec_ok)).hook (a := .loop (roundOf Try.prog 84 0)) (by kernel_rfl) (cntHook_ok ΓM0_ok lrwrL_ok lrwrDec_ok)).hook (a := .loop (roundOf Try.prog 35 0)) (by kernel_rfl) (cntHook_ok ΓM0_ok lrrdL_ok lrrdDec_ok))
end Go.Proofs.Ytpgdpoloipifeaa
