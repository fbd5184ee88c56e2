/- The rows of pushes and of pops. -/
import Derived.Test.YtjcbgjakomalaaaCSre
namespace Go.Proofs.Ytjcbgjakomalaaa
open Go Go.Ev
set_option linter.unusedVariables false
set_option linter.unusedSimpArgs false
set_option maxRecDepth 100000
def roF (f : Nat → Value) : Nat → Value := fun k => .int .u32 (toI (f k))
structure SrS where
  off : Nat
  len : Nat
  cap : Nat
  f : Nat → Value
  M : Int → Int
  D : Int → Int
  R : Int → Int
  R2 : Int → Int
  e : Int
  e1 : Int
def eqSv : Sv → Sv → Bool
  | .v (.int k a), .v (.int k' a') => decide (k = k') && (a == a')
  | .v (.bool a), .v (.bool b) => a == b
  | .ptr b o, .ptr b' o' => Nat.beq b b' && Nat.beq o o'
  | _, _ => false
theorem eqSv_eq : ∀ {a b : Sv}, eqSv a b = true → a = b := by
  intro a b h
  unfold eqSv at h
  split at h
  · simp only [Bool.and_eq_true, decide_eq_true_eq, beq_iff_eq] at h; rw [h.1, h.2]
  · rw [beq_iff_eq.1 h]
  · simp only [Bool.and_eq_true, natB] at h; rw [h.1, h.2]
  · cases h
def eqSvL : List Sv → List Sv → Bool
  | [], [] => true
  | a :: l, b :: l' => eqSv a b && eqSvL l l'
  | _, _ => false
theorem eqSvL_eq : ∀ {a b : List Sv}, eqSvL a b = true → a = b
  | [], [], _ => rfl
  | a :: l, b :: l', h => by
    simp only [eqSvL, Bool.and_eq_true] at h
    rw [eqSv_eq h.1, eqSvL_eq h.2]
  | [], _ :: _, h => by cases h
  | _ :: _, [], h => by cases h
def stC (e : Int) : List Sv := [.v (.int .u32 0), .v (.int .u32 0), .v (.int .u32 0), .v (.int .u32 0), .v (.int .u32 e), .v (.int .u32 0), .v (.int .u32 0), .v (.int .u32 0), .v (.int .u32 0), .v (.bool false), .v (.bool false), .v (.bool false), .v (.bool false), .v (.bool false), .v (.bool false), .v (.int .u64 0), .v (.int .u64 0), .v (.int .u64 0), .v (.int .u64 0), .v (.int .u64 0), .v (.int .u64 0), .v (.int .u64 0), .v (.int .u64 0)]
theorem setN_setN : ∀ (t : List Sv) (d : Nat) (x y : Sv), setN (setN t d x) d y = setN t d y
  | [], _, _, _ => rfl
  | _ :: _, 0, _, _ => rfl
  | a :: t, d + 1, x, y => by simp only [setN]; rw [setN_setN]
theorem isSt_eq {c : List Sv} {e : Int} (h2 : eqSvL (setN c 4 (.v (.int .u32 0))) (stC 0) = true) (he : nth c 4 = .v (.int .u32 e)) : c = stC e := by
  have h3 := eqSvL_eq h2
  have h4 : c = setN (setN c 4 (.v (.int .u32 0))) 4 (nth c 4) := by rw [setN_setN, setN_nth']
  rw [h3, he] at h4
  exact h4
def dnV (e : Int) (i : Nat) : Int := e - 4 * (i : Int)
def upV (e : Int) (i : Nat) : Int := e + 4 * (i : Int)
def roomV (e : Int) (n : Nat) : Bool := decide (0 ≤ e - 4 * (n : Int)) && decide (e - 4 * (n : Int) < 16)
theorem roomV_iff {e : Int} {n : Nat} : roomV e n = true ↔ 0 ≤ e - 4 * (n : Int) ∧ e - 4 * (n : Int) < 16 := by unfold roomV; simp only [Bool.and_eq_true, decide_eq_true_eq]
def pushM (f : Nat → Value) (off : Nat) (e : Int) (M : Int → Int) : Nat → Int → Int
  | 0 => M
  | i + 1 => stV (pushM f off e M i) 36864 256 (dnV e (i + 1)) 4 (IntKind.wrap .u64 (toI (f (off + i)))) true
def popOk (f : Nat → Value) (off len : Nat) (e : Int) (M : Int → Int) : Nat → Bool
  | 0 => true
  | i + 1 => (IntKind.wrap .u32 (ldV M 36864 256 (upV e i) 4 true) == toI (f (off + (len - 1 - i)))) && popOk f off len e M i
theorem popOk_get {f : Nat → Value} {off len : Nat} {e : Int} {M : Int → Int} : ∀ {n i : Nat}, popOk f off len e M n = true → i < n → IntKind.wrap .u32 (ldV M 36864 256 (upV e i) 4 true) = toI (f (off + (len - 1 - i)))
  | n + 1, i, h, hi => by
    simp only [popOk, Bool.and_eq_true, beq_iff_eq] at h
    by_cases e : i = n
    · subst e; exact h.1
    · exact popOk_get h.2 (by omega)
theorem skOk4 {p : Int} (h0 : 0 ≤ p) (h1 : p + 4 ≤ 256) : skOk 36864 256 p true = true := by
  unfold skOk
  have := seg4 h0 h1
  rw [show ((bytesN 4 : Nat) : Int) = 4 from rfl] at this
  rw [this]; rfl
theorem sr0_form (off len cap : Nat) (H : Nat → Int) (M D R R2 : Int → Int) (e0 : Int) (e j : Int) (g : List Value) :
    ev Try.prog ΓSr0 60 (fun _ => none) (roundOf Try.prog 4 0) (frV 95 [0, 5, 7, 8, 9] [.sl 0 off len cap, .ptr 13 0, .ptr 14 0, .ptr 15 0, .v (.int .i64 j)] g) [.ro off len (fun i => .int .u32 (H i)), .bm .u32 .u8 D, .cells [.mp 1] 137, .arr .u8 5 256 R, .dead, .dead, .cells [.ptr 2 0, .v (.int .u32 16384), .v (.int .u32 4096), .v (.bool false), .v (.bool false), .v (.bool true), .v (.int .u32 36864), .v (.int .u32 256), .v (.bool true), .v (.bool true), .v (.bool false)] 82, .ext 0 M, .arr .u8 5 256 R2, .dead, .dead, .cells [.v (.int .u32 16384), .v (.int .u32 4096), .v (.bool false), .v (.bool false), .v (.bool true)] 24, .cells [.v (.int .u32 36864), .v (.int .u32 256), .v (.bool true), .v (.bool true), .v (.bool false)] 24, .cells [.ptr 7 0, .v (.int .u32 16384), .v (.int .u32 4096), .v (.bool false), .v (.bool false), .v (.bool true), .v (.int .u32 36864), .v (.int .u32 256), .v (.bool true), .v (.bool true), .v (.bool false)] 103, .cells [.v (.int .u32 0), .v (.int .u32 0), .v (.int .u32 0), .v (.int .u32 0), .v (.int .u32 e), .v (.int .u32 0), .v (.int .u32 0), .v (.int .u32 0), .v (.int .u32 0), .v (.bool false), .v (.bool false), .v (.bool false), .v (.bool false), .v (.bool false), .v (.bool false), .v (.int .u64 0), .v (.int .u64 0), .v (.int .u64 0), .v (.int .u64 0), .v (.int .u64 0), .v (.int .u64 0), .v (.int .u64 0), .v (.int .u64 0)] 46, .cells [.v (.int .u32 0), .v (.int .u32 0), .v (.int .u32 0), .v (.int .u32 0), .v (.int .u32 e0), .v (.int .u32 0), .v (.int .u32 0), .v (.int .u32 0), .v (.int .u32 0), .v (.bool false), .v (.bool false), .v (.bool false), .v (.bool false), .v (.bool false), .v (.bool false), .v (.int .u64 0), .v (.int .u64 0), .v (.int .u64 0), .v (.int .u64 0), .v (.int .u64 0), .v (.int .u64 0), .v (.int .u64 0), .v (.int .u64 0)] 46] (liveD [0, 5, 7, 8, 9] 16) =
    (bif decide (j < ↑len) then
bif true && (decide (0 ≤ j) && decide (j < ↑len)) then
bif decide (off ≤ off + Int.toNat j) && decide (off + Int.toNat j < off + len) then
bif
true &&
(true &&
(true && (true && (in32 e && (true && (true && (true && (true && (true && in32 (H (off + Int.toNat j))))))))))) &&
true then
bif endV (skOk 36864 256 (IntKind.wrap IntKind.u32 (e - 4)) true) != 0 then
some
(1, 95, [Sv.sl 0 off len cap, Sv.ptr 13 0, Sv.ptr 14 0, Sv.ptr 15 0, vi j],
[SObj.ro off len fun i => Value.int IntKind.u32 (H i), SObj.bm IntKind.u32 IntKind.u8 D, SObj.cells [Sv.mp 1] 137,
SObj.arr IntKind.u8 5 256 R, SObj.dead, SObj.dead,
SObj.cells
[Sv.ptr 2 0, vw 16384, vw 4096, vb false,
vb false, vb true, vw 36864, vw 256,
vb true, vb true, vb false]
82,
SObj.ext 0
(stV M 36864 256 (IntKind.wrap IntKind.u32 (e - 4)) 4 (IntKind.wrap IntKind.u64 (H (off + Int.toNat j))) true),
SObj.arr IntKind.u8 5 256 R2, SObj.dead, SObj.dead,
SObj.cells
[vw 16384, vw 4096, vb false,
vb false, vb true]
24,
SObj.cells
[vw 36864, vw 256, vb true, vb true,
vb false]
24,
SObj.cells
[Sv.ptr 7 0, vw 16384, vw 4096, vb false,
vb false, vb true, vw 36864, vw 256,
vb true, vb true, vb false]
103,
SObj.cells
[vw 0, vw 0, vw 0,
vw 0, vw e, vw 0,
vw 0, vw 0, vw 0, vb false,
vb false, vb false, vb false, vb false,
vb false, vd 0, vd 0, vd 0,
vd 0, vd 0, vd 0,
vd 0, vd 0]
46,
SObj.cells
[vw 0, vw 0, vw 0,
vw 0, vw e0, vw 0,
vw 0, vw 0, vw 0, vb false,
vb false, vb false, vb false, vb false,
vb false, vd 0, vd 0, vd 0,
vd 0, vd 0, vd 0,
vd 0, vd 0]
46])
else
some
(0, 95,
[Sv.sl 0 off len cap, Sv.ptr 13 0, Sv.ptr 14 0, Sv.ptr 15 0,
vi ((IntKind.wrap IntKind.i64 (j + 1)))],
[SObj.ro off len fun i => Value.int IntKind.u32 (H i), SObj.bm IntKind.u32 IntKind.u8 D, SObj.cells [Sv.mp 1] 137,
SObj.arr IntKind.u8 5 256 R, SObj.dead, SObj.dead,
SObj.cells
[Sv.ptr 2 0, vw 16384, vw 4096, vb false,
vb false, vb true, vw 36864, vw 256,
vb true, vb true, vb false]
82,
SObj.ext 0
(stV M 36864 256 (IntKind.wrap IntKind.u32 (e - 4)) 4 (IntKind.wrap IntKind.u64 (H (off + Int.toNat j))) true),
SObj.arr IntKind.u8 5 256 R2, SObj.dead, SObj.dead,
SObj.cells
[vw 16384, vw 4096, vb false,
vb false, vb true]
24,
SObj.cells
[vw 36864, vw 256, vb true, vb true,
vb false]
24,
SObj.cells
[Sv.ptr 7 0, vw 16384, vw 4096, vb false,
vb false, vb true, vw 36864, vw 256,
vb true, vb true, vb false]
103,
SObj.cells
[vw 0, vw 0, vw 0,
vw 0,
vw ((puV e (skOk 36864 256 (IntKind.wrap IntKind.u32 (e - 4)) true))),
vw 0, vw 0, vw 0,
vw 0, vb false, vb false, vb false,
vb false, vb false, vb false, vd 0,
vd 0, vd 0, vd 0,
vd 0, vd 0, vd 0,
vd 0]
46,
SObj.cells
[vw 0, vw 0, vw 0,
vw 0, vw e0, vw 0,
vw 0, vw 0, vw 0, vb false,
vb false, vb false, vb false, vb false,
vb false, vd 0, vd 0, vd 0,
vd 0, vd 0, vd 0,
vd 0, vd 0]
46])
else none
else none
else none
else
some
(2, 95, [Sv.sl 0 off len cap, Sv.ptr 13 0, Sv.ptr 14 0, Sv.ptr 15 0, vi j],
[SObj.ro off len fun i => Value.int IntKind.u32 (H i), SObj.bm IntKind.u32 IntKind.u8 D, SObj.cells [Sv.mp 1] 137,
SObj.arr IntKind.u8 5 256 R, SObj.dead, SObj.dead,
SObj.cells
[Sv.ptr 2 0, vw 16384, vw 4096, vb false,
vb false, vb true, vw 36864, vw 256,
vb true, vb true, vb false]
82,
SObj.ext 0 M, SObj.arr IntKind.u8 5 256 R2, SObj.dead, SObj.dead,
SObj.cells
[vw 16384, vw 4096, vb false,
vb false, vb true]
24,
SObj.cells
[vw 36864, vw 256, vb true, vb true,
vb false]
24,
SObj.cells
[Sv.ptr 7 0, vw 16384, vw 4096, vb false,
vb false, vb true, vw 36864, vw 256,
vb true, vb true, vb false]
103,
SObj.cells
[vw 0, vw 0, vw 0,
vw 0, vw e, vw 0,
vw 0, vw 0, vw 0, vb false,
vb false, vb false, vb false, vb false,
vb false, vd 0, vd 0, vd 0,
vd 0, vd 0, vd 0,
vd 0, vd 0]
46,
SObj.cells
[vw 0, vw 0, vw 0,
vw 0, vw e0, vw 0,
vw 0, vw 0, vw 0, vb false,
vb false, vb false, vb false, vb false,
vb false, vd 0, vd 0, vd 0,
vd 0, vd 0, vd 0,
vd 0, vd 0]
46])) := by kernel_rfl
def sr0V (s : SrS) (i : Nat) : List Sv := [.sl 0 s.off s.len s.cap, .ptr 13 0, .ptr 14 0, .ptr 15 0, .v (.int .i64 (i : Int))]
def sr0M (s : SrS) (i : Nat) : List SObj := [.ro s.off s.len (roF s.f), .bm .u32 .u8 s.D, .cells [.mp 1] 137, .arr .u8 5 256 s.R, .dead, .dead, .cells [.ptr 2 0, .v (.int .u32 16384), .v (.int .u32 4096), .v (.bool false), .v (.bool false), .v (.bool true), .v (.int .u32 36864), .v (.int .u32 256), .v (.bool true), .v (.bool true), .v (.bool false)] 82, .ext 0 (pushM s.f s.off s.e s.M i), .arr .u8 5 256 s.R2, .dead, .dead, .cells [.v (.int .u32 16384), .v (.int .u32 4096), .v (.bool false), .v (.bool false), .v (.bool true)] 24, .cells [.v (.int .u32 36864), .v (.int .u32 256), .v (.bool true), .v (.bool true), .v (.bool false)] 24, .cells [.ptr 7 0, .v (.int .u32 16384), .v (.int .u32 4096), .v (.bool false), .v (.bool false), .v (.bool true), .v (.int .u32 36864), .v (.int .u32 256), .v (.bool true), .v (.bool true), .v (.bool false)] 103, .cells [.v (.int .u32 0), .v (.int .u32 0), .v (.int .u32 0), .v (.int .u32 0), .v (.int .u32 (dnV s.e i)), .v (.int .u32 0), .v (.int .u32 0), .v (.int .u32 0), .v (.int .u32 0), .v (.bool false), .v (.bool false), .v (.bool false), .v (.bool false), .v (.bool false), .v (.bool false), .v (.int .u64 0), .v (.int .u64 0), .v (.int .u64 0), .v (.int .u64 0), .v (.int .u64 0), .v (.int .u64 0), .v (.int .u64 0), .v (.int .u64 0)] 46, .cells [.v (.int .u32 0), .v (.int .u32 0), .v (.int .u32 0), .v (.int .u32 0), .v (.int .u32 s.e1), .v (.int .u32 0), .v (.int .u32 0), .v (.int .u32 0), .v (.int .u32 0), .v (.bool false), .v (.bool false), .v (.bool false), .v (.bool false), .v (.bool false), .v (.bool false), .v (.int .u64 0), .v (.int .u64 0), .v (.int .u64 0), .v (.int .u64 0), .v (.int .u64 0), .v (.int .u64 0), .v (.int .u64 0), .v (.int .u64 0)] 46]
def sr0Inv (s : SrS) : Prop := s.len ≤ 60 ∧ 0 ≤ s.e - 4 * (s.len : Int) ∧ s.e - 4 * (s.len : Int) < 16 ∧ allK s.f s.off s.len = true
def sr0L := cntE 95 [0, 5, 7, 8, 9] SrS.len sr0V sr0M sr0Inv 1
theorem sr0more (s : SrS) (g : List Value) (i : Nat) (h : sr0Inv s) (hi : i < s.len) : ev Try.prog ΓSr0 60 (fun _ => none) (roundOf Try.prog 4 0) (frV 95 [0, 5, 7, 8, 9] (sr0V s i) g) (sr0M s i) (liveD [0, 5, 7, 8, 9] 16) = some (0, 95, sr0V s (i + 1), sr0M s (i + 1)) := by
  obtain ⟨hl, he0, he1, ha⟩ := h
  refine (sr0_form s.off s.len s.cap (fun k => toI (s.f k)) (pushM s.f s.off s.e s.M i) s.D s.R s.R2 s.e1 (dnV s.e i) (i : Int) g).trans ?_
  have h1 : decide ((i : Int) < (s.len : Int)) = true := decide_eq_true (by omega)
  have h2 : decide ((0 : Int) ≤ (i : Int)) = true := decide_eq_true (by omega)
  have h3 : decide (s.off ≤ s.off + i) = true := decide_eq_true (by omega)
  have h4 : decide (s.off + i < s.off + s.len) = true := decide_eq_true (by omega)
  have h5 := (allK_get ha hi).2
  have h6 : in32 (dnV s.e i) = true := in32_iff.2 (by unfold dnV; omega)
  have w : IntKind.wrap .u32 (dnV s.e i - 4) = dnV s.e (i + 1) := by unfold dnV; rw [wr_u32]; omega
  have ok : skOk 36864 256 (dnV s.e (i + 1)) true = true := skOk4 (by unfold dnV; omega) (by unfold dnV; omega)
  have wj : IntKind.wrap .i64 ((i : Int) + 1) = ((i + 1 : Nat) : Int) := wr_i64_id (by omega) (by omega)
  simp only [Int.toNat_natCast, h1, h2, h3, h4, h5, h6, w, ok, wj, endV, puV, Bool.and_self, cond_true, bne, beq_self_eq_true, Bool.not_true, cond_false]
  rfl
theorem sr0done (s : SrS) (g : List Value) (h : sr0Inv s) : ev Try.prog ΓSr0 60 (fun _ => none) (roundOf Try.prog 4 0) (frV 95 [0, 5, 7, 8, 9] (sr0V s s.len) g) (sr0M s s.len) (liveD [0, 5, 7, 8, 9] 16) = some (2, 95, sr0V s s.len, sr0M s s.len) := by
  obtain ⟨hl, he0, he1, ha⟩ := h
  refine (sr0_form s.off s.len s.cap (fun k => toI (s.f k)) (pushM s.f s.off s.e s.M s.len) s.D s.R s.R2 s.e1 (dnV s.e s.len) (s.len : Int) g).trans ?_
  have h1 : decide ((s.len : Int) < (s.len : Int)) = false := decide_eq_false (by omega)
  simp only [h1, cond_false]
  rfl
theorem sr0L_ok : sr0L.OkV Try.prog ΓSr0 60 (roundOf Try.prog 4 0) 16 := cntE_okV sr0more sr0done fun s i _ _ => ⟨rfl, rfl, rfl⟩
def sr0Dec : (R : Type) → List Sv → List SObj → (SrS → Option R) → Option R := fun X l m k => match l with
  | [.sl q off len cap, .ptr b1 z1, .ptr b2 z2, .ptr b3 z3, .v (.int .i64 z)] => (match m with
    | [.ro ro rn f, .bm .u32 .u8 D, .cells [.mp q0] t0, .arr .u8 q1 n1 R, .dead, .dead, .cells c6 t6, .ext 0 M, .arr .u8 q2 n2 R2, .dead, .dead, .cells c11 t11, .cells c12 t12, .cells c13 t13, .cells c14 t14, .cells c15 t15] => (match nth c14 4 with
      | .v (.int .u32 e) => (match nth c15 4 with
        | .v (.int .u32 e1) => bif Nat.beq q 0 && (Nat.beq b1 13 && (Nat.beq z1 0 && (Nat.beq b2 14 && (Nat.beq z2 0 && (Nat.beq b3 15 && (Nat.beq z3 0 && (Nat.beq q0 1 && (Nat.beq t0 137 && (Nat.beq q1 5 && (Nat.beq n1 256 && (Nat.beq q2 5 && (Nat.beq n2 256 && (Nat.beq t6 82 && (Nat.beq t11 24 && (Nat.beq t12 24 && (Nat.beq t13 103 && (Nat.beq t14 46 && (Nat.beq t15 46 && (eqSvL c6 [.ptr 2 0, .v (.int .u32 16384), .v (.int .u32 4096), .v (.bool false), .v (.bool false), .v (.bool true), .v (.int .u32 36864), .v (.int .u32 256), .v (.bool true), .v (.bool true), .v (.bool false)] && (eqSvL c11 [.v (.int .u32 16384), .v (.int .u32 4096), .v (.bool false), .v (.bool false), .v (.bool true)] && (eqSvL c12 [.v (.int .u32 36864), .v (.int .u32 256), .v (.bool true), .v (.bool true), .v (.bool false)] && (eqSvL c13 [.ptr 7 0, .v (.int .u32 16384), .v (.int .u32 4096), .v (.bool false), .v (.bool false), .v (.bool true), .v (.int .u32 36864), .v (.int .u32 256), .v (.bool true), .v (.bool true), .v (.bool false)] && (eqSvL (setN c14 4 (.v (.int .u32 0))) [.v (.int .u32 0), .v (.int .u32 0), .v (.int .u32 0), .v (.int .u32 0), .v (.int .u32 0), .v (.int .u32 0), .v (.int .u32 0), .v (.int .u32 0), .v (.int .u32 0), .v (.bool false), .v (.bool false), .v (.bool false), .v (.bool false), .v (.bool false), .v (.bool false), .v (.int .u64 0), .v (.int .u64 0), .v (.int .u64 0), .v (.int .u64 0), .v (.int .u64 0), .v (.int .u64 0), .v (.int .u64 0), .v (.int .u64 0)] && (eqSvL (setN c15 4 (.v (.int .u32 0))) [.v (.int .u32 0), .v (.int .u32 0), .v (.int .u32 0), .v (.int .u32 0), .v (.int .u32 0), .v (.int .u32 0), .v (.int .u32 0), .v (.int .u32 0), .v (.int .u32 0), .v (.bool false), .v (.bool false), .v (.bool false), .v (.bool false), .v (.bool false), .v (.bool false), .v (.int .u64 0), .v (.int .u64 0), .v (.int .u64 0), .v (.int .u64 0), .v (.int .u64 0), .v (.int .u64 0), .v (.int .u64 0), .v (.int .u64 0)] && (decide (ro = off) && (decide (rn = len) && ((z == 0) && (allK f off len && (decide (len ≤ 60) && (roomV e len)))))))))))))))))))))))))))))) then k ⟨off, len, cap, f, M, D, R, R2, e, e1⟩ else none
        | _ => none)
      | _ => none)
    | _ => none)
  | _ => none
theorem sr0Dec_ok : ∀ (R : Type) l m (k : SrS → Option R) r, sr0Dec R l m k = some r → ∃ s, k s = some r ∧ l = sr0V s 0 ∧ RepLe X0 m (sr0M s 0) ∧ sr0Inv s := by
  intro R l m k r h
  unfold sr0Dec at h
  split at h
  · split at h
    · split at h
      · rename_i he4
        split at h
        · rename_i he5
          obtain ⟨hg, h2⟩ := cond_some h
          simp only [Bool.and_eq_true, decide_eq_true_eq, natB, beq_iff_eq] at hg
          obtain ⟨rfl, rfl, rfl, rfl, rfl, rfl, rfl, rfl, rfl, rfl, rfl, rfl, rfl, rfl, rfl, rfl, rfl, rfl, rfl, g6, g11, g12, g13, g14, g15, rfl, rfl, rfl, ha, hl, he⟩ := hg
          obtain rfl := eqSvL_eq g6
          obtain rfl := eqSvL_eq g11
          obtain rfl := eqSvL_eq g12
          obtain rfl := eqSvL_eq g13
          refine ⟨_, h2, ?_, ?_, ?_⟩
          · rfl
          · rw [isSt_eq g14 he4, isSt_eq g15 he5]
            refine fun ρ own w hr => ?_
            have := ro_le ha _ ρ own w hr
            simp only [sr0M, pushM, dnV, Int.ofNat_zero, Int.mul_zero, Int.sub_zero]
            exact this
          · have hr := roomV_iff.1 he
            exact ⟨hl, hr.1, hr.2, ha⟩
        · cases h
      · cases h
    · cases h
  · cases h
theorem sr2_form (off len cap : Nat) (H : Nat → Int) (M D R R2 : Int → Int) (e0 : Int) (e j : Int) (g : List Value) :
    ev Try.prog ΓSr0 60 (fun _ => none) (roundOf Try.prog 4 2) (frV 95 [0, 5, 7, 8, 12] [.sl 0 off len cap, .ptr 13 0, .ptr 14 0, .ptr 15 0, .v (.int .i64 j)] g) [.ro off len (fun i => .int .u32 (H i)), .bm .u32 .u8 D, .cells [.mp 1] 137, .arr .u8 5 256 R, .dead, .dead, .cells [.ptr 2 0, .v (.int .u32 16384), .v (.int .u32 4096), .v (.bool false), .v (.bool false), .v (.bool true), .v (.int .u32 36864), .v (.int .u32 256), .v (.bool true), .v (.bool true), .v (.bool false)] 82, .ext 0 M, .arr .u8 5 256 R2, .dead, .dead, .cells [.v (.int .u32 16384), .v (.int .u32 4096), .v (.bool false), .v (.bool false), .v (.bool true)] 24, .cells [.v (.int .u32 36864), .v (.int .u32 256), .v (.bool true), .v (.bool true), .v (.bool false)] 24, .cells [.ptr 7 0, .v (.int .u32 16384), .v (.int .u32 4096), .v (.bool false), .v (.bool false), .v (.bool true), .v (.int .u32 36864), .v (.int .u32 256), .v (.bool true), .v (.bool true), .v (.bool false)] 103, .cells [.v (.int .u32 0), .v (.int .u32 0), .v (.int .u32 0), .v (.int .u32 0), .v (.int .u32 e), .v (.int .u32 0), .v (.int .u32 0), .v (.int .u32 0), .v (.int .u32 0), .v (.bool false), .v (.bool false), .v (.bool false), .v (.bool false), .v (.bool false), .v (.bool false), .v (.int .u64 0), .v (.int .u64 0), .v (.int .u64 0), .v (.int .u64 0), .v (.int .u64 0), .v (.int .u64 0), .v (.int .u64 0), .v (.int .u64 0)] 46, .cells [.v (.int .u32 0), .v (.int .u32 0), .v (.int .u32 0), .v (.int .u32 0), .v (.int .u32 e0), .v (.int .u32 0), .v (.int .u32 0), .v (.int .u32 0), .v (.int .u32 0), .v (.bool false), .v (.bool false), .v (.bool false), .v (.bool false), .v (.bool false), .v (.bool false), .v (.int .u64 0), .v (.int .u64 0), .v (.int .u64 0), .v (.int .u64 0), .v (.int .u64 0), .v (.int .u64 0), .v (.int .u64 0), .v (.int .u64 0)] 46, .dead] (liveD [0, 5, 7, 8, 12] 17) =
    (bif decide (j ≥ 0) then
bif true && (true && (true && (true && (in32 e && true)))) && true then
bif endV (skOk 36864 256 e true) != 0 then
some
(1, 95, [Sv.sl 0 off len cap, Sv.ptr 13 0, Sv.ptr 14 0, Sv.ptr 15 0, vi j],
[SObj.ro off len fun i => Value.int IntKind.u32 (H i), SObj.bm IntKind.u32 IntKind.u8 D, SObj.cells [Sv.mp 1] 137,
SObj.arr IntKind.u8 5 256 R, SObj.dead, SObj.dead,
SObj.cells
[Sv.ptr 2 0, vw 16384, vw 4096, vb false,
vb false, vb true, vw 36864, vw 256,
vb true, vb true, vb false]
82,
SObj.ext 0 M, SObj.arr IntKind.u8 5 256 R2, SObj.dead, SObj.dead,
SObj.cells
[vw 16384, vw 4096, vb false,
vb false, vb true]
24,
SObj.cells
[vw 36864, vw 256, vb true, vb true,
vb false]
24,
SObj.cells
[Sv.ptr 7 0, vw 16384, vw 4096, vb false,
vb false, vb true, vw 36864, vw 256,
vb true, vb true, vb false]
103,
SObj.cells
[vw 0, vw 0, vw 0,
vw 0, vw e, vw 0,
vw 0, vw 0, vw 0, vb false,
vb false, vb false, vb false, vb false,
vb false, vd 0, vd 0, vd 0,
vd 0, vd 0, vd 0,
vd 0, vd 0]
46,
SObj.cells
[vw 0, vw 0, vw 0,
vw 0, vw e0, vw 0,
vw 0, vw 0, vw 0, vb false,
vb false, vb false, vb false, vb false,
vb false, vd 0, vd 0, vd 0,
vd 0, vd 0, vd 0,
vd 0, vd 0]
46,
SObj.dead])
else
bif true && (decide (0 ≤ j) && decide (j < ↑len)) then
bif decide (off ≤ off + Int.toNat j) && decide (off + Int.toNat j < off + len) then
bif orV (IntKind.wrap IntKind.u32 (ldV M 36864 256 e 4 true)) (skOk 36864 256 e true) != H (off + Int.toNat j) then
some
(1, 95, [Sv.sl 0 off len cap, Sv.ptr 13 0, Sv.ptr 14 0, Sv.ptr 15 0, vi j],
[SObj.ro off len fun i => Value.int IntKind.u32 (H i), SObj.bm IntKind.u32 IntKind.u8 D, SObj.cells [Sv.mp 1] 137,
SObj.arr IntKind.u8 5 256 R, SObj.dead, SObj.dead,
SObj.cells
[Sv.ptr 2 0, vw 16384, vw 4096, vb false,
vb false, vb true, vw 36864, vw 256,
vb true, vb true, vb false]
82,
SObj.ext 0 M, SObj.arr IntKind.u8 5 256 R2, SObj.dead, SObj.dead,
SObj.cells
[vw 16384, vw 4096, vb false,
vb false, vb true]
24,
SObj.cells
[vw 36864, vw 256, vb true, vb true,
vb false]
24,
SObj.cells
[Sv.ptr 7 0, vw 16384, vw 4096, vb false,
vb false, vb true, vw 36864, vw 256,
vb true, vb true, vb false]
103,
SObj.cells
[vw 0, vw 0, vw 0,
vw 0, vw e, vw 0,
vw 0, vw 0, vw 0, vb false,
vb false, vb false, vb false, vb false,
vb false, vd 0, vd 0, vd 0,
vd 0, vd 0, vd 0,
vd 0, vd 0]
46,
SObj.cells
[vw 0, vw 0, vw 0,
vw 0, vw e0, vw 0,
vw 0, vw 0, vw 0, vb false,
vb false, vb false, vb false, vb false,
vb false, vd 0, vd 0, vd 0,
vd 0, vd 0, vd 0,
vd 0, vd 0]
46,
SObj.dead])
else
some
(0, 95,
[Sv.sl 0 off len cap, Sv.ptr 13 0, Sv.ptr 14 0, Sv.ptr 15 0,
vi ((IntKind.wrap IntKind.i64 (j - 1)))],
[SObj.ro off len fun i => Value.int IntKind.u32 (H i), SObj.bm IntKind.u32 IntKind.u8 D, SObj.cells [Sv.mp 1] 137,
SObj.arr IntKind.u8 5 256 R, SObj.dead, SObj.dead,
SObj.cells
[Sv.ptr 2 0, vw 16384, vw 4096, vb false,
vb false, vb true, vw 36864, vw 256,
vb true, vb true, vb false]
82,
SObj.ext 0 M, SObj.arr IntKind.u8 5 256 R2, SObj.dead, SObj.dead,
SObj.cells
[vw 16384, vw 4096, vb false,
vb false, vb true]
24,
SObj.cells
[vw 36864, vw 256, vb true, vb true,
vb false]
24,
SObj.cells
[Sv.ptr 7 0, vw 16384, vw 4096, vb false,
vb false, vb true, vw 36864, vw 256,
vb true, vb true, vb false]
103,
SObj.cells
[vw 0, vw 0, vw 0,
vw 0, vw ((poV e (skOk 36864 256 e true))),
vw 0, vw 0, vw 0,
vw 0, vb false, vb false, vb false,
vb false, vb false, vb false, vd 0,
vd 0, vd 0, vd 0,
vd 0, vd 0, vd 0,
vd 0]
46,
SObj.cells
[vw 0, vw 0, vw 0,
vw 0, vw e0, vw 0,
vw 0, vw 0, vw 0, vb false,
vb false, vb false, vb false, vb false,
vb false, vd 0, vd 0, vd 0,
vd 0, vd 0, vd 0,
vd 0, vd 0]
46,
SObj.dead])
else none
else none
else none
else
some
(4, 95, [Sv.sl 0 off len cap, Sv.ptr 13 0, Sv.ptr 14 0, Sv.ptr 15 0, vi j],
[SObj.ro off len fun i => Value.int IntKind.u32 (H i), SObj.bm IntKind.u32 IntKind.u8 D, SObj.cells [Sv.mp 1] 137,
SObj.arr IntKind.u8 5 256 R, SObj.dead, SObj.dead,
SObj.cells
[Sv.ptr 2 0, vw 16384, vw 4096, vb false,
vb false, vb true, vw 36864, vw 256,
vb true, vb true, vb false]
82,
SObj.ext 0 M, SObj.arr IntKind.u8 5 256 R2, SObj.dead, SObj.dead,
SObj.cells
[vw 16384, vw 4096, vb false,
vb false, vb true]
24,
SObj.cells
[vw 36864, vw 256, vb true, vb true,
vb false]
24,
SObj.cells
[Sv.ptr 7 0, vw 16384, vw 4096, vb false,
vb false, vb true, vw 36864, vw 256,
vb true, vb true, vb false]
103,
SObj.cells
[vw 0, vw 0, vw 0,
vw 0, vw e, vw 0,
vw 0, vw 0, vw 0, vb false,
vb false, vb false, vb false, vb false,
vb false, vd 0, vd 0, vd 0,
vd 0, vd 0, vd 0,
vd 0, vd 0]
46,
SObj.cells
[vw 0, vw 0, vw 0,
vw 0, vw e0, vw 0,
vw 0, vw 0, vw 0, vb false,
vb false, vb false, vb false, vb false,
vb false, vd 0, vd 0, vd 0,
vd 0, vd 0, vd 0,
vd 0, vd 0]
46,
SObj.dead])) := by kernel_rfl
def sr2V (s : SrS) (i : Nat) : List Sv := [.sl 0 s.off s.len s.cap, .ptr 13 0, .ptr 14 0, .ptr 15 0, .v (.int .i64 ((s.len : Int) - 1 - (i : Int)))]
def sr2M (s : SrS) (i : Nat) : List SObj := [.ro s.off s.len (roF s.f), .bm .u32 .u8 s.D, .cells [.mp 1] 137, .arr .u8 5 256 s.R, .dead, .dead, .cells [.ptr 2 0, .v (.int .u32 16384), .v (.int .u32 4096), .v (.bool false), .v (.bool false), .v (.bool true), .v (.int .u32 36864), .v (.int .u32 256), .v (.bool true), .v (.bool true), .v (.bool false)] 82, .ext 0 s.M, .arr .u8 5 256 s.R2, .dead, .dead, .cells [.v (.int .u32 16384), .v (.int .u32 4096), .v (.bool false), .v (.bool false), .v (.bool true)] 24, .cells [.v (.int .u32 36864), .v (.int .u32 256), .v (.bool true), .v (.bool true), .v (.bool false)] 24, .cells [.ptr 7 0, .v (.int .u32 16384), .v (.int .u32 4096), .v (.bool false), .v (.bool false), .v (.bool true), .v (.int .u32 36864), .v (.int .u32 256), .v (.bool true), .v (.bool true), .v (.bool false)] 103, .cells [.v (.int .u32 0), .v (.int .u32 0), .v (.int .u32 0), .v (.int .u32 0), .v (.int .u32 (upV s.e i)), .v (.int .u32 0), .v (.int .u32 0), .v (.int .u32 0), .v (.int .u32 0), .v (.bool false), .v (.bool false), .v (.bool false), .v (.bool false), .v (.bool false), .v (.bool false), .v (.int .u64 0), .v (.int .u64 0), .v (.int .u64 0), .v (.int .u64 0), .v (.int .u64 0), .v (.int .u64 0), .v (.int .u64 0), .v (.int .u64 0)] 46, .cells [.v (.int .u32 0), .v (.int .u32 0), .v (.int .u32 0), .v (.int .u32 0), .v (.int .u32 s.e1), .v (.int .u32 0), .v (.int .u32 0), .v (.int .u32 0), .v (.int .u32 0), .v (.bool false), .v (.bool false), .v (.bool false), .v (.bool false), .v (.bool false), .v (.bool false), .v (.int .u64 0), .v (.int .u64 0), .v (.int .u64 0), .v (.int .u64 0), .v (.int .u64 0), .v (.int .u64 0), .v (.int .u64 0), .v (.int .u64 0)] 46, .dead]
def sr2Inv (s : SrS) : Prop := s.len ≤ 60 ∧ 0 ≤ s.e ∧ s.e < 16 ∧ allK s.f s.off s.len = true ∧ popOk s.f s.off s.len s.e s.M s.len = true
def sr2L := cntE 95 [0, 5, 7, 8, 12] SrS.len sr2V sr2M sr2Inv 3
theorem sr2more (s : SrS) (g : List Value) (i : Nat) (h : sr2Inv s) (hi : i < s.len) : ev Try.prog ΓSr0 60 (fun _ => none) (roundOf Try.prog 4 2) (frV 95 [0, 5, 7, 8, 12] (sr2V s i) g) (sr2M s i) (liveD [0, 5, 7, 8, 12] 17) = some (0, 95, sr2V s (i + 1), sr2M s (i + 1)) := by
  obtain ⟨hl, he0, he1, ha, hp⟩ := h
  refine (sr2_form s.off s.len s.cap (fun k => toI (s.f k)) s.M s.D s.R s.R2 s.e1 (upV s.e i) ((s.len : Int) - 1 - (i : Int)) g).trans ?_
  have h0 : decide ((s.len : Int) - 1 - (i : Int) ≥ 0) = true := decide_eq_true (by omega)
  have h1 : decide ((s.len : Int) - 1 - (i : Int) < (s.len : Int)) = true := decide_eq_true (by omega)
  have h2 : decide ((0 : Int) ≤ (s.len : Int) - 1 - (i : Int)) = true := decide_eq_true (by omega)
  have ht : Int.toNat ((s.len : Int) - 1 - (i : Int)) = s.len - 1 - i := by omega
  have h3 : decide (s.off ≤ s.off + (s.len - 1 - i)) = true := decide_eq_true (by omega)
  have h4 : decide (s.off + (s.len - 1 - i) < s.off + s.len) = true := decide_eq_true (by omega)
  have h6 : in32 (upV s.e i) = true := in32_iff.2 (by unfold upV; omega)
  have w : IntKind.wrap .u32 (upV s.e i + 4) = upV s.e (i + 1) := by unfold upV; rw [wr_u32]; omega
  have ok : skOk 36864 256 (upV s.e i) true = true := skOk4 (by unfold upV; omega) (by unfold upV; omega)
  have wj : IntKind.wrap .i64 ((s.len : Int) - 1 - (i : Int) - 1) = (s.len : Int) - 1 - ((i + 1 : Nat) : Int) := by rw [wr_i64_id (by omega) (by omega)]; omega
  have hv := popOk_get hp hi
  simp only [ht, h0, h1, h2, h3, h4, h6, w, ok, wj, hv, endV, poV, orV, Bool.and_self, cond_true, bne, beq_self_eq_true, Bool.not_true, cond_false]
  rfl
theorem sr2done (s : SrS) (g : List Value) (h : sr2Inv s) : ev Try.prog ΓSr0 60 (fun _ => none) (roundOf Try.prog 4 2) (frV 95 [0, 5, 7, 8, 12] (sr2V s s.len) g) (sr2M s s.len) (liveD [0, 5, 7, 8, 12] 17) = some (4, 95, sr2V s s.len, sr2M s s.len) := by
  obtain ⟨hl, he0, he1, ha, hp⟩ := h
  refine (sr2_form s.off s.len s.cap (fun k => toI (s.f k)) s.M s.D s.R s.R2 s.e1 (upV s.e s.len) ((s.len : Int) - 1 - (s.len : Int)) g).trans ?_
  have h0 : decide ((s.len : Int) - 1 - (s.len : Int) ≥ 0) = false := decide_eq_false (by omega)
  simp only [h0, cond_false]
  rfl
theorem sr2L_ok : sr2L.OkV Try.prog ΓSr0 60 (roundOf Try.prog 4 2) 17 := cntE_okV sr2more sr2done fun s i _ _ => ⟨rfl, rfl, rfl⟩
def sr2Dec : (R : Type) → List Sv → List SObj → (SrS → Option R) → Option R := fun X l m k => match l with
  | [.sl q off len cap, .ptr b1 z1, .ptr b2 z2, .ptr b3 z3, .v (.int .i64 z)] => (match m with
    | [.ro ro rn f, .bm .u32 .u8 D, .cells [.mp q0] t0, .arr .u8 q1 n1 R, .dead, .dead, .cells c6 t6, .ext 0 M, .arr .u8 q2 n2 R2, .dead, .dead, .cells c11 t11, .cells c12 t12, .cells c13 t13, .cells c14 t14, .cells c15 t15, .dead] => (match nth c14 4 with
      | .v (.int .u32 e) => (match nth c15 4 with
        | .v (.int .u32 e1) => bif Nat.beq q 0 && (Nat.beq b1 13 && (Nat.beq z1 0 && (Nat.beq b2 14 && (Nat.beq z2 0 && (Nat.beq b3 15 && (Nat.beq z3 0 && (Nat.beq q0 1 && (Nat.beq t0 137 && (Nat.beq q1 5 && (Nat.beq n1 256 && (Nat.beq q2 5 && (Nat.beq n2 256 && (Nat.beq t6 82 && (Nat.beq t11 24 && (Nat.beq t12 24 && (Nat.beq t13 103 && (Nat.beq t14 46 && (Nat.beq t15 46 && (eqSvL c6 [.ptr 2 0, .v (.int .u32 16384), .v (.int .u32 4096), .v (.bool false), .v (.bool false), .v (.bool true), .v (.int .u32 36864), .v (.int .u32 256), .v (.bool true), .v (.bool true), .v (.bool false)] && (eqSvL c11 [.v (.int .u32 16384), .v (.int .u32 4096), .v (.bool false), .v (.bool false), .v (.bool true)] && (eqSvL c12 [.v (.int .u32 36864), .v (.int .u32 256), .v (.bool true), .v (.bool true), .v (.bool false)] && (eqSvL c13 [.ptr 7 0, .v (.int .u32 16384), .v (.int .u32 4096), .v (.bool false), .v (.bool false), .v (.bool true), .v (.int .u32 36864), .v (.int .u32 256), .v (.bool true), .v (.bool true), .v (.bool false)] && (eqSvL (setN c14 4 (.v (.int .u32 0))) [.v (.int .u32 0), .v (.int .u32 0), .v (.int .u32 0), .v (.int .u32 0), .v (.int .u32 0), .v (.int .u32 0), .v (.int .u32 0), .v (.int .u32 0), .v (.int .u32 0), .v (.bool false), .v (.bool false), .v (.bool false), .v (.bool false), .v (.bool false), .v (.bool false), .v (.int .u64 0), .v (.int .u64 0), .v (.int .u64 0), .v (.int .u64 0), .v (.int .u64 0), .v (.int .u64 0), .v (.int .u64 0), .v (.int .u64 0)] && (eqSvL (setN c15 4 (.v (.int .u32 0))) [.v (.int .u32 0), .v (.int .u32 0), .v (.int .u32 0), .v (.int .u32 0), .v (.int .u32 0), .v (.int .u32 0), .v (.int .u32 0), .v (.int .u32 0), .v (.int .u32 0), .v (.bool false), .v (.bool false), .v (.bool false), .v (.bool false), .v (.bool false), .v (.bool false), .v (.int .u64 0), .v (.int .u64 0), .v (.int .u64 0), .v (.int .u64 0), .v (.int .u64 0), .v (.int .u64 0), .v (.int .u64 0), .v (.int .u64 0)] && (decide (ro = off) && (decide (rn = len) && ((z == (len : Int) - 1) && (allK f off len && (decide (len ≤ 60) && (roomV e 0 && (popOk f off len e M len))))))))))))))))))))))))))))))) then k ⟨off, len, cap, f, M, D, R, R2, e, e1⟩ else none
        | _ => none)
      | _ => none)
    | _ => none)
  | _ => none
theorem sr2Dec_ok : ∀ (R : Type) l m (k : SrS → Option R) r, sr2Dec R l m k = some r → ∃ s, k s = some r ∧ l = sr2V s 0 ∧ RepLe X0 m (sr2M s 0) ∧ sr2Inv s := by
  intro R l m k r h
  unfold sr2Dec at h
  split at h
  · split at h
    · split at h
      · rename_i he4
        split at h
        · rename_i he5
          obtain ⟨hg, h2⟩ := cond_some h
          simp only [Bool.and_eq_true, decide_eq_true_eq, natB, beq_iff_eq] at hg
          obtain ⟨rfl, rfl, rfl, rfl, rfl, rfl, rfl, rfl, rfl, rfl, rfl, rfl, rfl, rfl, rfl, rfl, rfl, rfl, rfl, g6, g11, g12, g13, g14, g15, rfl, rfl, rfl, ha, hl, he, hp⟩ := hg
          obtain rfl := eqSvL_eq g6
          obtain rfl := eqSvL_eq g11
          obtain rfl := eqSvL_eq g12
          obtain rfl := eqSvL_eq g13
          refine ⟨_, h2, ?_, ?_, ?_⟩
          · simp [sr2V]
          · rw [isSt_eq g14 he4, isSt_eq g15 he5]
            refine fun ρ own w hr => ?_
            have := ro_le ha _ ρ own w hr
            simp only [sr2M, upV, Int.ofNat_zero, Int.mul_zero, Int.add_zero]
            exact this
          · have hr := roomV_iff.1 he
            exact ⟨hl, by simpa using hr.1, by simpa using hr.2, ha, hp⟩
        · cases h
      · cases h
    · cases h
  · cases h
noncomputable def ΓSr : Env := (ΓSr0.hook 4 0 (cntHook Try.prog X0 sr0L SrS.len 0 (roundOf Try.prog 4 0) sr0Dec)).hook 4 2 (cntHook Try.prog X0 sr2L SrS.len 2 (roundOf Try.prog 4 2) sr2Dec)
theorem ΓSr_ok : EnvOk Try.prog X0 ΓSr := (ΓSr0_ok.hook (a := .loop (roundOf Try.prog 4 0)) (by kernel_rfl) (cntVHook_ok ΓSr0_ok sr0L_ok sr0Dec_ok)).hook (a := .loop (roundOf Try.prog 4 2)) (by kernel_rfl) (cntVHook_ok ΓSr0_ok sr2L_ok sr2Dec_ok)
end Go.Proofs.Ytjcbgjakomalaaa
