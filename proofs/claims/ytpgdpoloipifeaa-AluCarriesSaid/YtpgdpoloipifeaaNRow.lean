/- Loops that count; rows that are filled, written, read. -/
import Derived.Test.YtpgdpoloipifeaaNBus
import Derived.Test.YtpgdpoloipifeaaEv9
import Derived.Test.YtpgdpoloipifeaaNFr
namespace Go.Ev
open Go
set_option linter.unusedVariables false
set_option linter.unusedSimpArgs false
structure CntS (σ : Type) where
  s : σ
  i : Nat
def cntL {σ : Type} (len : Nat) (slots : List Nat) (n : σ → Nat) (vals : σ → Nat → List Sv) (ms : σ → Nat → List SObj) (Inv : σ → Prop) : Rounds (CntS σ) (CntS σ) where
  len := len
  slots := slots
  vals := fun c => vals c.s c.i
  ms := fun c => ms c.s c.i
  Inv := fun c => Inv c.s ∧ c.i ≤ n c.s
  cond := fun c => decide (c.i < n c.s)
  next := fun c => ⟨c.s, c.i + 1⟩
  μ := fun c => n c.s - c.i
  out := fun c => c
  ex := fun _ => 1
  vals2 := fun c => vals c.s c.i
  ms2 := fun c => ms c.s c.i
section
variable {P : Program} {X : Ext} {Γ : Env} {σ : Type} {len : Nat} {slots : List Nat} {n : σ → Nat} {vals : σ → Nat → List Sv} {ms : σ → Nat → List SObj} {Inv : σ → Prop}
theorem cntL_ok {fuel : Nat} {a : Code} (hm : ∀ s g i, Inv s → i < n s → ev P Γ fuel (fun _ => none) a (fr len slots (vals s i) g) (ms s i) (liveK slots) = some (0, len, vals s (i + 1), ms s (i + 1)))
    (hd : ∀ s g, Inv s → ev P Γ fuel (fun _ => none) a (fr len slots (vals s (n s)) g) (ms s (n s)) (liveK slots) = some (2, len, vals s (n s), ms s (n s))) : (cntL len slots n vals ms Inv).Ok P Γ fuel a where
  more := fun c g hi hc => hm c.s g c.i hi.1 (of_decide_eq_true hc)
  done := fun c g hi hc => by
    have h1 : ¬ c.i < n c.s := of_decide_eq_false hc
    have h2 : c.i = n c.s := Nat.le_antisymm hi.2 (Nat.le_of_not_lt h1)
    have := hd c.s g hi.1
    rw [← h2] at this
    exact this
  inv := fun c hi hc => by
    have h1 : c.i < n c.s := of_decide_eq_true hc
    exact ⟨⟨hi.1, h1⟩, by show n c.s - (c.i + 1) < n c.s - c.i; omega⟩
theorem cnt_iter : ∀ (k : Nat) (c : CntS σ), n c.s - c.i = k → c.i ≤ n c.s → iterN (cntL len slots n vals ms Inv).cond (cntL len slots n vals ms Inv).next k c = ⟨c.s, n c.s⟩
  | 0, c, hk, hi => by
    have e : c.i = n c.s := by omega
    show c = _
    rw [← e]
  | k + 1, c, hk, hi => by
    have hc : (cntL len slots n vals ms Inv).cond c = true := by show decide (c.i < n c.s) = true; rw [decide_eq_true_eq]; omega
    simp only [iterN, hc, cond_true]
    rw [cnt_iter k ((cntL len slots n vals ms Inv).next c) (by show n c.s - (c.i + 1) = k; omega) (by show c.i + 1 ≤ n c.s; omega)]
    rfl
def cntHook (P : Program) (X : Ext) (L : Rounds (CntS σ) (CntS σ)) (n : σ → Nat) (id : Nat) (a : Code) (dec : (R : Type) → List Sv → List SObj → (σ → Option R) → Option R) : Hook :=
  loopHook P X L id a (fun R l m k => dec R l m fun s => k ⟨s, 0⟩) (fun c => ⟨c.s, n c.s⟩)
theorem cntHook_ok (hΓ : EnvOk P X Γ) {fuel : Nat} {a : Code} (h : (cntL len slots n vals ms Inv).Ok P Γ fuel a) {id : Nat} {dec : (R : Type) → List Sv → List SObj → (σ → Option R) → Option R}
    (hdec : ∀ R l m (k : σ → Option R) r, dec R l m k = some r → ∃ s, k s = some r ∧ l = vals s 0 ∧ m = ms s 0 ∧ Inv s) : HookOk P X (.block id (.loop a)) (cntHook P X (cntL len slots n vals ms Inv) n id a dec) :=
  loopHook_ok hΓ h (fun R l m k r hr => by
    obtain ⟨s, h1, h2, h3, h4⟩ := hdec R l m _ r hr
    exact ⟨⟨s, 0⟩, h1, h2, h3, h4, Nat.zero_le _⟩) fun c hi => cnt_iter _ c rfl hi.2
end
/-! ### Rows -/
def rowF (F0 : Int → Int) (f : Nat → Int) (n : Nat) : Int → Int := fun j => bif decide (0 ≤ j) && decide (j < (n : Int)) then f j.toNat else F0 j
theorem rowF_zero (F0 : Int → Int) (f : Nat → Int) : rowF F0 f 0 = F0 := by
  funext j
  unfold rowF
  by_cases h : 0 ≤ j
  · rw [show decide (j < ((0 : Nat) : Int)) = false from decide_eq_false (by omega), Bool.and_false]; rfl
  · rw [show decide (0 ≤ j) = false from decide_eq_false h]; rfl
theorem rowF_step (F0 : Int → Int) (f : Nat → Int) (i : Nat) {v : Int} (hv : v = f i) : updM (rowF F0 f i) (i : Int) v = rowF F0 f (i + 1) := by
  funext j
  subst hv
  unfold updM rowF
  by_cases h : j = (i : Int)
  · subst h
    rw [beq_self_eq_true, show decide (0 ≤ (i : Int)) = true from decide_eq_true (by omega), show decide ((i : Int) < ((i + 1 : Nat) : Int)) = true from decide_eq_true (by omega)]
    simp
  · rw [show (j == (i : Int)) = false from by simpa using h]
    have : decide (j < (i : Int)) = decide (j < ((i + 1 : Nat) : Int)) := by simp only [decide_eq_decide]; omega
    rw [cond_false, this]
/-- A row written into memory. -/
def wrM (M : Int → Int) (a : Int) (F : Int → Int) (n : Nat) : Int → Int := fun x => bif in32 x && decide (IntKind.wrap .u32 (x - a) < (n : Int)) then F (IntKind.wrap .u32 (x - a)) else M x
theorem wrM_zero (M : Int → Int) (a : Int) (F : Int → Int) : wrM M a F 0 = M := by
  funext x
  unfold wrM
  rw [show decide (IntKind.wrap .u32 (x - a) < ((0 : Nat) : Int)) = false from decide_eq_false (by rw [wr_u32]; omega), Bool.and_false]; rfl
theorem wrM_step (M : Int → Int) (a : Int) (F : Int → Int) (i : Nat) (hi : i < 4294967296) {p : Int} (hp : p = IntKind.wrap .u32 (a + (i : Int))) : updM (wrM M a F i) p (F (i : Int)) = wrM M a F (i + 1) := by
  funext x
  subst hp
  unfold updM wrM
  by_cases h : x = IntKind.wrap .u32 (a + (i : Int))
  · have e : IntKind.wrap .u32 (x - a) = (i : Int) := by rw [h, wr_u32, wr_u32]; omega
    have e2 : in32 x = true := by rw [h]; exact in32_wr _
    rw [e, e2, show (x == IntKind.wrap .u32 (a + (i : Int))) = true from by simpa using h, show decide ((i : Int) < ((i + 1 : Nat) : Int)) = true from decide_eq_true (by omega)]
    rfl
  · rw [show (x == IntKind.wrap .u32 (a + (i : Int))) = false from by simpa using h, cond_false]
    cases hx : in32 x
    · rfl
    · have hb := in32_iff.1 hx
      have hne : IntKind.wrap .u32 (x - a) ≠ (i : Int) := by
        intro e
        apply h
        rw [wr_u32] at e ⊢
        omega
      have : decide (IntKind.wrap .u32 (x - a) < (i : Int)) = decide (IntKind.wrap .u32 (x - a) < ((i + 1 : Nat) : Int)) := by simp only [decide_eq_decide]; omega
      rw [this]
/-! ### Numbers drawn -/
def lcgK (k : Int) : Nat → Int
  | 0 => k
  | i + 1 => IntKind.wrap .u32 (IntKind.wrap .u32 (lcgK k i * 1664525) + 1013904223)
def fillB (k : Int) (i : Nat) : Int := IntKind.wrap .u8 (Int.fdiv (lcgK k (i + 1)) 16777216)
def rdB (M : Int → Int) (a : Int) (i : Nat) : Int := M (IntKind.wrap .u32 (a + IntKind.wrap .u32 (i : Int)))
structure RwS where
  a : Int
  n : Nat
  M : Int → Int
  F : Int → Int
  T : TypeId
  T2 : TypeId
def rwInv (s : RwS) : Prop := s.n ≤ 4096
theorem rw_lt {i n : Nat} (h : i < n) : decide ((i : Int) < (n : Int)) = true := decide_eq_true (by omega)
theorem rw_nlt {n : Nat} : decide ((n : Int) < (n : Int)) = false := decide_eq_false (by omega)
theorem rw_ge {i : Nat} : decide (0 ≤ (i : Int)) = true := decide_eq_true (by omega)
theorem rw_next {i n : Nat} (h : i < n) (hn : n ≤ 4096) : IntKind.wrap .i64 ((i : Int) + 1) = ((i + 1 : Nat) : Int) := by rw [wr_i64_id (by omega) (by omega)]; omega
theorem rw_place {a : Int} {i n : Nat} (h : i < n) (hn : n ≤ 4096) : IntKind.wrap .u32 (a + IntKind.wrap .u32 (i : Int)) = IntKind.wrap .u32 (a + (i : Int)) := by rw [wr_u32, wr_u32, wr_u32]; omega
end Go.Ev
