/- Loops whose rounds are not told: what a round comes to, again and again. -/
import Derived.Test.YtpgdpoloipifeaaEv8
namespace Go.Ev
set_option linter.unusedVariables false
open Go
section
variable {P : Program} {X : Ext}

/-- A loop's rounds, so many. -/
def LoopR (P : Program) (X : Ext) (a : Code) (j : Nat) (t : List Sv) (m : List SObj) (e : SEx) (t' : List Sv) (m' : List SObj) : Prop :=
  ∀ ρ own w l ds (Q : Exit → Act → World → Prop), denL ρ t = some l → Rep X ρ own m w →
    (∀ ρ' own' w' l', To ρ own w ρ' own' w' → denL ρ' t' = some l' → Rep X ρ' own' m' w' → Q e.toExit ⟨l'.toArray, ds⟩ w') → Code.rounds P a Q j ⟨l.toArray, ds⟩ w

def SEx.isN : SEx → Bool
  | .normal => true
  | _ => false

theorem loopR_exit {a : Code} {t t' : List Sv} {m m' : List SObj} {e : SEx} (h : EvR P X a t m e t' m') (he : e.isN = false) : LoopR P X a 1 t m e t' m' := by
  cases e with
  | normal => cases he
  | exit id => exact fun ρ own w l ds Q hl hr hK => by rw [rounds_succ]; exact h ρ own w l ds _ hl hr fun ρ' own' w' l' ht hl' hr' => hK ρ' own' w' l' ht hl' hr'
  | ret => exact fun ρ own w l ds Q hl hr hK => by rw [rounds_succ]; exact h ρ own w l ds _ hl hr fun ρ' own' w' l' ht hl' hr' => hK ρ' own' w' l' ht hl' hr'
  | panic ch => exact fun ρ own w l ds Q hl hr hK => by rw [rounds_succ]; exact h ρ own w l ds _ hl hr fun ρ' own' w' l' ht hl' hr' => hK ρ' own' w' l' ht hl' hr'

theorem loopR_step {a : Code} {t t1 t2 : List Sv} {m m1 m2 : List SObj} {e : SEx} {j : Nat} (h : EvR P X a t m .normal t1 m1) (h' : LoopR P X a j t1 m1 e t2 m2) : LoopR P X a (j + 1) t m e t2 m2 := by
  intro ρ own w l ds Q hl hr hK
  rw [rounds_succ]
  refine h ρ own w l ds _ hl hr fun ρ' own' w' l' ht hl' hr' => ?_
  exact h' ρ' own' w' l' ds Q hl' hr' fun ρ'' own'' w'' l'' ht' hl'' hr'' => hK ρ'' own'' w'' l'' (ht.trans ht') hl'' hr''

theorem evR_of_loopR {a : Code} {t t' : List Sv} {m m' : List SObj} {e : SEx} {j : Nat} (h : LoopR P X a j t m e t' m') : EvR P X (.loop a) t m e t' m' :=
  fun ρ own w l ds Q hl hr hK => wp_loop_rounds j (h ρ own w l ds Q hl hr hK)

/-- What goes out of a block. -/
def outOf (id : Nat) : SEx → SEx
  | .exit id' => bif Nat.beq id' id then .normal else .exit id'
  | e => e

theorem evR_block {a : Code} {t t' : List Sv} {m m' : List SObj} {e : SEx} {id : Nat} (h : EvR P X a t m e t' m') : EvR P X (.block id a) t m (outOf id e) t' m' := by
  cases e with
  | exit id' =>
    by_cases hid : id' = id
    · subst hid
      have e : outOf id' (.exit id') = .normal := by simp [outOf]
      rw [e]
      exact fun ρ own w l ds Q hl hr hK => wp_block (h ρ own w l ds _ hl hr fun ρ' own' w' l' ht hl' hr' => by simpa [SEx.toExit, Exit.inBlock] using hK ρ' own' w' l' ht hl' hr')
    · have e : outOf id (.exit id') = .exit id' := by
        have : Nat.beq id' id = false := by cases h : Nat.beq id' id with
          | true => exact absurd (Nat.eq_of_beq_eq_true h) hid
          | false => rfl
        simp only [outOf, this, cond_false]
      rw [e]
      exact fun ρ own w l ds Q hl hr hK => wp_block (h ρ own w l ds _ hl hr fun ρ' own' w' l' ht hl' hr' => by simpa [SEx.toExit, Exit.inBlock, hid] using hK ρ' own' w' l' ht hl' hr')
  | normal => exact fun ρ own w l ds Q hl hr hK => wp_block (h ρ own w l ds _ hl hr fun ρ' own' w' l' ht hl' hr' => hK ρ' own' w' l' ht hl' hr')
  | ret => exact fun ρ own w l ds Q hl hr hK => wp_block (h ρ own w l ds _ hl hr fun ρ' own' w' l' ht hl' hr' => hK ρ' own' w' l' ht hl' hr')
  | panic ch => exact fun ρ own w l ds Q hl hr hK => wp_block (h ρ own w l ds _ hl hr fun ρ' own' w' l' ht hl' hr' => hK ρ' own' w' l' ht hl' hr')

/-! ### Frames of which only some slots are told -/
/-- A frame's slots, one by one. -/
def etaL (g : List Sv) : Nat → Nat → List Sv
  | 0, _ => []
  | n + 1, j => nth g j :: etaL g n (j + 1)
def setL : List Nat → List Sv → List Sv → List Sv
  | i :: is, x :: xs, t => setL is xs (setN t i x)
  | _, _, t => t
/-- A frame of so many slots: these hold this, the others what 'g' says. -/
def fr (len : Nat) (slots : List Nat) (vals : List Sv) (g : List Sv) : List Sv := setL slots vals (etaL g len 0)

theorem etaL_drop : ∀ (n j : Nat) (g : List Sv), g.length = j + n → etaL g n j = g.drop j
  | 0, j, g, h => by simp [etaL, List.drop_eq_nil_of_le (show g.length ≤ j by omega)]
  | n + 1, j, g, h => by
    simp only [etaL]
    rw [etaL_drop n (j + 1) g (by omega)]
    have hj : j < g.length := by omega
    rw [List.drop_eq_getElem_cons hj, nth_of_get? (List.getElem?_eq_getElem hj)]
theorem etaL_all {g : List Sv} {n : Nat} (h : g.length = n) : etaL g n 0 = g := by
  rw [etaL_drop n 0 g (by omega), List.drop_zero]
theorem setN_nth' : ∀ {t : List Sv} {d : Nat}, setN t d (nth t d) = t
  | [], d => rfl
  | c :: t, 0 => rfl
  | c :: t, d + 1 => by simp only [setN, nth]; rw [setN_nth']
theorem setL_same : ∀ {is : List Nat} {t : List Sv}, setL is (is.map (nth t)) t = t
  | [], t => rfl
  | i :: is, t => by simp only [List.map_cons, setL]; rw [setN_nth']; exact setL_same
/-- Each frame is one of these. -/
theorem fr_self {len : Nat} {slots : List Nat} {t : List Sv} (h : t.length = len) : fr len slots (slots.map (nth t)) t = t := by
  unfold fr; rw [etaL_all h]; exact setL_same

/-- What is looked at of a round's end. -/
def liveK (slots : List Nat) : SEx → List Sv → List SObj → Option (Nat × Nat × List Sv × List SObj) := fun e t m => match e with
  | .normal => some (0, t.length, slots.map (nth t), m)
  | .ret => some (1, t.length, slots.map (nth t), m)
  | .exit id => some (id + 2, t.length, slots.map (nth t), m)
  | .panic _ => none
def exOf : Nat → SEx
  | 0 => .normal
  | 1 => .ret
  | n + 2 => .exit n

theorem evR_of_form {Γ : Env} (hΓ : EnvOk P X Γ) {n : Nat} {a : Code} {t : List Sv} {m m' : List SObj} {slots : List Nat} {c len : Nat} {vals : List Sv}
    (h : ev P Γ n (fun _ => none) a t m (liveK slots) = some (c, len, vals, m')) : ∃ t', EvR P X a t m (exOf c) t' m' ∧ t'.length = len ∧ slots.map (nth t') = vals := by
  obtain ⟨e, t', m1, h1, h2⟩ := ev_sound hΓ n _ _ _ _ _ _ (blkIn_none P X a) h
  have key : e = exOf c ∧ t'.length = len ∧ slots.map (nth t') = vals ∧ m1 = m' := by
    cases e <;> simp only [liveK, Option.some.injEq, Prod.mk.injEq] at h1
    · obtain ⟨rfl, h3, h4, h5⟩ := h1; exact ⟨rfl, h3, h4, h5⟩
    · obtain ⟨rfl, h3, h4, h5⟩ := h1; exact ⟨rfl, h3, h4, h5⟩
    · obtain ⟨rfl, h3, h4, h5⟩ := h1; exact ⟨rfl, h3, h4, h5⟩
    · cases h1
  obtain ⟨rfl, h3, h4, rfl⟩ := key
  exact ⟨t', h2, h3, h4⟩

theorem setL_den {ρ : List Un} {l : List Value} {t' : List Sv} (ht' : denL ρ t' = some l) : ∀ (slots : List Nat) (t : List Sv), denL ρ t = some l → denL ρ (setL slots (slots.map (nth t')) t) = some l
  | [], t, h => by simpa [setL] using h
  | i :: is, t, h => by
    simp only [List.map_cons, setL]
    refine setL_den ht' is _ ?_
    have := setN_den i h (nth_den i ht')
    rw [this]
    congr 1
    by_cases hi : i < l.length
    · apply List.ext_getElem?
      intro j
      by_cases hj : i = j
      · subst hj; rw [List.getElem?_set_self hi]; simp [List.getD_eq_getElem?_getD, List.getElem?_eq_getElem hi]
      · rw [List.getElem?_set_ne hj]
    · exact List.set_eq_of_length_le (by omega)

/-- All slots but these are forgotten. -/
theorem forget_den {ρ : List Un} {t' : List Sv} {l : List Value} {len : Nat} (slots : List Nat) (hlen : t'.length = len) (hl : denL ρ t' = some l) :
    denL (ρ ++ [.vals l]) (fr len slots (slots.map (nth t')) (unkL ρ.length len 0)) = some l := by
  have hll : l.length = len := by rw [denL_length hl]; exact hlen
  unfold fr
  rw [etaL_all (unkL_length _ _ _)]
  refine setL_den (denL_mono ⟨_, rfl⟩ hl) slots _ ?_
  have := unkL_den (ρ := ρ ++ [.vals l]) (b := ρ.length) (l := l) (by simp) len 0 (by omega)
  simpa using this
theorem To.vals {ρ ρ' : List Un} {own own' : Nat → Option Nat} {w w' : World} (h : To ρ own w ρ' own' w') (l : List Value) : To ρ own w (ρ' ++ [.vals l]) own' w' := by
  obtain ⟨⟨l', rfl⟩, h2, h3⟩ := h
  exact ⟨⟨l' ++ [.vals l], by simp⟩, h2, h3⟩
theorem evR_forget {c : Code} {t t' : List Sv} {m m' : List SObj} {e : SEx} {len : Nat} {slots : List Nat} {vals : List Sv} (h : EvR P X c t m e t' m') (hlen : t'.length = len) (hv : slots.map (nth t') = vals) :
    EvR P X c t m e (fr len slots vals (unkL m'.length len 0)) (m' ++ [.dead]) := by
  subst hv
  intro ρ own w l ds Q hl hr hK
  refine h ρ own w l ds Q hl hr fun ρ' own' w' l' ht hl' hr' => ?_
  refine hK _ own' w' l' (ht.vals l') ?_ (hr'.vals l')
  rw [← hr'.len]
  exact forget_den slots hlen hl'

/-! ### Rounds -/
def iterN {σ : Type} (cond : σ → Bool) (next : σ → σ) : Nat → σ → σ
  | 0, s => s
  | k + 1, s => bif cond s then iterN cond next k (next s) else s

/-- What is told of a loop: its states, what a round makes of them, how it ends. -/
structure Rounds (σ τ : Type) where
  len : Nat
  slots : List Nat
  vals : σ → List Sv
  ms : σ → List SObj
  Inv : σ → Prop
  cond : σ → Bool
  next : σ → σ
  μ : σ → Nat
  out : σ → τ
  ex : τ → Nat
  vals2 : τ → List Sv
  ms2 : τ → List SObj

structure Rounds.Ok {σ τ : Type} (L : Rounds σ τ) (P : Program) (Γ : Env) (n : Nat) (a : Code) : Prop where
  more : ∀ s g, L.Inv s → L.cond s = true → ev P Γ n (fun _ => none) a (fr L.len L.slots (L.vals s) g) (L.ms s) (liveK L.slots) = some (0, L.len, L.vals (L.next s), L.ms (L.next s))
  done : ∀ s g, L.Inv s → L.cond s = false → ev P Γ n (fun _ => none) a (fr L.len L.slots (L.vals s) g) (L.ms s) (liveK L.slots) = some (L.ex (L.out s) + 1, L.len, L.vals2 (L.out s), L.ms2 (L.out s))
  inv : ∀ s, L.Inv s → L.cond s = true → L.Inv (L.next s) ∧ L.μ (L.next s) < L.μ s

theorem Rounds.run {σ τ : Type} {L : Rounds σ τ} {Γ : Env} (hΓ : EnvOk P X Γ) {n : Nat} {a : Code} (h : L.Ok P Γ n a) : ∀ (k : Nat) (s : σ) (g : List Sv), L.μ s ≤ k → L.Inv s →
    ∃ t' j, LoopR P X a j (fr L.len L.slots (L.vals s) g) (L.ms s) (exOf (L.ex (L.out (iterN L.cond L.next k s)) + 1)) t' (L.ms2 (L.out (iterN L.cond L.next k s))) ∧ t'.length = L.len ∧ L.slots.map (nth t') = L.vals2 (L.out (iterN L.cond L.next k s))
  | k, s, g, hk, hi => by
    cases hc : L.cond s with
    | false =>
      have e : iterN L.cond L.next k s = s := by cases k <;> simp [iterN, hc]
      rw [e]
      obtain ⟨t', h1, h2, h3⟩ := evR_of_form hΓ (h.done s g hi hc)
      exact ⟨t', 1, loopR_exit h1 (by cases L.ex (L.out s) <;> rfl), h2, h3⟩
    | true =>
      obtain ⟨h1, h2⟩ := h.inv s hi hc
      cases k with
      | zero => omega
      | succ k =>
        obtain ⟨t1, h3, h5, h6⟩ := evR_of_form hΓ (h.more s g hi hc)
        obtain ⟨t', j, h4, h7, h8⟩ := Rounds.run hΓ h k (L.next s) t1 (by omega) h1
        have e : iterN L.cond L.next (k + 1) s = iterN L.cond L.next k (L.next s) := by simp [iterN, hc]
        rw [e]
        rw [← h6, fr_self h5] at h4
        exact ⟨t', j + 1, loopR_step h3 h4, h7, h8⟩

/-- What a loop's block is known by. -/
def loopHook {σ τ : Type} (P : Program) (X : Ext) (L : Rounds σ τ) (id : Nat) (a : Code) (dec : (R : Type) → List Sv → List SObj → (σ → Option R) → Option R) (fin : σ → τ) : Hook := fun R t m k =>
  match Nat.beq t.length L.len with
  | true => dec R (L.slots.map (nth t)) m fun s => k (outOf id (exOf (L.ex (fin s) + 1))) (fr L.len L.slots (L.vals2 (fin s)) (unkL (L.ms2 (fin s)).length L.len 0)) (L.ms2 (fin s) ++ [.dead])
  | false => none

theorem loopHook_ok {σ τ : Type} {L : Rounds σ τ} {Γ : Env} (hΓ : EnvOk P X Γ) {n : Nat} {a : Code} (h : L.Ok P Γ n a) {id : Nat} {dec : (R : Type) → List Sv → List SObj → (σ → Option R) → Option R} {fin : σ → τ}
    (hdec : ∀ R l m k r, dec R l m k = some r → ∃ s, k s = some r ∧ l = L.vals s ∧ m = L.ms s ∧ L.Inv s) (hfin : ∀ s, L.Inv s → L.out (iterN L.cond L.next (L.μ s) s) = fin s) : HookOk P X (.block id (.loop a)) (loopHook P X L id a dec fin) := by
  intro R t m k r hr
  unfold loopHook at hr
  split at hr
  · rename_i hlen
    have hlen := Nat.eq_of_beq_eq_true hlen
    obtain ⟨s, hs, h1, rfl, hi⟩ := hdec _ _ _ _ _ hr
    obtain ⟨t', j, h2, h3, h4⟩ := Rounds.run hΓ h (L.μ s) s t (Nat.le_refl _) hi
    rw [hfin s hi, ← h1, fr_self hlen] at h2
    rw [hfin s hi] at h4
    exact ⟨_, _, _, hs, evR_forget (evR_block (id := id) (evR_of_loopR h2)) h3 h4⟩
  · cases hr

/-- The round of a function's block that is one loop. -/
def roundOf (P : Program) (f : FuncId) (id : Nat) : Code := match blksAt P f id with
  | [.loop a] => a
  | _ => .skip
end
end Go.Ev
