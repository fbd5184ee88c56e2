/- Loops over a frame of values, entered in any memory that tells as much. -/
import Derived.Test.YtjcbgjakomalaaaNLoop
namespace Go.Ev
open Go
set_option linter.unusedVariables false
set_option linter.unusedSimpArgs false
def etaV (l : List Value) : Nat → Nat → List Sv
  | 0, _ => []
  | n + 1, j => .v (l.getD j undef) :: etaV l n (j + 1)
theorem etaV_drop : ∀ (n j : Nat) (l : List Value), l.length = j + n → etaV l n j = (l.drop j).map Sv.v
  | 0, j, l, h => by simp [etaV, List.drop_eq_nil_of_le (show l.length ≤ j by omega)]
  | n + 1, j, l, h => by
    simp only [etaV]
    rw [etaV_drop n (j + 1) l (by omega)]
    have hj : j < l.length := by omega
    rw [List.drop_eq_getElem_cons hj, List.map_cons, List.getD_eq_getElem?_getD, List.getElem?_eq_getElem hj]
    rfl
/-- A frame of so many slots: these hold this, the others these values. -/
def frV (len : Nat) (slots : List Nat) (vals : List Sv) (l : List Value) : List Sv := setL slots vals (etaV l len 0)
theorem frV_eq {len : Nat} {slots : List Nat} {vals : List Sv} {l : List Value} (h : l.length = len) : frV len slots vals l = fr len slots vals (l.map Sv.v) := by
  unfold frV fr
  rw [etaL_all (by simp [h]), etaV_drop len 0 l (by omega), List.drop_zero]
section
variable {P : Program} {X : Ext}
structure Rounds.OkV {σ τ : Type} (L : Rounds σ τ) (P : Program) (Γ : Env) (n : Nat) (a : Code) (j : Nat) : Prop where
  more : ∀ s g, L.Inv s → L.cond s = true → ev P Γ n (fun _ => none) a (frV L.len L.slots (L.vals s) g) (L.ms s) (liveD L.slots j) = some (0, L.len, L.vals (L.next s), L.ms (L.next s))
  done : ∀ s g, L.Inv s → L.cond s = false → ev P Γ n (fun _ => none) a (frV L.len L.slots (L.vals s) g) (L.ms s) (liveD L.slots j) = some (L.ex (L.out s) + 1, L.len, L.vals2 (L.out s), L.ms2 (L.out s))
  inv : ∀ s, L.Inv s → L.cond s = true → L.Inv (L.next s) ∧ L.μ (L.next s) < L.μ s
  cl : ∀ s, L.Inv s → (L.ms s).length = j ∧ clM j (L.ms s) = true ∧ clL j (L.vals s) = true
  cl2 : ∀ s, L.Inv s → L.cond s = false → (L.ms2 (L.out s)).length = j ∧ clM j (L.ms2 (L.out s)) = true ∧ clL j (L.vals2 (L.out s)) = true
theorem Rounds.runV {σ τ : Type} {L : Rounds σ τ} {Γ : Env} (hΓ : EnvOk P X Γ) {n j : Nat} {a : Code} (h : L.OkV P Γ n a j) : ∀ (k : Nat) (s : σ), L.μ s ≤ k → L.Inv s →
    L.Inv (iterN L.cond L.next k s) ∧ L.cond (iterN L.cond L.next k s) = false ∧ ∃ i, LoopD P X a L.len L.slots i (L.vals s) (L.ms s) (exOf (L.ex (L.out (iterN L.cond L.next k s)) + 1)) (L.vals2 (L.out (iterN L.cond L.next k s))) (L.ms2 (L.out (iterN L.cond L.next k s)))
  | k, s, hk, hi => by
    obtain ⟨hcj, hcm, hcv⟩ := h.cl s hi
    cases hc : L.cond s with
    | false =>
      have e : iterN L.cond L.next k s = s := by cases k <;> simp [iterN, hc]
      rw [e]
      refine ⟨hi, hc, 1, fun ρ own w l ds Q hl hden hr hK => ?_⟩
      obtain ⟨hdj, hdm, hdv⟩ := h.cl2 s hi hc
      have hf := h.done s l hi hc
      rw [frV_eq hl] at hf
      obtain ⟨t', ex, h1, h2, h3⟩ := evR_of_formD hΓ hf
      rw [rounds_succ]
      refine h1 ρ own w l ds _ (hden.vs hl) hr fun ρ' own' w' l' ht hl' hr' => ?_
      obtain ⟨hto, hrep, hlt⟩ := rep_drop hr ht hr' (by omega) (by rw [hcj]; exact hdm)
      rw [hcj] at hlt hrep hto
      have hll : l'.length = L.len := by rw [denL_length hl']; exact h2
      have := hK _ w' l' hto hll (by rw [← h3]; exact frD_of (by have := hr.len; omega) hlt hl' (by rw [h3]; exact hdv)) hrep
      cases hx : L.ex (L.out s) <;> (rw [hx] at this; exact this)
    | true =>
      obtain ⟨h1, h2⟩ := h.inv s hi hc
      cases k with
      | zero => omega
      | succ k =>
        obtain ⟨hI, hC, i, hL⟩ := Rounds.runV hΓ h k (L.next s) (by omega) h1
        have e : iterN L.cond L.next (k + 1) s = iterN L.cond L.next k (L.next s) := by simp [iterN, hc]
        rw [e]
        refine ⟨hI, hC, i + 1, fun ρ own w l ds Q hl hden hr hK => ?_⟩
        obtain ⟨hdj, hdm, hdv⟩ := h.cl _ h1
        have hf := h.more s l hi hc
        rw [frV_eq hl] at hf
        obtain ⟨t', ex, h3, h5, h6⟩ := evR_of_formD hΓ hf
        rw [rounds_succ]
        refine h3 ρ own w l ds _ (hden.vs hl) hr fun ρ' own' w' l' ht hl' hr' => ?_
        obtain ⟨hto, hrep, hlt⟩ := rep_drop hr ht hr' (by omega) (by rw [hcj]; exact hdm)
        rw [hcj] at hlt hrep hto
        have hll : l'.length = L.len := by rw [denL_length hl']; exact h5
        exact hL ρ _ w' l' ds Q hll (by rw [← h6]; exact frD_of (by have := hr.len; omega) hlt hl' (by rw [h6]; exact hdv)) hrep fun own2 w2 l2 ht2 => hK own2 w2 l2 (hto.trans ht2)
/-- What this memory tells that one tells, too. -/
def RepLe (X : Ext) (m m' : List SObj) : Prop := ∀ ρ own w, Rep X ρ own m w → Rep X ρ own m' w
theorem RepLe.refl {m : List SObj} : RepLe X m m := fun _ _ _ h => h
theorem loopHookV_ok {σ τ : Type} {L : Rounds σ τ} {Γ : Env} (hΓ : EnvOk P X Γ) {n j : Nat} {a : Code} (h : L.OkV P Γ n a j) {id : Nat} {dec : (R : Type) → List Sv → List SObj → (σ → Option R) → Option R} {fin : σ → τ}
    (hdec : ∀ R l m k r, dec R l m k = some r → ∃ s, k s = some r ∧ l = L.vals s ∧ RepLe X m (L.ms s) ∧ L.Inv s) (hfin : ∀ s, L.Inv s → L.out (iterN L.cond L.next (L.μ s) s) = fin s) : HookOk P X (.block id (.loop a)) (loopHook P X L id a dec fin) := by
  intro R t m k r hr
  unfold loopHook at hr
  split at hr
  · rename_i hlen
    have hlen := Nat.eq_of_beq_eq_true hlen
    obtain ⟨s, hs, h1, hm, hi⟩ := hdec _ _ _ _ _ hr
    obtain ⟨hI, hC, i, hL⟩ := Rounds.runV hΓ h (L.μ s) s (Nat.le_refl _) hi
    obtain ⟨hcj, hcm, hcv⟩ := h.cl s hi
    obtain ⟨hdj, _, _⟩ := h.cl2 _ hI hC
    rw [hfin s hi] at hL hdj
    refine ⟨_, _, _, hs, evR_block (id := id) fun ρ own w l ds Q hl hr hK => wp_loop_rounds i (hL ρ own w l ds Q ?_ ?_ (hm _ _ _ hr) fun own' w' l' ht hl' hd' hr' => ?_)⟩
    · rw [denL_length hl]; exact hlen
    · rw [← h1]; exact frD_of (k := j) (by have := (hm _ _ _ hr).len; omega) (fun _ _ => rfl) hl (by rw [h1]; exact hcv)
    · refine hK (ρ ++ [.vals l']) own' w' l' (ht.vals l') ?_ (hr'.vals l')
      rw [← hr'.len]
      exact hd'.unk hl'
  · cases hr
section
variable {Γ : Env} {σ : Type} {len : Nat} {slots : List Nat} {n : σ → Nat} {vals : σ → Nat → List Sv} {ms : σ → Nat → List SObj} {Inv : σ → Prop}
theorem cntE_okV {fuel j ex : Nat} {a : Code} (hm : ∀ s g i, Inv s → i < n s → ev P Γ fuel (fun _ => none) a (frV len slots (vals s i) g) (ms s i) (liveD slots j) = some (0, len, vals s (i + 1), ms s (i + 1)))
    (hd : ∀ s g, Inv s → ev P Γ fuel (fun _ => none) a (frV len slots (vals s (n s)) g) (ms s (n s)) (liveD slots j) = some (ex + 1, len, vals s (n s), ms s (n s)))
    (hc : ∀ s i, Inv s → i ≤ n s → (ms s i).length = j ∧ clM j (ms s i) = true ∧ clL j (vals s i) = true) : (cntE len slots n vals ms Inv ex).OkV P Γ fuel a j where
  more := fun c g hi hc => hm c.s g c.i hi.1 (of_decide_eq_true hc)
  done := fun c g hi hc => by
    have h1 : ¬ c.i < n c.s := of_decide_eq_false hc
    have h2 : c.i = n c.s := Nat.le_antisymm hi.2 (Nat.le_of_not_lt h1)
    have := hd c.s g hi.1
    rw [← h2] at this
    exact this
  inv := fun c hi hc => by
    have h1 : c.i < n c.s := of_decide_eq_true hc
    exact ⟨⟨hi.1, h1⟩, by show n c.s - (c.i + 1) < n c.s - c.i; omega⟩
  cl := fun c hi => hc c.s c.i hi.1 hi.2
  cl2 := fun c hi _ => hc c.s c.i hi.1 hi.2
theorem cntVHook_ok (hΓ : EnvOk P X Γ) {fuel j ex : Nat} {a : Code} (h : (cntE len slots n vals ms Inv ex).OkV P Γ fuel a j) {id : Nat} {dec : (R : Type) → List Sv → List SObj → (σ → Option R) → Option R}
    (hdec : ∀ R l m (k : σ → Option R) r, dec R l m k = some r → ∃ s, k s = some r ∧ l = vals s 0 ∧ RepLe X m (ms s 0) ∧ Inv s) : HookOk P X (.block id (.loop a)) (cntHook P X (cntE len slots n vals ms Inv ex) n id a dec) :=
  loopHookV_ok hΓ h (fun R l m k r hr => by
    obtain ⟨s, h1, h2, h3, h4⟩ := hdec R l m _ r hr
    exact ⟨⟨s, 0⟩, h1, h2, h3, h4, Nat.zero_le _⟩) fun c hi => cnt_iter (len := len) (slots := slots) (vals := vals) (ms := ms) (Inv := Inv) _ c rfl hi.2
end
/-- A row that is but read, its numbers told by a function. -/
def toI : Value → Int
  | .int _ a => a
  | _ => 0
def allK (f : Nat → Value) (off : Nat) : Nat → Bool
  | 0 => true
  | n + 1 => (match f (off + n) with
    | .int .u32 a => in32 a
    | _ => false) && allK f off n
theorem allK_get {f : Nat → Value} {off : Nat} : ∀ {n i : Nat}, allK f off n = true → i < n → f (off + i) = .int .u32 (toI (f (off + i))) ∧ in32 (toI (f (off + i))) = true
  | n + 1, i, h, hi => by
    simp only [allK, Bool.and_eq_true] at h
    by_cases e : i = n
    · subst e
      have h1 := h.1
      split at h1
      · rename_i a e2; rw [e2]; exact ⟨rfl, h1⟩
      · cases h1
    · exact allK_get h.2 (by omega)
theorem ro_le {f : Nat → Value} {off n : Nat} (h : allK f off n = true) (ms : List SObj) : RepLe X (.ro off n f :: ms) (.ro off n (fun i => .int .u32 (toI (f i))) :: ms) := by
  intro ρ own w hr
  refine ⟨hr.len, hr.lt, fun k o hk ha => ?_⟩
  cases k with
  | succ k => exact hr.obj (k + 1) o hk ha
  | zero =>
    obtain rfl : SObj.ro off n (fun i => .int .u32 (toI (f i))) = o := by simpa using hk
    obtain ⟨g, hg, ho⟩ := hr.obj 0 (.ro off n f) rfl rfl
    refine ⟨g, hg, ho.1, ho.2.1, fun i h1 h2 => ?_⟩
    rw [ho.2.2 i h1 h2]
    show some (f i) = some (.int .u32 (toI (f i)))
    have := (allK_get h (i := i - off) (by omega)).1
    rw [show off + (i - off) = i by omega] at this
    rw [← this]
end
end Go.Ev
