/- Loops whose rounds lay objects anew that are forgotten when the round is over. -/
import Derived.Test.YtjcbgjakomalaaaEvG
import Derived.Test.YtjcbgjakomalaaaEv9
namespace Go.Ev
open Go
set_option linter.unusedVariables false
set_option linter.unusedSimpArgs false
section
variable {P : Program} {X : Ext}
/-- What was laid anew is forgotten, where nothing leads to it. -/
theorem rep_drop {ρ ρ' : List Un} {own own' : Nat → Option Nat} {w w' : World} {m m1 ex : List SObj} (hr : Rep X ρ own m w) (ht : To ρ own w ρ' own' w') (hr' : Rep X ρ' own' (m1 ++ ex) w') (hl : m1.length = m.length) (hc : clM m.length m1 = true) :
    To ρ own w ρ (keepB m.length own') w' ∧ Rep X ρ (keepB m.length own') m1 w' ∧ ∀ b, b < m.length → ρ'[b]? = ρ[b]? := by
  obtain ⟨⟨lx, hρ⟩, hn, hk⟩ := ht
  have hlen := hr.len
  have hlt : ∀ b, b < m.length → ρ'[b]? = ρ[b]? := fun b hb => by rw [hρ, List.getElem?_append_left (by omega)]
  refine ⟨⟨⟨[], by simp⟩, fun b hb => ?_, hk⟩, ⟨by omega, fun b k hb => ?_, fun k o hk2 ha => ?_⟩, hlt⟩
  · rcases hn b hb with h1 | h1
    · left; unfold keepB; rw [h1]
    · exact .inr h1
  · obtain ⟨h1, h2⟩ := keepB_some.1 hb
    exact ⟨(hr'.lt b k h1).1, by omega⟩
  · have hkl : k < m1.length := (List.getElem?_eq_some_iff.1 hk2).1
    have hko : k < m.length := by omega
    obtain ⟨g, hg, ho⟩ := hr'.obj k o (by rw [List.getElem?_append_left hkl]; exact hk2) ha
    have hco := clM_get hc hk2
    refine ⟨g, by rw [← hlt k hko]; exact hg, ?_⟩
    refine ObjAt.unren (r := fun b => b) (ρ := ρ') (own := own') hlt (fun x => ?_) (fun x hx => ?_) hco (by rw [renO_id hco]; exact ho)
    · rw [keepB_some]; exact ⟨fun e => e.1, fun e => ⟨e, hko⟩⟩
    · unfold keepB; rw [hx]
theorem denL_vs (ρ : List Un) : ∀ (l : List Value), denL ρ (l.map Sv.v) = some l
  | [] => rfl
  | x :: l => denL_mk rfl (denL_vs ρ l)
theorem setL_denD {ρ ρ1 : List Un} {k : Nat} {l : List Value} {t1 : List Sv} (hlt : ∀ b, b < k → ρ1[b]? = ρ[b]?) (h1 : denL ρ1 t1 = some l) : ∀ (slots : List Nat) (t : List Sv), clL k (slots.map (nth t1)) = true → denL ρ t = some l → denL ρ (setL slots (slots.map (nth t1)) t) = some l
  | [], t, _, h => by simpa [setL] using h
  | i :: is, t, hc, h => by
    simp only [List.map_cons, clL, Bool.and_eq_true] at hc
    simp only [List.map_cons, setL]
    refine setL_denD hlt h1 is _ hc.2 ?_
    have hi : den ρ (nth t1 i) = some (l.getD i undef) := den_unren (r := fun b => b) hlt hc.1 (by rw [renS_id]; exact nth_den i h1)
    have := setN_den i h hi
    rw [this]
    congr 1
    by_cases hi : i < l.length
    · apply List.ext_getElem?
      intro j
      by_cases hj : i = j
      · subst hj; rw [List.getElem?_set_self hi]; simp [List.getD_eq_getElem?_getD, List.getElem?_eq_getElem hi]
      · rw [List.getElem?_set_ne hj]
    · exact List.set_eq_of_length_le (by omega)
/-- These slots of a frame hold this, the others are what they are. -/
def FrD (ρ : List Un) (slots : List Nat) (vals : List Sv) (l : List Value) : Prop := ∀ ρ2, (∃ lx, ρ2 = ρ ++ lx) → ∀ t, denL ρ2 t = some l → denL ρ2 (setL slots vals t) = some l
theorem frD_of {ρ ρ1 : List Un} {k : Nat} {l : List Value} {t1 : List Sv} {slots : List Nat} (hk : k ≤ ρ.length) (hlt : ∀ b, b < k → ρ1[b]? = ρ[b]?) (h1 : denL ρ1 t1 = some l) (hc : clL k (slots.map (nth t1)) = true) : FrD ρ slots (slots.map (nth t1)) l := by
  rintro ρ2 ⟨lx, rfl⟩ t ht
  exact setL_denD (fun b hb => by rw [hlt b hb, List.getElem?_append_left (by omega)]) h1 slots t hc ht
theorem FrD.vs {ρ : List Un} {slots : List Nat} {vals : List Sv} {l : List Value} {len : Nat} (h : FrD ρ slots vals l) (hl : l.length = len) : denL ρ (fr len slots vals (l.map Sv.v)) = some l := by
  unfold fr
  rw [etaL_all (by simp [hl])]
  exact h ρ ⟨[], by simp⟩ _ (denL_vs ρ l)
theorem FrD.unk {ρ : List Un} {slots : List Nat} {vals : List Sv} {l : List Value} {len : Nat} (h : FrD ρ slots vals l) (hl : l.length = len) : denL (ρ ++ [.vals l]) (fr len slots vals (unkL ρ.length len 0)) = some l := by
  unfold fr
  rw [etaL_all (unkL_length _ _ _)]
  refine h _ ⟨_, rfl⟩ _ ?_
  have := unkL_den (ρ := ρ ++ [.vals l]) (b := ρ.length) (l := l) (by simp) len 0 (by omega)
  simpa using this
/-- What is looked at of a round's end, the head of memory. -/
def liveD (slots : List Nat) (j : Nat) : SEx → List Sv → List SObj → Option (Nat × Nat × List Sv × List SObj) := fun e t m => match e with
  | .normal => some (0, t.length, slots.map (nth t), m.take j)
  | .ret => some (1, t.length, slots.map (nth t), m.take j)
  | .exit id => some (id + 2, t.length, slots.map (nth t), m.take j)
  | .panic _ => none
theorem evR_of_formD {Γ : Env} (hΓ : EnvOk P X Γ) {n j : Nat} {a : Code} {t : List Sv} {m m' : List SObj} {slots : List Nat} {c len : Nat} {vals : List Sv}
    (h : ev P Γ n (fun _ => none) a t m (liveD slots j) = some (c, len, vals, m')) : ∃ t' ex, EvR P X a t m (exOf c) t' (m' ++ ex) ∧ t'.length = len ∧ slots.map (nth t') = vals := by
  obtain ⟨e, t', m1, h1, h2⟩ := ev_sound hΓ n _ _ _ _ _ _ (blkIn_none P X a) h
  have key : e = exOf c ∧ t'.length = len ∧ slots.map (nth t') = vals ∧ m1.take j = m' := by
    cases e <;> simp only [liveD, Option.some.injEq, Prod.mk.injEq] at h1
    · obtain ⟨rfl, h3, h4, h5⟩ := h1; exact ⟨rfl, h3, h4, h5⟩
    · obtain ⟨rfl, h3, h4, h5⟩ := h1; exact ⟨rfl, h3, h4, h5⟩
    · obtain ⟨rfl, h3, h4, h5⟩ := h1; exact ⟨rfl, h3, h4, h5⟩
    · cases h1
  obtain ⟨rfl, h3, h4, rfl⟩ := key
  exact ⟨t', m1.drop j, by rw [List.take_append_drop]; exact h2, h3, h4⟩
structure Rounds.OkD {σ τ : Type} (L : Rounds σ τ) (P : Program) (Γ : Env) (n : Nat) (a : Code) (j : Nat) : Prop where
  more : ∀ s g, L.Inv s → L.cond s = true → ev P Γ n (fun _ => none) a (fr L.len L.slots (L.vals s) g) (L.ms s) (liveD L.slots j) = some (0, L.len, L.vals (L.next s), L.ms (L.next s))
  done : ∀ s g, L.Inv s → L.cond s = false → ev P Γ n (fun _ => none) a (fr L.len L.slots (L.vals s) g) (L.ms s) (liveD L.slots j) = some (L.ex (L.out s) + 1, L.len, L.vals2 (L.out s), L.ms2 (L.out s))
  inv : ∀ s, L.Inv s → L.cond s = true → L.Inv (L.next s) ∧ L.μ (L.next s) < L.μ s
  cl : ∀ s, L.Inv s → (L.ms s).length = j ∧ clM j (L.ms s) = true ∧ clL j (L.vals s) = true
  cl2 : ∀ s, L.Inv s → L.cond s = false → (L.ms2 (L.out s)).length = j ∧ clM j (L.ms2 (L.out s)) = true ∧ clL j (L.vals2 (L.out s)) = true
/-- So many rounds of a loop, what they lay anew forgotten. -/
def LoopD (P : Program) (X : Ext) (a : Code) (len : Nat) (slots : List Nat) (i : Nat) (vals : List Sv) (m : List SObj) (e : SEx) (vals' : List Sv) (m' : List SObj) : Prop :=
  ∀ ρ own w l ds (Q : Exit → Act → World → Prop), l.length = len → FrD ρ slots vals l → Rep X ρ own m w →
    (∀ own' w' l', To ρ own w ρ own' w' → l'.length = len → FrD ρ slots vals' l' → Rep X ρ own' m' w' → Q e.toExit ⟨l'.toArray, ds⟩ w') → Code.rounds P a Q i ⟨l.toArray, ds⟩ w
theorem Rounds.runD {σ τ : Type} {L : Rounds σ τ} {Γ : Env} (hΓ : EnvOk P X Γ) {n j : Nat} {a : Code} (h : L.OkD P Γ n a j) : ∀ (k : Nat) (s : σ), L.μ s ≤ k → L.Inv s →
    L.Inv (iterN L.cond L.next k s) ∧ L.cond (iterN L.cond L.next k s) = false ∧ ∃ i, LoopD P X a L.len L.slots i (L.vals s) (L.ms s) (exOf (L.ex (L.out (iterN L.cond L.next k s)) + 1)) (L.vals2 (L.out (iterN L.cond L.next k s))) (L.ms2 (L.out (iterN L.cond L.next k s)))
  | k, s, hk, hi => by
    obtain ⟨hcj, hcm, hcv⟩ := h.cl s hi
    cases hc : L.cond s with
    | false =>
      have e : iterN L.cond L.next k s = s := by cases k <;> simp [iterN, hc]
      rw [e]
      refine ⟨hi, hc, 1, fun ρ own w l ds Q hl hden hr hK => ?_⟩
      obtain ⟨hdj, hdm, hdv⟩ := h.cl2 s hi hc
      obtain ⟨t', ex, h1, h2, h3⟩ := evR_of_formD hΓ (h.done s (l.map Sv.v) hi hc)
      rw [rounds_succ]
      refine h1 ρ own w l ds _ (hden.vs hl) hr fun ρ' own' w' l' ht hl' hr' => ?_
      obtain ⟨hto, hrep, hlt⟩ := rep_drop hr ht hr' (by omega) (by rw [hcj]; exact hdm)
      rw [hcj] at hlt hrep hto
      have hll : l'.length = L.len := by rw [denL_length hl']; exact h2
      have := hK _ w' l' hto hll (by rw [← h3]; exact frD_of (by have := hr.len; omega) hlt hl' (by rw [h3]; exact hdv)) hrep
      cases hx : L.ex (L.out s) <;> (rw [hx] at this; exact this)
    | true =>
      obtain ⟨h1, h2⟩ := h.inv s hi hc
      cases k with
      | zero => omega
      | succ k =>
        obtain ⟨hI, hC, i, hL⟩ := Rounds.runD hΓ h k (L.next s) (by omega) h1
        have e : iterN L.cond L.next (k + 1) s = iterN L.cond L.next k (L.next s) := by simp [iterN, hc]
        rw [e]
        refine ⟨hI, hC, i + 1, fun ρ own w l ds Q hl hden hr hK => ?_⟩
        obtain ⟨hdj, hdm, hdv⟩ := h.cl _ h1
        obtain ⟨t', ex, h3, h5, h6⟩ := evR_of_formD hΓ (h.more s (l.map Sv.v) hi hc)
        rw [rounds_succ]
        refine h3 ρ own w l ds _ (hden.vs hl) hr fun ρ' own' w' l' ht hl' hr' => ?_
        obtain ⟨hto, hrep, hlt⟩ := rep_drop hr ht hr' (by omega) (by rw [hcj]; exact hdm)
        rw [hcj] at hlt hrep hto
        have hll : l'.length = L.len := by rw [denL_length hl']; exact h5
        exact hL ρ _ w' l' ds Q hll (by rw [← h6]; exact frD_of (by have := hr.len; omega) hlt hl' (by rw [h6]; exact hdv)) hrep fun own2 w2 l2 ht2 => hK own2 w2 l2 (hto.trans ht2)
theorem loopHookD_ok {σ τ : Type} {L : Rounds σ τ} {Γ : Env} (hΓ : EnvOk P X Γ) {n j : Nat} {a : Code} (h : L.OkD P Γ n a j) {id : Nat} {dec : (R : Type) → List Sv → List SObj → (σ → Option R) → Option R} {fin : σ → τ}
    (hdec : ∀ R l m k r, dec R l m k = some r → ∃ s, k s = some r ∧ l = L.vals s ∧ m = L.ms s ∧ L.Inv s) (hfin : ∀ s, L.Inv s → L.out (iterN L.cond L.next (L.μ s) s) = fin s) : HookOk P X (.block id (.loop a)) (loopHook P X L id a dec fin) := by
  intro R t m k r hr
  unfold loopHook at hr
  split at hr
  · rename_i hlen
    have hlen := Nat.eq_of_beq_eq_true hlen
    obtain ⟨s, hs, h1, rfl, hi⟩ := hdec _ _ _ _ _ hr
    obtain ⟨hI, hC, i, hL⟩ := Rounds.runD hΓ h (L.μ s) s (Nat.le_refl _) hi
    obtain ⟨hcj, hcm, hcv⟩ := h.cl s hi
    obtain ⟨hdj, _, _⟩ := h.cl2 _ hI hC
    rw [hfin s hi] at hL hdj
    refine ⟨_, _, _, hs, evR_block (id := id) fun ρ own w l ds Q hl hr hK => wp_loop_rounds i (hL ρ own w l ds Q ?_ ?_ hr fun own' w' l' ht hl' hd' hr' => ?_)⟩
    · rw [denL_length hl]; exact hlen
    · rw [← h1]; exact frD_of (k := j) (by have := hr.len; omega) (fun _ _ => rfl) hl (by rw [h1]; exact hcv)
    · refine hK (ρ ++ [.vals l']) own' w' l' (ht.vals l') ?_ (hr'.vals l')
      rw [← hr'.len]
      exact hd'.unk hl'
  · cases hr
end
/-! ### A text in two parts, one behind the other -/
def preC : Nat → Code → Code
  | j + 1, .seq a b => .seq a (preC j b)
  | _, _ => .skip
def postC : Nat → Code → Code
  | j + 1, .seq _ b => postC j b
  | _, c => c
def seqN : Nat → Code → Bool
  | 0, _ => true
  | j + 1, .seq _ b => seqN j b
  | _ + 1, _ => false
def kSplit {R : Type} (E : List Sv → List SObj → Option R) (k : SEx → List Sv → List SObj → Option R) : SEx → List Sv → List SObj → Option R := fun e t m => match e with
  | .normal => E t m
  | e => k e t m
theorem ev_split {R : Type} {P : Program} {Γ : Env} {n : Nat} {H : Nat → Option Hook} : ∀ (j : Nat) (c : Code) (t : List Sv) (m : List SObj) (k : SEx → List Sv → List SObj → Option R), seqN j c = true →
    ev P Γ (n + 1 + j) H c t m k = ev P Γ (n + 1 + j) H (preC j c) t m (kSplit (fun t' m' => ev P Γ (n + 1) H (postC j c) t' m' k) k)
  | 0, c, t, m, k, _ => rfl
  | j + 1, c, t, m, k, h => by
    cases c with
    | seq a b =>
      show ev P Γ (n + 1 + j) H a t m _ = ev P Γ (n + 1 + j) H a t m _
      congr 1
      funext e t' m'
      cases e with
      | normal => exact ev_split j b t' m' k h
      | exit id => rfl
      | ret => rfl
      | panic ch => rfl
    | _ => cases h
theorem kSplit_normal {R : Type} (E : List Sv → List SObj → Option R) (k : SEx → List Sv → List SObj → Option R) (t : List Sv) (m : List SObj) : kSplit E k .normal t m = E t m := rfl
theorem ev_split' {R : Type} {P : Program} {Γ : Env} {H : Nat → Option Hook} (N n j : Nat) (c : Code) (t : List Sv) (m : List SObj) (k : SEx → List Sv → List SObj → Option R) (hN : N = n + 1 + j) (n1 : Nat) (hn : n1 = n + 1) (h : seqN j c = true) :
    ev P Γ N H c t m k = ev P Γ N H (preC j c) t m (kSplit (fun t' m' => ev P Γ n1 H (postC j c) t' m' k) k) := by subst hN hn; exact ev_split j c t m k h
/-- A function's frame, its arguments ahead. -/
def frameOf (fn : Func) (args : List Sv) : List Sv := args ++ List.replicate (fn.ntmps - args.length) (.v undef)
/-- What follows a function's body. -/
def kBody {R : Type} (P : Program) (fn : Func) (k : Sv → List SObj → Option R) (kp : List PanicEntry → List SObj → Option R) : SEx → List Sv → List SObj → Option R := fun e t' m' => match e with
  | .normal => (match resS P t' m' fn.results.toList with
    | some l => k (tupS l) m'
    | none => none)
  | .ret => (match resS P t' m' fn.results.toList with
    | some l => k (tupS l) m'
    | none => none)
  | .panic ch => kp ch m'
  | _ => none
theorem evF_is {R : Type} {P : Program} {Γ : Env} {n : Nat} {f : FuncId} {fn : Func} {c : Code} (hs : Γ.specs f = none) (hf : P.funcs[f]? = some fn) (hb : fn.body = some c) (args : List Sv) (m : List SObj) (k : Sv → List SObj → Option R) (kp : List PanicEntry → List SObj → Option R) :
    evF P Γ n f args m k kp = ev P Γ n (Γ.hooks f) c (frameOf fn args) m (kBody P fn k kp) := by
  unfold evF callE
  simp only [hs, hf, hb]
  rfl
end Go.Ev
