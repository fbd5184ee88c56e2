/- A region whose order is open, with calls that lay new objects: whatever floats looks at what stood when the last effect that it waits for was done. -/
import Derived.Test.YtpgdpoloipifeaaEvA
namespace Go.Ev
set_option linter.unusedVariables false
set_option linter.unusedSimpArgs false
open Go
section
variable {P : Program} {X : Ext} {ops : Array Oper} {md : Region.Mode}

/-- An effect, by what holds behind it. -/
def EStepW (P : Program) (X : Ext) (ops : Array Oper) (o : Oper) (t : List Sv) (m : List SObj) (sv : Sv) (m' : List SObj) : Prop :=
  ∀ ρ own a w, Rep X ρ own m w → looks ops o ρ t a → Region.wanted o (yielded ops a.tmps) = true ∧
    ∀ (K : Act → World → Prop) (Q : Exit → Act → World → Prop), (∀ ρ' own' w' x, To ρ own w ρ' own' w' → den ρ' sv = some x → Rep X ρ' own' m' w' → K (a.put o.dst x) w') → o.wp P a w K Q
theorem EStepW.put {o : Oper} {t : List Sv} {m m' : List SObj} {sv : Sv} {d : Option Tmp} {x : Sv} (h : ∀ i, d = some i → i ∉ o.looksAt ops) : EStepW P X ops o (put t d x) m sv m' ↔ EStepW P X ops o t m sv m' := by
  unfold EStepW; simp only [looks_put h]
/-- An effect, or none, by its guard. -/
def EffW (P : Program) (X : Ext) (ops : Array Oper) (o : Oper) (t : List Sv) (m : List SObj) (sv : Sv) (m' : List SObj) : Prop :=
  EStepW P X ops o t m sv m' ∨ (m' = m ∧ sv = .v undef ∧ ∀ ρ a, looks ops o ρ t a → Region.wanted o (yielded ops a.tmps) = false)
theorem EffW.put {o : Oper} {t : List Sv} {m m' : List SObj} {sv : Sv} {d : Option Tmp} {x : Sv} (h : ∀ i, d = some i → i ∉ o.looksAt ops) : EffW P X ops o (put t d x) m sv m' ↔ EffW P X ops o t m sv m' := by
  unfold EffW; simp only [EStepW.put h, looks_put h]
theorem EStep.wp {o : Oper} {t : List Sv} {m m' : List SObj} {sv : Sv} (h : EStep P X ops o t m sv m') : EStepW P X ops o t m sv m' := by
  intro ρ own a w hr hl
  obtain ⟨h1, ρ', own', w', x, hrun, ht, hx, hr'⟩ := h ρ own a w hr hl
  refine ⟨h1, fun K Q hK => ?_⟩
  unfold Oper.wp
  rcases hrun with hrun | ⟨hrun, rfl⟩
  · rw [hrun]; exact hK ρ' own' w' x ht hx hr'
  · rw [hrun]; exact hK ρ' own' w' _ ht hx hr'

/-- What stays seen through an effect. -/
def Pres (D : List Nat) (m m' : List SObj) : Prop := ∀ mx, Compat (maskD D 0 mx) m → Compat (maskD D 0 mx) m'

def HistOk (D : List Nat) (m0 : List SObj) (h : List (Nat × List SObj)) (m : List SObj) : Prop :=
  Compat (maskD D 0 m0) m ∧ ∀ e ∈ h, (∃ mx, e.2 = maskD D 0 mx) ∧ Compat e.2 m
theorem HistOk.vis {D : List Nat} {m0 : List SObj} {m : List SObj} {j : Nat} : ∀ {h : List (Nat × List SObj)}, HistOk D m0 h m → Compat (visC ops (maskD D 0 m0) j h) m
  | [], hh => hh.1
  | (e, mq) :: l, hh => by
    unfold visC
    split
    · exact (hh.2 (e, mq) (by simp)).2
    · exact HistOk.vis ⟨hh.1, fun x hx => hh.2 x (by simp [hx])⟩
theorem HistOk.step {D : List Nat} {m0 : List SObj} {h : List (Nat × List SObj)} {m m' : List SObj} {k : Nat} (hh : HistOk D m0 h m) (hp : Pres D m m') (hc : Compat (maskD D 0 m') m') : HistOk D m0 ((k, maskD D 0 m') :: h) m' :=
  ⟨hp _ hh.1, fun e he => by
    rcases List.mem_cons.1 he with rfl | he
    · exact ⟨⟨_, rfl⟩, hc⟩
    · obtain ⟨⟨mx, h1⟩, h2⟩ := hh.2 e he
      exact ⟨⟨mx, h1⟩, by rw [h1] at h2 ⊢; exact hp _ h2⟩⟩

theorem allW_spec {ops : Array Oper} {eff : Nat → Bool} {i e : Nat} {oe : Oper} (h : allW ops eff i = true) (he : eff e = true) (ho : ops[e]? = some oe) : waitsS .any ops ops.size e i = true := by
  have h1 := List.all_eq_true.1 h e (List.mem_range.2 (Array.getElem?_eq_some_iff.1 ho).1)
  simpa [he] using h1
theorem visM_free {ops : Array Oper} {eff : Nat → Bool} {i : Nat} {m mq : List SObj} (h : allW ops eff i = false) : visM ops eff i m mq = mq := by unfold visM; rw [h]
theorem visM_compat {ops : Array Oper} {eff : Nat → Bool} {i : Nat} {m mq : List SObj} (h : Compat mq m) : Compat (visM ops eff i m mq) m := by
  unfold visM
  split
  · exact Compat.refl m
  · exact h
def CStep (P : Program) (X : Ext) (ops : Array Oper) (eff : Nat → Bool) (D : List Nat) (mq0 : List SObj) (i : Nat) (o : Oper) : Bool → List (Nat × List SObj) → List Sv → List SObj → Sv → List (Nat × List SObj) → List SObj → Prop
  | false, h, t, m, sv, h', m' => h' = h ∧ m' = m ∧ QStep P X ops (visM ops eff i m (visC ops mq0 i h)) o t sv
  | true, h, t, m, sv, h', m' => h' = (i, maskD D 0 m') :: h ∧ Pres D m m' ∧ EffW P X ops o t m sv m'

/-- Whatever order comes. -/
def AnyC (P : Program) (X : Ext) (md : Region.Mode) (ops : Array Oper) (eff : Nat → Bool) (D : List Nat) (mq0 : List SObj) (t2 : List Sv) (m2 : List SObj) : Nat → Array Bool → List (Nat × List SObj) → List Sv → List SObj → Prop
  | 0, listed, h, t, m => Region.ready md ops listed = [] ∧ t = t2 ∧ m = m2
  | f + 1, listed, h, t, m => Region.ready md ops listed ≠ [] ∧ ∀ i ∈ Region.ready md ops listed, ∃ o sv h' m', ops[i]? = some o ∧ CStep P X ops eff D mq0 i o (eff i) h t m sv h' m' ∧ AnyC P X md ops eff D mq0 t2 m2 f (listed.setIfInBounds i true) h' (put t o.dst sv) m'

theorem anyC_sound {eff : Nat → Bool} {D : List Nat} {m0 : List SObj} {t2 : List Sv} {m2 : List SObj} {Q : Exit → Act → World → Prop} {ds : List Deferred} (hmask : ∀ m, Compat (maskD D 0 m) m) :
    ∀ (f : Nat) (listed : Array Bool) (h : List (Nat × List SObj)) (t : List Sv) (m : List SObj), AnyC P X md ops eff D (maskD D 0 m0) t2 m2 f listed h t m → HistOk D m0 h m → ∀ ρ own l w, denL ρ t = some l → Rep X ρ own m w →
      (∀ ρ' own' w' l', To ρ own w ρ' own' w' → denL ρ' t2 = some l' → Rep X ρ' own' m2 w' → Q .normal ⟨l'.toArray, ds⟩ w') → wpAny P md ops Q f listed ⟨l.toArray, ds⟩ w := by
  intro f
  induction f with
  | zero =>
    intro listed h t m H hm ρ own l w hl hr hK
    obtain ⟨h1, rfl, rfl⟩ := H
    exact ⟨h1, hK ρ own w l (To.refl _ _ _) hl hr⟩
  | succ f ih =>
    intro listed h t m H hm ρ own l w hl hr hK
    refine ⟨fun h0 => absurd h0 H.1, fun i hi => ?_⟩
    obtain ⟨o, sv, h', m', ho, hst, hA⟩ := H.2 i hi
    have hlk := looks_of_den (ops := ops) (o := o) (ds := ds) hl
    unfold wpOp
    simp only [ho]
    have go : HistOk D m0 h' m' → ∀ ρ' own' w' x, To ρ own w ρ' own' w' → den ρ' sv = some x → Rep X ρ' own' m' w' → wpAny P md ops Q f (listed.setIfInBounds i true) (Act.put ⟨l.toArray, ds⟩ o.dst x) w' := fun hcm ρ' own' w' x ht hx hr' => by
      obtain ⟨l', h5, h6⟩ := put_den (ds := ds) (denL_mono ht.ext hl) o.dst hx
      rw [h6]
      exact ih _ _ _ _ hA hcm ρ' own' l' w' h5 hr' fun ρ'' own'' w'' l'' ht' hl'' hr'' => hK ρ'' own'' w'' l'' (ht.trans ht') hl'' hr''
    cases he : eff i with
    | false =>
      rw [he] at hst
      obtain ⟨rfl, rfl, hq⟩ := hst
      rcases hq with hq | ⟨rfl, hq⟩
      · obtain ⟨h1, x, hx, h2⟩ := hq ρ own m' _ w (visM_compat hm.vis) hr hlk
        rw [if_pos h1]
        refine .inl (Oper.wp_of_quiet (C := fun w' => To ρ own w ρ own w' ∧ Rep X ρ own m' w') (K := fun a' => a' = Act.put ⟨l.toArray, ds⟩ o.dst x) ⟨To.refl _ _ _, hr⟩ (fun a' w' hw' he => ?_) ⟨x, h2, rfl⟩)
        subst he
        exact go hm ρ own w' x hw'.1 hx hw'.2
      · rw [if_neg (by rw [hq ρ _ hlk]; simp)]
        exact go hm ρ own w undef (To.refl _ _ _) rfl hr
    | true =>
      rw [he] at hst
      obtain ⟨rfl, hp, hst⟩ := hst
      rcases hst with hst | ⟨rfl, rfl, hst⟩
      · obtain ⟨h1, h2⟩ := hst ρ own _ w hr hlk
        rw [if_pos h1]
        exact .inl (h2 _ _ (go (hm.step hp (hmask _))))
      · rw [if_neg (by rw [hst ρ _ hlk]; simp)]
        exact go (hm.step hp (hmask _)) ρ own w undef (To.refl _ _ _) rfl hr

theorem visC_skip {mq0 : List SObj} {j i : Nat} {mq : List SObj} {h : List (Nat × List SObj)} (hw : waitsS .any ops ops.size j i = false) : visC ops mq0 j ((i, mq) :: h) = visC ops mq0 j h := by
  rw [visC, hw]

theorem anyC_first {eff : Nat → Bool} {D : List Nat} {mq0 : List SObj} {t2 : List Sv} {m2 : List SObj} {i : Nat} {oi : Oper} {v : Sv} (hi : ops[i]? = some oi) :
    ∀ (f : Nat) (listed : Array Bool) (h h1 : List (Nat × List SObj)) (t : List Sv) (m m1 : List SObj), closedL .any ops listed →
      (∀ j oj, ops[j]? = some oj → j ≠ i → listed.getD j true = false → (∀ e ∈ oj.after, Region.binds .any e = true → e.on ≠ i) → oi.apart ops oj = true) →
      (eff i = true → ∀ j, eff j = true → j ≠ i → listed.getD j true = false → waitsS .any ops ops.size j i = true) →
      i ∈ Region.ready .any ops listed → CStep P X ops eff D mq0 i oi (eff i) h t m v h1 m1 →
      AnyC P X .any ops eff D mq0 t2 m2 f (listed.setIfInBounds i true) h1 (put t oi.dst v) m1 → AnyC P X .any ops eff D mq0 t2 m2 (f + 1) listed h t m := by
  intro f
  induction f with
  | zero =>
    intro listed h h1 t m m1 hcl hfree hch hr hst H
    refine ⟨fun h => (by rw [h] at hr; cases hr), fun j hj => ?_⟩
    by_cases hji : j = i
    · subst hji; exact ⟨oi, v, h1, m1, hi, hst, H⟩
    · have := ready_mono hj hji
      rw [H.1] at this
      cases this
  | succ f ih =>
    intro listed h h1 t m m1 hcl hfree hch hr hst H
    refine ⟨fun h => (by rw [h] at hr; cases hr), fun j hj => ?_⟩
    by_cases hji : j = i
    · subst hji; exact ⟨oi, v, h1, m1, hi, hst, H⟩
    · obtain ⟨oj, y, h3, m3, hoj, hstj, hA⟩ := H.2 j (ready_mono hj hji)
      obtain ⟨hjun, oj', hoj', hall⟩ := mem_ready.1 hj
      have : oj' = oj := Option.some.inj (hoj'.symm.trans hoj)
      subst this
      have hiun := (mem_ready.1 hr).1
      have hnot : ∀ e ∈ oj'.after, Region.binds .any e = true → e.on ≠ i := fun e he hb heq => by
        have h1 := hall e he hb
        rw [heq, getD_both hiun] at h1
        cases h1
      have nwji : waitsS .any ops ops.size j i = false := by
        cases hw : waitsS .any ops ops.size j i with
        | false => rfl
        | true =>
          have h2 := waits_ready hcl hj hw
          rw [getD_both hiun] at h2
          cases h2
      have nwij : waitsS .any ops ops.size i j = false := by
        cases hw : waitsS .any ops ops.size i j with
        | false => rfl
        | true =>
          have h2 := waits_ready hcl hr hw
          rw [getD_both hjun] at h2
          cases h2
      obtain ⟨a1, a2, a3⟩ := Oper.apart_spec (hfree j oj' hoj hji hjun hnot)
      -- what is left after j
      have rest : ∀ hj1 mj, CStep P X ops eff D mq0 j oj' (eff j) h t m y hj1 mj → CStep P X ops eff D mq0 i oi (eff i) hj1 (put t oj'.dst y) mj v h3 m3 →
          ∃ o sv h' m', ops[j]? = some o ∧ CStep P X ops eff D mq0 j o (eff j) h t m sv h' m' ∧ AnyC P X .any ops eff D mq0 t2 m2 (f + 1) (listed.setIfInBounds j true) h' (put t o.dst sv) m' := fun hj1 mj s1 s2 => by
        refine ⟨oj', y, hj1, mj, hoj, s1, ih _ _ h3 _ _ m3 (hcl.set hj) (fun k ok hk hki hun hno => hfree k ok hk hki ?_ hno) (fun he k hk hki hun => hch he k hk hki ?_) (ready_mono hr (Ne.symm hji)) s2 ?_⟩
        · by_cases hjk : j = k
          · subst hjk; exact hjun
          · rw [getD_set_ne true hjk] at hun; exact hun
        · by_cases hjk : j = k
          · subst hjk; exact hjun
          · rw [getD_set_ne true hjk] at hun; exact hun
        · rw [Array.setIfInBounds_comm _ _ hji, ← put_comm a2]
          exact hA
      cases hei : eff i with
      | false =>
        rw [hei] at hst
        obtain ⟨rfl, rfl, hq⟩ := hst
        cases hej : eff j with
        | false =>
          rw [hej] at hstj
          obtain ⟨rfl, rfl, hqj⟩ := hstj
          rw [← hej]
          refine rest h3 m3 ?_ ?_
          · rw [hej]; exact ⟨rfl, rfl, (QStep.put a1).1 hqj⟩
          · rw [hei]; exact ⟨rfl, rfl, (QStep.put a3).2 hq⟩
        | true =>
          rw [hej] at hstj
          obtain ⟨rfl, hp, hej2⟩ := hstj
          have hna : allW ops eff i = false := by
            cases hw : allW ops eff i with
            | false => rfl
            | true =>
              have := allW_spec hw hej hoj
              rw [nwji] at this
              cases this
          rw [visM_free hna] at hq
          have fin := rest ((j, maskD D 0 m3) :: h1) m3 ?_ ?_
          · rw [hej] at fin; exact fin
          · rw [hej]; exact ⟨rfl, hp, (EffW.put a1).1 hej2⟩
          · rw [hei]; exact ⟨rfl, rfl, by rw [visM_free hna, visC_skip nwij]; exact (QStep.put a3).2 hq⟩
      | true =>
        rw [hei] at hst
        obtain ⟨rfl, hp, he2⟩ := hst
        cases hej : eff j with
        | true =>
          have := hch hei j hej hji hjun
          rw [nwji] at this
          cases this
        | false =>
          rw [hej] at hstj
          obtain ⟨rfl, rfl, hqj⟩ := hstj
          have hna : allW ops eff j = false := by
            cases hw : allW ops eff j with
            | false => rfl
            | true =>
              have := allW_spec hw hei hi
              rw [nwij] at this
              cases this
          rw [visM_free hna, visC_skip nwji] at hqj
          rw [← hej]
          refine rest h m ?_ ?_
          · rw [hej]; exact ⟨rfl, rfl, by rw [visM_free hna]; exact (QStep.put a1).1 hqj⟩
          · rw [hei]; exact ⟨rfl, hp, (EffW.put a3).2 he2⟩

/-- The text's order, step by step. -/
def LexC (P : Program) (X : Ext) (ops : Array Oper) (eff : Nat → Bool) (D : List Nat) (mq0 : List SObj) (t2 : List Sv) (m2 : List SObj) : Nat → List Oper → List (Nat × List SObj) → List Sv → List SObj → Prop
  | _, [], h, t, m => t = t2 ∧ m = m2
  | k, o :: rest, h, t, m => ∃ sv h' m', CStep P X ops eff D mq0 k o (eff k) h t m sv h' m' ∧ LexC P X ops eff D mq0 t2 m2 (k + 1) rest h' (put t o.dst sv) m'

theorem anyC_lex {eff : Nat → Bool} {D : List Nat} {mq0 : List SObj} {t2 : List Sv} {m2 : List SObj} (hch : chainS .any ops eff (fun _ => false) = true) :
    ∀ (l : List Oper) (k : Nat) (listed : Array Bool) (h : List (Nat × List SObj)) (t : List Sv) (m : List SObj), (∀ j, l[j]? = ops[k + j]?) → listed.size = ops.size → closedL .any ops listed → (∀ j, j < k → listed.getD j true = true) →
      Region.lexFrom .any ops l.length k listed = true → LexC P X ops eff D mq0 t2 m2 k l h t m → AnyC P X .any ops eff D mq0 t2 m2 l.length listed h t m
  | [], k, listed, h, t, m, _, _, _, _, hB, H => ⟨by simpa [Region.lexFrom] using hB, H⟩
  | o :: l, k, listed, h, t, m, hl, hsz, hcl, hdone, hB, H => by
    have h0 : ops[k]? = some o := by simpa using (hl 0).symm
    simp only [List.length_cons, Region.lexFrom, Bool.and_eq_true] at hB
    obtain ⟨⟨hr, hf⟩, hB'⟩ := hB
    have hr : k ∈ Region.ready .any ops listed := by simpa using hr
    obtain ⟨sv, h', m', hst, hrest⟩ := H
    have hksz : k < listed.size := by
      have := (mem_ready.1 hr).1
      rcases Nat.lt_or_ge k listed.size with h' | h'
      · exact h'
      · simp [Array.getElem?_eq_none h'] at this
    refine anyC_first h0 l.length listed h h' t m m' hcl (Region.free_spec h0 hf) (fun he j hj hjk hun => ?_) hr hst
      (anyC_lex hch l (k + 1) _ _ _ _ (fun j => by have := hl (j + 1); simpa [Nat.add_assoc, Nat.add_comm 1 j] using this) (by simpa using hsz) (hcl.set hr) (fun j hj => ?_) hB' hrest)
    · have hkj : k < j := by
        rcases Nat.lt_or_ge k j with h1 | h1
        · exact h1
        · have := hdone j (by omega); rw [this] at hun; cases hun
      have hksize : k < ops.size := (Array.getElem?_eq_some_iff.1 h0).1
      by_cases hjs : j < ops.size
      · have h1 := List.all_eq_true.1 hch k (List.mem_range.2 hksize)
        simp only [he, Bool.not_true, Bool.false_or] at h1
        have h2 := List.all_eq_true.1 h1 j (List.mem_range.2 hjs)
        simp only [hj, Bool.not_true, Bool.false_or, Bool.or_eq_true, Bool.and_self] at h2
        rcases h2 with h2 | h2
        · have := Nat.le_of_ble_eq_true h2; omega
        · simpa using h2
      · exfalso
        rw [Array.getD_eq_getD_getElem?, Array.getElem?_eq_none (by omega)] at hun
        cases hun
    · by_cases hjk : j = k
      · subst hjk; simp [hksz]
      · rw [getD_set_ne true (Ne.symm hjk)]; exact hdone j (by omega)
end
end Go.Ev
