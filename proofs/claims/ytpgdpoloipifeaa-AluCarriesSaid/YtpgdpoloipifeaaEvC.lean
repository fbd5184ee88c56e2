/- A region whose order is open, with calls that lay new objects: whatever floats looks at what stood when the last effect that it waits for was done. -/
import Derived.Test.YtpgdpoloipifeaaEvA
namespace Go.Ev
set_option linter.unusedVariables false
set_option linter.unusedSimpArgs false
open Go
section
variable {P : Program} {X : Ext} {ops : Array Oper} {md : Region.Mode}

theorem setN_length : ∀ {t : List Sv} {d : Nat} {x : Sv}, (setN t d x).length = t.length
  | [], d, x => rfl
  | c :: t, 0, x => rfl
  | c :: t, d + 1, x => by simp [setN, setN_length]
theorem unkL_den {ρ : List Un} {b : Nat} {l : List Value} (hb : ρ[b]? = some (.vals l)) : ∀ (n j : Nat), l.length = j + n → denL ρ (unkL b n j) = some (l.drop j)
  | 0, j, h => by simp [unkL, denL, List.drop_eq_nil_of_le (show l.length ≤ j by omega)]
  | n + 1, j, h => by
    have hj : j < l.length := by omega
    rw [List.drop_eq_getElem_cons hj]
    exact denL_mk (by simp only [den, hb]; exact List.getElem?_eq_getElem hj) (unkL_den hb n (j + 1) (by omega))
theorem unkL_length (b : Nat) : ∀ (n j : Nat), (unkL b n j).length = n
  | 0, j => rfl
  | n + 1, j => by simp [unkL, unkL_length b n]
theorem Rep.vals {ρ : List Un} {own : Nat → Option Nat} {m : List SObj} {w : World} (h : Rep X ρ own m w) (l : List Value) : Rep X (ρ ++ [.vals l]) own (m ++ [.dead]) w :=
  ⟨by simp [h.len], fun b k hk => ⟨(h.lt b k hk).1, by have := (h.lt b k hk).2; simp; omega⟩, fun k o ho ha => by
    by_cases hk : k < m.length
    · rw [List.getElem?_append_left hk] at ho
      obtain ⟨g, hg, hob⟩ := h.obj k o ho ha
      have hgl := (List.getElem?_eq_some_iff.1 hg).1
      refine ⟨g, by rw [List.getElem?_append_left hgl]; exact hg, ?_⟩
      have hpre : ∃ l', ρ ++ [Un.vals l] = ρ ++ l' := ⟨_, rfl⟩
      cases o with
      | cells cs e => obtain ⟨h1, l', h2, h3⟩ := hob; exact ⟨h1, l', denL_mono hpre h2, h3⟩
      | ro base n f => exact hob
      | ext tag M => exact hob
      | pm q es => obtain ⟨h1, es', l', hp, h2, h3⟩ := hob; exact ⟨h1, es', l', hp, h2.mono hpre, h3⟩
      | it b n => obtain ⟨h1, gm, h2, h3⟩ := hob; exact ⟨h1, gm, by rw [List.getElem?_append_left (List.getElem?_eq_some_iff.1 h2).1]; exact h2, h3⟩
      | bm q qe M => exact hob
      | buf c cs e => obtain ⟨h1, l', l2, fr, h2, h3, h4, h5⟩ := hob; exact ⟨h1, l', l2, fr, denL_mono hpre h2, h3.mono hpre, h4, h5⟩
      | bufz z c cs e => obtain ⟨h1, l', l2, n, h2, h3, h4, h5⟩ := hob; exact ⟨h1, l', l2, n, denL_mono hpre h2, h3.mono hpre, h4, h5⟩
      | arr q e n F => exact hob
      | m1 q a es clk p nw => obtain ⟨h1, h2⟩ := hob; exact ⟨h1, h2.mono hpre⟩
      | rowd => trivial
      | dead => trivial
    · rw [List.getElem?_append_right (by omega)] at ho
      have : k - m.length = 0 := by
        rcases Nat.eq_zero_or_pos (k - m.length) with h0 | h0
        · exact h0
        · rw [List.getElem?_eq_none (by simp; omega)] at ho; cases ho
      rw [this] at ho
      simp at ho; subst ho; cases ha⟩
theorem setN_nthC : ∀ {t : List Sv} {d : Nat}, setN t d (nth t d) = t
  | [], d => rfl
  | c :: t, 0 => rfl
  | c :: t, d + 1 => by simp only [setN, nth]; rw [setN_nthC]
theorem put_length {t : List Sv} {d : Option Tmp} {x : Sv} : (put t d x).length = t.length := by
  cases d
  · rfl
  · exact setN_length
/-- An operation that panics, and leaves all as it was. -/
def PStep (P : Program) (X : Ext) (ops : Array Oper) (o : Oper) (t : List Sv) (m : List SObj) (ch : List PanicEntry) : Prop :=
  ∀ ρ own a w, Rep X ρ own m w → looks ops o ρ t a → Region.wanted o (yielded ops a.tmps) = true ∧
    ∀ (K : Act → World → Prop) (Q : Exit → Act → World → Prop), (∀ ρ' own' w', To ρ own w ρ' own' w' → Rep X ρ' own' m w' → Q (.panic ch) a w') → o.wp P a w K Q
theorem PStep.put {o : Oper} {t : List Sv} {m : List SObj} {ch : List PanicEntry} {d : Option Tmp} {x : Sv} (h : ∀ i, d = some i → i ∉ o.looksAt ops) : PStep P X ops o (put t d x) m ch ↔ PStep P X ops o t m ch := by
  unfold PStep; simp only [looks_put h]

/-- An effect, or none, by its guard. -/
def EffW (P : Program) (X : Ext) (ops : Array Oper) (o : Oper) (t : List Sv) (m : List SObj) (sv : Sv) (m' : List SObj) : Prop :=
  EStepW P X ops o t m sv m' ∨ (m' = m ∧ sv = .v undef ∧ ∀ ρ a, looks ops o ρ t a → Region.wanted o (yielded ops a.tmps) = false)
theorem EffW.put {o : Oper} {t : List Sv} {m m' : List SObj} {sv : Sv} {d : Option Tmp} {x : Sv} (h : ∀ i, d = some i → i ∉ o.looksAt ops) : EffW P X ops o (put t d x) m sv m' ↔ EffW P X ops o t m sv m' := by
  unfold EffW; simp only [EStepW.put h, looks_put h]
/-- What stays seen through an effect. -/
def Pres (D : List Nat) (m m' : List SObj) : Prop := ∀ mx, Compat (maskD D 0 mx) m → Compat (maskD D 0 mx) m'

def HistOk (D : List Nat) (m0 : List SObj) (h : List (Nat × List SObj)) (m : List SObj) : Prop :=
  Compat (maskD D 0 m0) m ∧ ∀ e ∈ h, (∃ mx, e.2 = maskD D 0 mx) ∧ Compat e.2 m
theorem HistOk.vis {D : List Nat} {m0 : List SObj} {m : List SObj} {j : Nat} : ∀ {h : List (Nat × List SObj)}, HistOk D m0 h m → Compat (visC ops (maskD D 0 m0) j h) m
  | [], hh => hh.1
  | (e, mq) :: l, hh => by
    unfold visC
    split
    · exact (hh.2 (e, mq) (by simp)).2
    · exact HistOk.vis ⟨hh.1, fun x hx => hh.2 x (by simp [hx])⟩
theorem HistOk.step {D : List Nat} {m0 : List SObj} {h : List (Nat × List SObj)} {m m' : List SObj} {k : Nat} (hh : HistOk D m0 h m) (hp : Pres D m m') (hc : Compat (maskD D 0 m') m') : HistOk D m0 ((k, maskD D 0 m') :: h) m' :=
  ⟨hp _ hh.1, fun e he => by
    rcases List.mem_cons.1 he with rfl | he
    · exact ⟨⟨_, rfl⟩, hc⟩
    · obtain ⟨⟨mx, h1⟩, h2⟩ := hh.2 e he
      exact ⟨⟨mx, h1⟩, by rw [h1] at h2 ⊢; exact hp _ h2⟩⟩

theorem allW_spec {ops : Array Oper} {eff : Nat → Bool} {i e : Nat} {oe : Oper} (h : allW ops eff i = true) (he : eff e = true) (ho : ops[e]? = some oe) : waitsS .any ops ops.size e i = true := by
  have h1 := List.all_eq_true.1 h e (List.mem_range.2 (Array.getElem?_eq_some_iff.1 ho).1)
  simpa [he] using h1
theorem visM_free {ops : Array Oper} {eff : Nat → Bool} {i : Nat} {m mq : List SObj} (h : allW ops eff i = false) : visM ops eff i m mq = mq := by unfold visM; rw [h]
theorem visM_compat {ops : Array Oper} {eff : Nat → Bool} {i : Nat} {m mq : List SObj} (h : Compat mq m) : Compat (visM ops eff i m mq) m := by
  unfold visM
  split
  · exact Compat.refl m
  · exact h
def CStep (P : Program) (X : Ext) (ops : Array Oper) (eff : Nat → Bool) (D : List Nat) (mq0 : List SObj) (i : Nat) (o : Oper) : Bool → List (Nat × List SObj) → List Sv → List SObj → Sv → List (Nat × List SObj) → List SObj → Prop
  | false, h, t, m, sv, h', m' => h' = h ∧ m' = m ∧ QStep P X ops (visM ops eff i m (visC ops mq0 i h)) o t sv
  | true, h, t, m, sv, h', m' => h' = (i, maskD D 0 m') :: h ∧ Pres D m m' ∧ EffW P X ops o t m sv m'

/-- Whatever order comes. -/
def AnyC (P : Program) (X : Ext) (md : Region.Mode) (ops : Array Oper) (eff : Nat → Bool) (D : List Nat) (mq0 : List SObj) (t2 : List Sv) (m2 : List SObj) : Nat → Array Bool → List (Nat × List SObj) → List Sv → List SObj → Prop
  | 0, listed, h, t, m => Region.ready md ops listed = [] ∧ t = t2 ∧ m = m2
  | f + 1, listed, h, t, m => Region.ready md ops listed ≠ [] ∧ ∀ i ∈ Region.ready md ops listed, ∃ o sv h' m', ops[i]? = some o ∧ CStep P X ops eff D mq0 i o (eff i) h t m sv h' m' ∧ AnyC P X md ops eff D mq0 t2 m2 f (listed.setIfInBounds i true) h' (put t o.dst sv) m'

theorem anyC_sound {eff : Nat → Bool} {D : List Nat} {m0 : List SObj} {t2 : List Sv} {m2 : List SObj} {Q : Exit → Act → World → Prop} {ds : List Deferred} (hmask : ∀ m, Compat (maskD D 0 m) m) :
    ∀ (f : Nat) (listed : Array Bool) (h : List (Nat × List SObj)) (t : List Sv) (m : List SObj), AnyC P X md ops eff D (maskD D 0 m0) t2 m2 f listed h t m → HistOk D m0 h m → ∀ ρ own l w, denL ρ t = some l → Rep X ρ own m w →
      (∀ ρ' own' w' l', To ρ own w ρ' own' w' → denL ρ' t2 = some l' → Rep X ρ' own' m2 w' → Q .normal ⟨l'.toArray, ds⟩ w') → wpAny P md ops Q f listed ⟨l.toArray, ds⟩ w := by
  intro f
  induction f with
  | zero =>
    intro listed h t m H hm ρ own l w hl hr hK
    obtain ⟨h1, rfl, rfl⟩ := H
    exact ⟨h1, hK ρ own w l (To.refl _ _ _) hl hr⟩
  | succ f ih =>
    intro listed h t m H hm ρ own l w hl hr hK
    refine ⟨fun h0 => absurd h0 H.1, fun i hi => ?_⟩
    obtain ⟨o, sv, h', m', ho, hst, hA⟩ := H.2 i hi
    have hlk := looks_of_den (ops := ops) (o := o) (ds := ds) hl
    unfold wpOp
    simp only [ho]
    have go : HistOk D m0 h' m' → ∀ ρ' own' w' x, To ρ own w ρ' own' w' → den ρ' sv = some x → Rep X ρ' own' m' w' → wpAny P md ops Q f (listed.setIfInBounds i true) (Act.put ⟨l.toArray, ds⟩ o.dst x) w' := fun hcm ρ' own' w' x ht hx hr' => by
      obtain ⟨l', h5, h6⟩ := put_den (ds := ds) (denL_mono ht.ext hl) o.dst hx
      rw [h6]
      exact ih _ _ _ _ hA hcm ρ' own' l' w' h5 hr' fun ρ'' own'' w'' l'' ht' hl'' hr'' => hK ρ'' own'' w'' l'' (ht.trans ht') hl'' hr''
    cases he : eff i with
    | false =>
      rw [he] at hst
      obtain ⟨rfl, rfl, hq⟩ := hst
      rcases hq with hq | ⟨rfl, hq⟩ | hq
      · obtain ⟨h1, x, hx, h2⟩ := hq ρ own m' _ w (visM_compat hm.vis) hr hlk
        rw [if_pos h1]
        refine .inl (Oper.wp_of_quiet (C := fun w' => To ρ own w ρ own w' ∧ Rep X ρ own m' w') (K := fun a' => a' = Act.put ⟨l.toArray, ds⟩ o.dst x) ⟨To.refl _ _ _, hr⟩ (fun a' w' hw' he => ?_) ⟨x, h2, rfl⟩)
        subst he
        exact go hm ρ own w' x hw'.1 hx hw'.2
      · rw [if_neg (by rw [hq ρ _ hlk]; simp)]
        exact go hm ρ own w undef (To.refl _ _ _) rfl hr
      · obtain ⟨h1, h2⟩ := hq _ (visM_compat hm.vis) ρ own _ w hr hlk
        rw [if_pos h1]
        exact .inl (h2 _ _ (go hm))
    | true =>
      rw [he] at hst
      obtain ⟨rfl, hp, hst⟩ := hst
      rcases hst with hst | ⟨rfl, rfl, hst⟩
      · obtain ⟨h1, h2⟩ := hst ρ own _ w hr hlk
        rw [if_pos h1]
        exact .inl (h2 _ _ (go (hm.step hp (hmask _))))
      · rw [if_neg (by rw [hst ρ _ hlk]; simp)]
        exact go (hm.step hp (hmask _)) ρ own w undef (To.refl _ _ _) rfl hr

theorem visC_skip {mq0 : List SObj} {j i : Nat} {mq : List SObj} {h : List (Nat × List SObj)} (hw : waitsS .any ops ops.size j i = false) : visC ops mq0 j ((i, mq) :: h) = visC ops mq0 j h := by
  rw [visC, hw]

theorem anyC_first {eff : Nat → Bool} {D : List Nat} {mq0 : List SObj} {t2 : List Sv} {m2 : List SObj} {i : Nat} {oi : Oper} {v : Sv} (hi : ops[i]? = some oi) :
    ∀ (f : Nat) (listed : Array Bool) (h h1 : List (Nat × List SObj)) (t : List Sv) (m m1 : List SObj), closedL .any ops listed →
      (∀ j oj, ops[j]? = some oj → j ≠ i → listed.getD j true = false → (∀ e ∈ oj.after, Region.binds .any e = true → e.on ≠ i) → oi.apart ops oj = true) →
      (eff i = true → ∀ j, eff j = true → j ≠ i → listed.getD j true = false → waitsS .any ops ops.size j i = true) →
      i ∈ Region.ready .any ops listed → CStep P X ops eff D mq0 i oi (eff i) h t m v h1 m1 →
      AnyC P X .any ops eff D mq0 t2 m2 f (listed.setIfInBounds i true) h1 (put t oi.dst v) m1 → AnyC P X .any ops eff D mq0 t2 m2 (f + 1) listed h t m := by
  intro f
  induction f with
  | zero =>
    intro listed h h1 t m m1 hcl hfree hch hr hst H
    refine ⟨fun h => (by rw [h] at hr; cases hr), fun j hj => ?_⟩
    by_cases hji : j = i
    · subst hji; exact ⟨oi, v, h1, m1, hi, hst, H⟩
    · have := ready_mono hj hji
      rw [H.1] at this
      cases this
  | succ f ih =>
    intro listed h h1 t m m1 hcl hfree hch hr hst H
    refine ⟨fun h => (by rw [h] at hr; cases hr), fun j hj => ?_⟩
    by_cases hji : j = i
    · subst hji; exact ⟨oi, v, h1, m1, hi, hst, H⟩
    · obtain ⟨oj, y, h3, m3, hoj, hstj, hA⟩ := H.2 j (ready_mono hj hji)
      obtain ⟨hjun, oj', hoj', hall⟩ := mem_ready.1 hj
      have : oj' = oj := Option.some.inj (hoj'.symm.trans hoj)
      subst this
      have hiun := (mem_ready.1 hr).1
      have hnot : ∀ e ∈ oj'.after, Region.binds .any e = true → e.on ≠ i := fun e he hb heq => by
        have h1 := hall e he hb
        rw [heq, getD_both hiun] at h1
        cases h1
      have nwji : waitsS .any ops ops.size j i = false := by
        cases hw : waitsS .any ops ops.size j i with
        | false => rfl
        | true =>
          have h2 := waits_ready hcl hj hw
          rw [getD_both hiun] at h2
          cases h2
      have nwij : waitsS .any ops ops.size i j = false := by
        cases hw : waitsS .any ops ops.size i j with
        | false => rfl
        | true =>
          have h2 := waits_ready hcl hr hw
          rw [getD_both hjun] at h2
          cases h2
      obtain ⟨a1, a2, a3⟩ := Oper.apart_spec (hfree j oj' hoj hji hjun hnot)
      -- what is left after j
      have rest : ∀ hj1 mj, CStep P X ops eff D mq0 j oj' (eff j) h t m y hj1 mj → CStep P X ops eff D mq0 i oi (eff i) hj1 (put t oj'.dst y) mj v h3 m3 →
          ∃ o sv h' m', ops[j]? = some o ∧ CStep P X ops eff D mq0 j o (eff j) h t m sv h' m' ∧ AnyC P X .any ops eff D mq0 t2 m2 (f + 1) (listed.setIfInBounds j true) h' (put t o.dst sv) m' := fun hj1 mj s1 s2 => by
        refine ⟨oj', y, hj1, mj, hoj, s1, ih _ _ h3 _ _ m3 (hcl.set hj) (fun k ok hk hki hun hno => hfree k ok hk hki ?_ hno) (fun he k hk hki hun => hch he k hk hki ?_) (ready_mono hr (Ne.symm hji)) s2 ?_⟩
        · by_cases hjk : j = k
          · subst hjk; exact hjun
          · rw [getD_set_ne true hjk] at hun; exact hun
        · by_cases hjk : j = k
          · subst hjk; exact hjun
          · rw [getD_set_ne true hjk] at hun; exact hun
        · rw [Array.setIfInBounds_comm _ _ hji, ← put_comm a2]
          exact hA
      cases hei : eff i with
      | false =>
        rw [hei] at hst
        obtain ⟨rfl, rfl, hq⟩ := hst
        cases hej : eff j with
        | false =>
          rw [hej] at hstj
          obtain ⟨rfl, rfl, hqj⟩ := hstj
          rw [← hej]
          refine rest h3 m3 ?_ ?_
          · rw [hej]; exact ⟨rfl, rfl, (QStep.put a1).1 hqj⟩
          · rw [hei]; exact ⟨rfl, rfl, (QStep.put a3).2 hq⟩
        | true =>
          rw [hej] at hstj
          obtain ⟨rfl, hp, hej2⟩ := hstj
          have hna : allW ops eff i = false := by
            cases hw : allW ops eff i with
            | false => rfl
            | true =>
              have := allW_spec hw hej hoj
              rw [nwji] at this
              cases this
          rw [visM_free hna] at hq
          have fin := rest ((j, maskD D 0 m3) :: h1) m3 ?_ ?_
          · rw [hej] at fin; exact fin
          · rw [hej]; exact ⟨rfl, hp, (EffW.put a1).1 hej2⟩
          · rw [hei]; exact ⟨rfl, rfl, by rw [visM_free hna, visC_skip nwij]; exact (QStep.put a3).2 hq⟩
      | true =>
        rw [hei] at hst
        obtain ⟨rfl, hp, he2⟩ := hst
        cases hej : eff j with
        | true =>
          have := hch hei j hej hji hjun
          rw [nwji] at this
          cases this
        | false =>
          rw [hej] at hstj
          obtain ⟨rfl, rfl, hqj⟩ := hstj
          have hna : allW ops eff j = false := by
            cases hw : allW ops eff j with
            | false => rfl
            | true =>
              have := allW_spec hw hei hi
              rw [nwij] at this
              cases this
          rw [visM_free hna, visC_skip nwji] at hqj
          rw [← hej]
          refine rest h m ?_ ?_
          · rw [hej]; exact ⟨rfl, rfl, by rw [visM_free hna]; exact (QStep.put a1).1 hqj⟩
          · rw [hei]; exact ⟨rfl, hp, (EffW.put a3).2 he2⟩

/-- The text's order, step by step. -/
def LexC (P : Program) (X : Ext) (ops : Array Oper) (eff : Nat → Bool) (D : List Nat) (mq0 : List SObj) (t2 : List Sv) (m2 : List SObj) : Nat → List Oper → List (Nat × List SObj) → List Sv → List SObj → Prop
  | _, [], h, t, m => t = t2 ∧ m = m2
  | k, o :: rest, h, t, m => ∃ sv h' m', CStep P X ops eff D mq0 k o (eff k) h t m sv h' m' ∧ LexC P X ops eff D mq0 t2 m2 (k + 1) rest h' (put t o.dst sv) m'

theorem anyC_lex {eff : Nat → Bool} {D : List Nat} {mq0 : List SObj} {t2 : List Sv} {m2 : List SObj} (hch : chainS .any ops eff (fun _ => false) = true) :
    ∀ (l : List Oper) (k : Nat) (listed : Array Bool) (h : List (Nat × List SObj)) (t : List Sv) (m : List SObj), (∀ j, l[j]? = ops[k + j]?) → listed.size = ops.size → closedL .any ops listed → (∀ j, j < k → listed.getD j true = true) →
      Region.lexFrom .any ops l.length k listed = true → LexC P X ops eff D mq0 t2 m2 k l h t m → AnyC P X .any ops eff D mq0 t2 m2 l.length listed h t m
  | [], k, listed, h, t, m, _, _, _, _, hB, H => ⟨by simpa [Region.lexFrom] using hB, H⟩
  | o :: l, k, listed, h, t, m, hl, hsz, hcl, hdone, hB, H => by
    have h0 : ops[k]? = some o := by simpa using (hl 0).symm
    simp only [List.length_cons, Region.lexFrom, Bool.and_eq_true] at hB
    obtain ⟨⟨hr, hf⟩, hB'⟩ := hB
    have hr : k ∈ Region.ready .any ops listed := by simpa using hr
    obtain ⟨sv, h', m', hst, hrest⟩ := H
    have hksz : k < listed.size := by
      have := (mem_ready.1 hr).1
      rcases Nat.lt_or_ge k listed.size with h' | h'
      · exact h'
      · simp [Array.getElem?_eq_none h'] at this
    refine anyC_first h0 l.length listed h h' t m m' hcl (Region.free_spec h0 hf) (fun he j hj hjk hun => ?_) hr hst
      (anyC_lex hch l (k + 1) _ _ _ _ (fun j => by have := hl (j + 1); simpa [Nat.add_assoc, Nat.add_comm 1 j] using this) (by simpa using hsz) (hcl.set hr) (fun j hj => ?_) hB' hrest)
    · have hkj : k < j := by
        rcases Nat.lt_or_ge k j with h1 | h1
        · exact h1
        · have := hdone j (by omega); rw [this] at hun; cases hun
      have hksize : k < ops.size := (Array.getElem?_eq_some_iff.1 h0).1
      by_cases hjs : j < ops.size
      · have h1 := List.all_eq_true.1 hch k (List.mem_range.2 hksize)
        simp only [he, Bool.not_true, Bool.false_or] at h1
        have h2 := List.all_eq_true.1 h1 j (List.mem_range.2 hjs)
        simp only [hj, Bool.not_true, Bool.false_or, Bool.or_eq_true, Bool.and_self] at h2
        rcases h2 with h2 | h2
        · have := Nat.le_of_ble_eq_true h2; omega
        · simpa using h2
      · exfalso
        rw [Array.getD_eq_getD_getElem?, Array.getElem?_eq_none (by omega)] at hun
        cases hun
    · by_cases hjk : j = k
      · subst hjk; simp [hksz]
      · rw [getD_set_ne true (Ne.symm hjk)]; exact hdone j (by omega)

/-! ### A call that panics -/
/-- Whatever order comes, that call panics. -/
def AnyP (P : Program) (X : Ext) (md : Region.Mode) (ops : Array Oper) (eff : Nat → Bool) (D : List Nat) (mq0 : List SObj) (p : Nat) (ch : List PanicEntry) (m2 : List SObj) : Nat → Array Bool → List (Nat × List SObj) → List Sv → List SObj → Prop
  | 0, listed, h, t, m => False
  | f + 1, listed, h, t, m => Region.ready md ops listed ≠ [] ∧ ∀ i ∈ Region.ready md ops listed, (i = p ∧ m = m2 ∧ ∃ o, ops[i]? = some o ∧ PStep P X ops o t m ch) ∨
      (i ≠ p ∧ ∃ o sv h' m', ops[i]? = some o ∧ CStep P X ops eff D mq0 i o (eff i) h t m sv h' m' ∧ AnyP P X md ops eff D mq0 p ch m2 f (listed.setIfInBounds i true) h' (put t o.dst sv) m')
theorem AnyP.more {eff : Nat → Bool} {D : List Nat} {mq0 : List SObj} {p : Nat} {ch : List PanicEntry} {m2 : List SObj} : ∀ {f : Nat} {listed : Array Bool} {h : List (Nat × List SObj)} {t : List Sv} {m : List SObj}, AnyP P X md ops eff D mq0 p ch m2 f listed h t m → AnyP P X md ops eff D mq0 p ch m2 (f + 1) listed h t m
  | 0, _, _, _, _, H => H.elim
  | f + 1, _, _, _, _, H => ⟨H.1, fun i hi => by
    rcases H.2 i hi with h1 | ⟨h1, o, sv, h', m', h2, h3, h4⟩
    · exact .inl h1
    · exact .inr ⟨h1, o, sv, h', m', h2, h3, h4.more⟩⟩

theorem anyP_sound {eff : Nat → Bool} {D : List Nat} {m0 : List SObj} {p : Nat} {ch : List PanicEntry} {m2 : List SObj} {Q : Exit → Act → World → Prop} {ds : List Deferred} (hmask : ∀ m, Compat (maskD D 0 m) m) {n : Nat} :
    ∀ (f : Nat) (listed : Array Bool) (h : List (Nat × List SObj)) (t : List Sv) (m : List SObj), AnyP P X md ops eff D (maskD D 0 m0) p ch m2 f listed h t m → t.length = n → HistOk D m0 h m → ∀ ρ own l w, denL ρ t = some l → Rep X ρ own m w →
      (∀ ρ' own' w' (l' : List Value), To ρ own w ρ' own' w' → l'.length = n → Rep X ρ' own' m2 w' → Q (.panic ch) ⟨l'.toArray, ds⟩ w') → wpAny P md ops Q f listed ⟨l.toArray, ds⟩ w := by
  intro f
  induction f with
  | zero => intro listed h t m H; exact H.elim
  | succ f ih =>
    intro listed h t m H hn hm ρ own l w hl hr hK
    refine ⟨fun h0 => absurd h0 H.1, fun i hi => ?_⟩
    rcases H.2 i hi with ⟨rfl, rfl, o, ho, hp⟩ | ⟨_, o, sv, h', m', ho, hst, hA⟩
    · have hlk := looks_of_den (ops := ops) (o := o) (ds := ds) hl
      unfold wpOp
      simp only [ho]
      obtain ⟨h1, h2⟩ := hp ρ own _ w hr hlk
      rw [if_pos h1]
      exact .inl (h2 _ _ fun ρ' own' w' ht hr' => hK ρ' own' w' l ht (by rw [denL_length hl]; exact hn) hr')
    · have hlk := looks_of_den (ops := ops) (o := o) (ds := ds) hl
      unfold wpOp
      simp only [ho]
      have go : HistOk D m0 h' m' → ∀ ρ' own' w' x, To ρ own w ρ' own' w' → den ρ' sv = some x → Rep X ρ' own' m' w' → wpAny P md ops Q f (listed.setIfInBounds i true) (Act.put ⟨l.toArray, ds⟩ o.dst x) w' := fun hcm ρ' own' w' x ht hx hr' => by
        obtain ⟨l', h5, h6⟩ := put_den (ds := ds) (denL_mono ht.ext hl) o.dst hx
        rw [h6]
        exact ih _ _ _ _ hA (by rw [put_length]; exact hn) hcm ρ' own' l' w' h5 hr' fun ρ'' own'' w'' l'' ht' hl'' hr'' => hK ρ'' own'' w'' l'' (ht.trans ht') hl'' hr''
      cases he : eff i with
      | false =>
        rw [he] at hst
        obtain ⟨rfl, rfl, hq⟩ := hst
        rcases hq with hq | ⟨rfl, hq⟩ | hq
        · obtain ⟨h1, x, hx, h2⟩ := hq ρ own m' _ w (visM_compat hm.vis) hr hlk
          rw [if_pos h1]
          refine .inl (Oper.wp_of_quiet (C := fun w' => To ρ own w ρ own w' ∧ Rep X ρ own m' w') (K := fun a' => a' = Act.put ⟨l.toArray, ds⟩ o.dst x) ⟨To.refl _ _ _, hr⟩ (fun a' w' hw' he => ?_) ⟨x, h2, rfl⟩)
          subst he
          exact go hm ρ own w' x hw'.1 hx hw'.2
        · rw [if_neg (by rw [hq ρ _ hlk]; simp)]
          exact go hm ρ own w undef (To.refl _ _ _) rfl hr
        · obtain ⟨h1, h2⟩ := hq _ (visM_compat hm.vis) ρ own _ w hr hlk
          rw [if_pos h1]
          exact .inl (h2 _ _ (go hm))
      | true =>
        rw [he] at hst
        obtain ⟨rfl, hp, hst⟩ := hst
        rcases hst with hst | ⟨rfl, rfl, hst⟩
        · obtain ⟨h1, h2⟩ := hst ρ own _ w hr hlk
          rw [if_pos h1]
          exact .inl (h2 _ _ (go (hm.step hp (hmask _))))
        · rw [if_neg (by rw [hst ρ _ hlk]; simp)]
          exact go (hm.step hp (hmask _)) ρ own w undef (To.refl _ _ _) rfl hr

theorem anyP_first {eff : Nat → Bool} {D : List Nat} {mq0 : List SObj} {p : Nat} {ch : List PanicEntry} {m2 : List SObj} {i : Nat} {oi : Oper} {v : Sv} (hi : ops[i]? = some oi) (hip : i ≠ p) (hpe : eff p = true) :
    ∀ (f : Nat) (listed : Array Bool) (h h1 : List (Nat × List SObj)) (t : List Sv) (m m1 : List SObj), closedL .any ops listed → listed.getD p true = false →
      (∀ j oj, ops[j]? = some oj → j ≠ i → listed.getD j true = false → (∀ e ∈ oj.after, Region.binds .any e = true → e.on ≠ i) → (∀ d, oi.dst = some d → d ∉ oj.looksAt ops) ∧ (∀ d, oi.dst = some d → oj.dst ≠ some d) ∧ ∀ d, oj.dst = some d → d ∉ oi.looksAt ops) →
      (eff i = true → ∀ j, eff j = true → j ≠ i → listed.getD j true = false → waitsS .any ops ops.size j i = true) →
      i ∈ Region.ready .any ops listed → CStep P X ops eff D mq0 i oi (eff i) h t m v h1 m1 →
      AnyP P X .any ops eff D mq0 p ch m2 f (listed.setIfInBounds i true) h1 (put t oi.dst v) m1 → AnyP P X .any ops eff D mq0 p ch m2 (f + 1) listed h t m := by
  intro f
  induction f with
  | zero => intro listed h h1 t m m1 hcl hpl hfree hch hr hst H; exact H.elim
  | succ f ih =>
    intro listed h h1 t m m1 hcl hpl hfree hch hr hst H
    refine ⟨fun h => (by rw [h] at hr; cases hr), fun j hj => ?_⟩
    by_cases hji : j = i
    · subst hji; exact .inr ⟨hip, oi, v, h1, m1, hi, hst, H⟩
    · obtain ⟨hjun, oj', hoj', hall⟩ := mem_ready.1 hj
      have hiun := (mem_ready.1 hr).1
      have hnot : ∀ e ∈ oj'.after, Region.binds .any e = true → e.on ≠ i := fun e he hb heq => by
        have h1 := hall e he hb
        rw [heq, getD_both hiun] at h1
        cases h1
      have nwji : waitsS .any ops ops.size j i = false := by
        cases hw : waitsS .any ops ops.size j i with
        | false => rfl
        | true =>
          have h2 := waits_ready hcl hj hw
          rw [getD_both hiun] at h2
          cases h2
      have nwij : waitsS .any ops ops.size i j = false := by
        cases hw : waitsS .any ops ops.size i j with
        | false => rfl
        | true =>
          have h2 := waits_ready hcl hr hw
          rw [getD_both hjun] at h2
          cases h2
      obtain ⟨a1, a2, a3⟩ := hfree j oj' hoj' hji hjun hnot
      rcases H.2 j (ready_mono hj hji) with ⟨rfl, rfl, o, ho, hps⟩ | ⟨hjp, oj, y, h3, m3, hoj, hstj, hA⟩
      · -- it is the call itself
        have : o = oj' := Option.some.inj (ho.symm.trans hoj')
        subst this
        cases hei : eff i with
        | true =>
          have := hch hei j hpe hji hjun
          rw [nwji] at this
          cases this
        | false =>
          rw [hei] at hst
          obtain ⟨rfl, rfl, _⟩ := hst
          exact .inl ⟨rfl, rfl, o, ho, (PStep.put a1).1 hps⟩
      have : oj' = oj := Option.some.inj (hoj'.symm.trans hoj)
      subst this
      -- what is left after j
      have rest : ∀ hj1 mj, CStep P X ops eff D mq0 j oj' (eff j) h t m y hj1 mj → CStep P X ops eff D mq0 i oi (eff i) hj1 (put t oj'.dst y) mj v h3 m3 →
          (j = p ∧ m = m2 ∧ ∃ o, ops[j]? = some o ∧ PStep P X ops o t m ch) ∨ (j ≠ p ∧ ∃ o sv h' m', ops[j]? = some o ∧ CStep P X ops eff D mq0 j o (eff j) h t m sv h' m' ∧ AnyP P X .any ops eff D mq0 p ch m2 (f + 1) (listed.setIfInBounds j true) h' (put t o.dst sv) m') := fun hj1 mj s1 s2 => by
        refine .inr ⟨hjp, oj', y, hj1, mj, hoj, s1, ih _ _ h3 _ _ m3 (hcl.set hj) (by rw [getD_set_ne true hjp]; exact hpl) (fun k ok hk hki hun hno => hfree k ok hk hki ?_ hno) (fun he k hk hki hun => hch he k hk hki ?_) (ready_mono hr (Ne.symm hji)) s2 ?_⟩
        · by_cases hjk : j = k
          · subst hjk; exact hjun
          · rw [getD_set_ne true hjk] at hun; exact hun
        · by_cases hjk : j = k
          · subst hjk; exact hjun
          · rw [getD_set_ne true hjk] at hun; exact hun
        · rw [Array.setIfInBounds_comm _ _ hji, ← put_comm a2]
          exact hA
      cases hei : eff i with
      | false =>
        rw [hei] at hst
        obtain ⟨rfl, rfl, hq⟩ := hst
        cases hej : eff j with
        | false =>
          rw [hej] at hstj
          obtain ⟨rfl, rfl, hqj⟩ := hstj
          rw [← hej]
          refine rest h3 m3 ?_ ?_
          · rw [hej]; exact ⟨rfl, rfl, (QStep.put a1).1 hqj⟩
          · rw [hei]; exact ⟨rfl, rfl, (QStep.put a3).2 hq⟩
        | true =>
          rw [hej] at hstj
          obtain ⟨rfl, hp, hej2⟩ := hstj
          have hna : allW ops eff i = false := by
            cases hw : allW ops eff i with
            | false => rfl
            | true =>
              have := allW_spec hw hej hoj
              rw [nwji] at this
              cases this
          rw [visM_free hna] at hq
          have fin := rest ((j, maskD D 0 m3) :: h1) m3 ?_ ?_
          · rw [hej] at fin; exact fin
          · rw [hej]; exact ⟨rfl, hp, (EffW.put a1).1 hej2⟩
          · rw [hei]; exact ⟨rfl, rfl, by rw [visM_free hna, visC_skip nwij]; exact (QStep.put a3).2 hq⟩
      | true =>
        rw [hei] at hst
        obtain ⟨rfl, hp, he2⟩ := hst
        cases hej : eff j with
        | true =>
          have := hch hei j hej hji hjun
          rw [nwji] at this
          cases this
        | false =>
          rw [hej] at hstj
          obtain ⟨rfl, rfl, hqj⟩ := hstj
          have hna : allW ops eff j = false := by
            cases hw : allW ops eff j with
            | false => rfl
            | true =>
              have := allW_spec hw hei hi
              rw [nwij] at this
              cases this
          rw [visM_free hna, visC_skip nwji] at hqj
          rw [← hej]
          refine rest h m ?_ ?_
          · rw [hej]; exact ⟨rfl, rfl, by rw [visM_free hna]; exact (QStep.put a1).1 hqj⟩
          · rw [hei]; exact ⟨rfl, hp, (EffW.put a3).2 he2⟩

/-- What doesn't wait for the call that panics. -/
def LexQ (P : Program) (X : Ext) (ops : Array Oper) (eff : Nat → Bool) (mq0 : List SObj) (p : Nat) (h : List (Nat × List SObj)) (m : List SObj) : Nat → List Oper → List Sv → Prop
  | _, [], t => True
  | k, o :: rest, t => (waitsS .any ops ops.size k p = true ∧ LexQ P X ops eff mq0 p h m (k + 1) rest t) ∨
      (waitsS .any ops ops.size k p = false ∧ eff k = false ∧ ∃ sv, QStep P X ops (visM ops eff k m (visC ops mq0 k h)) o t sv ∧ LexQ P X ops eff mq0 p h m (k + 1) rest (put t o.dst sv))
/-- The text's order, to a call that panics. -/
def LexP (P : Program) (X : Ext) (ops : Array Oper) (eff : Nat → Bool) (D : List Nat) (mq0 : List SObj) (p : Nat) (ch : List PanicEntry) (m2 : List SObj) : Nat → List Oper → List (Nat × List SObj) → List Sv → List SObj → Prop
  | _, [], h, t, m => False
  | k, o :: rest, h, t, m => (k < p ∧ ∃ sv h' m', CStep P X ops eff D mq0 k o (eff k) h t m sv h' m' ∧ LexP P X ops eff D mq0 p ch m2 (k + 1) rest h' (put t o.dst sv) m') ∨
      (k = p ∧ m = m2 ∧ eff k = true ∧ PStep P X ops o t m ch ∧ LexQ P X ops eff mq0 p h m (k + 1) rest t)

/-- What the text's order tells: each one's turn comes, and who comes later is apart. -/
def LexOk (ops : Array Oper) (k : Nat) : Prop :=
  ∀ i oi, ops[i]? = some oi → k ≤ i → (∀ e ∈ oi.after, Region.binds .any e = true → e.on < i) ∧
    ∀ j oj, ops[j]? = some oj → i < j → (∀ e ∈ oj.after, Region.binds .any e = true → e.on ≠ i) → (∀ d, oi.dst = some d → d ∉ oj.looksAt ops) ∧ (∀ d, oi.dst = some d → oj.dst ≠ some d) ∧ ∀ d, oj.dst = some d → d ∉ oi.looksAt ops
theorem lexOk_of : ∀ (n k : Nat) (listed : Array Bool), k + n = ops.size → listed.size = ops.size → (∀ j, listed.getD j true = true ↔ (j < k ∨ ops.size ≤ j)) → Region.lexFrom .any ops n k listed = true → LexOk ops k
  | 0, k, listed, hk, hs, hl, h => fun i oi hi hki => by
    have := (Array.getElem?_eq_some_iff.1 hi).1
    omega
  | n + 1, k, listed, hk, hs, hl, h => by
    simp only [Region.lexFrom, Bool.and_eq_true] at h
    obtain ⟨⟨hr, hf⟩, hB⟩ := h
    have hr : k ∈ Region.ready .any ops listed := by simpa using hr
    have ih := lexOk_of n (k + 1) (listed.setIfInBounds k true) (by omega) (by simpa using hs) (fun j => by
      by_cases hjk : k = j
      · subst hjk; simp [show k < listed.size by omega]
      · rw [getD_set_ne true hjk, hl]; omega) hB
    obtain ⟨hkun, ok, hok, hall⟩ := mem_ready.1 hr
    intro i oi hi hki
    rcases Nat.eq_or_lt_of_le hki with rfl | hlt
    · have : oi = ok := Option.some.inj (hi.symm.trans hok)
      subst this
      refine ⟨fun e he hb => ?_, fun j oj hj hij hno => Oper.apart_spec (Region.free_spec hi hf j oj hj (by omega) ?_ hno)⟩
      · have h1 := hall e he hb
        by_cases h2 : e.on < k
        · exact h2
        · exfalso
          by_cases h3 : e.on < ops.size
          · have h4 : listed.getD e.on true = true := by
              rw [Array.getD_eq_getD_getElem?] at h1 ⊢
              rw [Array.getElem?_eq_getElem (by omega)] at h1 ⊢
              simpa using h1
            rw [hl] at h4; omega
          · rw [Array.getD_eq_getD_getElem?, Array.getElem?_eq_none (by omega)] at h1
            cases h1
      · have h5 := (Array.getElem?_eq_some_iff.1 hj).1
        cases h6 : listed.getD j true with
        | false => rfl
        | true => rw [hl] at h6; omega
    · exact ih i oi hi (by omega)

theorem waits_lt (H : LexOk ops 0) : ∀ (f j i : Nat), waitsS .any ops f j i = true → i < j
  | 0, j, i, h => by simp [waitsS] at h
  | f + 1, j, i, h => by
    simp only [waitsS] at h
    split at h
    · rename_i oj hoj
      obtain ⟨e, he, h2⟩ := List.any_eq_true.1 h
      simp only [Bool.and_eq_true, Bool.or_eq_true] at h2
      have h3 := (H j oj hoj (Nat.zero_le _)).1 e (by simpa using he) h2.1
      rcases h2.2 with h4 | h4
      · rw [← Nat.eq_of_beq_eq_true h4]; exact h3
      · exact Nat.lt_trans (waits_lt H f _ _ h4) h3
    · cases h
theorem waits_fuel (H : LexOk ops 0) : ∀ (f j i : Nat), waitsS .any ops f j i = true → ∀ f', j < f' → waitsS .any ops f' j i = true
  | 0, j, i, h, _, _ => by simp [waitsS] at h
  | f + 1, j, i, h, 0, hf => by omega
  | f + 1, j, i, h, f' + 1, hf => by
    simp only [waitsS] at h ⊢
    split at h
    · rename_i oj hoj
      obtain ⟨e, he, h2⟩ := List.any_eq_true.1 h
      simp only [Bool.and_eq_true, Bool.or_eq_true] at h2
      have h3 := (H j oj hoj (Nat.zero_le _)).1 e (by simpa using he) h2.1
      refine List.any_eq_true.2 ⟨e, he, ?_⟩
      simp only [Bool.and_eq_true, Bool.or_eq_true]
      refine ⟨h2.1, h2.2.imp id fun h4 => waits_fuel H f _ _ h4 f' (by omega)⟩
    · cases h
/-- Who waits for one that waits, waits. -/
theorem waits_edge (H : LexOk ops 0) {j p : Nat} {oj : Oper} (hj : ops[j]? = some oj) {e : Edge} (he : e ∈ oj.after) (hb : Region.binds .any e = true) (h : e.on = p ∨ waitsS .any ops ops.size e.on p = true) : waitsS .any ops ops.size j p = true := by
  have hjs := (Array.getElem?_eq_some_iff.1 hj).1
  have h1 : waitsS .any ops (ops.size + 1) j p = true := by
    simp only [waitsS, hj]
    refine List.any_eq_true.2 ⟨e, by simpa using he, ?_⟩
    simp only [Bool.and_eq_true, Bool.or_eq_true]
    exact ⟨hb, h.imp (fun h => by rw [h]; exact Nat.beq_refl p) id⟩
  exact waits_fuel H _ _ _ h1 _ hjs

/-- Who is listed while that call waits. -/
def Listed (ops : Array Oper) (p k : Nat) (listed : Array Bool) : Prop := listed.size = ops.size ∧ ∀ j, j < ops.size → (listed.getD j true = true ↔ (j < k ∧ j ≠ p ∧ waitsS .any ops ops.size j p = false))
theorem getD_tf {listed : Array Bool} {j : Nat} (h : j < listed.size) : listed.getD j false = listed.getD j true := by
  rw [Array.getD_eq_getD_getElem?, Array.getD_eq_getD_getElem?, Array.getElem?_eq_getElem h]; rfl
theorem Listed.edge (H : LexOk ops 0) {p k : Nat} {listed : Array Bool} (hL : Listed ops p k listed) {j : Nat} {oj : Oper} (hj : ops[j]? = some oj) (hjk : j ≤ k) (hw : waitsS .any ops ops.size j p = false) {e : Edge} (he : e ∈ oj.after) (hb : Region.binds .any e = true) : listed.getD e.on false = true := by
  have hjs := (Array.getElem?_eq_some_iff.1 hj).1
  have h3 := (H j oj hj (Nat.zero_le _)).1 e he hb
  rw [getD_tf (by rw [hL.1]; omega), hL.2 _ (by omega)]
  refine ⟨by omega, fun h => ?_, ?_⟩
  · rw [waits_edge H hj he hb (.inl h)] at hw; cases hw
  · cases h : waitsS .any ops ops.size e.on p with
    | false => rfl
    | true => rw [waits_edge H hj he hb (.inr h)] at hw; cases hw
theorem Listed.closed (H : LexOk ops 0) {p k : Nat} {listed : Array Bool} (hL : Listed ops p k listed) : closedL .any ops listed := by
  intro j oj hj hl e he hb
  have hjs := (Array.getElem?_eq_some_iff.1 hj).1
  rw [getD_tf (by rw [hL.1]; omega), hL.2 _ hjs] at hl
  exact hL.edge H hj (by omega) hl.2.2 he hb
theorem Listed.unl {p k : Nat} {listed : Array Bool} (hL : Listed ops p k listed) {j : Nat} (hj : j < ops.size) (h : ¬ (j < k ∧ j ≠ p ∧ waitsS .any ops ops.size j p = false)) : listed.getD j true = false := by
  cases h1 : listed.getD j true with
  | false => rfl
  | true => exact absurd ((hL.2 j hj).1 h1) h
theorem waits_irr (H : LexOk ops 0) (p : Nat) : waitsS .any ops ops.size p p = false := by
  cases h : waitsS .any ops ops.size p p with
  | false => rfl
  | true => have := waits_lt H _ _ _ h; omega

theorem anyQ_lex (H : LexOk ops 0) {eff : Nat → Bool} {D : List Nat} {mq0 : List SObj} {p : Nat} {ch : List PanicEntry} {op : Oper} (hp : ops[p]? = some op) (hpe : eff p = true) {h : List (Nat × List SObj)} {m : List SObj} :
    ∀ (l : List Oper) (k : Nat) (listed : Array Bool) (t : List Sv), p < k → (∀ j, l[j]? = ops[k + j]?) → Listed ops p k listed → PStep P X ops op t m ch → LexQ P X ops eff mq0 p h m k l t → AnyP P X .any ops eff D mq0 p ch m (l.length + 1) listed h t m
  | [], k, listed, t, hpk, hl, hL, hps, _ => by
    have hps' := (Array.getElem?_eq_some_iff.1 hp).1
    have hk : ops.size ≤ k := by
      have := hl 0
      simp only [List.getElem?_nil, Nat.add_zero] at this
      exact Array.getElem?_eq_none_iff.1 this.symm
    have hpr : p ∈ Region.ready .any ops listed := mem_ready.2 ⟨hL.unl hps' (fun h => h.2.1 rfl), op, hp, fun e he hb => hL.edge H hp (by omega) (waits_irr H p) he hb⟩
    refine ⟨fun e => (by rw [e] at hpr; cases hpr), fun i hi => ?_⟩
    by_cases hip : i = p
    · subst hip; exact .inl ⟨rfl, rfl, op, hp, hps⟩
    · exfalso
      obtain ⟨hun, oi, hoi, _⟩ := mem_ready.1 hi
      have his := (Array.getElem?_eq_some_iff.1 hoi).1
      cases hw : waitsS .any ops ops.size i p with
      | false =>
        have := (hL.2 i his).2 ⟨by omega, hip, hw⟩
        rw [this] at hun; cases hun
      | true =>
        have h2 := waits_ready (hL.closed H) hi hw
        rw [getD_both (hL.unl hps' (fun h => h.2.1 rfl))] at h2
        cases h2
  | o :: l, k, listed, t, hpk, hl, hL, hps, hQ => by
    have hok : ops[k]? = some o := by simpa using (hl 0).symm
    have hks := (Array.getElem?_eq_some_iff.1 hok).1
    have hps' := (Array.getElem?_eq_some_iff.1 hp).1
    have hl' : ∀ j, l[j]? = ops[k + 1 + j]? := fun j => by have := hl (j + 1); simpa [Nat.add_assoc, Nat.add_comm 1 j] using this
    rcases hQ with ⟨hw, hQ⟩ | ⟨hw, he, sv, hq, hQ⟩
    · exact (anyQ_lex H hp hpe l (k + 1) listed t (by omega) hl' ⟨hL.1, fun j hj => by
        rw [hL.2 j hj]
        refine ⟨fun h => ⟨by omega, h.2⟩, fun h => ⟨?_, h.2⟩⟩
        rcases Nat.lt_or_ge j k with h1 | h1
        · exact h1
        · have : j = k := by omega
          subst this; rw [hw] at h; cases h.2.2⟩ hps hQ).more
    · have hkp : k ≠ p := by omega
      have hkun : listed.getD k true = false := hL.unl hks (fun h => by omega)
      have hkr : k ∈ Region.ready .any ops listed := mem_ready.2 ⟨hkun, o, hok, fun e he hb => hL.edge H hok (Nat.le_refl _) hw he hb⟩
      refine anyP_first hok hkp hpe (l.length + 1) listed h h t m m (hL.closed H) (hL.unl hps' (fun h => h.2.1 rfl)) (fun j oj hj hjk hun hno => ?_) (fun h => by rw [he] at h; cases h) hkr (by rw [he]; exact ⟨rfl, rfl, hq⟩) ?_
      · rcases Nat.lt_or_ge k j with h1 | h1
        · exact (H k o hok (Nat.zero_le _)).2 j oj hj h1 hno
        · have h2 : j < k := by omega
          obtain ⟨b1, b2, b3⟩ := (H j oj hj (Nat.zero_le _)).2 k o hok h2 (fun e he hb heq => by
            have := hL.edge H hok (Nat.le_refl _) hw he hb
            rw [heq, getD_both hun] at this
            cases this)
          exact ⟨b3, fun d hd h => b2 d h hd, b1⟩
      · refine anyQ_lex H hp hpe l (k + 1) _ _ (by omega) hl' ⟨by simpa using hL.1, fun j hj => ?_⟩ ((PStep.put ?_).2 hps) hQ
        · by_cases hjk : k = j
          · subst hjk
            simp only [show k < listed.size by rw [hL.1]; exact hks, Array.getD_eq_getD_getElem?, Array.getElem?_setIfInBounds_self_of_lt, Option.getD_some]
            exact ⟨fun _ => ⟨by omega, hkp, hw⟩, fun _ => trivial⟩
          · rw [getD_set_ne true hjk, hL.2 j hj]
            exact ⟨fun h => ⟨by omega, h.2⟩, fun h => ⟨by omega, h.2⟩⟩
        · exact ((H p op hp (Nat.zero_le _)).2 k o hok hpk (fun e he hb heq => by
            rw [waits_edge H hok he hb (.inl heq)] at hw; cases hw)).2.2
theorem lexP_eff {eff : Nat → Bool} {D : List Nat} {mq0 : List SObj} {p : Nat} {ch : List PanicEntry} {m2 : List SObj} : ∀ {l : List Oper} {k : Nat} {h : List (Nat × List SObj)} {t : List Sv} {m : List SObj}, LexP P X ops eff D mq0 p ch m2 k l h t m → eff p = true ∧ p < k + l.length
  | [], k, h, t, m, H => H.elim
  | o :: l, k, h, t, m, H => by
    rcases H with ⟨_, sv, h', m', _, H⟩ | ⟨rfl, _, he, _⟩
    · have := lexP_eff H
      exact ⟨this.1, by simp; omega⟩
    · exact ⟨he, by simp⟩
theorem anyP_lex (H : LexOk ops 0) {eff : Nat → Bool} {D : List Nat} {mq0 : List SObj} {p : Nat} {ch : List PanicEntry} {m2 : List SObj} (hch : chainS .any ops eff (fun _ => false) = true) :
    ∀ (l : List Oper) (k : Nat) (listed : Array Bool) (h : List (Nat × List SObj)) (t : List Sv) (m : List SObj), (∀ j, l[j]? = ops[k + j]?) → listed.size = ops.size → (∀ j, j < ops.size → (listed.getD j true = true ↔ j < k)) →
      LexP P X ops eff D mq0 p ch m2 k l h t m → AnyP P X .any ops eff D mq0 p ch m2 l.length listed h t m
  | [], k, listed, h, t, m, _, _, _, hP => hP.elim
  | o :: l, k, listed, h, t, m, hl, hsz, hls, hP => by
    have hok : ops[k]? = some o := by simpa using (hl 0).symm
    have hks := (Array.getElem?_eq_some_iff.1 hok).1
    have hl' : ∀ j, l[j]? = ops[k + 1 + j]? := fun j => by have := hl (j + 1); simpa [Nat.add_assoc, Nat.add_comm 1 j] using this
    have hcl : closedL .any ops listed := fun j oj hj hl e he hb => by
      have hjs := (Array.getElem?_eq_some_iff.1 hj).1
      have h3 := (H j oj hj (Nat.zero_le _)).1 e he hb
      rw [getD_tf (by omega), hls _ hjs] at hl
      rw [getD_tf (by omega), hls _ (by omega)]
      omega
    have hun : ∀ j, j < ops.size → ¬ j < k → listed.getD j true = false := fun j hj hjk => by
      cases h1 : listed.getD j true with
      | false => rfl
      | true => exact absurd ((hls j hj).1 h1) hjk
    have hkr : k ∈ Region.ready .any ops listed := mem_ready.2 ⟨hun k hks (by omega), o, hok, fun e he hb => by
      have h3 := (H k o hok (Nat.zero_le _)).1 e he hb
      rw [getD_tf (by omega), hls _ (by omega)]; exact h3⟩
    have hpeff := lexP_eff hP
    have hpsz : p < ops.size := by
      have h1 : k + (o :: l).length ≤ ops.size := by
        rcases Nat.lt_or_ge ops.size (k + (o :: l).length) with h1 | h1
        · exfalso
          have h2 := hl (ops.size - k)
          rw [show k + (ops.size - k) = ops.size by omega, Array.getElem?_eq_none (Nat.le_refl _), List.getElem?_eq_none_iff] at h2
          omega
        · exact h1
      omega
    rcases hP with ⟨hkp, sv, h', m', hst, hP⟩ | ⟨rfl, rfl, he, hps, hQ⟩
    · refine anyP_first hok (by omega) hpeff.1 l.length listed h h' t m m' hcl (hun p hpsz (by omega)) (fun j oj hj hjk hju hno => ?_) (fun he j hj hjk hju => ?_) hkr hst ?_
      · have hjs := (Array.getElem?_eq_some_iff.1 hj).1
        have : k < j := by
          rcases Nat.lt_or_ge k j with h1 | h1
          · exact h1
          · rw [(hls j hjs).2 (by omega)] at hju; cases hju
        exact (H k o hok (Nat.zero_le _)).2 j oj hj this hno
      · have hjs : j < ops.size := by
          rcases Nat.lt_or_ge j ops.size with h1 | h1
          · exact h1
          · rw [Array.getD_eq_getD_getElem?, Array.getElem?_eq_none (by omega)] at hju; cases hju
        have hkj : k < j := by
          rcases Nat.lt_or_ge k j with h1 | h1
          · exact h1
          · rw [(hls j hjs).2 (by omega)] at hju; cases hju
        have h1 := List.all_eq_true.1 hch k (List.mem_range.2 hks)
        simp only [he, Bool.not_true, Bool.false_or] at h1
        have h2 := List.all_eq_true.1 h1 j (List.mem_range.2 hjs)
        simp only [hj, Bool.not_true, Bool.false_or, Bool.or_eq_true, Bool.and_self] at h2
        rcases h2 with h2 | h2
        · have := Nat.le_of_ble_eq_true h2; omega
        · simpa using h2
      · refine anyP_lex H hch l (k + 1) _ _ _ _ hl' (by simpa using hsz) (fun j hj => ?_) hP
        by_cases hjk : k = j
        · subst hjk
          simp only [show k < listed.size by omega, Array.getD_eq_getD_getElem?, Array.getElem?_setIfInBounds_self_of_lt, Option.getD_some]
          exact ⟨fun _ => by omega, fun _ => trivial⟩
        · rw [getD_set_ne true hjk, hls j hj]; omega
    · refine anyQ_lex H hok he l (k + 1) listed t (by omega) hl' ⟨hsz, fun j hj => ?_⟩ hps hQ
      rw [hls j hj]
      refine ⟨fun h => ⟨by omega, by omega, ?_⟩, fun h => by omega⟩
      cases hw : waitsS .any ops ops.size j k with
      | false => rfl
      | true => have := waits_lt H _ _ _ hw; omega

/-! ### A call that panics, where allocations float -/
/-- It panics, whatever stands beside what it looks at. -/
def PQ (P : Program) (X : Ext) (ops : Array Oper) (mq : List SObj) (o : Oper) (t : List Sv) (ch : List PanicEntry) : Prop := ∀ m, Compat mq m → PStep P X ops o t m ch
theorem PQ.put {mq : List SObj} {o : Oper} {t : List Sv} {ch : List PanicEntry} {d : Option Tmp} {x : Sv} (h : ∀ i, d = some i → i ∉ o.looksAt ops) : PQ P X ops mq o (put t d x) ch ↔ PQ P X ops mq o t ch := by
  unfold PQ; simp only [PStep.put h]
/-- A frame, but for some slots. -/
def denX (ρ : List Un) (S : List Nat) (t : List Sv) (l : List Value) : Prop := l.length = t.length ∧ ∀ d, d ∉ S → den ρ (nth t d) = some (l.getD d undef)
theorem denX_of {ρ : List Un} {S : List Nat} {t : List Sv} {l : List Value} (h : denL ρ t = some l) : denX ρ S t l := ⟨denL_length h, fun d _ => nth_den d h⟩
theorem denX_looks {ρ : List Un} {S : List Nat} {t : List Sv} {l : List Value} {o : Oper} {ds : List Deferred} (h : denX ρ S t l) (hs : ∀ d, d ∈ S → d ∉ o.looksAt ops) : looks ops o ρ t ⟨l.toArray, ds⟩ := fun d hd => by
  have := h.2 d fun hS => hs d hS hd
  rw [this]; simp [Act.eval]
theorem nth_setN_self : ∀ {t : List Sv} {d : Nat} {x : Sv}, d < t.length → nth (setN t d x) d = x
  | [], d, x, h => by simp at h
  | c :: t, 0, x, _ => rfl
  | c :: t, d + 1, x, h => nth_setN_self (t := t) (by simpa using h)
theorem denX_put {ρ ρ' : List Un} {S : List Nat} {t : List Sv} {l : List Value} (h : denX ρ S t l) (hp : ∃ lx, ρ' = ρ ++ lx) (d : Option Tmp) {s : Sv} {v : Value} (ds : List Deferred) (hx : (∃ d', d = some d' ∧ d' ∈ S) ∨ den ρ' s = some v) :
    ∃ l', denX ρ' S (put t d s) l' ∧ Act.put ⟨l.toArray, ds⟩ d v = ⟨l'.toArray, ds⟩ := by
  cases d with
  | none => exact ⟨l, ⟨h.1, fun d hd => den_mono hp (h.2 d hd)⟩, rfl⟩
  | some d =>
    refine ⟨l.set d v, ⟨by rw [put_length, List.length_set]; exact h.1, fun e he => ?_⟩, by simp [Act.put]⟩
    show den ρ' (nth (setN t d s) e) = _
    by_cases hde : d = e
    · subst hde
      by_cases hd : d < t.length
      · rw [nth_setN_self hd]
        rcases hx with ⟨d', h1, h2⟩ | hx
        · simp at h1; subst h1; exact absurd h2 he
        · rw [hx]; simp [List.getD_eq_getElem?_getD, List.getElem?_set_self (show d < l.length by rw [h.1]; exact hd)]
      · have e1 : setN t d s = t := by
          have : ∀ {t : List Sv} {d : Nat} {s : Sv}, ¬ d < t.length → setN t d s = t := fun {t} => by
            induction t with
            | nil => intro d s _; rfl
            | cons c t ih =>
              intro d s hd
              cases d with
              | zero => simp at hd
              | succ d => simp only [setN]; rw [ih (by simpa using hd)]
          exact this hd
        have hle : l.length ≤ d := by rw [h.1]; exact Nat.le_of_not_lt hd
        rw [e1, List.set_eq_of_length_le hle]
        exact den_mono hp (h.2 d he)
    · rw [nth_setN_ne hde]
      have := den_mono hp (h.2 e he)
      rw [this]
      simp [List.getD_eq_getElem?_getD, List.getElem?_set_ne hde]
/-- An allocation of which nothing is seen. -/
def FlO (P : Program) (S : List Nat) (o : Oper) : Prop := o.guard = none ∧ (∃ T z, o.op = .alloc T ∧ zeroS P T = some z) ∧ ∃ d, o.dst = some d ∧ d ∈ S
def ZStep (P : Program) (X : Ext) (ops : Array Oper) (mq : List SObj) (S : List Nat) (o : Oper) (t : List Sv) (sv : Sv) : Prop :=
  FlO P S o ∨ ((∀ d, d ∈ S → d ∉ o.looksAt ops) ∧ QStep P X ops mq o t sv)
theorem ZStep.put {mq : List SObj} {S : List Nat} {o : Oper} {t : List Sv} {sv : Sv} {d : Option Tmp} {x : Sv} (h : ∀ i, d = some i → i ∉ o.looksAt ops) : ZStep P X ops mq S o (put t d x) sv ↔ ZStep P X ops mq S o t sv := by
  unfold ZStep; simp only [QStep.put h]
/-- Whatever order comes, that call panics. -/
def AnyZ (P : Program) (X : Ext) (md : Region.Mode) (ops : Array Oper) (mq : List SObj) (S : List Nat) (p : Nat) (ch : List PanicEntry) : Nat → Array Bool → List Sv → Prop
  | 0, listed, t => False
  | f + 1, listed, t => Region.ready md ops listed ≠ [] ∧ ∀ i ∈ Region.ready md ops listed, (i = p ∧ ∃ o, ops[i]? = some o ∧ (∀ d, d ∈ S → d ∉ o.looksAt ops) ∧ PQ P X ops mq o t ch) ∨
      (i ≠ p ∧ ∃ o sv, ops[i]? = some o ∧ ZStep P X ops mq S o t sv ∧ AnyZ P X md ops mq S p ch f (listed.setIfInBounds i true) (put t o.dst sv))
theorem AnyZ.more {mq : List SObj} {S : List Nat} {p : Nat} {ch : List PanicEntry} : ∀ {f : Nat} {listed : Array Bool} {t : List Sv}, AnyZ P X md ops mq S p ch f listed t → AnyZ P X md ops mq S p ch (f + 1) listed t
  | 0, _, _, H => H.elim
  | f + 1, _, _, H => ⟨H.1, fun i hi => by
    rcases H.2 i hi with h1 | ⟨h1, o, sv, h2, h3, h4⟩
    · exact .inl h1
    · exact .inr ⟨h1, o, sv, h2, h3, h4.more⟩⟩
theorem anyZ_sound {mq m0 : List SObj} {S : List Nat} {p : Nat} {ch : List PanicEntry} {Q : Exit → Act → World → Prop} {ds : List Deferred} (hc : Compat mq m0) {n : Nat} :
    ∀ (f : Nat) (listed : Array Bool) (t : List Sv), AnyZ P X md ops mq S p ch f listed t → t.length = n → ∀ ρ own l w, denX ρ S t l → Rep X ρ own m0 w →
      (∀ ρ' own' w' (l' : List Value), To ρ own w ρ' own' w' → l'.length = n → Rep X ρ' own' m0 w' → Q (.panic ch) ⟨l'.toArray, ds⟩ w') → wpAny P md ops Q f listed ⟨l.toArray, ds⟩ w := by
  intro f
  induction f with
  | zero => intro listed t H; exact H.elim
  | succ f ih =>
    intro listed t H hn ρ own l w hl hr hK
    refine ⟨fun h0 => absurd h0 H.1, fun i hi => ?_⟩
    rcases H.2 i hi with ⟨rfl, o, ho, hs, hp⟩ | ⟨_, o, sv, ho, hst, hA⟩
    · have hlk := denX_looks (ds := ds) hl hs
      unfold wpOp
      simp only [ho]
      obtain ⟨h1, h2⟩ := hp m0 hc ρ own _ w hr hlk
      rw [if_pos h1]
      exact .inl (h2 (wpAny P md ops Q f (listed.setIfInBounds i true)) Q fun ρ' own' w' ht hr' => hK ρ' own' w' l ht (by rw [hl.1]; exact hn) hr')
    · unfold wpOp
      simp only [ho]
      have go : ∀ ρ' own' w' x, To ρ own w ρ' own' w' → ((∃ d', o.dst = some d' ∧ d' ∈ S) ∨ den ρ' sv = some x) → Rep X ρ' own' m0 w' → wpAny P md ops Q f (listed.setIfInBounds i true) (Act.put ⟨l.toArray, ds⟩ o.dst x) w' := fun ρ' own' w' x ht hx hr' => by
        obtain ⟨l', h5, h6⟩ := denX_put hl ht.ext o.dst ds hx
        rw [h6]
        exact ih _ _ hA (by rw [put_length]; exact hn) ρ' own' l' w' h5 hr' fun ρ'' own'' w'' l'' ht' hl'' hr'' => hK ρ'' own'' w'' l'' (ht.trans ht') hl'' hr''
      rcases hst with ⟨hg, ⟨T, z, hop, hz⟩, d, hd, hdS⟩ | ⟨hs, hq⟩
      · rw [if_pos (by simp [Region.wanted, hg])]
        refine .inl ?_
        obtain ⟨i', zv, hi', hzv, hden⟩ := zeroS_sound hz ρ
        unfold Oper.wp
        have : (execOp (Act.eval ⟨l.toArray, ds⟩) o).run P w = .ok (.value (.pointer (some ⟨w.heap.size, 0, none⟩))) (w.alloc (.cells zv.cells T)) := by
          simp [execOp, hop, Instr.alloc, zeroValue, typeInfo, hi', hzv, newVar, newRow]
        rw [this]
        have hold : ∀ b, b < w.heap.size → (w.alloc (.cells zv.cells T)).heap[b]? = w.heap[b]? := fun b hb => heap_alloc_old w _ hb
        have hsz : w.heap.size ≤ (w.alloc (.cells zv.cells T)).heap.size := by simp
        exact go ρ own _ _ ⟨⟨[], by simp⟩, fun _ hb => .inl hb, ⟨rfl, rfl, rfl, hsz, fun b hlt _ => hold b hlt⟩⟩ (.inl ⟨d, hd, hdS⟩) (hr.same hold hsz)
      · have hlk := denX_looks (ds := ds) hl hs
        rcases hq with hq | ⟨rfl, hq⟩ | hq
        · obtain ⟨h1, x, hx, h2⟩ := hq ρ own m0 _ w hc hr hlk
          rw [if_pos h1]
          refine .inl (Oper.wp_of_quiet (C := fun w' => To ρ own w ρ own w' ∧ Rep X ρ own m0 w') (K := fun a' => a' = Act.put ⟨l.toArray, ds⟩ o.dst x) ⟨To.refl _ _ _, hr⟩ (fun a' w' hw' he => ?_) ⟨x, h2, rfl⟩)
          subst he
          exact go ρ own w' x hw'.1 (.inr hx) hw'.2
        · rw [if_neg (by rw [hq ρ _ hlk]; simp)]
          exact go ρ own w undef (To.refl _ _ _) (.inr rfl) hr
        · obtain ⟨h1, h2⟩ := hq _ hc ρ own _ w hr hlk
          rw [if_pos h1]
          exact .inl (h2 _ _ fun ρ' own' w' x ht hx hr' => go ρ' own' w' x ht (.inr hx) hr')

theorem anyZ_first {mq : List SObj} {S : List Nat} {p : Nat} {ch : List PanicEntry} {i : Nat} {oi : Oper} {v : Sv} (hi : ops[i]? = some oi) (hip : i ≠ p) :
    ∀ (f : Nat) (listed : Array Bool) (t : List Sv), closedL .any ops listed →
      (∀ j oj, ops[j]? = some oj → j ≠ i → listed.getD j true = false → (∀ e ∈ oj.after, Region.binds .any e = true → e.on ≠ i) → (∀ d, oi.dst = some d → d ∉ oj.looksAt ops) ∧ (∀ d, oi.dst = some d → oj.dst ≠ some d) ∧ ∀ d, oj.dst = some d → d ∉ oi.looksAt ops) →
      i ∈ Region.ready .any ops listed → ZStep P X ops mq S oi t v →
      AnyZ P X .any ops mq S p ch f (listed.setIfInBounds i true) (put t oi.dst v) → AnyZ P X .any ops mq S p ch (f + 1) listed t := by
  intro f
  induction f with
  | zero => intro listed t hcl hfree hr hst H; exact H.elim
  | succ f ih =>
    intro listed t hcl hfree hr hst H
    refine ⟨fun h => (by rw [h] at hr; cases hr), fun j hj => ?_⟩
    by_cases hji : j = i
    · subst hji; exact .inr ⟨hip, oi, v, hi, hst, H⟩
    · obtain ⟨hjun, oj', hoj', hall⟩ := mem_ready.1 hj
      have hiun := (mem_ready.1 hr).1
      have hnot : ∀ e ∈ oj'.after, Region.binds .any e = true → e.on ≠ i := fun e he hb heq => by
        have h1 := hall e he hb
        rw [heq, getD_both hiun] at h1
        cases h1
      obtain ⟨a1, a2, a3⟩ := hfree j oj' hoj' hji hjun hnot
      rcases H.2 j (ready_mono hj hji) with ⟨rfl, o, ho, hs, hps⟩ | ⟨hjp, oj, y, hoj, hstj, hA⟩
      · have : o = oj' := Option.some.inj (ho.symm.trans hoj')
        subst this
        exact .inl ⟨rfl, o, ho, hs, (PQ.put a1).1 hps⟩
      have : oj' = oj := Option.some.inj (hoj'.symm.trans hoj)
      subst this
      refine .inr ⟨hjp, oj', y, hoj, (ZStep.put a1).1 hstj, ih _ _ (hcl.set hj) (fun k ok hk hki hun hno => hfree k ok hk hki ?_ hno) (ready_mono hr (Ne.symm hji)) ((ZStep.put a3).2 hst) ?_⟩
      · by_cases hjk : j = k
        · subst hjk; exact hjun
        · rw [getD_set_ne true hjk] at hun; exact hun
      · rw [Array.setIfInBounds_comm _ _ hji, ← put_comm a2]
        exact hA

def LexZQ (P : Program) (X : Ext) (ops : Array Oper) (mq : List SObj) (S : List Nat) (p : Nat) : Nat → List Oper → List Sv → Prop
  | _, [], t => True
  | k, o :: rest, t => (waitsS .any ops ops.size k p = true ∧ LexZQ P X ops mq S p (k + 1) rest t) ∨
      (waitsS .any ops ops.size k p = false ∧ ∃ sv, ZStep P X ops mq S o t sv ∧ LexZQ P X ops mq S p (k + 1) rest (put t o.dst sv))
def LexZ (P : Program) (X : Ext) (ops : Array Oper) (mq : List SObj) (S : List Nat) (p : Nat) (ch : List PanicEntry) : Nat → List Oper → List Sv → Prop
  | _, [], t => False
  | k, o :: rest, t => (k < p ∧ ∃ sv, ZStep P X ops mq S o t sv ∧ LexZ P X ops mq S p ch (k + 1) rest (put t o.dst sv)) ∨
      (k = p ∧ (∀ d, d ∈ S → d ∉ o.looksAt ops) ∧ PQ P X ops mq o t ch ∧ LexZQ P X ops mq S p (k + 1) rest t)
theorem anyZQ_lex (H : LexOk ops 0) {mq : List SObj} {S : List Nat} {p : Nat} {ch : List PanicEntry} {op : Oper} (hp : ops[p]? = some op) (hpS : ∀ d, d ∈ S → d ∉ op.looksAt ops) :
    ∀ (l : List Oper) (k : Nat) (listed : Array Bool) (t : List Sv), p < k → (∀ j, l[j]? = ops[k + j]?) → Listed ops p k listed → PQ P X ops mq op t ch → LexZQ P X ops mq S p k l t → AnyZ P X .any ops mq S p ch (l.length + 1) listed t
  | [], k, listed, t, hpk, hl, hL, hps, _ => by
    have hps' := (Array.getElem?_eq_some_iff.1 hp).1
    have hk : ops.size ≤ k := by
      have := hl 0
      simp only [List.getElem?_nil, Nat.add_zero] at this
      exact Array.getElem?_eq_none_iff.1 this.symm
    have hpr : p ∈ Region.ready .any ops listed := mem_ready.2 ⟨hL.unl hps' (fun h => h.2.1 rfl), op, hp, fun e he hb => hL.edge H hp (by omega) (waits_irr H p) he hb⟩
    refine ⟨fun e => (by rw [e] at hpr; cases hpr), fun i hi => ?_⟩
    by_cases hip : i = p
    · subst hip; exact .inl ⟨rfl, op, hp, hpS, hps⟩
    · exfalso
      obtain ⟨hun, oi, hoi, _⟩ := mem_ready.1 hi
      have his := (Array.getElem?_eq_some_iff.1 hoi).1
      cases hw : waitsS .any ops ops.size i p with
      | false =>
        have := (hL.2 i his).2 ⟨by omega, hip, hw⟩
        rw [this] at hun; cases hun
      | true =>
        have h2 := waits_ready (hL.closed H) hi hw
        rw [getD_both (hL.unl hps' (fun h => h.2.1 rfl))] at h2
        cases h2
  | o :: l, k, listed, t, hpk, hl, hL, hps, hQ => by
    have hok : ops[k]? = some o := by simpa using (hl 0).symm
    have hks := (Array.getElem?_eq_some_iff.1 hok).1
    have hps' := (Array.getElem?_eq_some_iff.1 hp).1
    have hl' : ∀ j, l[j]? = ops[k + 1 + j]? := fun j => by have := hl (j + 1); simpa [Nat.add_assoc, Nat.add_comm 1 j] using this
    rcases hQ with ⟨hw, hQ⟩ | ⟨hw, sv, hq, hQ⟩
    · exact (anyZQ_lex H hp hpS l (k + 1) listed t (by omega) hl' ⟨hL.1, fun j hj => by
        rw [hL.2 j hj]
        refine ⟨fun h => ⟨by omega, h.2⟩, fun h => ⟨?_, h.2⟩⟩
        rcases Nat.lt_or_ge j k with h1 | h1
        · exact h1
        · have : j = k := by omega
          subst this; rw [hw] at h; cases h.2.2⟩ hps hQ).more
    · have hkp : k ≠ p := by omega
      have hkun : listed.getD k true = false := hL.unl hks (fun h => by omega)
      have hkr : k ∈ Region.ready .any ops listed := mem_ready.2 ⟨hkun, o, hok, fun e he hb => hL.edge H hok (Nat.le_refl _) hw he hb⟩
      refine anyZ_first hok hkp (l.length + 1) listed t (hL.closed H) (fun j oj hj hjk hun hno => ?_) hkr hq ?_
      · rcases Nat.lt_or_ge k j with h1 | h1
        · exact (H k o hok (Nat.zero_le _)).2 j oj hj h1 hno
        · have h2 : j < k := by omega
          obtain ⟨b1, b2, b3⟩ := (H j oj hj (Nat.zero_le _)).2 k o hok h2 (fun e he hb heq => by
            have := hL.edge H hok (Nat.le_refl _) hw he hb
            rw [heq, getD_both hun] at this
            cases this)
          exact ⟨b3, fun d hd h => b2 d h hd, b1⟩
      · refine anyZQ_lex H hp hpS l (k + 1) _ _ (by omega) hl' ⟨by simpa using hL.1, fun j hj => ?_⟩ ((PQ.put ?_).2 hps) hQ
        · by_cases hjk : k = j
          · subst hjk
            simp only [show k < listed.size by rw [hL.1]; exact hks, Array.getD_eq_getD_getElem?, Array.getElem?_setIfInBounds_self_of_lt, Option.getD_some]
            exact ⟨fun _ => ⟨by omega, hkp, hw⟩, fun _ => trivial⟩
          · rw [getD_set_ne true hjk, hL.2 j hj]
            exact ⟨fun h => ⟨by omega, h.2⟩, fun h => ⟨by omega, h.2⟩⟩
        · exact ((H p op hp (Nat.zero_le _)).2 k o hok hpk (fun e he hb heq => by
            rw [waits_edge H hok he hb (.inl heq)] at hw; cases hw)).2.2
theorem lexZ_lt {mq : List SObj} {S : List Nat} {p : Nat} {ch : List PanicEntry} : ∀ {l : List Oper} {k : Nat} {t : List Sv}, LexZ P X ops mq S p ch k l t → k ≤ p ∧ p < k + l.length
  | [], k, t, H => H.elim
  | o :: l, k, t, H => by
    rcases H with ⟨_, sv, _, H⟩ | ⟨rfl, _⟩
    · have := lexZ_lt H
      simp; omega
    · simp
theorem anyZ_lex (H : LexOk ops 0) {mq : List SObj} {S : List Nat} {p : Nat} {ch : List PanicEntry} :
    ∀ (l : List Oper) (k : Nat) (listed : Array Bool) (t : List Sv), (∀ j, l[j]? = ops[k + j]?) → listed.size = ops.size → (∀ j, j < ops.size → (listed.getD j true = true ↔ j < k)) →
      LexZ P X ops mq S p ch k l t → AnyZ P X .any ops mq S p ch l.length listed t
  | [], k, listed, t, _, _, _, hP => hP.elim
  | o :: l, k, listed, t, hl, hsz, hls, hP => by
    have hok : ops[k]? = some o := by simpa using (hl 0).symm
    have hks := (Array.getElem?_eq_some_iff.1 hok).1
    have hl' : ∀ j, l[j]? = ops[k + 1 + j]? := fun j => by have := hl (j + 1); simpa [Nat.add_assoc, Nat.add_comm 1 j] using this
    have hcl : closedL .any ops listed := fun j oj hj hl e he hb => by
      have hjs := (Array.getElem?_eq_some_iff.1 hj).1
      have h3 := (H j oj hj (Nat.zero_le _)).1 e he hb
      rw [getD_tf (by omega), hls _ hjs] at hl
      rw [getD_tf (by omega), hls _ (by omega)]
      omega
    have hun : ∀ j, j < ops.size → ¬ j < k → listed.getD j true = false := fun j hj hjk => by
      cases h1 : listed.getD j true with
      | false => rfl
      | true => exact absurd ((hls j hj).1 h1) hjk
    have hkr : k ∈ Region.ready .any ops listed := mem_ready.2 ⟨hun k hks (by omega), o, hok, fun e he hb => by
      have h3 := (H k o hok (Nat.zero_le _)).1 e he hb
      rw [getD_tf (by omega), hls _ (by omega)]; exact h3⟩
    rcases hP with ⟨hkp, sv, hst, hP⟩ | ⟨rfl, hpS, hps, hQ⟩
    · refine anyZ_first hok (by omega) l.length listed t hcl (fun j oj hj hjk hju hno => ?_) hkr hst ?_
      · have hjs := (Array.getElem?_eq_some_iff.1 hj).1
        have : k < j := by
          rcases Nat.lt_or_ge k j with h1 | h1
          · exact h1
          · rw [(hls j hjs).2 (by omega)] at hju; cases hju
        exact (H k o hok (Nat.zero_le _)).2 j oj hj this hno
      · refine anyZ_lex H l (k + 1) _ _ hl' (by simpa using hsz) (fun j hj => ?_) hP
        by_cases hjk : k = j
        · subst hjk
          simp only [show k < listed.size by omega, Array.getD_eq_getD_getElem?, Array.getElem?_setIfInBounds_self_of_lt, Option.getD_some]
          exact ⟨fun _ => by omega, fun _ => trivial⟩
        · rw [getD_set_ne true hjk, hls j hj]; omega
    · refine anyZQ_lex H hok hpS l (k + 1) listed t (by omega) hl' ⟨hsz, fun j hj => ?_⟩ hps hQ
      rw [hls j hj]
      refine ⟨fun h => ⟨by omega, by omega, ?_⟩, fun h => by omega⟩
      cases hw : waitsS .any ops ops.size j k with
      | false => rfl
      | true => have := waits_lt H _ _ _ hw; omega
/-- The slots of allocations that float. -/
def floatS (P : Program) (ops : Array Oper) (eff : Nat → Bool) (p : Nat) : List Nat := (List.range ops.size).filterMap fun e => match eff e && floatB P ops p e with
  | true => (ops[e]?).bind (·.dst)
  | false => none
theorem floatB_spec {p e : Nat} {o : Oper} (ho : ops[e]? = some o) (h : floatB P ops p e = true) : o.guard = none ∧ (∃ T z, o.op = .alloc T ∧ zeroS P T = some z) ∧ ∃ d, o.dst = some d ∧ ∀ i oi, ops[i]? = some oi → waitsS .any ops ops.size i p = false → d ∉ oi.looksAt ops := by
  unfold floatB at h
  simp only [ho] at h
  split at h
  · rename_i T hT
    split at h
    · rename_i z hz
      split at h
      · rename_i hg
        split at h
        · rename_i d hd
          refine ⟨hg, ⟨T, z, hT, hz⟩, d, hd, fun i oi hi hw hm => ?_⟩
          have h1 := List.all_eq_true.1 h i (List.mem_range.2 (Array.getElem?_eq_some_iff.1 hi).1)
          simp [hw, hi, hm] at h1
        · cases h
      · cases h
    · cases h
  · cases h
theorem floatS_looks {eff : Nat → Bool} {p i : Nat} {oi : Oper} (hi : ops[i]? = some oi) (hw : waitsS .any ops ops.size i p = false) : ∀ d, d ∈ floatS P ops eff p → d ∉ oi.looksAt ops := by
  intro d hd
  unfold floatS at hd
  obtain ⟨e, he, h2⟩ := List.mem_filterMap.1 hd
  split at h2
  · rename_i hb
    obtain ⟨o, ho⟩ : ∃ o, ops[e]? = some o := ⟨ops[e]'(List.mem_range.1 he), Array.getElem?_eq_getElem _⟩
    obtain ⟨_, _, d', hd', h3⟩ := floatB_spec ho (Bool.and_eq_true_iff.1 hb).2
    simp only [ho, Option.bind_some, hd', Option.some.injEq] at h2
    subst h2
    exact h3 i oi hi hw
  · cases h2
theorem okZ_flo {eff : Nat → Bool} {p e : Nat} {o : Oper} (ho : ops[e]? = some o) (h : okZ P ops eff p = true) (he : eff e = true) (hw : waitsS .any ops ops.size e p = false) : FlO P (floatS P ops eff p) o := by
  unfold okZ at h
  simp only [Bool.and_eq_true] at h
  have hes := (Array.getElem?_eq_some_iff.1 ho).1
  have h1 := List.all_eq_true.1 h.2.1 e (List.mem_range.2 hes)
  simp only [he, hw, Bool.not_true, Bool.false_or] at h1
  obtain ⟨hg, hT, d, hd, _⟩ := floatB_spec ho h1
  refine ⟨hg, hT, d, hd, ?_⟩
  unfold floatS
  refine List.mem_filterMap.2 ⟨e, List.mem_range.2 hes, ?_⟩
  simp [he, h1, ho, hd]
end
end Go.Ev
