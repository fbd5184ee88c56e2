/- A region whose order is open, with effects that come in one forced order: whatever floats round them reads what they leave alone. -/
import Derived.Test.YtpgdpoloipifeaaEv5
namespace Go.Ev
set_option linter.unusedVariables false
set_option linter.unusedSimpArgs false
open Go
section
variable {P : Program} {X : Ext} {ops : Array Oper} {md : Region.Mode}

/-- What an operation looks at is what the frame says. -/
def looks (ops : Array Oper) (o : Oper) (ρ : List Un) (t : List Sv) (a : Act) : Prop := ∀ d ∈ o.looksAt ops, den ρ (nth t d) = some (a.eval (.tmp d))

theorem looks_of_den {o : Oper} {ρ : List Un} {t : List Sv} {l : List Value} {ds : List Deferred} (hl : denL ρ t = some l) : looks ops o ρ t ⟨l.toArray, ds⟩ := fun d _ => get_den hl (.tmp d)

theorem looks_get {o : Oper} {ρ : List Un} {t : List Sv} {a : Act} (h : looks ops o ρ t a) (x : Operand) (hx : x ∈ o.op.operands) : den ρ (get t x) = some (a.eval x) := by
  cases x with
  | tmp d => exact h d (List.mem_append_left _ (List.mem_filterMap.2 ⟨.tmp d, by simpa using hx, rfl⟩))
  | const x => cases x <;> simp [get, Act.eval, den, denL_v]
  | global g => simp [get, Act.eval, den]
  | func f => simp [get, Act.eval, den]

theorem nth_setN_ne : ∀ {t : List Sv} {d e : Nat} {x : Sv}, d ≠ e → nth (setN t d x) e = nth t e
  | [], d, e, x, _ => rfl
  | c :: t, 0, 0, x, h => absurd rfl h
  | c :: t, 0, e + 1, x, _ => rfl
  | c :: t, d + 1, 0, x, _ => rfl
  | c :: t, d + 1, e + 1, x, h => nth_setN_ne (t := t) (by omega)
theorem setN_comm : ∀ {t : List Sv} {d e : Nat} {x y : Sv}, d ≠ e → setN (setN t d x) e y = setN (setN t e y) d x
  | [], d, e, x, y, _ => rfl
  | c :: t, 0, 0, x, y, h => absurd rfl h
  | c :: t, 0, e + 1, x, y, _ => rfl
  | c :: t, d + 1, 0, x, y, _ => rfl
  | c :: t, d + 1, e + 1, x, y, h => by simp only [setN]; rw [setN_comm (t := t) (by omega)]
theorem setN_id : ∀ {t : List Sv} {d : Nat} {x : Sv}, t[d]? = some x → setN t d x = t
  | [], d, x, h => rfl
  | c :: t, 0, x, h => by simp at h; subst h; rfl
  | c :: t, d + 1, x, h => by simp only [setN]; rw [setN_id (by simpa using h)]

theorem put_comm {t : List Sv} {d e : Option Tmp} {x y : Sv} (h : ∀ i, d = some i → e ≠ some i) : put (put t d x) e y = put (put t e y) d x := by
  cases d with
  | none => rfl
  | some d => cases e with
    | none => rfl
    | some e => exact setN_comm fun hde => h d rfl (by rw [hde])
theorem looks_put {o : Oper} {ρ : List Un} {t : List Sv} {a : Act} {d : Option Tmp} {x : Sv} (h : ∀ i, d = some i → i ∉ o.looksAt ops) : looks ops o ρ (put t d x) a ↔ looks ops o ρ t a := by
  cases d with
  | none => exact Iff.rfl
  | some d =>
    have e : ∀ i ∈ o.looksAt ops, nth (put t (some d) x) i = nth t i := fun i hi => nth_setN_ne fun hdi => h d rfl (by rw [hdi]; exact hi)
    exact ⟨fun hk i hi => by rw [← e i hi]; exact hk i hi, fun hk i hi => by rw [e i hi]; exact hk i hi⟩

theorem put_den {ρ : List Un} {t : List Sv} {l : List Value} {ds : List Deferred} (hl : denL ρ t = some l) (d : Option Tmp) {x : Sv} {v : Value} (hx : den ρ x = some v) :
    ∃ l', denL ρ (put t d x) = some l' ∧ Act.put ⟨l.toArray, ds⟩ d v = ⟨l'.toArray, ds⟩ := by
  cases d with
  | none => exact ⟨l, hl, rfl⟩
  | some d => exact ⟨l.set d v, setN_den d hl hx, by simp [Act.put]⟩

/-- An effect, by what holds behind it. -/
def EStepW (P : Program) (X : Ext) (ops : Array Oper) (o : Oper) (t : List Sv) (m : List SObj) (sv : Sv) (m' : List SObj) : Prop :=
  ∀ ρ own a w, Rep X ρ own m w → looks ops o ρ t a → Region.wanted o (yielded ops a.tmps) = true ∧
    ∀ (K : Act → World → Prop) (Q : Exit → Act → World → Prop), (∀ ρ' own' w' x, To ρ own w ρ' own' w' → den ρ' sv = some x → Rep X ρ' own' m' w' → K (a.put o.dst x) w') → o.wp P a w K Q
theorem EStepW.put {o : Oper} {t : List Sv} {m m' : List SObj} {sv : Sv} {d : Option Tmp} {x : Sv} (h : ∀ i, d = some i → i ∉ o.looksAt ops) : EStepW P X ops o (put t d x) m sv m' ↔ EStepW P X ops o t m sv m' := by
  unfold EStepW; simp only [looks_put h]
/-- A quiet operation's answer, whatever stands in memory beside what it reads. -/
def QStep (P : Program) (X : Ext) (ops : Array Oper) (mq : List SObj) (o : Oper) (t : List Sv) (sv : Sv) : Prop :=
  (∀ ρ own m a w0, Compat mq m → Rep X ρ own m w0 → looks ops o ρ t a → Region.wanted o (yielded ops a.tmps) = true ∧
    ∃ x, den ρ sv = some x ∧ ∀ w, To ρ own w0 ρ own w ∧ Rep X ρ own m w → o.quietAt P a (fun w' => To ρ own w0 ρ own w' ∧ Rep X ρ own m w') w x) ∨
  (sv = .v undef ∧ ∀ ρ a, looks ops o ρ t a → Region.wanted o (yielded ops a.tmps) = false) ∨
  ∀ m, Compat mq m → EStepW P X ops o t m sv m

/-- An effect. -/
def EStep (P : Program) (X : Ext) (ops : Array Oper) (o : Oper) (t : List Sv) (m : List SObj) (sv : Sv) (m' : List SObj) : Prop :=
  ∀ ρ own a w, Rep X ρ own m w → looks ops o ρ t a → Region.wanted o (yielded ops a.tmps) = true ∧
    ∃ ρ' own' w' x, ((execOp a.eval o).run P w = .ok (.value x) w' ∨ ((execOp a.eval o).run P w = .ok .skip w' ∧ x = undef)) ∧ To ρ own w ρ' own' w' ∧ den ρ' sv = some x ∧ Rep X ρ' own' m' w'

theorem EStep.wp {o : Oper} {t : List Sv} {m m' : List SObj} {sv : Sv} (h : EStep P X ops o t m sv m') : EStepW P X ops o t m sv m' := by
  intro ρ own a w hr hl
  obtain ⟨h1, ρ', own', w', x, hrun, ht, hx, hr'⟩ := h ρ own a w hr hl
  refine ⟨h1, fun K Q hK => ?_⟩
  unfold Oper.wp
  rcases hrun with hrun | ⟨hrun, rfl⟩
  · rw [hrun]; exact hK ρ' own' w' x ht hx hr'
  · rw [hrun]; exact hK ρ' own' w' _ ht hx hr'

theorem QStep.put {mq : List SObj} {o : Oper} {t : List Sv} {sv : Sv} {d : Option Tmp} {x : Sv} (h : ∀ i, d = some i → i ∉ o.looksAt ops) : QStep P X ops mq o (put t d x) sv ↔ QStep P X ops mq o t sv := by
  unfold QStep; simp only [looks_put h, EStepW.put h]
theorem EStep.put {o : Oper} {t : List Sv} {m m' : List SObj} {sv : Sv} {d : Option Tmp} {x : Sv} (h : ∀ i, d = some i → i ∉ o.looksAt ops) : EStep P X ops o (put t d x) m sv m' ↔ EStep P X ops o t m sv m' := by
  unfold EStep; simp only [looks_put h]

/-- An entry laid into a map, whatever else the map holds. -/
def IStep (P : Program) (X : Ext) (ops : Array Oper) (o : Oper) (t : List Sv) (b : Nat) (q : IntKind) (a : Int) (s : Sv) : Prop :=
  ∀ m es, m[b]? = some (.pm q es) → fresh a es = true → EStep P X ops o t m (.v undef) (m.set b (.pm q (insS (a, s) es)))

/-- One operation's step, by its kind. -/
def OStep (P : Program) (X : Ext) (ops : Array Oper) (mq : List SObj) (o : Oper) (v : Bool) : Bool → Bool → List Sv → List SObj → Sv → List SObj → Prop
  | false, _, t, m, sv, m' => m' = m ∧ QStep P X ops (visE v m mq) o t sv
  | true, false, t, m, sv, m' => Compat mq m' ∧ EStep P X ops o t m sv m'
  | true, true, t, m, sv, m' => sv = .v undef ∧ ∃ b q a s es, IStep P X ops o t b q a s ∧ (∀ o', mq[b]? = some o' → alive o' = false) ∧ m[b]? = some (.pm q es) ∧ fresh a es = true ∧ m' = m.set b (.pm q (insS (a, s) es))

theorem IStep.put {o : Oper} {t : List Sv} {b : Nat} {q : IntKind} {a : Int} {s : Sv} {d : Option Tmp} {x : Sv} (h : ∀ i, d = some i → i ∉ o.looksAt ops) : IStep P X ops o (put t d x) b q a s ↔ IStep P X ops o t b q a s := by
  unfold IStep; simp only [EStep.put h]
theorem OStep.put {mq : List SObj} {o : Oper} {v b c : Bool} {t : List Sv} {m m' : List SObj} {sv : Sv} {d : Option Tmp} {x : Sv} (h : ∀ i, d = some i → i ∉ o.looksAt ops) :
    OStep P X ops mq o v b c (put t d x) m sv m' ↔ OStep P X ops mq o v b c t m sv m' := by
  cases b
  · simp only [OStep, QStep.put h]
  · cases c
    · simp only [OStep, EStep.put h]
    · simp only [OStep, IStep.put h]
theorem compat_set {mq m : List SObj} (hm : Compat mq m) {b : Nat} (hb : ∀ o', mq[b]? = some o' → alive o' = false) (o : SObj) : Compat mq (m.set b o) := fun k o' hk ha => by
  have h1 := hm k o' hk ha
  have hne : b ≠ k := fun e => by subst e; rw [hb o' hk] at ha; cases ha
  rw [List.getElem?_set_ne hne]; exact h1
theorem OStep.compat {mq : List SObj} {o : Oper} {v b c : Bool} {t : List Sv} {m m' : List SObj} {sv : Sv} (h : OStep P X ops mq o v b c t m sv m') (hm : Compat mq m) : Compat mq m' := by
  cases b
  · rw [h.1]; exact hm
  · cases c
    · exact h.1
    · obtain ⟨_, b, q, a, s, es, _, h2, h3, _, rfl⟩ := h
      exact compat_set hm h2 _
theorem OStep.estep {mq : List SObj} {o : Oper} {v c : Bool} {t : List Sv} {m m' : List SObj} {sv : Sv} (h : OStep P X ops mq o v true c t m sv m') : EStep P X ops o t m sv m' := by
  cases c
  · exact h.2
  · obtain ⟨rfl, b, q, a, s, es, h1, _, h3, h4, rfl⟩ := h
    exact h1 m es h3 h4

theorem insS_comm {x y : Int × Sv} (h : x.1 ≠ y.1) : ∀ es : List (Int × Sv), insS x (insS y es) = insS y (insS x es)
  | [] => by
    simp only [insS]
    by_cases hxy : x.1 < y.1
    · have : ¬ y.1 < x.1 := by omega
      simp [hxy, this, insS]
    · have : y.1 < x.1 := by omega
      simp [hxy, this, insS]
  | z :: es => by
    simp only [insS]
    by_cases hy : y.1 < z.1 <;> by_cases hx : x.1 < z.1
    · by_cases hxy : x.1 < y.1
      · have : ¬ y.1 < x.1 := by omega
        simp [hx, hy, hxy, this, insS]
      · have : y.1 < x.1 := by omega
        simp [hx, hy, hxy, this, insS]
    · have h1 : ¬ x.1 < y.1 := by omega
      simp [hx, hy, h1, insS]
    · have h1 : ¬ y.1 < x.1 := by omega
      simp [hx, hy, h1, insS]
    · simp [hx, hy, insS, insS_comm h es]
theorem fresh_insS {a : Int} {x : Int × Sv} : ∀ {es : List (Int × Sv)}, fresh a (insS x es) = (!(a == x.1) && fresh a es)
  | [] => by simp [insS, fresh]
  | (b, s) :: es => by
    simp only [insS]
    cases decide (x.1 < b)
    · simp only [cond_false, fresh, fresh_insS (es := es)]
      cases (a == b) <;> cases (a == x.1) <;> rfl
    · simp only [cond_true, fresh]

theorem visE_compat {v : Bool} {m mq : List SObj} (h : Compat mq m) : Compat (visE v m mq) m := by
  cases v
  · exact h
  · exact Compat.refl m
theorem visB_waits {md : Region.Mode} {eff : Nat → Bool} {i e : Nat} {o oe : Oper} (h : visB md ops eff i o = true) (he : eff e = true) (ho : ops[e]? = some oe) : (waitsS md ops ops.size i e || waitsS md ops ops.size e i) = true := by
  unfold visB at h
  cases hl : isLook o with
  | false => rw [hl] at h; cases h
  | true =>
    rw [hl] at h
    have h1 := List.all_eq_true.1 h e (List.mem_range.2 (Array.getElem?_eq_some_iff.1 ho).1)
    simpa [he] using h1
/-- Whatever order comes. -/
def AnyS (P : Program) (X : Ext) (md : Region.Mode) (ops : Array Oper) (eff ins : Nat → Bool) (mq : List SObj) (t2 : List Sv) (m2 : List SObj) : Nat → Array Bool → List Sv → List SObj → Prop
  | 0, listed, t, m => Region.ready md ops listed = [] ∧ t = t2 ∧ m = m2
  | f + 1, listed, t, m => Region.ready md ops listed ≠ [] ∧ ∀ i ∈ Region.ready md ops listed, ∃ o sv m', ops[i]? = some o ∧ OStep P X ops mq o (visB md ops eff i o) (eff i) (ins i) t m sv m' ∧ AnyS P X md ops eff ins mq t2 m2 f (listed.setIfInBounds i true) (put t o.dst sv) m'

theorem anyS_sound {eff ins : Nat → Bool} {mq : List SObj} {t2 : List Sv} {m2 : List SObj} {Q : Exit → Act → World → Prop} {ds : List Deferred} :
    ∀ (f : Nat) (listed : Array Bool) (t : List Sv) (m : List SObj), AnyS P X md ops eff ins mq t2 m2 f listed t m → Compat mq m → ∀ ρ own l w, denL ρ t = some l → Rep X ρ own m w →
      (∀ ρ' own' w' l', To ρ own w ρ' own' w' → denL ρ' t2 = some l' → Rep X ρ' own' m2 w' → Q .normal ⟨l'.toArray, ds⟩ w') → wpAny P md ops Q f listed ⟨l.toArray, ds⟩ w := by
  intro f
  induction f with
  | zero =>
    intro listed t m h hm ρ own l w hl hr hK
    obtain ⟨h1, rfl, rfl⟩ := h
    exact ⟨h1, hK ρ own w l (To.refl _ _ _) hl hr⟩
  | succ f ih =>
    intro listed t m h hm ρ own l w hl hr hK
    refine ⟨fun h0 => absurd h0 h.1, fun i hi => ?_⟩
    obtain ⟨o, sv, m', ho, hst, hA⟩ := h.2 i hi
    have hcm := hst.compat hm
    have hlk := looks_of_den (ops := ops) (o := o) (ds := ds) hl
    unfold wpOp
    simp only [ho]
    have go : ∀ ρ' own' w' x, To ρ own w ρ' own' w' → den ρ' sv = some x → Rep X ρ' own' m' w' → wpAny P md ops Q f (listed.setIfInBounds i true) (Act.put ⟨l.toArray, ds⟩ o.dst x) w' := fun ρ' own' w' x ht hx hr' => by
      obtain ⟨l', h5, h6⟩ := put_den (ds := ds) (denL_mono ht.ext hl) o.dst hx
      rw [h6]
      exact ih _ _ _ hA hcm ρ' own' l' w' h5 hr' fun ρ'' own'' w'' l'' ht' hl'' hr'' => hK ρ'' own'' w'' l'' (ht.trans ht') hl'' hr''
    cases he : eff i with
    | false =>
      rw [he] at hst
      obtain ⟨rfl, hq⟩ := hst
      rcases hq with hq | ⟨rfl, hq⟩ | hq
      · obtain ⟨h1, x, hx, h2⟩ := hq ρ own m' _ w (visE_compat hm) hr hlk
        rw [if_pos h1]
        refine .inl (Oper.wp_of_quiet (C := fun w' => To ρ own w ρ own w' ∧ Rep X ρ own m' w') (K := fun a' => a' = Act.put ⟨l.toArray, ds⟩ o.dst x) ⟨To.refl _ _ _, hr⟩ (fun a' w' hw' he => ?_) ⟨x, h2, rfl⟩)
        subst he
        exact go ρ own w' x hw'.1 hx hw'.2
      · rw [if_neg (by rw [hq ρ _ hlk]; simp)]
        exact go ρ own w undef (To.refl _ _ _) rfl hr
      · obtain ⟨h1, h2⟩ := hq _ (visE_compat hm) ρ own _ w hr hlk
        rw [if_pos h1]
        exact .inl (h2 _ _ go)
    | true =>
      rw [he] at hst
      obtain ⟨h1, ρ', own', w', x, hrun, ht, hx, hr'⟩ := hst.estep ρ own _ w hr hlk
      rw [if_pos h1]
      refine .inl ?_
      unfold Oper.wp
      rcases hrun with hrun | ⟨hrun, rfl⟩
      · rw [hrun]; exact go ρ' own' w' x ht hx hr'
      · rw [hrun]; exact go ρ' own' w' _ ht hx hr'

/-! ### The text's order serves for all -/
def closedL (md : Region.Mode) (ops : Array Oper) (listed : Array Bool) : Prop :=
  ∀ j oj, ops[j]? = some oj → listed.getD j false = true → ∀ e ∈ oj.after, Region.binds md e = true → listed.getD e.on false = true

theorem closedL.set {listed : Array Bool} {i : Nat} (h : closedL md ops listed) (hi : i ∈ Region.ready md ops listed) : closedL md ops (listed.setIfInBounds i true) := by
  obtain ⟨_, oi, hoi, hall⟩ := mem_ready.1 hi
  intro j oj hj hl e he hb
  by_cases hij : i = j
  · subst hij
    have : oj = oi := Option.some.inj (hj.symm.trans hoi)
    subst this
    exact getD_set_true (hall e he hb)
  · rw [getD_set_ne false hij] at hl
    exact getD_set_true (h j oj hj hl e he hb)

theorem waits_listed {listed : Array Bool} (hc : closedL md ops listed) : ∀ {f j i : Nat}, listed.getD j false = true → waitsS md ops f j i = true → listed.getD i false = true
  | 0, j, i, _, h => by simp [waitsS] at h
  | f + 1, j, i, hj, h => by
    simp only [waitsS] at h
    split at h
    · rename_i oj hoj
      obtain ⟨e, he, h2⟩ := List.any_eq_true.1 h
      simp only [Bool.and_eq_true, Bool.or_eq_true] at h2
      have h3 := hc j oj hoj hj e (by simpa using he) h2.1
      rcases h2.2 with h4 | h4
      · rw [← Nat.eq_of_beq_eq_true h4]; exact h3
      · exact waits_listed hc h3 h4
    · cases h
theorem waits_ready {listed : Array Bool} (hc : closedL md ops listed) {f j i : Nat} (hj : j ∈ Region.ready md ops listed) (h : waitsS md ops f j i = true) : listed.getD i false = true := by
  obtain ⟨_, oj', hoj', hall⟩ := mem_ready.1 hj
  cases f with
  | zero => simp [waitsS] at h
  | succ f =>
    simp only [waitsS, hoj'] at h
    obtain ⟨e, he, h2⟩ := List.any_eq_true.1 h
    simp only [Bool.and_eq_true, Bool.or_eq_true] at h2
    have h3 := hall e (by simpa using he) h2.1
    rcases h2.2 with h4 | h4
    · rw [← Nat.eq_of_beq_eq_true h4]; exact h3
    · exact waits_listed hc h3 h4

theorem anyS_first {eff ins : Nat → Bool} {mq : List SObj} {t2 : List Sv} {m2 : List SObj} {i g : Nat} {oi : Oper} {v : Sv} (hi : ops[i]? = some oi) :
    ∀ (f : Nat) (listed : Array Bool) (t : List Sv) (m m1 : List SObj), closedL md ops listed →
      (∀ j oj, ops[j]? = some oj → j ≠ i → listed.getD j true = false → (∀ e ∈ oj.after, Region.binds md e = true → e.on ≠ i) → oi.apart ops oj = true) →
      (eff i = true → ∀ j, eff j = true → j ≠ i → listed.getD j true = false → (ins i && ins j || waitsS md ops g j i) = true) →
      i ∈ Region.ready md ops listed → OStep P X ops mq oi (visB md ops eff i oi) (eff i) (ins i) t m v m1 →
      AnyS P X md ops eff ins mq t2 m2 f (listed.setIfInBounds i true) (put t oi.dst v) m1 → AnyS P X md ops eff ins mq t2 m2 (f + 1) listed t m := by
  intro f
  induction f with
  | zero =>
    intro listed t m m1 hcl hfree hch hr hst H
    refine ⟨fun h => (by rw [h] at hr; cases hr), fun j hj => ?_⟩
    by_cases hji : j = i
    · subst hji; exact ⟨oi, v, m1, hi, hst, H⟩
    · have := ready_mono hj hji
      rw [H.1] at this
      cases this
  | succ f ih =>
    intro listed t m m1 hcl hfree hch hr hst H
    refine ⟨fun h => (by rw [h] at hr; cases hr), fun j hj => ?_⟩
    by_cases hji : j = i
    · subst hji; exact ⟨oi, v, m1, hi, hst, H⟩
    · obtain ⟨oj, y, m3, hoj, hstj, hA⟩ := H.2 j (ready_mono hj hji)
      obtain ⟨hjun, oj', hoj', hall⟩ := mem_ready.1 hj
      have : oj' = oj := Option.some.inj (hoj'.symm.trans hoj)
      subst this
      have hiun := (mem_ready.1 hr).1
      have hnot : ∀ e ∈ oj'.after, Region.binds md e = true → e.on ≠ i := fun e he hb heq => by
        have h1 := hall e he hb
        rw [heq, getD_both hiun] at h1
        cases h1
      obtain ⟨a1, a2, a3⟩ := Oper.apart_spec (hfree j oj' hoj hji hjun hnot)
      have hstj' : OStep P X ops mq oj' (visB md ops eff j oj') (eff j) (ins j) t m1 y m3 := (OStep.put a1).1 hstj
      -- what is left after j
      have rest : ∀ mj, OStep P X ops mq oj' (visB md ops eff j oj') (eff j) (ins j) t m y mj → OStep P X ops mq oi (visB md ops eff i oi) (eff i) (ins i) t mj v m3 → ∃ o sv m', ops[j]? = some o ∧ OStep P X ops mq o (visB md ops eff j o) (eff j) (ins j) t m sv m' ∧ AnyS P X md ops eff ins mq t2 m2 (f + 1) (listed.setIfInBounds j true) (put t o.dst sv) m' := fun mj h1 h2 => by
        refine ⟨oj', y, mj, hoj, h1, ih _ _ _ m3 (hcl.set hj) (fun k ok hk hki hun hno => hfree k ok hk hki ?_ hno) (fun he k hk hki hun => hch he k hk hki ?_) (ready_mono hr (Ne.symm hji)) ((OStep.put a3).2 h2) ?_⟩
        · by_cases hjk : j = k
          · subst hjk; exact hjun
          · rw [getD_set_ne true hjk] at hun; exact hun
        · by_cases hjk : j = k
          · subst hjk; exact hjun
          · rw [getD_set_ne true hjk] at hun; exact hun
        · rw [Array.setIfInBounds_comm _ _ hji, ← put_comm a2]
          exact hA
      cases hei : eff i with
      | false =>
        rw [hei] at hst
        obtain ⟨rfl, hq⟩ := hst
        refine rest m3 hstj' ?_
        rw [hei]
        cases hej : eff j with
        | false =>
          rw [hej] at hstj'
          obtain ⟨rfl, _⟩ := hstj'
          exact ⟨rfl, hq⟩
        | true =>
          have hv : visB md ops eff i oi = false := by
            cases hv : visB md ops eff i oi with
            | false => rfl
            | true =>
              rcases Bool.or_eq_true_iff.1 (visB_waits hv hej hoj) with h2 | h2
              · have := waits_ready hcl hr h2
                rw [getD_both hjun] at this
                cases this
              · have := waits_ready hcl hj h2
                rw [getD_both hiun] at this
                cases this
          rw [hv] at hq ⊢
          exact ⟨rfl, hq⟩
      | true =>
        cases hej : eff j with
        | true =>
          have h1 := hch hei j hej hji hjun
          cases hii : ins i && ins j with
          | false =>
            rw [hii, Bool.false_or] at h1
            have h1 := waits_ready hcl hj h1
            rw [getD_both hiun] at h1
            cases h1
          | true =>
            obtain ⟨hin, hjn⟩ := Bool.and_eq_true_iff.1 hii
            rw [hei, hin] at hst
            rw [hej, hjn] at hstj'
            obtain ⟨rfl, b, q, a, s, es, i1, i2, i3, i4, rfl⟩ := hst
            obtain ⟨rfl, b', q', a', s', es', j1, j2, j3, j4, rfl⟩ := hstj'
            by_cases hb : b' = b
            · subst hb
              have hlt := (List.getElem?_eq_some_iff.1 i3).1
              rw [List.getElem?_set_self hlt] at j3
              simp only [Option.some.injEq, SObj.pm.injEq] at j3
              obtain ⟨rfl, rfl⟩ := j3
              rw [fresh_insS, Bool.and_eq_true, Bool.not_eq_true'] at j4
              have hne : a' ≠ a := by intro e; rw [e] at j4; simp at j4
              have hfin := rest (m.set b' (.pm q (insS (a', s') es))) ?_ ?_
              · rw [hej] at hfin; exact hfin
              · rw [hej, hjn]; exact ⟨rfl, b', q, a', s', es, j1, j2, i3, j4.2, rfl⟩
              · rw [hei, hin]
                refine ⟨rfl, b', q, a, s, insS (a', s') es, i1, i2, List.getElem?_set_self hlt, ?_, ?_⟩
                · rw [fresh_insS, i4, Bool.and_true]; simpa using (Ne.symm hne)
                · rw [List.set_set, List.set_set, insS_comm (x := (a', s')) (y := (a, s)) hne]
            · rw [List.getElem?_set_ne (Ne.symm hb)] at j3
              have hfin := rest (m.set b' (.pm q' (insS (a', s') es'))) ?_ ?_
              · rw [hej] at hfin; exact hfin
              · rw [hej, hjn]; exact ⟨rfl, b', q', a', s', es', j1, j2, j3, j4, rfl⟩
              · rw [hei, hin]
                refine ⟨rfl, b, q, a, s, es, i1, i2, by rw [List.getElem?_set_ne hb]; exact i3, i4, ?_⟩
                rw [List.set_comm _ _ hb]
        | false =>
          rw [hej] at hstj'
          obtain ⟨rfl, hq⟩ := hstj'
          rw [← hej]
          refine rest m ?_ hst
          rw [hej]
          have hv : visB md ops eff j oj' = false := by
            cases hv : visB md ops eff j oj' with
            | false => rfl
            | true =>
              rcases Bool.or_eq_true_iff.1 (visB_waits hv hei hi) with h2 | h2
              · have := waits_ready hcl hj h2
                rw [getD_both hiun] at this
                cases this
              · have := waits_ready hcl hr h2
                rw [getD_both hjun] at this
                cases this
          rw [hv] at hq ⊢
          exact ⟨rfl, hq⟩

/-- The text's order, step by step. -/
def LexS (P : Program) (X : Ext) (md : Region.Mode) (ops : Array Oper) (eff ins : Nat → Bool) (mq : List SObj) (t2 : List Sv) (m2 : List SObj) : Nat → List Oper → List Sv → List SObj → Prop
  | _, [], t, m => t = t2 ∧ m = m2
  | k, o :: rest, t, m => ∃ sv m', OStep P X ops mq o (visB md ops eff k o) (eff k) (ins k) t m sv m' ∧ LexS P X md ops eff ins mq t2 m2 (k + 1) rest (put t o.dst sv) m'

theorem anyS_lex {eff ins : Nat → Bool} {mq : List SObj} {t2 : List Sv} {m2 : List SObj} (hch : chainS md ops eff ins = true) :
    ∀ (l : List Oper) (k : Nat) (listed : Array Bool) (t : List Sv) (m : List SObj), (∀ j, l[j]? = ops[k + j]?) → listed.size = ops.size → closedL md ops listed → (∀ j, j < k → listed.getD j true = true) →
      Region.lexFrom md ops l.length k listed = true → LexS P X md ops eff ins mq t2 m2 k l t m → AnyS P X md ops eff ins mq t2 m2 l.length listed t m
  | [], k, listed, t, m, _, _, _, _, hB, h => ⟨by simpa [Region.lexFrom] using hB, h⟩
  | o :: l, k, listed, t, m, hl, hsz, hcl, hdone, hB, h => by
    have h0 : ops[k]? = some o := by simpa using (hl 0).symm
    simp only [List.length_cons, Region.lexFrom, Bool.and_eq_true] at hB
    obtain ⟨⟨hr, hf⟩, hB'⟩ := hB
    have hr : k ∈ Region.ready md ops listed := by simpa using hr
    obtain ⟨sv, m', hst, hrest⟩ := h
    have hksz : k < listed.size := by
      have := (mem_ready.1 hr).1
      rcases Nat.lt_or_ge k listed.size with h' | h'
      · exact h'
      · simp [Array.getElem?_eq_none h'] at this
    refine anyS_first (g := ops.size) h0 l.length listed t m m' hcl (Region.free_spec h0 hf) (fun he j hj hjk hun => ?_) hr hst
      (anyS_lex hch l (k + 1) _ _ _ (fun j => by have := hl (j + 1); simpa [Nat.add_assoc, Nat.add_comm 1 j] using this) (by simpa using hsz) (hcl.set hr) (fun j hj => ?_) hB' hrest)
    · have hkj : k < j := by
        rcases Nat.lt_or_ge k j with h1 | h1
        · exact h1
        · have := hdone j (by omega); rw [this] at hun; cases hun
      have hksize : k < ops.size := (Array.getElem?_eq_some_iff.1 h0).1
      by_cases hjs : j < ops.size
      · have h1 := List.all_eq_true.1 hch k (List.mem_range.2 hksize)
        simp only [he, Bool.not_true, Bool.false_or] at h1
        have h2 := List.all_eq_true.1 h1 j (List.mem_range.2 hjs)
        simp only [hj, Bool.not_true, Bool.false_or, Bool.or_eq_true] at h2
        rcases h2 with h2 | h2
        · have := Nat.le_of_ble_eq_true h2; omega
        · simpa using h2
      · exfalso
        rw [Array.getD_eq_getD_getElem?, Array.getElem?_eq_none (by omega)] at hun
        cases hun
    · by_cases hjk : j = k
      · subst hjk; simp [hksz]
      · rw [getD_set_ne true (Ne.symm hjk)]; exact hdone j (by omega)
end
end Go.Ev
