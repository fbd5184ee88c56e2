/- Where rows and cells are laid in any order: their places are set aside ahead. -/
import Derived.Test.YtpgdpoloipifeaaEvC
namespace Go.Ev
set_option linter.unusedVariables false
set_option linter.unusedSimpArgs false
open Go
section
variable {P : Program} {X : Ext} {ops : Array Oper}

/-! ### Lists -/
theorem memN_iff {U : List Nat} {k : Nat} : memN U k = true ↔ k ∈ U := by
  induction U with
  | nil => simp [memN]
  | cons x l ih =>
    simp only [memN, Bool.or_eq_true, List.mem_cons, ih]
    constructor
    · rintro (h | h)
      · exact .inl (Nat.eq_of_beq_eq_true h).symm
      · exact .inr h
    · rintro (h | h)
      · subst h; simp
      · exact .inr h
theorem deadU_len {U : List Nat} : ∀ {m : List SObj} {k : Nat}, (deadU U k m).length = m.length
  | [], k => rfl
  | o :: m, k => by simp [deadU, deadU_len (m := m)]
theorem deadU_in {U : List Nat} : ∀ {m : List SObj} {k i : Nat}, k + i ∈ U → i < m.length → (deadU U k m)[i]? = some .dead
  | [], k, i, _, hi => by simp at hi
  | o :: m, k, 0, h, _ => by
    have := memN_iff.2 h
    simp only [Nat.add_zero] at this
    simp [deadU, this]
  | o :: m, k, i + 1, h, hi => by
    simp only [deadU, List.getElem?_cons_succ]
    exact deadU_in (by rw [Nat.add_right_comm]; exact h) (by simpa using hi)
theorem deadU_out {U : List Nat} : ∀ {m : List SObj} {k i : Nat}, k + i ∉ U → (deadU U k m)[i]? = m[i]?
  | [], k, i, _ => by simp [deadU]
  | o :: m, k, 0, h => by
    have : memN U k = false := by
      cases hm : memN U k with
      | false => rfl
      | true => exact absurd (memN_iff.1 hm) h
    simp [deadU, this]
  | o :: m, k, i + 1, h => by
    simp only [deadU, List.getElem?_cons_succ]
    exact deadU_out (by rw [Nat.add_right_comm]; exact h)
theorem restU_len {U : List Nat} : ∀ {m m' : List SObj} {k : Nat}, m'.length = m.length → (restU U k m m').length = m.length
  | [], m', k, h => by cases m' <;> simp [restU]
  | o :: m, [], k, h => by simp at h
  | o :: m, o' :: m', k, h => by simp [restU, restU_len (m := m) (m' := m') (by simpa using h)]
theorem restU_in {U : List Nat} : ∀ {m m' : List SObj} {k i : Nat}, m'.length = m.length → k + i ∈ U → (restU U k m m')[i]? = m[i]?
  | [], m', k, i, _, _ => by cases m' <;> simp [restU]
  | o :: m, [], k, i, h, _ => by simp at h
  | o :: m, o' :: m', k, 0, _, h => by
    have := memN_iff.2 h
    simp only [Nat.add_zero] at this
    simp [restU, this]
  | o :: m, o' :: m', k, i + 1, hl, h => by
    simp only [restU, List.getElem?_cons_succ]
    exact restU_in (by simpa using hl) (by rw [Nat.add_right_comm]; exact h)
theorem restU_out {U : List Nat} : ∀ {m m' : List SObj} {k i : Nat}, m'.length = m.length → k + i ∉ U → (restU U k m m')[i]? = m'[i]?
  | [], [], k, i, _, _ => by simp [restU]
  | [], _ :: _, k, i, h, _ => by simp at h
  | o :: m, [], k, i, h, _ => by simp at h
  | o :: m, o' :: m', k, 0, _, h => by
    have : memN U k = false := by
      cases hm : memN U k with
      | false => rfl
      | true => exact absurd (memN_iff.1 hm) h
    simp [restU, this]
  | o :: m, o' :: m', k, i + 1, hl, h => by
    simp only [restU, List.getElem?_cons_succ]
    exact restU_out (by simpa using hl) (by rw [Nat.add_right_comm]; exact h)
theorem deadAt_spec {U : List Nat} : ∀ {m : List SObj} {k i : Nat} {o : SObj}, deadAt U k m = true → m[i]? = some o → k + i ∈ U → o = .dead
  | [], k, i, o, _, h, _ => by simp at h
  | x :: m, k, 0, o, hd, h, hu => by
    have hm := memN_iff.2 hu
    simp only [Nat.add_zero] at hm
    simp at h; subst h
    simp only [deadAt, hm, Bool.and_eq_true] at hd
    cases x <;> simp_all
  | x :: m, k, i + 1, o, hd, h, hu => by
    simp only [deadAt, Bool.and_eq_true] at hd
    exact deadAt_spec hd.2 (by simpa using h) (by rw [Nat.add_right_comm]; exact hu)
theorem roB_spec {D : List Nat} : ∀ {m m' : List SObj} {k i b n : Nat} {f : Nat → Value}, roB D k m m' = true → m'[i]? = some (.ro b n f) → k + i ∉ D ∧ ∃ b' n' f', m[i]? = some (.ro b' n' f')
  | _, [], k, i, b, n, f, _, h => by simp at h
  | [], _ :: _, k, i, b, n, f, hd, h => by simp [roB] at hd
  | o :: m, o' :: m', k, 0, b, n, f, hd, h => by
    simp at h; subst h
    simp only [roB, Bool.and_eq_true, Bool.not_eq_true'] at hd
    refine ⟨fun hu => by have := memN_iff.2 hu; simp only [Nat.add_zero] at this; rw [this] at hd; simp at hd, ?_⟩
    cases o <;> simp_all
  | o :: m, o' :: m', k, i + 1, b, n, f, hd, h => by
    simp only [roB, Bool.and_eq_true] at hd
    have := roB_spec hd.2 (by simpa using h)
    rw [show k + 1 + i = k + (i + 1) by omega] at this
    exact ⟨this.1, by simpa using this.2⟩
theorem ltM_get {n : Nat} : ∀ {m : List SObj} {i : Nat} {o : SObj}, ltM n m = true → m[i]? = some o → ltO n o = true
  | [], i, o, _, h => by simp at h
  | x :: m, 0, o, hl, h => by simp at h; subst h; exact (Bool.and_eq_true_iff.1 hl).1
  | x :: m, i + 1, o, hl, h => ltM_get (Bool.and_eq_true_iff.1 hl).2 (by simpa using h)
theorem ltM_of {n : Nat} : ∀ {m : List SObj}, (∀ (i : Nat) (o : SObj), m[i]? = some o → ltO n o = true) → ltM n m = true
  | [], _ => rfl
  | x :: m, h => by
    simp only [ltM, Bool.and_eq_true]
    exact ⟨h 0 x rfl, ltM_of fun i o ho => h (i + 1) o (by simpa using ho)⟩

/-! ### What leads where -/
mutual
theorem den_lt {ρ ρ1 : List Un} {n : Nat} (h : ∀ b, b < n → ρ1[b]? = ρ[b]?) : ∀ {s : Sv}, ltS n s = true → den ρ1 s = den ρ s
  | .v x, _ => rfl
  | .ptr b off, hc => by
    have hb : b < n := by simpa [ltS] using hc
    simp only [den, h b hb]
  | .sl b off len cap, hc => by
    have hb : b < n := by simpa [ltS] using hc
    simp only [den, h b hb]
  | .sa b c off len, hc => by
    simp only [ltS, Bool.and_eq_true] at hc
    have hb : b < n := by simpa using hc.1
    have hc' : c < n := by simpa using hc.2
    simp only [den, h b hb, h c hc']
  | .mp b, hc => by
    have hb : b < n := by simpa [ltS] using hc
    simp only [den, h b hb]
  | .unk b i, hc => by
    have hb : b < n := by simpa [ltS] using hc
    simp only [den, h b hb]
  | .pix b off len i, hc => by
    have hb : b < n := by simpa [ltS] using hc
    simp only [den, h b hb]
  | .nan b, hc => by
    have hb : b < n := by simpa [ltS] using hc
    simp only [den, h b hb]
  | .agg cs, hc => by
    simp only [ltS] at hc
    simp only [den, denL_lt h hc]
  | .tup cs, hc => by
    simp only [ltS] at hc
    simp only [den, denL_lt h hc]
theorem denL_lt {ρ ρ1 : List Un} {n : Nat} (h : ∀ b, b < n → ρ1[b]? = ρ[b]?) : ∀ {cs : List Sv}, ltL n cs = true → denL ρ1 cs = denL ρ cs
  | [], _ => rfl
  | c :: cs, hc => by
    simp only [ltL, Bool.and_eq_true] at hc
    simp only [denL, den_lt h hc.1, denL_lt h hc.2]
end
theorem neB {b k : Nat} (h : (!Nat.beq b k) = true) : b ≠ k := fun e => by subst e; simp at h
mutual
theorem den_not {ρ ρ1 : List Un} {k : Nat} (h : ∀ b, b ≠ k → ρ1[b]? = ρ[b]?) : ∀ {s : Sv}, notS k s = true → den ρ1 s = den ρ s
  | .v x, _ => rfl
  | .ptr b off, hc => by simp only [den, h b (neB hc)]
  | .sl b off len cap, hc => by simp only [den, h b (neB hc)]
  | .sa b c off len, hc => by
    simp only [notS, Bool.and_eq_true] at hc
    simp only [den, h b (neB hc.1), h c (neB hc.2)]
  | .mp b, hc => by simp only [den, h b (neB hc)]
  | .unk b i, hc => by simp only [den, h b (neB hc)]
  | .pix b off len i, hc => by simp only [den, h b (neB hc)]
  | .nan b, hc => by simp only [den, h b (neB hc)]
  | .agg cs, hc => by
    simp only [notS] at hc
    simp only [den, denL_not h hc]
  | .tup cs, hc => by
    simp only [notS] at hc
    simp only [den, denL_not h hc]
theorem denL_not {ρ ρ1 : List Un} {k : Nat} (h : ∀ b, b ≠ k → ρ1[b]? = ρ[b]?) : ∀ {cs : List Sv}, notL k cs = true → denL ρ1 cs = denL ρ cs
  | [], _ => rfl
  | c :: cs, hc => by
    simp only [notL, Bool.and_eq_true] at hc
    simp only [denL, den_not h hc.1, denL_not h hc.2]
end
theorem ltB {b n k : Nat} (h : Nat.blt b n = true) (hk : n ≤ k) : (!Nat.beq b k) = true := by
  have : b < n := by simpa using h
  cases hb : Nat.beq b k with
  | false => rfl
  | true => have := Nat.eq_of_beq_eq_true hb; omega
mutual
theorem lt_not {n k : Nat} (hk : n ≤ k) : ∀ {s : Sv}, ltS n s = true → notS k s = true
  | .v x, _ => rfl
  | .ptr b off, hc => ltB hc hk
  | .sl b off len cap, hc => ltB hc hk
  | .sa b c off len, hc => by
    simp only [ltS, Bool.and_eq_true] at hc
    simp only [notS, Bool.and_eq_true]
    exact ⟨ltB hc.1 hk, ltB hc.2 hk⟩
  | .mp b, hc => ltB hc hk
  | .unk b i, hc => ltB hc hk
  | .pix b off len i, hc => ltB hc hk
  | .nan b, hc => ltB hc hk
  | .agg cs, hc => ltL_not hk (cs := cs) hc
  | .tup cs, hc => ltL_not hk (cs := cs) hc
theorem ltL_not {n k : Nat} (hk : n ≤ k) : ∀ {cs : List Sv}, ltL n cs = true → notL k cs = true
  | [], _ => rfl
  | c :: cs, hc => by
    simp only [ltL, Bool.and_eq_true] at hc
    simp only [notL, Bool.and_eq_true]
    exact ⟨lt_not hk hc.1, ltL_not hk hc.2⟩
end
theorem notL_setN {k : Nat} {s : Sv} (hs : notS k s = true) : ∀ {t : List Sv} {d : Nat}, notL k t = true → notL k (setN t d s) = true
  | [], d, h => h
  | c :: t, 0, h => by simp only [setN, notL, Bool.and_eq_true] at h ⊢; exact ⟨hs, h.2⟩
  | c :: t, d + 1, h => by simp only [setN, notL, Bool.and_eq_true] at h ⊢; exact ⟨h.1, notL_setN hs h.2⟩
theorem notL_put {k : Nat} {s : Sv} {t : List Sv} {d : Option Tmp} (h : notL k t = true) (hs : notS k s = true) : notL k (put t d s) = true := by
  cases d
  · exact h
  · exact notL_setN hs h
theorem notU_spec {U : List Nat} {s : Sv} {k : Nat} (h : notU U s = true) (hk : k ∈ U) : notS k s = true := by
  induction U with
  | nil => simp at hk
  | cons x l ih =>
    simp only [notU, Bool.and_eq_true] at h
    rcases List.mem_cons.1 hk with e | hk
    · subst e; exact h.1
    · exact ih h.2 hk

/-! ### The places -/
theorem crank_succ (i : Nat) : crank ops (i + 1) = crank ops i + (if creB ops i = true then 1 else 0) := by
  unfold crank
  rw [List.range_succ, List.countP_append]
  simp [List.countP_cons]
theorem crank_mono {i j : Nat} (h : i ≤ j) : crank ops i ≤ crank ops j := by
  induction j with
  | zero => have : i = 0 := by omega
            subst this; exact Nat.le_refl _
  | succ j ih =>
    rcases Nat.eq_or_lt_of_le h with e | h
    · subst e; exact Nat.le_refl _
    · have := ih (by omega)
      rw [crank_succ]; omega
theorem crank_lt {i j : Nat} (hc : creB ops i = true) (h : i < j) : crank ops i < crank ops j := by
  have h1 := crank_mono (ops := ops) (show i + 1 ≤ j by omega)
  rw [crank_succ, if_pos hc] at h1
  omega
theorem crank_inj {i j : Nat} (hi : creB ops i = true) (hj : creB ops j = true) (h : crank ops i = crank ops j) : i = j := by
  rcases Nat.lt_trichotomy i j with h1 | h1 | h1
  · have := crank_lt hi h1; omega
  · exact h1
  · have := crank_lt hj h1; omega
theorem crank_surj : ∀ {n q : Nat}, q < crank ops n → ∃ e, e < n ∧ creB ops e = true ∧ crank ops e = q
  | 0, q, h => by simp [crank] at h
  | n + 1, q, h => by
    rw [crank_succ] at h
    by_cases hc : creB ops n = true
    · rw [if_pos hc] at h
      by_cases e : q = crank ops n
      · exact ⟨n, by omega, hc, e.symm⟩
      · obtain ⟨e', h1, h2⟩ := crank_surj (n := n) (q := q) (by omega)
        exact ⟨e', by omega, h2⟩
    · rw [if_neg hc] at h
      obtain ⟨e', h1, h2⟩ := crank_surj (n := n) (q := q) (by omega)
      exact ⟨e', by omega, h2⟩
theorem creB_size {i : Nat} (h : creB ops i = true) : i < ops.size := by
  unfold creB at h
  split at h
  · rename_i o ho; exact (Array.getElem?_eq_some_iff.1 ho).1
  · cases h
theorem unwL_mem {n0 i k : Nat} : k ∈ unwL ops n0 i ↔ ∃ e, creB ops e = true ∧ waitsS .any ops ops.size i e = false ∧ k = n0 + crank ops e := by
  unfold unwL
  rw [List.mem_filterMap]
  constructor
  · rintro ⟨e, _, h⟩
    split at h
    · rename_i hb
      simp only [Bool.and_eq_true, Bool.not_eq_true'] at hb
      simp only [Option.some.injEq] at h
      exact ⟨e, hb.1, hb.2, h.symm⟩
    · cases h
  · rintro ⟨e, h1, h2, rfl⟩
    exact ⟨e, List.mem_range.2 (creB_size h1), by simp [h1, h2]⟩
theorem celL_mem {n0 k : Nat} : k ∈ celL ops n0 ↔ ∃ e, creB ops e = true ∧ rowB ops e = false ∧ k = n0 + crank ops e := by
  unfold celL
  rw [List.mem_filterMap]
  constructor
  · rintro ⟨e, _, h⟩
    split at h
    · rename_i hb
      simp only [Bool.and_eq_true, Bool.not_eq_true'] at hb
      simp only [Option.some.injEq] at h
      exact ⟨e, hb.1, hb.2, h.symm⟩
    · cases h
  · rintro ⟨e, h1, h2, rfl⟩
    exact ⟨e, List.mem_range.2 (creB_size h1), by simp [h1, h2]⟩
theorem unwL_out {n0 i e : Nat} (he : creB ops e = true) (h : n0 + crank ops e ∉ unwL ops n0 i) : waitsS .any ops ops.size i e = true := by
  cases hw : waitsS .any ops ops.size i e with
  | true => rfl
  | false => exact absurd (unwL_mem.2 ⟨e, he, hw, rfl⟩) h

/-! ### What an effect makes beside objects that it doesn't see -/
theorem ObjAt.reown2 {ρ : List Un} {own own' : Nat → Option Nat} {k g : Nat} {w : World} {o : SObj} (h : ObjAt X ρ own k g w o) (hk : ∀ x, own' x = some k ↔ own x = some k) (hn : ∀ b n f, o = .ro b n f → own' g = none) : ObjAt X ρ own' k g w o := by
  cases o with
  | cells cs e => obtain ⟨h1, h2⟩ := h; exact ⟨(hk _).2 h1, h2⟩
  | ro base n f => obtain ⟨h1, h2, h3⟩ := h; exact ⟨hn _ _ _ rfl, h2, h3⟩
  | ext tag M =>
    obtain ⟨h1, h2⟩ := h
    have e : (fun b => own' b = some k) = fun b => own b = some k := funext fun b => propext (hk b)
    exact ⟨(hk _).2 h1, by rw [e]; exact h2⟩
  | pm q es => obtain ⟨h1, h2⟩ := h; exact ⟨(hk _).2 h1, h2⟩
  | it b n => obtain ⟨h1, h2⟩ := h; exact ⟨(hk _).2 h1, h2⟩
  | bm q qe M => obtain ⟨h1, h2⟩ := h; exact ⟨(hk _).2 h1, h2⟩
  | buf c cs e => obtain ⟨h1, h2⟩ := h; exact ⟨(hk _).2 h1, h2⟩
  | bufz z c cs e => obtain ⟨h1, h2⟩ := h; exact ⟨(hk _).2 h1, h2⟩
  | arr q e n F => obtain ⟨h1, h2⟩ := h; exact ⟨(hk _).2 h1, h2⟩
  | m1 q a es clk p nw => obtain ⟨h1, h2⟩ := h; exact ⟨(hk _).2 h1, h2⟩
  | rowd => trivial
  | dead => trivial
/-- Who owns what lies in a row of places, or outside. -/
def ownIn (U : List Nat) (own : Nat → Option Nat) (b : Nat) : Option Nat := match own b with
  | some k => if k ∈ U then some k else none
  | none => none
def ownOut (U : List Nat) (own : Nat → Option Nat) (b : Nat) : Option Nat := match own b with
  | some k => if k ∈ U then none else some k
  | none => none
theorem ownIn_some {U : List Nat} {own : Nat → Option Nat} {b k : Nat} : ownIn U own b = some k ↔ own b = some k ∧ k ∈ U := by
  unfold ownIn
  cases h : own b with
  | none => simp
  | some j =>
    by_cases hj : j ∈ U
    · simp only [hj, if_true, Option.some.injEq]
      constructor
      · intro e; subst e; exact ⟨rfl, hj⟩
      · exact fun e => e.1
    · simp only [hj, if_false, Option.some.injEq]
      constructor
      · intro e; cases e
      · rintro ⟨rfl, h2⟩; exact absurd h2 hj
theorem ownOut_some {U : List Nat} {own : Nat → Option Nat} {b k : Nat} : ownOut U own b = some k ↔ own b = some k ∧ k ∉ U := by
  unfold ownOut
  cases h : own b with
  | none => simp
  | some j =>
    by_cases hj : j ∈ U
    · simp only [hj, if_true, Option.some.injEq]
      constructor
      · intro e; cases e
      · rintro ⟨rfl, h2⟩; exact absurd hj h2
    · simp only [hj, if_false, Option.some.injEq]
      constructor
      · intro e; subst e; exact ⟨rfl, hj⟩
      · exact fun e => e.1
theorem ownOut_none {U : List Nat} {own : Nat → Option Nat} {b : Nat} (h : own b = none) : ownOut U own b = none := by unfold ownOut; rw [h]
theorem ownOut_in {U : List Nat} {own : Nat → Option Nat} {b k : Nat} (h : own b = some k) (hk : k ∈ U) : ownOut U own b = none := by unfold ownOut; rw [h]; simp [hk]
def ownBoth (U : List Nat) (own own1 : Nat → Option Nat) (b : Nat) : Option Nat := match ownIn U own b with
  | some k => some k
  | none => ownOut U own1 b
theorem ownBoth_in {U : List Nat} {own own1 : Nat → Option Nat} {b k : Nat} (hk : k ∈ U) : ownBoth U own own1 b = some k ↔ own b = some k := by
  unfold ownBoth
  cases h : ownIn U own b with
  | none =>
    constructor
    · intro e; exact absurd hk (ownOut_some.1 e).2
    · intro e; rw [ownIn_some.2 ⟨e, hk⟩] at h; cases h
  | some j =>
    have := ownIn_some.1 h
    simp only [this.1]
theorem ownBoth_out {U : List Nat} {own own1 : Nat → Option Nat} {b k : Nat} (hk : k ∉ U) (hd : ∀ j, own b = some j → j ∈ U → own1 b = none) : ownBoth U own own1 b = some k ↔ own1 b = some k := by
  unfold ownBoth
  cases h : ownIn U own b with
  | none =>
    rw [ownOut_some]
    exact ⟨fun e => e.1, fun e => ⟨e, hk⟩⟩
  | some j =>
    have := ownIn_some.1 h
    rw [hd j this.1 this.2]
    constructor
    · intro e; simp at e; subst e; exact absurd this.2 hk
    · intro e; cases e
theorem ownBoth_none {U : List Nat} {own own1 : Nat → Option Nat} {b : Nat} (h : own b = none) : ownBoth U own own1 b = ownOut U own1 b := by
  unfold ownBoth
  have : ownIn U own b = none := by unfold ownIn; rw [h]
  rw [this]
theorem EStepW.lift {U D : List Nat} {o : Oper} {t : List Sv} {m mh : List SObj} {sv : Sv} (h : EStepW P X ops o t (deadU U 0 m) sv mh) (hl : mh.length = m.length) (hro : roB D 0 (deadU U 0 m) mh = true) : EStepW P X ops o t m sv (restU U 0 m mh) := by
  intro ρ own a w hr hlk
  have hr0 : Rep X ρ (ownOut U own) (deadU U 0 m) w := by
    refine ⟨by rw [deadU_len]; exact hr.len, fun b k hb => by rw [deadU_len]; exact hr.lt b k (ownOut_some.1 hb).1, fun k o' hk ha => ?_⟩
    by_cases hu : k ∈ U
    · have hkl : k < m.length := by have := (List.getElem?_eq_some_iff.1 hk).1; rwa [deadU_len] at this
      rw [deadU_in (by simpa using hu) hkl] at hk
      simp at hk; subst hk; cases ha
    · rw [deadU_out (by simpa using hu)] at hk
      obtain ⟨g, hg, hob⟩ := hr.obj k o' hk ha
      exact ⟨g, hg, hob.reown (fun x => by rw [ownOut_some]; exact ⟨fun e => e.1, fun e => ⟨e, hu⟩⟩) (fun x _ hx => ownOut_none hx)⟩
  obtain ⟨h1, h2⟩ := h ρ (ownOut U own) a w hr0 hlk
  refine ⟨h1, fun K Q hK => h2 K Q fun ρ' own1' w' x ht hx hr' => ?_⟩
  have p3 : ∀ b k, own b = some k → k ∈ U → own1' b = none := fun b k hb hk => by
    rcases ht.news b (ownOut_in hb hk) with h | h
    · exact h
    · have := (hr.lt b k hb).1; omega
  have kept : ∀ b k, own b = some k → k ∈ U → w'.heap[b]? = w.heap[b]? := fun b k hb hk => ht.kept.block b (hr.lt b k hb).1 (ownOut_in hb hk)
  have oldn : ∀ b, b < w.heap.size → own b = none → ownBoth U own own1' b = none := fun b hlt hb => by
    rw [ownBoth_none hb]
    rcases ht.news b (ownOut_none hb) with h | h
    · exact ownOut_none h
    · omega
  refine hK ρ' (ownBoth U own own1') w' x ⟨ht.ext, fun b hb => ?_, ⟨ht.kept.os, ht.kept.tape, ht.kept.output, ht.kept.size, fun b hlt hb => ht.kept.block b hlt (ownOut_none hb)⟩⟩ hx ⟨?_, fun b k hb => ?_, fun k o' hk ha => ?_⟩
  · rcases Nat.lt_or_ge b w.heap.size with h | h
    · exact .inl (oldn b h hb)
    · exact .inr h
  · rw [restU_len hl, hr'.len, hl]
  · rw [restU_len hl]
    by_cases hu : k ∈ U
    · have := hr.lt b k ((ownBoth_in hu).1 hb)
      exact ⟨Nat.lt_of_lt_of_le this.1 ht.kept.size, this.2⟩
    · have := hr'.lt b k ((ownBoth_out hu (p3 b)).1 hb)
      exact ⟨this.1, by omega⟩
  · by_cases hu : k ∈ U
    · rw [restU_in hl (by simpa using hu)] at hk
      obtain ⟨g, hg, hob⟩ := hr.obj k o' hk ha
      obtain ⟨lx, hx'⟩ := ht.ext
      refine ⟨g, by rw [hx', List.getElem?_append_left (List.getElem?_eq_some_iff.1 hg).1]; exact hg, ?_⟩
      refine ((hob.stable (fun b hb => kept b k hb hu) (fun b hlt hb => ht.kept.block b hlt (ownOut_none hb)) ht.kept.size).mono ht.ext).reown2 (fun x => ownBoth_in hu) (fun b n f e => ?_)
      subst e
      exact oldn g hob.2.1 hob.1
    · rw [restU_out hl (by simpa using hu)] at hk
      obtain ⟨g, hg, hob⟩ := hr'.obj k o' hk ha
      refine ⟨g, hg, hob.reown2 (fun x => ownBoth_out hu (p3 x)) (fun b n f e => ?_)⟩
      subst e
      obtain ⟨_, b', n', f', hm⟩ := roB_spec hro hk
      rw [deadU_out (by simpa using hu)] at hm
      obtain ⟨g0, hg0, hob0⟩ := hr.obj k _ hm rfl
      obtain ⟨lx, hx'⟩ := ht.ext
      have e1 : g0 = g := by
        rw [hx', List.getElem?_append_left (List.getElem?_eq_some_iff.1 hg0).1, hg0] at hg
        simpa using hg
      subst e1
      exact oldn g0 hob0.2.1 hob0.1

/-! ### What is laid -/
def mkVal (g : Nat) : Option Nat → Value
  | none => .pointer (some ⟨g, 0, none⟩)
  | some n => .slice (some ⟨g, 0, none⟩) n n
/-- An operation that lays cells. -/
def CreR (P : Program) (ops : Array Oper) (o : Oper) (t cs : List Sv) (T : TypeId) (L : Option Nat) : Prop :=
  ∀ ρ a w, looks ops o ρ t a → Region.wanted o (yielded ops a.tmps) = true ∧ ∃ l, denL ρ cs = some l ∧ (execOp a.eval o).run P w = .ok (.value (mkVal w.heap.size L)) (w.alloc (.cells l.toArray T))
theorem CreR.put {o : Oper} {t cs : List Sv} {T : TypeId} {L : Option Nat} {d : Option Tmp} {x : Sv} (h : ∀ i, d = some i → i ∉ o.looksAt ops) : CreR P ops o (put t d x) cs T L ↔ CreR P ops o t cs T L := by
  unfold CreR; simp only [looks_put h]
theorem ObjAt.place {ρ ρ1 : List Un} {own : Nat → Option Nat} {n k g : Nat} {w : World} {o : SObj} (hn : ∀ b, b < n → ρ1[b]? = ρ[b]?) (ho : ltO n o = true) (h : ObjAt X ρ own k g w o) : ObjAt X ρ1 own k g w o := by
  cases o with
  | cells cs e => obtain ⟨h1, l, h2, h3⟩ := h; exact ⟨h1, l, by rw [denL_lt hn ho]; exact h2, h3⟩
  | ro base n f => exact h
  | ext tag M => exact h
  | bm q qe M => exact h
  | arr q e n F => exact h
  | buf c cs e =>
    obtain ⟨h1, l, l2, fr, h2, h3, h4, h5⟩ := h
    simp only [ltO, Bool.and_eq_true] at ho
    have hc : c < n := by simpa using ho.1
    exact ⟨h1, l, l2, fr, by rw [denL_lt hn ho.2]; exact h2, by unfold capAt at h3 ⊢; rw [hn c hc]; exact h3, h4, h5⟩
  | bufz z c cs e =>
    obtain ⟨h1, l, l2, q, h2, h3, h4, h5⟩ := h
    simp only [ltO, Bool.and_eq_true] at ho
    have hc : c < n := by simpa using ho.1
    exact ⟨h1, l, l2, q, by rw [denL_lt hn ho.2]; exact h2, by unfold capAt at h3 ⊢; rw [hn c hc]; exact h3, h4, h5⟩
  | rowd => trivial
  | dead => trivial
  | pm q es => cases ho
  | it b n => cases ho
  | m1 q a es clk p nw => cases ho
theorem Rep.create {ρ : List Un} {own : Nat → Option Nat} {m : List SObj} {w : World} (hr : Rep X ρ own m w) {n k : Nat} (hnk : n ≤ k) (hk : k < m.length) (hm : ltM n m = true) {cs : List Sv} {T : TypeId} {l : List Value} (hc : ltL n cs = true) (hl : denL ρ cs = some l) :
    ∃ own1, Rep X (ρ.set k (.blk w.heap.size)) own1 (m.set k (.cells cs T)) (w.alloc (.cells l.toArray T)) ∧ ∀ b, own b = none → own1 b = none ∨ w.heap.size ≤ b := by
  have hn : ∀ b, b < n → (ρ.set k (.blk w.heap.size))[b]? = ρ[b]? := fun b hb => by rw [List.getElem?_set_ne (by omega)]
  have hold : ∀ b, b < w.heap.size → (w.alloc (.cells l.toArray T)).heap[b]? = w.heap[b]? := fun b hb => heap_alloc_old w _ hb
  have hsz : w.heap.size ≤ (w.alloc (.cells l.toArray T)).heap.size := by simp
  refine ⟨fun b => if b = w.heap.size then some k else own b, ⟨by simp [hr.len], fun b j hb => ?_, fun j o ho ha => ?_⟩, fun b hb => ?_⟩
  · by_cases e : b = w.heap.size
    · simp only [e, if_true, Option.some.injEq] at hb
      subst e hb
      simp; exact hk
    · simp only [e, if_false] at hb
      have := hr.lt b j hb
      simp only [List.length_set]
      exact ⟨Nat.lt_of_lt_of_le this.1 hsz, this.2⟩
  · by_cases hjk : k = j
    · subst hjk
      rw [List.getElem?_set_self hk] at ho
      simp at ho; subst ho
      refine ⟨w.heap.size, List.getElem?_set_self (by rw [hr.len]; exact hk), by simp, l, by rw [denL_lt hn hc]; exact hl, heap_alloc_new w _⟩
    · rw [List.getElem?_set_ne hjk] at ho
      obtain ⟨g, hg, hob⟩ := hr.obj j o ho ha
      refine ⟨g, by rw [List.getElem?_set_ne hjk]; exact hg, ?_⟩
      have h1 := (hob.stable (fun b hb => hold b (hr.lt b j hb).1) (fun b hlt _ => hold b hlt) hsz).place hn (ltM_get hm ho)
      have hro : ∀ b n f, o = .ro b n f → g < w.heap.size ∧ own g = none := fun b n f e => by subst e; exact ⟨hob.2.1, hob.1⟩
      refine h1.reown2 (fun x => ?_) (fun b n f e => ?_)
      · by_cases e : x = w.heap.size
        · simp only [e, if_true, Option.some.injEq]
          constructor
          · intro h; exact absurd h hjk
          · intro h; have := (hr.lt _ j h).1; omega
        · simp only [e, if_false]
      · obtain ⟨h2, h3⟩ := hro b n f e
        have : g ≠ w.heap.size := by omega
        simp only [this, if_false, h3]
  · by_cases e : b = w.heap.size
    · exact .inr (by omega)
    · simp only [e, if_false]; exact .inl hb

theorem maskD_atC {D : List Nat} : ∀ {m : List SObj} {k i : Nat} {o : SObj}, m[i]? = some o → memN D (k + i) = false → (maskD D k m)[i]? = some o
  | [], k, i, o, h, _ => by simp at h
  | x :: m, k, 0, o, h, hd => by simp at h; subst h; simp only [Nat.add_zero] at hd; simp [maskD, hd]
  | x :: m, k, i + 1, o, h, hd => by
    simp only [maskD, List.getElem?_cons_succ]
    exact maskD_atC (by simpa using h) (by rw [Nat.add_right_comm]; exact hd)
/-! ### A step, by its kind -/
def RStep (P : Program) (X : Ext) (ops : Array Oper) (n0 : Nat) (eff : Nat → Bool) (D : List Nat) (V : Nat → List SObj) (ob : Nat → SObj) (i : Nat) (o : Oper) (t : List Sv) (m : List SObj) (sv : Sv) (m' : List SObj) : Prop :=
  match creB ops i with
  | true => ∃ cs T L, CreR P ops o t cs T L ∧ ltL n0 cs = true ∧ sv = mkO (n0 + crank ops i) L ∧ ob i = .cells cs T ∧ m' = m.set (n0 + crank ops i) (.cells cs T)
  | false => notU (unwL ops n0 i) sv = true ∧ match eff i with
    | false => m' = m ∧ QStep P X ops (V i) o t sv
    | true => ∃ mh, EStepW P X ops o t (deadU (unwL ops n0 i) 0 m) sv mh ∧ mh.length = m.length ∧ deadAt (unwL ops n0 i) 0 mh = true ∧ roB D 0 (deadU (unwL ops n0 i) 0 m) mh = true ∧ ltM n0 mh = true ∧
        Compat (maskD D 0 (deadU (unwL ops n0 i) 0 m)) mh ∧ m' = restU (unwL ops n0 i) 0 m mh
theorem RStep.put {n0 : Nat} {eff : Nat → Bool} {D : List Nat} {V : Nat → List SObj} {ob : Nat → SObj} {i : Nat} {o : Oper} {t : List Sv} {m m' : List SObj} {sv : Sv} {d : Option Tmp} {x : Sv} (h : ∀ j, d = some j → j ∉ o.looksAt ops) :
    RStep P X ops n0 eff D V ob i o (put t d x) m sv m' ↔ RStep P X ops n0 eff D V ob i o t m sv m' := by
  unfold RStep
  cases creB ops i
  · cases eff i
    · simp only [QStep.put h]
    · simp only [EStepW.put h]
  · simp only [CreR.put h]
def AnyR (P : Program) (X : Ext) (ops : Array Oper) (n0 : Nat) (eff : Nat → Bool) (D : List Nat) (V : Nat → List SObj) (ob : Nat → SObj) (t2 : List Sv) (m2 : List SObj) : Nat → Array Bool → List Sv → List SObj → Prop
  | 0, listed, t, m => Region.ready .any ops listed = [] ∧ t = t2 ∧ m = m2
  | f + 1, listed, t, m => Region.ready .any ops listed ≠ [] ∧ ∀ i ∈ Region.ready .any ops listed, ∃ o sv m', ops[i]? = some o ∧ RStep P X ops n0 eff D V ob i o t m sv m' ∧ AnyR P X ops n0 eff D V ob t2 m2 f (listed.setIfInBounds i true) (put t o.dst sv) m'
/-- What the places hold. -/
structure InvR (ops : Array Oper) (n0 : Nat) (mq0 : List SObj) (ob : Nat → SObj) (listed : Array Bool) (t : List Sv) (m : List SObj) : Prop where
  len : m.length = n0 + crank ops ops.size
  old : ∀ (k : Nat) (o : SObj), mq0[k]? = some o → alive o = true → m[k]? = some o
  row : ∀ e, creB ops e = true → rowB ops e = true → listed.getD e true = true → m[n0 + crank ops e]? = some (ob e) ∧ alive (ob e) = true
  unx : ∀ e, creB ops e = true → listed.getD e true = false → notL (n0 + crank ops e) t = true
  lt : ltM n0 m = true
/-- What an operation looks at. -/
def VisOk (ops : Array Oper) (n0 : Nat) (mq0 : List SObj) (ob : Nat → SObj) (i : Nat) (V : List SObj) : Prop := ∀ (k : Nat) (o : SObj), V[k]? = some o → alive o = true →
  mq0[k]? = some o ∨ ∃ e, creB ops e = true ∧ rowB ops e = true ∧ waitsS .any ops ops.size i e = true ∧ k = n0 + crank ops e ∧ ob e = o
theorem visOk_compat {n0 i : Nat} {mq0 V m : List SObj} {ob : Nat → SObj} {listed : Array Bool} {t : List Sv} (hv : VisOk ops n0 mq0 ob i V) (hI : InvR ops n0 mq0 ob listed t m) (hsz : listed.size = ops.size) (hcl : closedL .any ops listed) (hi : i ∈ Region.ready .any ops listed) : Compat V m := fun k o hk ha => by
  rcases hv k o hk ha with h | ⟨e, h1, h2, h3, rfl, rfl⟩
  · exact hI.old k o h ha
  · have h4 := waits_ready hcl hi h3
    rw [getD_tf (by rw [hsz]; exact creB_size h1)] at h4
    exact (hI.row e h1 h2 h4).1
theorem place_ne {n0 e e' : Nat} (h : creB ops e = true) (h' : creB ops e' = true) (hne : e ≠ e') : n0 + crank ops e ≠ n0 + crank ops e' := fun he => hne (crank_inj h h' (by omega))
theorem place_lt {n0 e : Nat} {m : List SObj} (h : creB ops e = true) (hl : m.length = n0 + crank ops ops.size) : n0 + crank ops e < m.length := by
  have := crank_lt h (creB_size h); omega
theorem mkO_not {k j : Nat} {L : Option Nat} (h : j ≠ k) : notS k (mkO j L) = true := by
  have : (!Nat.beq j k) = true := by
    cases hb : Nat.beq j k with
    | false => rfl
    | true => exact absurd (Nat.eq_of_beq_eq_true hb) h
  cases L <;> exact this
theorem InvR.step {n0 i : Nat} {eff : Nat → Bool} {D : List Nat} {V : Nat → List SObj} {ob : Nat → SObj} {mq0 : List SObj} {listed : Array Bool} {o : Oper} {t : List Sv} {m m' : List SObj} {sv : Sv} (hI : InvR ops n0 mq0 ob listed t m) (hq : ∀ k o, mq0[k]? = some o → alive o = true → k < n0 ∧ k ∉ D)
    (hD : ∀ e, creB ops e = true → rowB ops e = true → n0 + crank ops e ∉ D) (hsz : listed.size = ops.size) (hcl : closedL .any ops listed) (hi : i ∈ Region.ready .any ops listed) (hst : RStep P X ops n0 eff D V ob i o t m sv m') : InvR ops n0 mq0 ob (listed.setIfInBounds i true) (put t o.dst sv) m' := by
  have hun : ∀ e, creB ops e = true → (listed.setIfInBounds i true).getD e true = false → e ≠ i ∧ listed.getD e true = false := fun e he h => by
    by_cases hei : i = e
    · subst hei
      have : i < listed.size := by rw [hsz]; exact creB_size he
      simp [this] at h
    · rw [getD_set_ne true hei] at h; exact ⟨fun e => hei e.symm, h⟩
  have hunw : ∀ e, creB ops e = true → listed.getD e true = false → n0 + crank ops e ∈ unwL ops n0 i := fun e he h => by
    refine unwL_mem.2 ⟨e, he, ?_, rfl⟩
    cases hw : waitsS .any ops ops.size i e with
    | false => rfl
    | true =>
      have := waits_ready hcl hi hw
      rw [getD_both h] at this; cases this
  unfold RStep at hst
  cases hci : creB ops i with
  | true =>
    rw [hci] at hst
    obtain ⟨cs, T, L, _, hlt, rfl, hob, rfl⟩ := hst
    refine ⟨by rw [List.length_set]; exact hI.len, fun k o' hk ha => ?_, fun e he hr hl => ?_, fun e he hl => ?_, ltM_of fun k o' hk => ?_⟩
    · have := (hq k o' hk ha).1
      rw [List.getElem?_set_ne (by omega)]; exact hI.old k o' hk ha
    · by_cases hei : i = e
      · subst hei
        rw [List.getElem?_set_self (place_lt he hI.len), hob]
        exact ⟨rfl, rfl⟩
      · rw [getD_set_ne true hei] at hl
        rw [List.getElem?_set_ne (place_ne hci he hei)]
        exact hI.row e he hr hl
    · obtain ⟨h1, h2⟩ := hun e he hl
      exact notL_put (hI.unx e he h2) (mkO_not (place_ne hci he (Ne.symm h1)))
    · by_cases hk2 : n0 + crank ops i = k
      · subst hk2
        rw [List.getElem?_set_self (place_lt hci hI.len)] at hk
        simp at hk; subst hk; exact hlt
      · rw [List.getElem?_set_ne hk2] at hk; exact ltM_get hI.lt hk
  | false =>
    rw [hci] at hst
    obtain ⟨hns, hst⟩ := hst
    have hunx : ∀ e, creB ops e = true → (listed.setIfInBounds i true).getD e true = false → notL (n0 + crank ops e) (Go.Ev.put t o.dst sv) = true := fun e he hl => by
      obtain ⟨h1, h2⟩ := hun e he hl
      exact notL_put (hI.unx e he h2) (notU_spec hns (hunw e he h2))
    have hne : ∀ e, creB ops e = true → i ≠ e := fun e he h => by subst h; rw [hci] at he; cases he
    cases hei : eff i with
    | false =>
      rw [hei] at hst
      obtain ⟨rfl, _⟩ := hst
      exact ⟨hI.len, hI.old, fun e he hr hl => hI.row e he hr (by rwa [getD_set_ne true (hne e he)] at hl), hunx, hI.lt⟩
    | true =>
      rw [hei] at hst
      obtain ⟨mh, _, hlen, hdead, hro, hlm, hcm, rfl⟩ := hst
      have keep : ∀ k o', m[k]? = some o' → alive o' = true → k ∉ D → (restU (unwL ops n0 i) 0 m mh)[k]? = some o' := fun k o' hk ha hkD => by
        by_cases hu : k ∈ unwL ops n0 i
        · rw [restU_in hlen (by simpa using hu)]; exact hk
        · rw [restU_out hlen (by simpa using hu)]
          refine hcm k o' ?_ ha
          have hm : memN D (0 + k) = false := by
            cases h : memN D (0 + k) with
            | false => rfl
            | true => exact absurd (memN_iff.1 (by simpa using h)) hkD
          rw [maskD_atC (by rw [deadU_out (by simpa using hu)]; exact hk) hm]
      refine ⟨by rw [restU_len hlen]; exact hI.len, fun k o' hk ha => keep k o' (hI.old k o' hk ha) ha (hq k o' hk ha).2, fun e he hr hl => ?_, hunx, ltM_of fun k o' hk => ?_⟩
      · obtain ⟨h1, h2⟩ := hI.row e he hr (by rwa [getD_set_ne true (hne e he)] at hl)
        exact ⟨keep _ _ h1 h2 (hD e he hr), h2⟩
      · by_cases hu : k ∈ unwL ops n0 i
        · rw [restU_in hlen (by simpa using hu)] at hk; exact ltM_get hI.lt hk
        · rw [restU_out hlen (by simpa using hu)] at hk; exact ltM_get hlm hk

theorem anyR_sound {n0 : Nat} {eff : Nat → Bool} {D : List Nat} {V : Nat → List SObj} {ob : Nat → SObj} {mq0 : List SObj} {t2 : List Sv} {m2 : List SObj} {Q : Exit → Act → World → Prop} {ds : List Deferred} {ρ0 : List Un} {own0 : Nat → Option Nat} {w0 : World} (hρ0 : ρ0.length = n0)
    (hq : ∀ k o, mq0[k]? = some o → alive o = true → k < n0 ∧ k ∉ D) (hD : ∀ e, creB ops e = true → rowB ops e = true → n0 + crank ops e ∉ D) (hV : ∀ i, VisOk ops n0 mq0 ob i (V i)) (hK : ∀ ρ' own' w' l', To ρ0 own0 w0 ρ' own' w' → denL ρ' t2 = some l' → Rep X ρ' own' m2 w' → Q .normal ⟨l'.toArray, ds⟩ w') :
    ∀ (f : Nat) (listed : Array Bool) (t : List Sv) (m : List SObj), AnyR P X ops n0 eff D V ob t2 m2 f listed t m → InvR ops n0 mq0 ob listed t m → listed.size = ops.size → closedL .any ops listed → ∀ ρ own l w, To ρ0 own0 w0 ρ own w → denL ρ t = some l → Rep X ρ own m w → wpAny P .any ops Q f listed ⟨l.toArray, ds⟩ w := by
  intro f
  induction f with
  | zero =>
    intro listed t m H hI hsz hcl ρ own l w hT hl hr
    obtain ⟨h1, rfl, rfl⟩ := H
    exact ⟨h1, hK ρ own w l hT hl hr⟩
  | succ f ih =>
    intro listed t m H hI hsz hcl ρ own l w hT hl hr
    refine ⟨fun h0 => absurd h0 H.1, fun i hi => ?_⟩
    obtain ⟨o, sv, m', ho, hst, hA⟩ := H.2 i hi
    have hI' := hI.step hq hD hsz hcl hi hst
    have hlk := looks_of_den (ops := ops) (o := o) (ds := ds) hl
    have hsz' : (listed.setIfInBounds i true).size = ops.size := by simpa using hsz
    unfold wpOp
    simp only [ho]
    have go : ∀ ρ' own' w' x, To ρ own w ρ' own' w' → den ρ' sv = some x → Rep X ρ' own' m' w' → wpAny P .any ops Q f (listed.setIfInBounds i true) (Act.put ⟨l.toArray, ds⟩ o.dst x) w' := fun ρ' own' w' x ht hx hr' => by
      obtain ⟨l', h5, h6⟩ := put_den (ds := ds) (denL_mono ht.ext hl) o.dst hx
      rw [h6]
      exact ih _ _ _ hA hI' hsz' (hcl.set hi) ρ' own' l' w' (hT.trans ht) h5 hr'
    unfold RStep at hst
    cases hci : creB ops i with
    | true =>
      rw [hci] at hst
      obtain ⟨cs, T, L, hcr, hlt, rfl, hob, rfl⟩ := hst
      obtain ⟨h1, lc, hlc, hrun⟩ := hcr ρ _ w hlk
      rw [if_pos h1]
      refine .inl ?_
      unfold Oper.wp
      rw [hrun]
      obtain ⟨own1, hr1, hnew⟩ := hr.create (n := n0) (k := n0 + crank ops i) (T := T) (by omega) (place_lt hci hI.len) hI.lt hlt hlc
      obtain ⟨⟨lx, hx⟩, hn0, hk0⟩ := hT
      have hun : listed.getD i true = false := (mem_ready.1 hi).1
      have hden : denL (ρ.set (n0 + crank ops i) (.blk w.heap.size)) t = some l := by
        rw [denL_not (fun b hb => List.getElem?_set_ne (Ne.symm hb)) (hI.unx i hci hun)]; exact hl
      have hold : ∀ b, b < w.heap.size → (w.alloc (.cells lc.toArray T)).heap[b]? = w.heap[b]? := fun b hb => heap_alloc_old w _ hb
      have hsz2 : w.heap.size ≤ (w.alloc (.cells lc.toArray T)).heap.size := by simp
      have hT1 : To ρ0 own0 w0 (ρ.set (n0 + crank ops i) (.blk w.heap.size)) own1 (w.alloc (.cells lc.toArray T)) := by
        refine ⟨⟨lx.set (crank ops i) (.blk w.heap.size), ?_⟩, fun b hb => ?_, ⟨hk0.os, hk0.tape, hk0.output, Nat.le_trans hk0.size hsz2, fun b hlt hb => ?_⟩⟩
        · rw [hx, List.set_append_right _ _ (by omega)]
          congr 2; omega
        · rcases hn0 b hb with h | h
          · rcases hnew b h with h' | h'
            · exact .inl h'
            · exact .inr (Nat.le_trans hk0.size h')
          · exact .inr h
        · rw [hold b (Nat.lt_of_lt_of_le hlt hk0.size)]; exact hk0.block b hlt hb
      have hkl : n0 + crank ops i < ρ.length := by rw [hr.len]; exact place_lt hci hI.len
      obtain ⟨l', h5, h6⟩ := put_den (ds := ds) (x := mkO (n0 + crank ops i) L) (v := mkVal w.heap.size L) hden o.dst (by cases L <;> simp [mkO, mkVal, den, hkl])
      show wpAny P .any ops Q f (listed.setIfInBounds i true) (Act.put ⟨l.toArray, ds⟩ o.dst (mkVal w.heap.size L)) _
      rw [h6]
      exact ih _ _ _ hA hI' hsz' (hcl.set hi) _ own1 l' _ hT1 h5 hr1
    | false =>
      rw [hci] at hst
      obtain ⟨_, hst⟩ := hst
      cases he : eff i with
      | false =>
        rw [he] at hst
        obtain ⟨rfl, hqs⟩ := hst
        have hcm := visOk_compat (hV i) hI hsz hcl hi
        rcases hqs with hqs | ⟨rfl, hqs⟩ | hqs
        · obtain ⟨h1, x, hx, h2⟩ := hqs ρ own m' _ w hcm hr hlk
          rw [if_pos h1]
          refine .inl (Oper.wp_of_quiet (C := fun w' => To ρ own w ρ own w' ∧ Rep X ρ own m' w') (K := fun a' => a' = Act.put ⟨l.toArray, ds⟩ o.dst x) ⟨To.refl _ _ _, hr⟩ (fun a' w' hw' he => ?_) ⟨x, h2, rfl⟩)
          subst he
          exact go ρ own w' x hw'.1 hx hw'.2
        · rw [if_neg (by rw [hqs ρ _ hlk]; simp)]
          exact go ρ own w undef (To.refl _ _ _) rfl hr
        · obtain ⟨h1, h2⟩ := hqs _ hcm ρ own _ w hr hlk
          rw [if_pos h1]
          exact .inl (h2 _ _ go)
      | true =>
        rw [he] at hst
        obtain ⟨mh, hes, hlen, hdead, hro, hlm, hcm, rfl⟩ := hst
        obtain ⟨h1, h2⟩ := (hes.lift hlen hro) ρ own _ w hr hlk
        rw [if_pos h1]
        exact .inl (h2 _ _ go)

/-! ### The text's order serves for all -/
theorem deadU_set {U : List Nat} {m : List SObj} {k : Nat} {o : SObj} (hk : k ∈ U) : deadU U 0 (m.set k o) = deadU U 0 m := by
  apply List.ext_getElem?
  intro i
  by_cases hi : i ∈ U
  · by_cases hl : i < m.length
    · rw [deadU_in (by simpa using hi) (by simpa using hl), deadU_in (by simpa using hi) hl]
    · rw [List.getElem?_eq_none (by rw [deadU_len]; simp; omega), List.getElem?_eq_none (by rw [deadU_len]; omega)]
  · rw [deadU_out (by simpa using hi), deadU_out (by simpa using hi), List.getElem?_set_ne (fun e => hi (by rw [← e]; exact hk))]
theorem restU_set {U : List Nat} {m mh : List SObj} {k : Nat} {o : SObj} (hl : mh.length = m.length) (hk : k ∈ U) : restU U 0 (m.set k o) mh = (restU U 0 m mh).set k o := by
  have hl' : mh.length = (m.set k o).length := by rw [List.length_set]; exact hl
  apply List.ext_getElem?
  intro i
  by_cases hki : k = i
  · subst hki
    rw [restU_in hl' (by simpa using hk)]
    by_cases hlt : k < m.length
    · rw [List.getElem?_set_self hlt, List.getElem?_set_self (by rw [restU_len hl]; exact hlt)]
    · rw [List.getElem?_eq_none (by simp; omega), List.getElem?_eq_none (by rw [List.length_set, restU_len hl]; omega)]
  · rw [List.getElem?_set_ne hki]
    by_cases hi : i ∈ U
    · rw [restU_in hl' (by simpa using hi), restU_in hl (by simpa using hi), List.getElem?_set_ne hki]
    · rw [restU_out hl' (by simpa using hi), restU_out hl (by simpa using hi)]
theorem anyR_first {n0 : Nat} {eff : Nat → Bool} {D : List Nat} {V : Nat → List SObj} {ob : Nat → SObj} {t2 : List Sv} {m2 : List SObj} {i : Nat} {oi : Oper} {v : Sv} (hi : ops[i]? = some oi) :
    ∀ (f : Nat) (listed : Array Bool) (t : List Sv) (m m1 : List SObj), closedL .any ops listed →
      (∀ j oj, ops[j]? = some oj → j ≠ i → listed.getD j true = false → (∀ e ∈ oj.after, Region.binds .any e = true → e.on ≠ i) → oi.apart ops oj = true) →
      (eff i = true → creB ops i = false → ∀ j, eff j = true → creB ops j = false → j ≠ i → listed.getD j true = false → waitsS .any ops ops.size j i = true) →
      i ∈ Region.ready .any ops listed → RStep P X ops n0 eff D V ob i oi t m v m1 →
      AnyR P X ops n0 eff D V ob t2 m2 f (listed.setIfInBounds i true) (put t oi.dst v) m1 → AnyR P X ops n0 eff D V ob t2 m2 (f + 1) listed t m := by
  intro f
  induction f with
  | zero =>
    intro listed t m m1 hcl hfree hch hr hst H
    refine ⟨fun h => (by rw [h] at hr; cases hr), fun j hj => ?_⟩
    by_cases hji : j = i
    · subst hji; exact ⟨oi, v, m1, hi, hst, H⟩
    · have := ready_mono hj hji
      rw [H.1] at this
      cases this
  | succ f ih =>
    intro listed t m m1 hcl hfree hch hr hst H
    refine ⟨fun h => (by rw [h] at hr; cases hr), fun j hj => ?_⟩
    by_cases hji : j = i
    · subst hji; exact ⟨oi, v, m1, hi, hst, H⟩
    · obtain ⟨oj, y, m3, hoj, hstj, hA⟩ := H.2 j (ready_mono hj hji)
      obtain ⟨hjun, oj', hoj', hall⟩ := mem_ready.1 hj
      have : oj' = oj := Option.some.inj (hoj'.symm.trans hoj)
      subst this
      have hiun := (mem_ready.1 hr).1
      have hnot : ∀ e ∈ oj'.after, Region.binds .any e = true → e.on ≠ i := fun e he hb heq => by
        have h1 := hall e he hb
        rw [heq, getD_both hiun] at h1
        cases h1
      have nwji : waitsS .any ops ops.size j i = false := by
        cases hw : waitsS .any ops ops.size j i with
        | false => rfl
        | true =>
          have h2 := waits_ready hcl hj hw
          rw [getD_both hiun] at h2
          cases h2
      have nwij : waitsS .any ops ops.size i j = false := by
        cases hw : waitsS .any ops ops.size i j with
        | false => rfl
        | true =>
          have h2 := waits_ready hcl hr hw
          rw [getD_both hjun] at h2
          cases h2
      obtain ⟨a1, a2, a3⟩ := Oper.apart_spec (hfree j oj' hoj hji hjun hnot)
      have hstj' : RStep P X ops n0 eff D V ob j oj' t m1 y m3 := (RStep.put a1).1 hstj
      have rest : ∀ mj, RStep P X ops n0 eff D V ob j oj' t m y mj → RStep P X ops n0 eff D V ob i oi t mj v m3 → ∃ o sv m', ops[j]? = some o ∧ RStep P X ops n0 eff D V ob j o t m sv m' ∧ AnyR P X ops n0 eff D V ob t2 m2 (f + 1) (listed.setIfInBounds j true) (put t o.dst sv) m' := fun mj h1 h2 => by
        refine ⟨oj', y, mj, hoj, h1, ih _ _ _ m3 (hcl.set hj) (fun k ok hk hki hun hno => hfree k ok hk hki ?_ hno) (fun he hc k hk hck hki hun => hch he hc k hk hck hki ?_) (ready_mono hr (Ne.symm hji)) ((RStep.put a3).2 h2) ?_⟩
        · by_cases hjk : j = k
          · subst hjk; exact hjun
          · rw [getD_set_ne true hjk] at hun; exact hun
        · by_cases hjk : j = k
          · subst hjk; exact hjun
          · rw [getD_set_ne true hjk] at hun; exact hun
        · rw [Array.setIfInBounds_comm _ _ hji, ← put_comm a2]
          exact hA
      -- a creator's step, at any memory
      have cre : ∀ {q : Nat} {oq : Oper} {a b a' : List SObj} {z : Sv}, creB ops q = true → RStep P X ops n0 eff D V ob q oq t a z b → ∃ cs T, b = a.set (n0 + crank ops q) (.cells cs T) ∧ ∀ a', RStep P X ops n0 eff D V ob q oq t a' z (a'.set (n0 + crank ops q) (.cells cs T)) := fun {q oq a b a' z} hc h => by
        unfold RStep at h
        rw [hc] at h
        obtain ⟨cs, T, L, h1, h2, h3, h4, rfl⟩ := h
        refine ⟨cs, T, rfl, fun a' => ?_⟩
        unfold RStep
        rw [hc]
        exact ⟨cs, T, L, h1, h2, h3, h4, rfl⟩
      cases hci : creB ops i with
      | true =>
        obtain ⟨cs, T, rfl, hci2⟩ := cre (a' := m) hci hst
        cases hcj : creB ops j with
        | true =>
          obtain ⟨cs', T', rfl, hcj2⟩ := cre (a' := m) hcj hstj'
          refine rest _ (hcj2 m) ?_
          rw [List.set_comm _ _ (place_ne hci hcj (Ne.symm hji))]
          exact hci2 _
        | false =>
          have hst2 := hstj'
          unfold RStep at hst2
          rw [hcj] at hst2
          obtain ⟨hns, hst2⟩ := hst2
          have hpu : n0 + crank ops i ∈ unwL ops n0 j := unwL_mem.2 ⟨i, hci, nwji, rfl⟩
          cases hej : eff j with
          | false =>
            rw [hej] at hst2
            obtain ⟨rfl, hq⟩ := hst2
            refine rest m ?_ (hci2 m)
            unfold RStep
            rw [hcj, hej]
            exact ⟨hns, rfl, hq⟩
          | true =>
            rw [hej] at hst2
            obtain ⟨mh, h1, h2, h3, h4, h5, h6, rfl⟩ := hst2
            rw [deadU_set hpu] at h1 h4 h6
            have hl : mh.length = m.length := by rw [h2, List.length_set]
            refine rest (restU (unwL ops n0 j) 0 m mh) ?_ (by rw [restU_set hl hpu]; exact hci2 _)
            unfold RStep
            rw [hcj, hej]
            exact ⟨hns, mh, h1, hl, h3, h4, h5, h6, rfl⟩
      | false =>
        have hsti := hst
        unfold RStep at hsti
        rw [hci] at hsti
        obtain ⟨hns, hsti⟩ := hsti
        cases hei : eff i with
        | false =>
          rw [hei] at hsti
          obtain ⟨rfl, hq⟩ := hsti
          refine rest m3 hstj' ?_
          unfold RStep
          rw [hci, hei]
          exact ⟨hns, rfl, hq⟩
        | true =>
          rw [hei] at hsti
          obtain ⟨mh, h1, h2, h3, h4, h5, h6, rfl⟩ := hsti
          cases hcj : creB ops j with
          | true =>
            obtain ⟨cs', T', rfl, hcj2⟩ := cre (a' := m) hcj hstj'
            have hpu : n0 + crank ops j ∈ unwL ops n0 i := unwL_mem.2 ⟨j, hcj, nwij, rfl⟩
            refine rest _ (hcj2 m) ?_
            unfold RStep
            rw [hci, hei]
            exact ⟨hns, mh, by rw [deadU_set hpu]; exact h1, by rw [List.length_set]; exact h2, h3, by rw [deadU_set hpu]; exact h4, h5, by rw [deadU_set hpu]; exact h6, (restU_set h2 hpu).symm⟩
          | false =>
            cases hej : eff j with
            | true =>
              have := hch hei hci j hej hcj hji hjun
              rw [nwji] at this
              cases this
            | false =>
              have hst2 := hstj'
              unfold RStep at hst2
              rw [hcj, hej] at hst2
              obtain ⟨hns2, rfl, hq⟩ := hst2
              refine rest m ?_ hst
              unfold RStep
              rw [hcj, hej]
              exact ⟨hns2, rfl, hq⟩
/-- The text's order, step by step. -/
def LexR (P : Program) (X : Ext) (ops : Array Oper) (n0 : Nat) (eff : Nat → Bool) (D : List Nat) (V : Nat → List SObj) (ob : Nat → SObj) (t2 : List Sv) (m2 : List SObj) : Nat → List Oper → List Sv → List SObj → Prop
  | _, [], t, m => t = t2 ∧ m = m2
  | k, o :: rest, t, m => ∃ sv m', RStep P X ops n0 eff D V ob k o t m sv m' ∧ LexR P X ops n0 eff D V ob t2 m2 (k + 1) rest (put t o.dst sv) m'
theorem LexR.congr {n0 : Nat} {eff : Nat → Bool} {D : List Nat} {V V' : Nat → List SObj} {ob : Nat → SObj} {t2 : List Sv} {m2 : List SObj} : ∀ {l : List Oper} {k : Nat} {t : List Sv} {m : List SObj}, (∀ i, k ≤ i → V' i = V i) → LexR P X ops n0 eff D V ob t2 m2 k l t m → LexR P X ops n0 eff D V' ob t2 m2 k l t m
  | [], k, t, m, _, h => h
  | o :: l, k, t, m, hv, ⟨sv, m', h1, h2⟩ => by
    refine ⟨sv, m', ?_, h2.congr fun i hi => hv i (by omega)⟩
    unfold RStep at h1 ⊢
    rw [hv k (Nat.le_refl _)]
    exact h1
theorem anyR_lex {n0 : Nat} {eff : Nat → Bool} {D : List Nat} {V : Nat → List SObj} {ob : Nat → SObj} {t2 : List Sv} {m2 : List SObj} (hch : chainS .any ops (fun i => eff i && !creB ops i) (fun _ => false) = true) :
    ∀ (l : List Oper) (k : Nat) (listed : Array Bool) (t : List Sv) (m : List SObj), (∀ j, l[j]? = ops[k + j]?) → listed.size = ops.size → closedL .any ops listed → (∀ j, j < k → listed.getD j true = true) →
      Region.lexFrom .any ops l.length k listed = true → LexR P X ops n0 eff D V ob t2 m2 k l t m → AnyR P X ops n0 eff D V ob t2 m2 l.length listed t m
  | [], k, listed, t, m, _, _, _, _, hB, h => ⟨by simpa [Region.lexFrom] using hB, h⟩
  | o :: l, k, listed, t, m, hl, hsz, hcl, hdone, hB, h => by
    have h0 : ops[k]? = some o := by simpa using (hl 0).symm
    simp only [List.length_cons, Region.lexFrom, Bool.and_eq_true] at hB
    obtain ⟨⟨hr, hf⟩, hB'⟩ := hB
    have hr : k ∈ Region.ready .any ops listed := by simpa using hr
    obtain ⟨sv, m', hst, hrest⟩ := h
    have hksz : k < listed.size := by
      have := (mem_ready.1 hr).1
      rcases Nat.lt_or_ge k listed.size with h' | h'
      · exact h'
      · simp [Array.getElem?_eq_none h'] at this
    refine anyR_first h0 l.length listed t m m' hcl (Region.free_spec h0 hf) (fun he hc j hj hcj hjk hun => ?_) hr hst
      (anyR_lex hch l (k + 1) _ _ _ (fun j => by have := hl (j + 1); simpa [Nat.add_assoc, Nat.add_comm 1 j] using this) (by simpa using hsz) (hcl.set hr) (fun j hj => ?_) hB' hrest)
    · have hkj : k < j := by
        rcases Nat.lt_or_ge k j with h1 | h1
        · exact h1
        · have := hdone j (by omega); rw [this] at hun; cases hun
      have hksize : k < ops.size := (Array.getElem?_eq_some_iff.1 h0).1
      by_cases hjs : j < ops.size
      · have h1 := List.all_eq_true.1 hch k (List.mem_range.2 hksize)
        simp only [he, hc, Bool.not_false, Bool.and_self, Bool.not_true, Bool.false_or] at h1
        have h2 := List.all_eq_true.1 h1 j (List.mem_range.2 hjs)
        simp only [hj, hcj, Bool.not_false, Bool.and_self, Bool.not_true, Bool.false_or, Bool.or_eq_true] at h2
        rcases h2 with h2 | h2
        · have := Nat.le_of_ble_eq_true h2; omega
        · simpa using h2
      · exfalso
        rw [Array.getD_eq_getD_getElem?, Array.getElem?_eq_none (by omega)] at hun
        cases hun
    · by_cases hjk : j = k
      · subst hjk; simp [hksz]
      · rw [getD_set_ne true (Ne.symm hjk)]; exact hdone j (by omega)
end
end Go.Ev
