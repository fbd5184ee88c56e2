/- Frames: what a call makes of a small memory it makes of a great one that holds it. -/
import Derived.Test.YtpgdpoloipifeaaEvX
namespace Go.Ev
open Go
set_option linter.unusedVariables false
set_option linter.unusedSimpArgs false

mutual
def renS (r : Nat → Nat) : Sv → Sv
  | .v x => .v x
  | .ptr b off => .ptr (r b) off
  | .sl b off len cap => .sl (r b) off len cap
  | .sa b c off len => .sa (r b) (r c) off len
  | .mp b => .mp (r b)
  | .unk b i => .unk (r b) i
  | .pix b off len i => .pix (r b) off len i
  | .nan b => .nan (r b)
  | .agg cs => .agg (renL r cs)
  | .tup cs => .tup (renL r cs)
def renL (r : Nat → Nat) : List Sv → List Sv
  | [] => []
  | c :: cs => renS r c :: renL r cs
end
def renE (r : Nat → Nat) : List (Int × Sv) → List (Int × Sv)
  | [] => []
  | (a, s) :: es => (a, renS r s) :: renE r es
def renO (r : Nat → Nat) : SObj → SObj
  | .cells cs e => .cells (renL r cs) e
  | .ro base n f => .ro base n f
  | .ext tag M => .ext tag M
  | .pm q es => .pm q (renE r es)
  | .it b n => .it (r b) n
  | .bm q qe M => .bm q qe M
  | .buf c cs e => .buf (r c) (renL r cs) e
  | .bufz z c cs e => .bufz z (r c) (renL r cs) e
  | .arr q e n F => .arr q e n F
  | .m1 q a es clk p nw => .m1 q a es clk (p.map (renS r)) nw
  | .rowd => .rowd
  | .dead => .dead
theorem alive_ren {r : Nat → Nat} {o : SObj} : alive (renO r o) = alive o := by cases o <;> rfl

mutual
/-- Does a value lead to these objects alone? -/
def clS (n : Nat) : Sv → Bool
  | .v _ => true
  | .ptr b _ => Nat.blt b n
  | .sl b _ _ _ => Nat.blt b n
  | .sa b c _ _ => Nat.blt b n && Nat.blt c n
  | .mp b => Nat.blt b n
  | .unk b _ => Nat.blt b n
  | .pix b _ _ _ => Nat.blt b n
  | .nan b => Nat.blt b n
  | .agg cs => clL n cs
  | .tup cs => clL n cs
def clL (n : Nat) : List Sv → Bool
  | [] => true
  | c :: cs => clS n c && clL n cs
end
def clO (n : Nat) : SObj → Bool
  | .cells cs _ => clL n cs
  | .ro _ _ _ => true
  | .ext _ _ => true
  | .bm _ _ _ => true
  | .buf c cs _ => Nat.blt c n && clL n cs
  | .bufz _ c cs _ => Nat.blt c n && clL n cs
  | .arr _ _ _ _ => true
  | .rowd => true
  | .dead => true
  | _ => false
def clM (n : Nat) : List SObj → Bool
  | [] => true
  | o :: m => clO n o && clM n m

mutual
theorem den_ren {ρ0 ρ : List Un} {r : Nat → Nat} (h : ∀ (b : Nat) (u : Un), ρ0[b]? = some u → ρ[r b]? = some u) : ∀ {s : Sv} {x : Value}, den ρ0 s = some x → den ρ (renS r s) = some x
  | .v x, y, hx => hx
  | .ptr b off, y, hx => by
    simp only [den, renS] at hx ⊢
    cases hb : ρ0[b]? with
    | none => simp [hb] at hx
    | some u => rw [h b u hb]; simpa [hb] using hx
  | .sl b off len cap, y, hx => by
    simp only [den, renS] at hx ⊢
    cases hb : ρ0[b]? with
    | none => simp [hb] at hx
    | some u => rw [h b u hb]; simpa [hb] using hx
  | .sa b c off len, y, hx => by
    simp only [den, renS] at hx ⊢
    cases hb : ρ0[b]? with
    | none => simp [hb] at hx
    | some u =>
      rw [h b u hb]
      cases hc : ρ0[c]? with
      | none => cases u <;> simp [hb, hc] at hx
      | some u2 => rw [h c u2 hc]; simpa [hb, hc] using hx
  | .mp b, y, hx => by
    simp only [den, renS] at hx ⊢
    cases hb : ρ0[b]? with
    | none => simp [hb] at hx
    | some u => rw [h b u hb]; simpa [hb] using hx
  | .unk b i, y, hx => by
    simp only [den, renS] at hx ⊢
    cases hb : ρ0[b]? with
    | none => simp [hb] at hx
    | some u => rw [h b u hb]; simpa [hb] using hx
  | .pix b off len i, y, hx => by
    simp only [den, renS] at hx ⊢
    cases hb : ρ0[b]? with
    | none => simp [hb] at hx
    | some u => rw [h b u hb]; simpa [hb] using hx
  | .nan b, y, hx => by
    simp only [den, renS] at hx ⊢
    cases hb : ρ0[b]? with
    | none => simp [hb] at hx
    | some u => rw [h b u hb]; simpa [hb] using hx
  | .agg cs, y, hx => by
    simp only [den, renS] at hx ⊢
    cases hc : denL ρ0 cs with
    | none => simp [hc] at hx
    | some l => rw [denL_ren h hc]; simpa [hc] using hx
  | .tup cs, y, hx => by
    simp only [den, renS] at hx ⊢
    cases hc : denL ρ0 cs with
    | none => simp [hc] at hx
    | some l => rw [denL_ren h hc]; simpa [hc] using hx
theorem denL_ren {ρ0 ρ : List Un} {r : Nat → Nat} (h : ∀ (b : Nat) (u : Un), ρ0[b]? = some u → ρ[r b]? = some u) : ∀ {cs : List Sv} {l : List Value}, denL ρ0 cs = some l → denL ρ (renL r cs) = some l
  | [], l, hl => hl
  | c :: cs, l, hl => by
    obtain ⟨x, xs, hx, hxs, rfl⟩ := denL_cons hl
    exact denL_mk (den_ren h hx) (denL_ren h hxs)
end
mutual
theorem den_unren {ρ0 ρ : List Un} {r : Nat → Nat} {n : Nat} (h : ∀ b, b < n → ρ[r b]? = ρ0[b]?) : ∀ {s : Sv} {x : Value}, clS n s = true → den ρ (renS r s) = some x → den ρ0 s = some x
  | .v x, y, _, hx => hx
  | .ptr b off, y, hc, hx => by
    simp only [clS] at hc
    have hb : b < n := by simpa using hc
    simp only [den, renS, h b hb] at hx ⊢; exact hx
  | .sl b off len cap, y, hc, hx => by
    simp only [clS] at hc
    have hb : b < n := by simpa using hc
    simp only [den, renS, h b hb] at hx ⊢; exact hx
  | .sa b c off len, y, hc, hx => by
    simp only [clS, Bool.and_eq_true] at hc
    have hb : b < n := by simpa using hc.1
    have hc' : c < n := by simpa using hc.2
    simp only [den, renS, h b hb, h c hc'] at hx ⊢; exact hx
  | .mp b, y, hc, hx => by
    simp only [clS] at hc
    have hb : b < n := by simpa using hc
    simp only [den, renS, h b hb] at hx ⊢; exact hx
  | .unk b i, y, hc, hx => by
    simp only [clS] at hc
    have hb : b < n := by simpa using hc
    simp only [den, renS, h b hb] at hx ⊢; exact hx
  | .pix b off len i, y, hc, hx => by
    simp only [clS] at hc
    have hb : b < n := by simpa using hc
    simp only [den, renS, h b hb] at hx ⊢; exact hx
  | .nan b, y, hc, hx => by
    simp only [clS] at hc
    have hb : b < n := by simpa using hc
    simp only [den, renS, h b hb] at hx ⊢; exact hx
  | .agg cs, y, hc, hx => by
    simp only [clS] at hc
    simp only [den, renS] at hx ⊢
    cases hl : denL ρ (renL r cs) with
    | none => simp [hl] at hx
    | some l => rw [denL_unren h hc hl]; simpa [hl] using hx
  | .tup cs, y, hc, hx => by
    simp only [clS] at hc
    simp only [den, renS] at hx ⊢
    cases hl : denL ρ (renL r cs) with
    | none => simp [hl] at hx
    | some l => rw [denL_unren h hc hl]; simpa [hl] using hx
theorem denL_unren {ρ0 ρ : List Un} {r : Nat → Nat} {n : Nat} (h : ∀ b, b < n → ρ[r b]? = ρ0[b]?) : ∀ {cs : List Sv} {l : List Value}, clL n cs = true → denL ρ (renL r cs) = some l → denL ρ0 cs = some l
  | [], l, _, hl => hl
  | c :: cs, l, hc, hl => by
    simp only [clL, Bool.and_eq_true] at hc
    obtain ⟨x, xs, hx, hxs, rfl⟩ := denL_cons (c := renS r c) (cs := renL r cs) hl
    exact denL_mk (den_unren h hc.1 hx) (denL_unren h hc.2 hxs)
end

theorem entsAt_ren {ρ0 ρ : List Un} {r : Nat → Nat} (h : ∀ (b : Nat) (u : Un), ρ0[b]? = some u → ρ[r b]? = some u) {q : IntKind} : ∀ {i : Nat} {es : List (Int × Sv)} {l : List MapEntry}, entsAt ρ0 q i es l → entsAt ρ q i (renE r es) l
  | i, [], l, he => he
  | i, (a, s) :: es, l, ⟨v, l', h1, h2, h3⟩ => ⟨v, l', h1, den_ren h h2, entsAt_ren h h3⟩
theorem renE_map (r : Nat → Nat) : ∀ es, renE r es = es.map fun p => (p.1, renS r p.2)
  | [] => rfl
  | (a, s) :: es => by simp [renE, renE_map r es]
theorem renE_perm {r : Nat → Nat} {es es' : List (Int × Sv)} (h : es'.Perm es) : (renE r es').Perm (renE r es) := by
  rw [renE_map, renE_map]; exact h.map _

/-- Where an object of the small memory lies in the great one. -/
def look (σ : List Nat) (N : Nat) (i : Nat) : Nat := match σ[i]? with
  | some k => k
  | none => N + (i - σ.length)
def setAll : List Nat → List SObj → List SObj → List SObj
  | k :: σ, o :: os, m => setAll σ os (m.set k o)
  | _, _, m => m
def renM (r : Nat → Nat) : List SObj → List SObj
  | [] => []
  | o :: m => renO r o :: renM r m
def dropM : Nat → List SObj → List SObj
  | 0, m => m
  | _ + 1, [] => []
  | n + 1, _ :: m => dropM n m
/-- The great memory with what became of the small one. -/
def embed (m : List SObj) (σ : List Nat) (m0 : List SObj) : List SObj :=
  setAll σ (renM (look σ m.length) m0) m ++ dropM σ.length (renM (look σ m.length) m0)

theorem renM_get (r : Nat → Nat) : ∀ (m : List SObj) (i : Nat), (renM r m)[i]? = (m[i]?).map (renO r)
  | [], i => rfl
  | o :: m, 0 => rfl
  | o :: m, i + 1 => by simpa [renM] using renM_get r m i
theorem renM_length (r : Nat → Nat) : ∀ (m : List SObj), (renM r m).length = m.length
  | [] => rfl
  | o :: m => by simp [renM, renM_length r m]
theorem dropM_eq : ∀ (n : Nat) (m : List SObj), dropM n m = m.drop n
  | 0, m => rfl
  | n + 1, [] => rfl
  | n + 1, o :: m => by simpa [dropM] using dropM_eq n m
theorem setAll_length : ∀ (σ : List Nat) (os m : List SObj), (setAll σ os m).length = m.length
  | [], os, m => by cases os <;> rfl
  | k :: σ, [], m => rfl
  | k :: σ, o :: os, m => by simp [setAll, setAll_length σ os]
theorem setAll_other : ∀ (σ : List Nat) (os m : List SObj) (k : Nat), k ∉ σ → (setAll σ os m)[k]? = m[k]?
  | [], os, m, k, _ => by cases os <;> rfl
  | j :: σ, [], m, k, _ => rfl
  | j :: σ, o :: os, m, k, h => by
    simp only [setAll]
    rw [setAll_other σ os _ k (fun h' => h (by simp [h'])), List.getElem?_set_ne (fun e => h (by simp [e]))]
theorem setAll_at : ∀ (σ : List Nat) (os m : List SObj) (i k : Nat), σ.Nodup → σ[i]? = some k → k < m.length → i < os.length → (setAll σ os m)[k]? = os[i]?
  | [], os, m, i, k, _, h, _, _ => by simp at h
  | j :: σ, [], m, i, k, _, _, _, h => by simp at h
  | j :: σ, o :: os, m, 0, k, hd, h, hk, _ => by
    simp at h; subst h
    simp only [setAll]
    rw [setAll_other σ os _ j (List.nodup_cons.1 hd).1, List.getElem?_set_self hk]; rfl
  | j :: σ, o :: os, m, i + 1, k, hd, h, hk, hi => by
    simp only [setAll]
    have := setAll_at σ os (m.set j o) i k (List.nodup_cons.1 hd).2 (by simpa using h) (by simpa using hk) (by simpa using hi)
    simpa using this

def idx : List Nat → Nat → Option Nat
  | [], _ => none
  | j :: σ, k => if j = k then some 0 else (idx σ k).map (· + 1)
theorem idx_some : ∀ {σ : List Nat} {k i : Nat}, idx σ k = some i → σ[i]? = some k
  | [], k, i, h => by cases h
  | j :: σ, k, i, h => by
    simp only [idx] at h
    split at h
    · rename_i e; simp at h; subst h e; rfl
    · cases hi : idx σ k with
      | none => rw [hi] at h; cases h
      | some i' => rw [hi] at h; simp at h; subst h; simpa using idx_some hi
theorem idx_of : ∀ {σ : List Nat} {k i : Nat}, σ.Nodup → σ[i]? = some k → idx σ k = some i
  | [], k, i, _, h => by simp at h
  | j :: σ, k, 0, _, h => by simp at h; subst h; simp [idx]
  | j :: σ, k, i + 1, hd, h => by
    have h' : σ[i]? = some k := by simpa using h
    have hne : j ≠ k := fun e => (List.nodup_cons.1 hd).1 (e ▸ List.mem_of_getElem? h')
    simp [idx, hne, idx_of (List.nodup_cons.1 hd).2 h']
theorem clM_get {n : Nat} : ∀ {m : List SObj} {i : Nat} {o : SObj}, clM n m = true → m[i]? = some o → clO n o = true
  | [], i, o, _, h => by simp at h
  | o' :: m, 0, o, hc, h => by simp only [clM, Bool.and_eq_true] at hc; simp at h; subst h; exact hc.1
  | o' :: m, i + 1, o, hc, h => by simp only [clM, Bool.and_eq_true] at hc; exact clM_get hc.2 (by simpa using h)

/-- An object of the great memory, looked at as one of the small. -/
theorem ObjAt.unren {X : Ext} {ρ ρ0 : List Un} {own own0 : Nat → Option Nat} {r : Nat → Nat} {n i g : Nat} {w : World} {o : SObj} (hre : ∀ b, b < n → ρ[r b]? = ρ0[b]?) (hown : ∀ x, own0 x = some i ↔ own x = some (r i)) (hnone : ∀ x, own x = none → own0 x = none)
    (hc : clO n o = true) (h : ObjAt X ρ own (r i) g w (renO r o)) : ObjAt X ρ0 own0 i g w o := by
  cases o with
  | cells cs e => obtain ⟨h1, l, h2, h3⟩ := h; exact ⟨(hown g).2 h1, l, denL_unren hre hc h2, h3⟩
  | ro base n f => obtain ⟨h1, h2⟩ := h; exact ⟨hnone g h1, h2⟩
  | ext tag M =>
    obtain ⟨h1, h2⟩ := h
    have e : (fun b => own0 b = some i) = fun b => own b = some (r i) := funext fun b => propext (hown b)
    exact ⟨(hown g).2 h1, by rw [e]; exact h2⟩
  | pm q es => cases hc
  | it b n => cases hc
  | bm q qe M => obtain ⟨h1, h2⟩ := h; exact ⟨(hown g).2 h1, h2⟩
  | buf c cs e =>
    simp only [clO, Bool.and_eq_true] at hc
    obtain ⟨h1, l, l2, fr, h2, h3, h4, h5⟩ := h
    have hcn : c < n := by simpa using hc.1
    exact ⟨(hown g).2 h1, l, l2, fr, denL_unren hre hc.2 h2, by unfold capAt at h3 ⊢; rw [← hre c hcn]; exact h3, h4, h5⟩
  | bufz z c cs e =>
    simp only [clO, Bool.and_eq_true] at hc
    obtain ⟨h1, l, l2, k2, h2, h3, h4, h5⟩ := h
    have hcn : c < n := by simpa using hc.1
    exact ⟨(hown g).2 h1, l, l2, k2, denL_unren hre hc.2 h2, by unfold capAt at h3 ⊢; rw [← hre c hcn]; exact h3, h4, h5⟩
  | arr q e n F => obtain ⟨h1, h2⟩ := h; exact ⟨(hown g).2 h1, h2⟩
  | m1 q a es clk p nw => cases hc
  | rowd => trivial
  | dead => trivial

/-- And the other way round. -/
theorem ObjAt.ren {X : Ext} {ρ ρ0 : List Un} {own own0 : Nat → Option Nat} {r : Nat → Nat} {i g : Nat} {w : World} {o : SObj} (hre : ∀ (b : Nat) (u : Un), ρ0[b]? = some u → ρ[r b]? = some u) (hown : ∀ x, own x = some (r i) ↔ own0 x = some i) (hnone : ∀ x, x < w.heap.size → own0 x = none → own x = none ∨ True)
    (hro : ∀ base n f, o = .ro base n f → own g = none) (h : ObjAt X ρ0 own0 i g w o) : ObjAt X ρ own (r i) g w (renO r o) := by
  cases o with
  | cells cs e => obtain ⟨h1, l, h2, h3⟩ := h; exact ⟨(hown g).2 h1, l, denL_ren hre h2, h3⟩
  | ro base n f => obtain ⟨h1, h2⟩ := h; exact ⟨hro _ _ _ rfl, h2⟩
  | ext tag M =>
    obtain ⟨h1, h2⟩ := h
    have e : (fun b => own b = some (r i)) = fun b => own0 b = some i := funext fun b => propext (hown b)
    exact ⟨(hown g).2 h1, by rw [e]; exact h2⟩
  | pm q es => obtain ⟨h1, es', l, hp, h2, h3⟩ := h; exact ⟨(hown g).2 h1, renE r es', l, renE_perm hp, entsAt_ren hre h2, by rw [h3]; congr 2; rw [renE_map]; simp⟩
  | it b n => obtain ⟨h1, gm, h2, h3⟩ := h; exact ⟨(hown g).2 h1, gm, hre _ _ h2, h3⟩
  | bm q qe M => obtain ⟨h1, h2⟩ := h; exact ⟨(hown g).2 h1, h2⟩
  | buf c cs e => obtain ⟨h1, l, l2, fr, h2, h3, h4, h5⟩ := h; exact ⟨(hown g).2 h1, l, l2, fr, denL_ren hre h2, hre _ _ h3, h4, h5⟩
  | bufz z c cs e => obtain ⟨h1, l, l2, n, h2, h3, h4, h5⟩ := h; exact ⟨(hown g).2 h1, l, l2, n, denL_ren hre h2, hre _ _ h3, h4, h5⟩
  | arr q e n F => obtain ⟨h1, h2⟩ := h; exact ⟨(hown g).2 h1, h2⟩
  | m1 q a es clk p nw =>
    obtain ⟨h1, h2⟩ := h
    refine ⟨(hown g).2 h1, ?_⟩
    unfold m1At at h2 ⊢
    cases p with
    | none => exact h2
    | some s => obtain ⟨v, hv, h3⟩ := h2; exact ⟨v, den_ren hre hv, h3⟩
  | rowd => trivial
  | dead => trivial

/-- The small memory has no row of another's. -/
def noRoM : List SObj → Bool
  | [] => true
  | .ro _ _ _ :: _ => false
  | _ :: m => noRoM m
theorem noRoM_get : ∀ {m : List SObj} {i : Nat} {base n : Nat} {f : Nat → Value}, noRoM m = true → m[i]? = some (.ro base n f) → False
  | [], i, _, _, _, _, h => by simp at h
  | o :: m, 0, _, _, _, hn, h => by simp at h; subst h; cases hn
  | o :: m, i + 1, _, _, _, hn, h => by
    have : noRoM m = true := by cases o <;> first | exact hn | cases hn
    exact noRoM_get this (by simpa using h)

theorem ObjAt.step {X : Ext} {ρ : List Un} {own own' : Nat → Option Nat} {k g : Nat} {w w' : World} {o : SObj} (h : ObjAt X ρ own k g w o) (hb : ∀ b, own b = some k → w'.heap[b]? = w.heap[b]?)
    (hn : ∀ b, b < w.heap.size → own b = none → w'.heap[b]? = w.heap[b]?) (hs : w.heap.size ≤ w'.heap.size) (hk : ∀ x, own' x = some k ↔ own x = some k) (hn' : ∀ x, x < w.heap.size → own x = none → own' x = none) : ObjAt X ρ own' k g w' o := by
  have h0 := h.stable hb hn hs
  cases o with
  | cells cs e => obtain ⟨h1, h2⟩ := h0; exact ⟨(hk _).2 h1, h2⟩
  | ro base n f => obtain ⟨h1, h2, _⟩ := h; obtain ⟨_, h3, h4⟩ := h0; exact ⟨hn' _ h2 h1, h3, h4⟩
  | ext tag M =>
    obtain ⟨h1, h2⟩ := h0
    have e : (fun b => own' b = some k) = fun b => own b = some k := funext fun b => propext (hk b)
    exact ⟨(hk _).2 h1, by rw [e]; exact h2⟩
  | pm q es => obtain ⟨h1, h2⟩ := h0; exact ⟨(hk _).2 h1, h2⟩
  | it b n => obtain ⟨h1, h2⟩ := h0; exact ⟨(hk _).2 h1, h2⟩
  | bm q qe M => obtain ⟨h1, h2⟩ := h0; exact ⟨(hk _).2 h1, h2⟩
  | buf c cs e => obtain ⟨h1, h2⟩ := h0; exact ⟨(hk _).2 h1, h2⟩
  | bufz z c cs e => obtain ⟨h1, h2⟩ := h0; exact ⟨(hk _).2 h1, h2⟩
  | arr q e n F => obtain ⟨h1, h2⟩ := h0; exact ⟨(hk _).2 h1, h2⟩
  | m1 q a es clk p nw => obtain ⟨h1, h2⟩ := h0; exact ⟨(hk _).2 h1, h2⟩
  | rowd => trivial
  | dead => trivial

/-- A call, by how it ends. -/
def CallX (P : Program) (X : Ext) (f : FuncId) (args : List Sv) (m : List SObj) (s : Sv) (m' : List SObj) (E : Value → Ending → Prop) : Prop :=
  ∀ ρ own w l, denL ρ args = some l → Rep X ρ own m w → Calls P f l.toArray w fun e w' => ∃ ρ' own' x, To ρ own w ρ' own' w' ∧ den ρ' s = some x ∧ Rep X ρ' own' m' w' ∧ E x e
theorem CallP.x {P : Program} {X : Ext} {f : FuncId} {args : List Sv} {m m' : List SObj} {ch : List PanicEntry} (h : CallP P X f args m ch m') : CallX P X f args m (.v undef) m' (fun _ e => e = .panicked ch) :=
  fun ρ own w l hl hr => (h ρ own w l hl hr).mono fun e w' ⟨ρ', own', h1, h2, h3⟩ => ⟨ρ', own', undef, h1, rfl, h2, h3⟩
theorem CallX.p {P : Program} {X : Ext} {f : FuncId} {args : List Sv} {m m' : List SObj} {s : Sv} {ch : List PanicEntry} (h : CallX P X f args m s m' (fun _ e => e = .panicked ch)) : CallP P X f args m ch m' :=
  fun ρ own w l hl hr => (h ρ own w l hl hr).mono fun e w' ⟨ρ', own', x, h1, _, h2, h3⟩ => ⟨ρ', own', h1, h2, h3⟩
theorem CallX.frame {P : Program} {X : Ext} {f : FuncId} {args0 : List Sv} {m0 m0' : List SObj} {s0 : Sv} {E : Value → Ending → Prop} (hc : CallX P X f args0 m0 s0 m0' E) {σ : List Nat} {m : List SObj} (hd : σ.Nodup) (hl : m0.length = σ.length) (hl' : σ.length ≤ m0'.length) (hlt : ∀ k ∈ σ, k < m.length)
    (hm : ∀ (i : Nat) (o : SObj) (k : Nat), m0[i]? = some o → alive o = true → σ[i]? = some k → m[k]? = some (renO (look σ m.length) o)) (hcl : clM σ.length m0 = true) (hca : clL σ.length args0 = true) (hro : noRoM m0' = true) :
    CallX P X f (renL (look σ m.length) args0) m (renS (look σ m.length) s0) (embed m σ m0') E := by
  intro ρ own w l hla hr
  obtain ⟨r, hrd⟩ : ∃ r, r = look σ m.length := ⟨_, rfl⟩
  have rlo : ∀ i k, σ[i]? = some k → r i = k := fun i k h => by rw [hrd]; simp [look, h]
  have rhi : ∀ i, σ.length ≤ i → r i = m.length + (i - σ.length) := fun i h => by rw [hrd]; simp [look, List.getElem?_eq_none h]
  have σlt : ∀ i k, σ[i]? = some k → k < m.length := fun i k h => hlt k (List.mem_of_getElem? h)
  have σat : ∀ i, i < σ.length → ∃ k, σ[i]? = some k := fun i h => ⟨σ[i], List.getElem?_eq_getElem h⟩
  have rinj : ∀ i j, r i = r j → i = j := fun i j h => by
    rcases Nat.lt_or_ge i σ.length with hi | hi <;> rcases Nat.lt_or_ge j σ.length with hj | hj
    · obtain ⟨k, hk⟩ := σat i hi
      obtain ⟨k', hk'⟩ := σat j hj
      rw [rlo i k hk, rlo j k' hk'] at h
      subst h
      have := (idx_of hd hk).symm.trans (idx_of hd hk')
      simpa using this
    · obtain ⟨k, hk⟩ := σat i hi
      rw [rlo i k hk, rhi j hj] at h
      have := σlt i k hk; omega
    · obtain ⟨k, hk⟩ := σat j hj
      rw [rlo j k hk, rhi i hi] at h
      have := σlt j k hk; omega
    · rw [rhi i hi, rhi j hj] at h; omega
  rw [← hrd] at hm hla
  obtain ⟨ρ0, hρ0⟩ : ∃ ρ0 : List Un, ρ0 = σ.map fun k => ρ.getD k (.vals []) := ⟨_, rfl⟩
  have hρl : ρ0.length = σ.length := by rw [hρ0]; simp
  have hre : ∀ b, b < σ.length → ρ[r b]? = ρ0[b]? := fun b hb => by
    obtain ⟨k, hk⟩ := σat b hb
    have hkl : k < ρ.length := by rw [hr.len]; exact σlt b k hk
    rw [rlo b k hk, hρ0, List.getElem?_map, hk]
    simp [List.getElem?_eq_getElem hkl, List.getD]
  obtain ⟨own0, hown0⟩ : ∃ own0 : Nat → Option Nat, own0 = fun x => (own x).bind (idx σ) := ⟨_, rfl⟩
  have o0 : ∀ x i, own0 x = some i ↔ ∃ k, own x = some k ∧ σ[i]? = some k := fun x i => by
    rw [hown0]
    constructor
    · intro h
      cases hx : own x with
      | none => simp [hx] at h
      | some k => simp [hx] at h; exact ⟨k, rfl, idx_some h⟩
    · rintro ⟨k, h1, h2⟩
      simp [h1, idx_of hd h2]
  have o0r : ∀ i, i < σ.length → ∀ x, own0 x = some i ↔ own x = some (r i) := fun i hi x => by
    obtain ⟨k, hk⟩ := σat i hi
    rw [o0, rlo i k hk]
    constructor
    · rintro ⟨k', h1, h2⟩; rw [hk] at h2; simp at h2; subst h2; exact h1
    · intro h; exact ⟨k, h, hk⟩
  have o0lt : ∀ x i, own0 x = some i → i < σ.length ∧ x < w.heap.size := fun x i h => by
    obtain ⟨k, h1, h2⟩ := (o0 x i).1 h
    exact ⟨(List.getElem?_eq_some_iff.1 h2).1, (hr.lt x k h1).1⟩
  have hrep0 : Rep X ρ0 own0 m0 w := by
    refine ⟨by rw [hρl, hl], fun b k hk => ?_, fun k o ho ha => ?_⟩
    · have := o0lt b k hk; exact ⟨this.2, by omega⟩
    · have hkl : k < σ.length := by have := (List.getElem?_eq_some_iff.1 ho).1; omega
      obtain ⟨j, hj⟩ := σat k hkl
      obtain ⟨g, hg, hob⟩ := hr.obj j _ (hm k o j ho ha hj) (by rw [alive_ren]; exact ha)
      refine ⟨g, by rw [← hre k hkl, rlo k j hj]; exact hg, ?_⟩
      rw [← rlo k j hj] at hob
      exact hob.unren hre (o0r k hkl) (fun x hx => by rw [hown0]; simp [hx]) (clM_get hcl ho)
  refine (hc ρ0 own0 w l (denL_unren hre hca hla) hrep0).mono fun e w' ⟨ρ0', own0', x, ht, hx, hr', he⟩ => ?_
  obtain ⟨⟨L, hL⟩, hnews, hkept⟩ := ht
  have hre' : ∀ b, (ρ ++ L)[r b]? = ρ0'[b]? := fun b => by
    rw [hL]
    rcases Nat.lt_or_ge b σ.length with hb | hb
    · obtain ⟨k, hk⟩ := σat b hb
      rw [List.getElem?_append_left (by rw [rlo b k hk, hr.len]; exact σlt b k hk), List.getElem?_append_left (by omega), hre b hb]
    · rw [rhi b hb, List.getElem?_append_right (by rw [hr.len]; omega), List.getElem?_append_right (by omega), hr.len, hρl]
      congr 1; omega
  have hre2 : ∀ (b : Nat) (u : Un), ρ0'[b]? = some u → (ρ ++ L)[r b]? = some u := fun b u h => by rw [hre' b]; exact h
  obtain ⟨own', hown'⟩ : ∃ own' : Nat → Option Nat, own' = fun x => match own0 x with
    | some _ => (own0' x).map r
    | none => if x < w.heap.size then own x else (own0' x).map r := ⟨_, rfl⟩
  have ow1 : ∀ x j, own0 x = some j → own' x = (own0' x).map r := fun x j h => by rw [hown']; simp [h]
  have ow2 : ∀ x, own0 x = none → x < w.heap.size → own' x = own x := fun x h h' => by rw [hown']; simp [h, h']
  have ow3 : ∀ x, own0 x = none → ¬ x < w.heap.size → own' x = (own0' x).map r := fun x h h' => by rw [hown']; simp [h, h']
  have mapr : ∀ x i, (own0' x).map r = some (r i) ↔ own0' x = some i := fun x i => by
    cases h1 : own0' x with
    | none => simp
    | some j =>
      simp only [Option.map_some, Option.some.injEq]
      constructor
      · intro h; exact rinj _ _ h
      · intro h; rw [h]
  have f1 : ∀ x i, own' x = some (r i) ↔ own0' x = some i := fun x i => by
    cases h0 : own0 x with
    | some j => rw [ow1 x j h0]; exact mapr x i
    | none =>
      by_cases hxs : x < w.heap.size
      · rw [ow2 x h0 hxs]
        constructor
        · intro h
          have hk := (hr.lt x _ h).2
          rcases Nat.lt_or_ge i σ.length with hi | hi
          · have := (o0r i hi x).2 h
            rw [h0] at this; cases this
          · rw [rhi i hi] at hk; omega
        · intro h
          rcases hnews x h0 with h1 | h1
          · rw [h1] at h; cases h
          · omega
      · rw [ow3 x h0 hxs]; exact mapr x i
  have f4 : ∀ k, k < m.length → k ∉ σ → ∀ x, own' x = some k ↔ own x = some k := fun k hk hkσ x => by
    have rne : ∀ j, r j ≠ k := fun j e => by
      rcases Nat.lt_or_ge j σ.length with hj | hj
      · obtain ⟨k', hk'⟩ := σat j hj
        rw [rlo j k' hk'] at e; subst e
        exact hkσ (List.mem_of_getElem? hk')
      · rw [rhi j hj] at e; omega
    have mapn : (own0' x).map r ≠ some k := fun h => by
      cases h1 : own0' x with
      | none => rw [h1] at h; cases h
      | some j' => rw [h1] at h; simp at h; exact rne j' h
    cases h0 : own0 x with
    | some j =>
      rw [ow1 x j h0]
      constructor
      · intro h; exact absurd h mapn
      · intro h
        obtain ⟨k', h1, h2⟩ := (o0 x j).1 h0
        rw [h1] at h; simp at h; subst h
        exact absurd (List.mem_of_getElem? h2) hkσ
    | none =>
      by_cases hxs : x < w.heap.size
      · rw [ow2 x h0 hxs]
      · rw [ow3 x h0 hxs]
        constructor
        · intro h; exact absurd h mapn
        · intro h; exact absurd (hr.lt x k h).1 hxs
  have f5 : ∀ x, x < w.heap.size → own x = none → own' x = none := fun x hxs hx => by
    have h0 : own0 x = none := by rw [hown0]; simp [hx]
    rw [hown']; simp [h0, hxs, hx]
  refine ⟨ρ ++ L, own', x, ⟨⟨L, rfl⟩, fun b hb => ?_, ⟨hkept.os, hkept.tape, hkept.output, hkept.size, fun b hbs hb => hkept.block b hbs (by rw [hown0]; simp [hb])⟩⟩, by rw [← hrd]; exact den_ren hre2 hx, ?_, he⟩
  · rcases Nat.lt_or_ge b w.heap.size with hbs | hbs
    · exact .inl (f5 b hbs hb)
    · exact .inr hbs
  have hlen0 : ρ0'.length = m0'.length := hr'.len
  have fwd : ∀ (i : Nat) (o : SObj), m0'[i]? = some o → alive o = true → ∃ g, (ρ ++ L)[r i]? = some (.blk g) ∧ ObjAt X (ρ ++ L) own' (r i) g w' (renO r o) := fun i o ho ha => by
    obtain ⟨g, hg, hob⟩ := hr'.obj i o ho ha
    exact ⟨g, hre2 _ _ hg, hob.ren hre2 (f1 · i) (fun _ _ _ => .inr trivial) (fun base n f e => by subst e; exact (noRoM_get hro ho).elim)⟩
  refine ⟨?_, fun b k hk => ?_, fun k o ho ha => ?_⟩
  · have hLl : σ.length + L.length = m0'.length := by rw [← hlen0, hL, List.length_append, hρl]
    unfold embed
    rw [List.length_append, List.length_append, setAll_length, dropM_eq, List.length_drop, renM_length, hr.len]
    omega
  · have hem : (embed m σ m0').length = m.length + (m0'.length - σ.length) := by
      unfold embed
      rw [List.length_append, setAll_length, dropM_eq, List.length_drop, renM_length]
    have viaR : ∀ j, own0' b = some j → b < w'.heap.size ∧ r j < (embed m σ m0').length := fun j hj => by
      have := hr'.lt b j hj
      refine ⟨this.1, ?_⟩
      rw [hem]
      rcases Nat.lt_or_ge j σ.length with h | h
      · obtain ⟨k', hk'⟩ := σat j h
        rw [rlo j k' hk']; have := σlt j k' hk'; omega
      · rw [rhi j h]; omega
    have viaM : (own0' b).map r = some k → b < w'.heap.size ∧ k < (embed m σ m0').length := fun h => by
      cases h1 : own0' b with
      | none => rw [h1] at h; cases h
      | some j => rw [h1] at h; simp at h; subst h; exact viaR j h1
    cases h0 : own0 b with
    | some j0 => rw [ow1 b j0 h0] at hk; exact viaM hk
    | none =>
      by_cases hxs : b < w.heap.size
      · rw [ow2 b h0 hxs] at hk
        have := hr.lt b k hk
        have := hkept.size
        rw [hem]; omega
      · rw [ow3 b h0 hxs] at hk; exact viaM hk
  · unfold embed at ho
    rw [← hrd] at ho
    rcases Nat.lt_or_ge k m.length with hk | hk
    · rw [List.getElem?_append_left (by rw [setAll_length]; exact hk)] at ho
      by_cases hkσ : k ∈ σ
      · obtain ⟨i, hi⟩ := List.getElem?_of_mem hkσ
        have hil : i < σ.length := (List.getElem?_eq_some_iff.1 hi).1
        rw [setAll_at σ _ m i k hd hi hk (by rw [renM_length]; omega), renM_get] at ho
        cases h0 : m0'[i]? with
        | none => rw [h0] at ho; cases ho
        | some oo =>
          rw [h0] at ho; simp at ho; subst ho
          rw [alive_ren] at ha
          rw [← rlo i k hi]
          exact fwd i oo h0 ha
      · rw [setAll_other σ _ m k hkσ] at ho
        obtain ⟨g, hg, hob⟩ := hr.obj k o ho ha
        refine ⟨g, by rw [List.getElem?_append_left (List.getElem?_eq_some_iff.1 hg).1]; exact hg, ?_⟩
        refine (hob.step (own' := own') (w' := w') (fun b hb => ?_) (fun b hbs hb => hkept.block b hbs (by rw [hown0]; simp [hb])) hkept.size (f4 k hk hkσ) f5).mono ⟨L, rfl⟩
        refine hkept.block b (hr.lt b k hb).1 ?_
        cases h0 : own0 b with
        | none => rfl
        | some j =>
          obtain ⟨k', q1, q2⟩ := (o0 b j).1 h0
          rw [q1] at hb; simp at hb; subst hb
          exact absurd (List.mem_of_getElem? q2) hkσ
    · rw [List.getElem?_append_right (by rw [setAll_length]; exact hk), setAll_length, dropM_eq, List.getElem?_drop, renM_get] at ho
      cases h0 : m0'[σ.length + (k - m.length)]? with
      | none => rw [h0] at ho; cases ho
      | some oo =>
        rw [h0] at ho; simp at ho; subst ho
        rw [alive_ren] at ha
        have := fwd _ oo h0 ha
        rw [rhi _ (by omega), show m.length + (σ.length + (k - m.length) - σ.length) = k by omega] at this
        exact this
theorem CallR.frame {P : Program} {X : Ext} {f : FuncId} {args0 : List Sv} {m0 m0' : List SObj} {s0 : Sv} (hc : CallR P X f args0 m0 s0 m0') {σ : List Nat} {m : List SObj} (hd : σ.Nodup) (hl : m0.length = σ.length) (hl' : σ.length ≤ m0'.length) (hlt : ∀ k ∈ σ, k < m.length)
    (hm : ∀ (i : Nat) (o : SObj) (k : Nat), m0[i]? = some o → alive o = true → σ[i]? = some k → m[k]? = some (renO (look σ m.length) o)) (hcl : clM σ.length m0 = true) (hca : clL σ.length args0 = true) (hro : noRoM m0' = true) :
    CallR P X f (renL (look σ m.length) args0) m (renS (look σ m.length) s0) (embed m σ m0') :=
  CallX.frame (E := fun x e => e = .returned x) hc hd hl hl' hlt hm hcl hca hro
theorem CallP.frame {P : Program} {X : Ext} {f : FuncId} {args0 : List Sv} {m0 m0' : List SObj} {ch : List PanicEntry} (hc : CallP P X f args0 m0 ch m0') {σ : List Nat} {m : List SObj} (hd : σ.Nodup) (hl : m0.length = σ.length) (hl' : σ.length ≤ m0'.length) (hlt : ∀ k ∈ σ, k < m.length)
    (hm : ∀ (i : Nat) (o : SObj) (k : Nat), m0[i]? = some o → alive o = true → σ[i]? = some k → m[k]? = some (renO (look σ m.length) o)) (hcl : clM σ.length m0 = true) (hca : clL σ.length args0 = true) (hro : noRoM m0' = true) :
    CallP P X f (renL (look σ m.length) args0) m ch (embed m σ m0') :=
  (CallX.frame hc.x hd hl hl' hlt hm hcl hca hro).p
end Go.Ev
