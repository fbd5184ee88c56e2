/- Frames of two and of three objects. -/
import Derived.Test.YtpgdpoloipifeaaEvF
namespace Go.Ev
open Go
set_option linter.unusedVariables false
set_option linter.unusedSimpArgs false
theorem set_self {α : Type} : ∀ {m : List α} {k : Nat} {o : α}, m[k]? = some o → m.set k o = m
  | [], k, o, h => by simp at h
  | x :: m, 0, o, h => by simp at h; simp [h]
  | x :: m, k + 1, o, h => by simp at h ⊢; exact set_self h
theorem frame2 {P : Program} {X : Ext} {f : FuncId} {args0 args : List Sv} {a0 b0 a b b1 : SObj} {b0' : SObj} {s0 s : Sv} (hc : CallR P X f args0 [a0, b0] s0 [a0, b0']) {m : List SObj} {i j : Nat} (hi : m[i]? = some a) (hj : m[j]? = some b) (hij : ¬ i = j)
    (ea : renO (look [i, j] m.length) a0 = a) (eb : renO (look [i, j] m.length) b0 = b) (eb' : renO (look [i, j] m.length) b0' = b1) (eargs : renL (look [i, j] m.length) args0 = args) (es : renS (look [i, j] m.length) s0 = s)
    (hcl : clM 2 [a0, b0] = true) (hca : clL 2 args0 = true) (hro : noRoM [a0, b0'] = true) {m' : List SObj} (hm' : m' = m.set j b1) : CallR P X f args m s m' := by
  have hli := (List.getElem?_eq_some_iff.1 hi).1
  have hlj := (List.getElem?_eq_some_iff.1 hj).1
  have := hc.frame (σ := [i, j]) (m := m) (by simp; exact hij) rfl (by simp) (by simp; exact ⟨hli, hlj⟩) (fun x o k hx _ hk => by
    match x with
    | 0 => simp at hx hk; subst hx hk; rw [ea]; exact hi
    | 1 => simp at hx hk; subst hx hk; rw [eb]; exact hj
    | x + 2 => simp at hx) hcl hca hro
  rw [eargs, es] at this
  have e : embed m [i, j] [a0, b0'] = m' := by
    simp only [embed, renM, setAll, dropM, List.length, ea, eb', List.append_nil]
    rw [set_self hi, hm']
  rw [e] at this
  exact this
theorem frame3 {P : Program} {X : Ext} {f : FuncId} {args0 args : List Sv} {a0 b0 c0 a b c c1 : SObj} {c0' : SObj} {s0 s : Sv} (hc : CallR P X f args0 [a0, b0, c0] s0 [a0, b0, c0']) {m : List SObj} {i j l : Nat} (hi : m[i]? = some a) (hj : m[j]? = some b) (hl : m[l]? = some c) (hij : ¬ i = j) (hil : ¬ i = l) (hjl : ¬ j = l)
    (ea : renO (look [i, j, l] m.length) a0 = a) (eb : renO (look [i, j, l] m.length) b0 = b) (ec : renO (look [i, j, l] m.length) c0 = c) (ec' : renO (look [i, j, l] m.length) c0' = c1) (eargs : renL (look [i, j, l] m.length) args0 = args) (es : renS (look [i, j, l] m.length) s0 = s)
    (hcl : clM 3 [a0, b0, c0] = true) (hca : clL 3 args0 = true) (hro : noRoM [a0, b0, c0'] = true) {m' : List SObj} (hm' : m' = m.set l c1) : CallR P X f args m s m' := by
  have hli := (List.getElem?_eq_some_iff.1 hi).1
  have hlj := (List.getElem?_eq_some_iff.1 hj).1
  have hll := (List.getElem?_eq_some_iff.1 hl).1
  have := hc.frame (σ := [i, j, l]) (m := m) (by simp; exact ⟨⟨hij, hil⟩, hjl⟩) rfl (by simp) (by simp; exact ⟨hli, hlj, hll⟩) (fun x o k hx _ hk => by
    match x with
    | 0 => simp at hx hk; subst hx hk; rw [ea]; exact hi
    | 1 => simp at hx hk; subst hx hk; rw [eb]; exact hj
    | 2 => simp at hx hk; subst hx hk; rw [ec]; exact hl
    | x + 3 => simp at hx) hcl hca hro
  rw [eargs, es] at this
  have e : embed m [i, j, l] [a0, b0, c0'] = m' := by
    simp only [embed, renM, setAll, dropM, List.length, ea, eb, ec', List.append_nil]
    rw [set_self hi, set_self hj, hm']
  rw [e] at this
  exact this
end Go.Ev
namespace Go.Ev
open Go
/-- The small memory lies in the great one. -/
def atAll (r : Nat → Nat) (m : List SObj) : List Nat → List SObj → Prop
  | [], [] => True
  | k :: σ, o :: os => m[k]? = some (renO r o) ∧ atAll r m σ os
  | _, _ => False
theorem atAll_len {r : Nat → Nat} {m : List SObj} : ∀ {σ : List Nat} {os : List SObj}, atAll r m σ os → os.length = σ.length
  | [], [], _ => rfl
  | k :: σ, o :: os, h => by simp [atAll_len h.2]
  | [], _ :: _, h => h.elim
  | _ :: _, [], h => h.elim
theorem atAll_get {r : Nat → Nat} {m : List SObj} : ∀ {σ : List Nat} {os : List SObj}, atAll r m σ os → ∀ (i : Nat) (o : SObj) (k : Nat), os[i]? = some o → σ[i]? = some k → m[k]? = some (renO r o)
  | [], [], _, i, o, k, h, _ => by simp at h
  | k :: σ, o :: os, h, 0, o', k', ho, hk => by simp at ho hk; subst ho hk; exact h.1
  | k :: σ, o :: os, h, i + 1, o', k', ho, hk => atAll_get h.2 i o' k' (by simpa using ho) (by simpa using hk)
  | [], _ :: _, h, _, _, _, _, _ => h.elim
  | _ :: _, [], h, _, _, _, _, _ => h.elim
theorem atAll_lt {r : Nat → Nat} {m : List SObj} : ∀ {σ : List Nat} {os : List SObj}, atAll r m σ os → ∀ k ∈ σ, k < m.length
  | [], [], _, k, h => by simp at h
  | j :: σ, o :: os, h, k, hk => by
    rcases List.mem_cons.1 hk with e | hk
    · subst e; exact (List.getElem?_eq_some_iff.1 h.1).1
    · exact atAll_lt h.2 k hk
  | [], _ :: _, h, _, _ => h.elim
  | _ :: _, [], h, _, _ => h.elim
theorem CallR.frameL {P : Program} {X : Ext} {f : FuncId} {args0 : List Sv} {m0 m0' : List SObj} {s0 : Sv} (hc : CallR P X f args0 m0 s0 m0') (σ : List Nat) {m m' : List SObj} {args : List Sv} {s : Sv} (hd : σ.Nodup) (hat : atAll (look σ m.length) m σ m0)
    (hcl : clM σ.length m0 = true) (hca : clL σ.length args0 = true) (hro : noRoM m0' = true) (hl' : Nat.ble σ.length m0'.length = true) (ea : renL (look σ m.length) args0 = args) (es : renS (look σ m.length) s0 = s) (em : embed m σ m0' = m') : CallR P X f args m s m' := by
  subst ea es em
  exact hc.frame hd (atAll_len hat) (by simpa using hl') (atAll_lt hat) (fun i o k h1 _ h2 => atAll_get hat i o k h1 h2) hcl hca hro
theorem setAll_same0 {r : Nat → Nat} {m : List SObj} : ∀ {σ : List Nat} {os : List SObj}, atAll r m σ os → setAll σ (renM r os) m = m
  | [], [], _ => by simp [setAll]
  | k :: σ, o :: os, h => by
    simp only [renM, setAll]
    rw [set_self h.1]
    exact setAll_same0 h.2
  | [], _ :: _, h => h.elim
  | _ :: _, [], h => h.elim
theorem CallP.frameL {P : Program} {X : Ext} {f : FuncId} {args0 : List Sv} {m0 m0' : List SObj} {ch : List PanicEntry} (hc : CallP P X f args0 m0 ch m0') (σ : List Nat) {m m' : List SObj} {args : List Sv} (hd : σ.Nodup) (hat : atAll (look σ m.length) m σ m0)
    (hcl : clM σ.length m0 = true) (hca : clL σ.length args0 = true) (hro : noRoM m0' = true) (hl' : Nat.ble σ.length m0'.length = true) (ea : renL (look σ m.length) args0 = args) (em : embed m σ m0' = m') : CallP P X f args m ch m' := by
  subst ea em
  exact hc.frame hd (atAll_len hat) (by simpa using hl') (atAll_lt hat) (fun i o k h1 _ h2 => atAll_get hat i o k h1 h2) hcl hca hro
theorem embed_same {σ : List Nat} {m m0 : List SObj} (hat : atAll (look σ m.length) m σ m0) : embed m σ m0 = m := by
  have h := setAll_same0 hat
  unfold embed
  rw [h, dropM_eq, List.drop_eq_nil_of_le (by rw [renM_length, atAll_len hat]; exact Nat.le_refl _), List.append_nil]
end Go.Ev
namespace Go.Ev
open Go
theorem renM_app (r : Nat → Nat) : ∀ (a b : List SObj), renM r (a ++ b) = renM r a ++ renM r b
  | [], b => rfl
  | o :: a, b => by simp [renM, renM_app r a b]
theorem setAll_same {r : Nat → Nat} {m : List SObj} {ex : List SObj} : ∀ {σ : List Nat} {os : List SObj}, atAll r m σ os → setAll σ (renM r (os ++ ex)) m = m
  | [], [], _ => by simp [setAll]
  | k :: σ, o :: os, h => by
    simp only [List.cons_append, renM, setAll]
    rw [set_self h.1]
    exact setAll_same h.2
  | [], _ :: _, h => h.elim
  | _ :: _, [], h => h.elim
theorem CallR.frameN {P : Program} {X : Ext} {f : FuncId} {args0 : List Sv} {m0 ex0 : List SObj} {s0 : Sv} (hc : CallR P X f args0 m0 s0 (m0 ++ ex0)) (σ : List Nat) {m ex : List SObj} {args : List Sv} {s : Sv} (hd : σ.Nodup) (hat : atAll (look σ m.length) m σ m0)
    (hcl : clM σ.length m0 = true) (hca : clL σ.length args0 = true) (hro : noRoM (m0 ++ ex0) = true) (ea : renL (look σ m.length) args0 = args) (es : renS (look σ m.length) s0 = s) (em : renM (look σ m.length) ex0 = ex) : CallR P X f args m s (m ++ ex) := by
  subst em
  have hl := atAll_len hat
  refine hc.frameL σ hd hat hcl hca hro (by simp [← hl]) ea es ?_
  unfold embed
  rw [setAll_same hat, renM_app, dropM_eq, List.drop_left' (by rw [renM_length, hl])]
end Go.Ev
