/- Frames of two and of three objects. -/
import Derived.Test.YtmmapogcackbbaaEvF
namespace Go.Ev
open Go
set_option linter.unusedVariables false
set_option linter.unusedSimpArgs false
theorem set_self {α : Type} : ∀ {m : List α} {k : Nat} {o : α}, m[k]? = some o → m.set k o = m
  | [], k, o, h => by simp at h
  | x :: m, 0, o, h => by simp at h; simp [h]
  | x :: m, k + 1, o, h => by simp at h ⊢; exact set_self h
theorem frame2 {P : Program} {X : Ext} {f : FuncId} {args0 args : List Sv} {a0 b0 a b b1 : SObj} {b0' : SObj} {s0 s : Sv} (hc : CallR P X f args0 [a0, b0] s0 [a0, b0']) {m : List SObj} {i j : Nat} (hi : m[i]? = some a) (hj : m[j]? = some b) (hij : ¬ i = j)
    (ea : renO (look [i, j] m.length) a0 = a) (eb : renO (look [i, j] m.length) b0 = b) (eb' : renO (look [i, j] m.length) b0' = b1) (eargs : renL (look [i, j] m.length) args0 = args) (es : renS (look [i, j] m.length) s0 = s)
    (hcl : clM 2 [a0, b0] = true) (hca : clL 2 args0 = true) (hro : noRoM [a0, b0'] = true) {m' : List SObj} (hm' : m' = m.set j b1) : CallR P X f args m s m' := by
  have hli := (List.getElem?_eq_some_iff.1 hi).1
  have hlj := (List.getElem?_eq_some_iff.1 hj).1
  have := hc.frame (σ := [i, j]) (m := m) (by simp; exact hij) rfl (by simp) (by simp; exact ⟨hli, hlj⟩) (fun x o k hx _ hk => by
    match x with
    | 0 => simp at hx hk; subst hx hk; rw [ea]; exact hi
    | 1 => simp at hx hk; subst hx hk; rw [eb]; exact hj
    | x + 2 => simp at hx) hcl hca hro
  rw [eargs, es] at this
  have e : embed m [i, j] [a0, b0'] = m' := by
    simp only [embed, renM, setAll, dropM, List.length, ea, eb', List.append_nil]
    rw [set_self hi, hm']
  rw [e] at this
  exact this
theorem frame3 {P : Program} {X : Ext} {f : FuncId} {args0 args : List Sv} {a0 b0 c0 a b c c1 : SObj} {c0' : SObj} {s0 s : Sv} (hc : CallR P X f args0 [a0, b0, c0] s0 [a0, b0, c0']) {m : List SObj} {i j l : Nat} (hi : m[i]? = some a) (hj : m[j]? = some b) (hl : m[l]? = some c) (hij : ¬ i = j) (hil : ¬ i = l) (hjl : ¬ j = l)
    (ea : renO (look [i, j, l] m.length) a0 = a) (eb : renO (look [i, j, l] m.length) b0 = b) (ec : renO (look [i, j, l] m.length) c0 = c) (ec' : renO (look [i, j, l] m.length) c0' = c1) (eargs : renL (look [i, j, l] m.length) args0 = args) (es : renS (look [i, j, l] m.length) s0 = s)
    (hcl : clM 3 [a0, b0, c0] = true) (hca : clL 3 args0 = true) (hro : noRoM [a0, b0, c0'] = true) {m' : List SObj} (hm' : m' = m.set l c1) : CallR P X f args m s m' := by
  have hli := (List.getElem?_eq_some_iff.1 hi).1
  have hlj := (List.getElem?_eq_some_iff.1 hj).1
  have hll := (List.getElem?_eq_some_iff.1 hl).1
  have := hc.frame (σ := [i, j, l]) (m := m) (by simp; exact ⟨⟨hij, hil⟩, hjl⟩) rfl (by simp) (by simp; exact ⟨hli, hlj, hll⟩) (fun x o k hx _ hk => by
    match x with
    | 0 => simp at hx hk; subst hx hk; rw [ea]; exact hi
    | 1 => simp at hx hk; subst hx hk; rw [eb]; exact hj
    | 2 => simp at hx hk; subst hx hk; rw [ec]; exact hl
    | x + 3 => simp at hx) hcl hca hro
  rw [eargs, es] at this
  have e : embed m [i, j, l] [a0, b0, c0'] = m' := by
    simp only [embed, renM, setAll, dropM, List.length, ea, eb, ec', List.append_nil]
    rw [set_self hi, set_self hj, hm']
  rw [e] at this
  exact this
end Go.Ev
