/- Calls whose new objects are forgotten. -/
import Derived.Test.YtpgdpoloipifeaaNFr
namespace Go.Ev
open Go
set_option linter.unusedVariables false
set_option linter.unusedSimpArgs false
mutual
theorem renS_id : ∀ (s : Sv), renS (fun b => b) s = s
  | .v _ => rfl
  | .ptr _ _ => rfl
  | .sl _ _ _ _ => rfl
  | .sa _ _ _ _ => rfl
  | .mp _ => rfl
  | .unk _ _ => rfl
  | .pix _ _ _ _ => rfl
  | .nan _ => rfl
  | .agg cs => by simp only [renS, renL_id cs]
  | .tup cs => by simp only [renS, renL_id cs]
theorem renL_id : ∀ (cs : List Sv), renL (fun b => b) cs = cs
  | [] => rfl
  | c :: cs => by simp only [renL, renS_id c, renL_id cs]
end
theorem renO_id {n : Nat} : ∀ {o : SObj}, clO n o = true → renO (fun b => b) o = o
  | .cells cs e, _ => by simp only [renO, renL_id]
  | .ro _ _ _, _ => rfl
  | .ext _ _, _ => rfl
  | .pm _ _, h => by cases h
  | .it _ _, h => by cases h
  | .bm _ _ _, _ => rfl
  | .buf c cs e, _ => by simp only [renO, renL_id]
  | .bufz z c cs e, _ => by simp only [renO, renL_id]
  | .arr _ _ _ _, _ => rfl
  | .m1 _ _ _ _ _ _, h => by cases h
  | .rowd, _ => rfl
  | .dead, _ => rfl
def keepB (n : Nat) (own : Nat → Option Nat) : Nat → Option Nat := fun b => match own b with
  | some k => if k < n then some k else none
  | none => none
theorem keepB_some {n : Nat} {own : Nat → Option Nat} {b k : Nat} : keepB n own b = some k ↔ own b = some k ∧ k < n := by
  unfold keepB
  cases h : own b with
  | none => simp
  | some j =>
    by_cases hj : j < n
    · simp only [hj, if_true, Option.some.injEq]; constructor
      · intro e; subst e; exact ⟨rfl, hj⟩
      · exact fun e => e.1
    · simp only [hj, if_false, Option.some.injEq]; constructor
      · intro e; cases e
      · rintro ⟨rfl, h2⟩; exact absurd h2 hj
/-- What a call lays anew may be forgotten, where nothing leads to it. -/
theorem CallX.drop {P : Program} {X : Ext} {f : FuncId} {args : List Sv} {m m1 ex : List SObj} {s : Sv} {E : Value → Ending → Prop} (h : CallX P X f args m s (m1 ++ ex) E) (hl : m1.length = m.length) (hc : clM m.length m1 = true) (hs : clS m.length s = true) : CallX P X f args m s m1 E := by
  intro ρ own w l hla hr
  refine (h ρ own w l hla hr).mono fun e w' ⟨ρ', own', x, ht, hx, hr', he⟩ => ?_
  obtain ⟨⟨lx, hρ⟩, hn, hk⟩ := ht
  have hlen := hr.len
  have hlt : ∀ b, b < m.length → ρ'[b]? = ρ[b]? := fun b hb => by rw [hρ, List.getElem?_append_left (by omega)]
  refine ⟨ρ, keepB m.length own', x, ⟨⟨[], by simp⟩, fun b hb => ?_, hk⟩, ?_, ⟨by omega, fun b k hb => ?_, fun k o hk2 ha => ?_⟩, he⟩
  · rcases hn b hb with h1 | h1
    · left; unfold keepB; rw [h1]
    · exact .inr h1
  · exact den_unren (r := fun b => b) (n := m.length) hlt hs (by rw [renS_id]; exact hx)
  · obtain ⟨h1, h2⟩ := keepB_some.1 hb
    exact ⟨(hr'.lt b k h1).1, by omega⟩
  · have hkl : k < m1.length := (List.getElem?_eq_some_iff.1 hk2).1
    have hko : k < m.length := by omega
    obtain ⟨g, hg, ho⟩ := hr'.obj k o (by rw [List.getElem?_append_left hkl]; exact hk2) ha
    have hco := clM_get hc hk2
    refine ⟨g, by rw [← hlt k hko]; exact hg, ?_⟩
    refine ObjAt.unren (r := fun b => b) (ρ := ρ') (own := own') hlt (fun x => ?_) (fun x hx => ?_) hco (by rw [renO_id hco]; exact ho)
    · rw [keepB_some]; exact ⟨fun e => e.1, fun e => ⟨e, hko⟩⟩
    · unfold keepB; rw [hx]
theorem CallR.drop {P : Program} {X : Ext} {f : FuncId} {args : List Sv} {m m1 ex : List SObj} {s : Sv} (h : CallR P X f args m s (m1 ++ ex)) (hl : m1.length = m.length) (hc : clM m.length m1 = true) (hs : clS m.length s = true) : CallR P X f args m s m1 := CallX.drop (E := fun x e => e = .returned x) h hl hc hs
theorem CallP.drop {P : Program} {X : Ext} {f : FuncId} {args : List Sv} {m m1 ex : List SObj} {ch : List PanicEntry} (h : CallP P X f args m ch (m1 ++ ex)) (hl : m1.length = m.length) (hc : clM m.length m1 = true) : CallP P X f args m ch m1 := (CallX.drop h.x hl hc rfl).p
/-- The answer, and the head of memory. -/
abbrev kTk (n : Nat) : Sv → List SObj → Option (Sv × List SObj) := fun s m => some (s, m.take n)
section
variable {P : Program} {Γ : Env}
theorem callR_evT {X : Ext} (hΓ : EnvOk P X Γ) {n j : Nat} {f : FuncId} {args : List Sv} {m m1 : List SObj} {s : Sv} (hb : callOkB P f = true) (h : evF P Γ n f args m (kTk j) kNo = some (s, m1)) (hj : Nat.beq m.length j = true) (hl : Nat.beq m1.length j = true)
    (hc : clM j m1 = true) (hs : clS j s = true) : CallR P X f args m s m1 := by
  have hj := Nat.eq_of_beq_eq_true hj
  have hl := Nat.eq_of_beq_eq_true hl
  rcases evF_sound hΓ n _ _ _ _ _ _ h with ⟨_, h1 | h1⟩ | h1
  · obtain ⟨sv, m2, e, h2⟩ := h1
    simp at e; obtain ⟨rfl, rfl⟩ := e
    rw [← List.take_append_drop j m2] at h2
    exact h2.drop (by omega) (by rw [hj]; exact hc) (by rw [hj]; exact hs)
  · obtain ⟨_, _, e, _⟩ := h1; cases e
  · obtain ⟨sv, m2, _, h2⟩ := h1
    intro ρ own w l hl hr
    exfalso
    obtain ⟨fn, hfn, hbd, hn⟩ := callOk_of hΓ hb
    obtain ⟨_, _, x, w', hrun, _⟩ := h2 ρ own w l hl hr
    have hbn : fn.body.isNone = false := by cases h : fn.body <;> simp_all
    simp only [callFunc, Sem.run_bind, run_program, Result.andThen_ok, hfn] at hrun
    simp [hn, hbn] at hrun
end
/-- How a call ends. -/
inductive OutE where
  | ret (s : Sv) (m : List SObj)
  | pan (ch : List PanicEntry) (m : List SObj)
abbrev kTr (n : Nat) : Sv → List SObj → Option OutE := fun s m => some (.ret s (m.take n))
abbrev kTp (n : Nat) : List PanicEntry → List SObj → Option OutE := fun ch m => some (.pan ch (m.take n))
theorem callR_evX {P : Program} {Γ : Env} {X : Ext} (hΓ : EnvOk P X Γ) {n j : Nat} {f : FuncId} {args : List Sv} {m m1 : List SObj} {s : Sv} (hb : callOkB P f = true) (h : evF P Γ n f args m (kTr j) (kTp j) = some (.ret s m1)) (hj : Nat.beq m.length j = true) (hl : Nat.beq m1.length j = true)
    (hc : clM j m1 = true) (hs : clS j s = true) : CallR P X f args m s m1 := by
  have hj := Nat.eq_of_beq_eq_true hj
  have hl := Nat.eq_of_beq_eq_true hl
  rcases evF_sound hΓ n _ _ _ _ _ _ h with ⟨_, h1 | h1⟩ | h1
  · obtain ⟨sv, m2, e, h2⟩ := h1
    simp at e; obtain ⟨rfl, rfl⟩ := e
    rw [← List.take_append_drop j m2] at h2
    exact h2.drop (by omega) (by rw [hj]; exact hc) (by rw [hj]; exact hs)
  · obtain ⟨_, _, e, _⟩ := h1; simp at e
  · obtain ⟨sv, m2, _, h2⟩ := h1
    intro ρ own w l hl hr
    exfalso
    obtain ⟨fn, hfn, hbd, hn⟩ := callOk_of hΓ hb
    obtain ⟨_, _, x, w', hrun, _⟩ := h2 ρ own w l hl hr
    have hbn : fn.body.isNone = false := by cases h : fn.body <;> simp_all
    simp only [callFunc, Sem.run_bind, run_program, Result.andThen_ok, hfn] at hrun
    simp [hn, hbn] at hrun
theorem callP_evX {P : Program} {Γ : Env} {X : Ext} (hΓ : EnvOk P X Γ) {n j : Nat} {f : FuncId} {args : List Sv} {m m1 : List SObj} {ch : List PanicEntry} (hb : callOkB P f = true) (h : evF P Γ n f args m (kTr j) (kTp j) = some (.pan ch m1)) (hj : Nat.beq m.length j = true) (hl : Nat.beq m1.length j = true)
    (hc : clM j m1 = true) : CallP P X f args m ch m1 := by
  have hj := Nat.eq_of_beq_eq_true hj
  have hl := Nat.eq_of_beq_eq_true hl
  rcases evF_sound hΓ n _ _ _ _ _ _ h with ⟨_, h1 | h1⟩ | h1
  · obtain ⟨_, _, e, _⟩ := h1; simp at e
  · obtain ⟨ch', m2, e, h2⟩ := h1
    simp at e; obtain ⟨rfl, rfl⟩ := e
    rw [← List.take_append_drop j m2] at h2
    exact h2.drop (by omega) (by rw [hj]; exact hc)
  · obtain ⟨_, _, e, _⟩ := h1; simp at e
/-! ### What a tree of answers holds -/
mutual
def flatS : Sv → List Sv
  | .agg cs => flatL cs
  | .tup cs => flatL cs
  | s => [s]
def flatL : List Sv → List Sv
  | [] => []
  | c :: cs => flatS c ++ flatL cs
end
def ansI (T : Option (Sv × List SObj)) (j : Nat) : Int := match T with
  | some (s, _) => (match (flatS s)[j]? with
    | some (.v (.int _ x)) => x
    | _ => 0)
  | none => 0
def ansB (T : Option (Sv × List SObj)) (j : Nat) : Bool := match T with
  | some (s, _) => (match (flatS s)[j]? with
    | some (.v (.bool x)) => x
    | _ => false)
  | none => false
def ansM (T : Option (Sv × List SObj)) (j : Nat) : Int → Int := match T with
  | some (_, m) => (match m[j]? with
    | some (.ext _ M) => M
    | some (.bm _ _ M) => M
    | _ => fun _ => 0)
  | none => fun _ => 0
/-- What stays whole as long as a number is not told. -/
def lockI {α : Type} (x : Int) (v : α) : α := match x with
  | .ofNat _ => v
  | .negSucc _ => v
theorem lockI_eq {α : Type} (x : Int) (v : α) : lockI x v = v := by cases x <;> rfl
theorem ans_cond {α : Type} {F : α → α} {c : Bool} {A B : α} (hA : A = F A) (hB : B = F B) : (bif c then A else B) = F (bif c then A else B) := by
  cases c
  · exact hB
  · exact hA
/-- The numbers of an answer, and what memory holds. -/
def projA (T : Option (Sv × List SObj)) : Option (List Sv) := T.map fun p => flatS p.1
theorem ansI_projA {T T' : Option (Sv × List SObj)} (h : projA T = projA T') (j : Nat) : ansI T j = ansI T' j := by
  unfold projA at h
  cases T <;> cases T' <;> simp_all [ansI]
theorem ansB_projA {T T' : Option (Sv × List SObj)} (h : projA T = projA T') (j : Nat) : ansB T j = ansB T' j := by
  unfold projA at h
  cases T <;> cases T' <;> simp_all [ansB]
end Go.Ev
