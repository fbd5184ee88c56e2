/- A function that defers a closure. -/
import Derived.Test.YtpgdpoloipifeaaEvG
import Derived.Test.YtpgdpoloipifeaaEv9
import Derived.Recover
namespace Go.Ev
open Go
set_option linter.unusedVariables false
set_option linter.unusedSimpArgs false
section
variable {P : Program} {X : Ext}
/-- What a deferred closure makes of memory, of the mode of the frame that it closes. -/
def CallDR (P : Program) (X : Ext) (g : FuncId) (cap : List Sv) (u : FrameMode) (m : List SObj) (u' : FrameMode) (m' : List SObj) : Prop :=
  ∀ ρ own w lc, denL ρ cap = some lc → Rep X ρ own m w → CallsD P g lc.toArray u w fun e v w' => (∃ x, e = .returned x) ∧ v = u' ∧ ∃ ρ' own', To ρ own w ρ' own' w' ∧ Rep X ρ' own' m' w'
def modeOf : SEx → FrameMode
  | .panic ch => .panicking ch
  | _ => .returning
theorem callR_guard {F : FuncId} {fn : Func} {A B C : Code} {args t1 t3 : List Sv} {m0 m1 m3 m4 : List SObj} {g : FuncId} {cap : List Sv} {slot : Nat} {e : SEx} {ls : List Sv} {u' : FrameMode}
    (hfn : P.funcs[F]? = some fn) (hb : fn.body = some (.seq A (.seq B C)))
    (hA : EvR P X A (args ++ List.replicate (fn.ntmps - args.length) (.v undef)) m0 .normal t1 m1)
    (hB : ∀ ρ l, denL ρ t1 = some l → ∃ lc : List Value, denL ρ cap = some lc ∧ ∀ (w : World) (Q : Exit → Act → World → Prop), Q .normal ⟨(l.set slot (.func (.func g) #[] lc.toArray)).toArray, [{ target := .fn (.func g) lc.toArray, args := #[] }]⟩ w → B.wp P Q ⟨l.toArray, []⟩ w)
    (hi : ∀ (lc : List Value) (w : World), (invoke (.fn (.func g) lc.toArray) #[]).run P w = .ok (.enter g lc.toArray) w)
    (hC : EvR P X C (setN t1 slot (.unk m1.length 0)) (m1 ++ [.dead]) e t3 m3) (he : e = .ret ∨ e = .normal ∨ ∃ ch, e = .panic ch)
    (hD : CallDR P X g cap (modeOf e) m3 u' m4) (hu : settle u' = .returning) (hres : resS P t3 m4 fn.results.toList = some ls) : CallR P X F args m0 (tupS ls) m4 := by
  intro ρ own w l hl hr
  refine calls_of_wp_defers hfn hb ?_
  have e0 : (l.toArray ++ Array.replicate (fn.ntmps - l.toArray.size) undef : Array Value) = (l ++ List.replicate (fn.ntmps - l.length) undef).toArray := by simp
  rw [e0]
  have hfr : denL ρ (args ++ List.replicate (fn.ntmps - args.length) (.v undef)) = some (l ++ List.replicate (fn.ntmps - l.length) undef) := by
    rw [← denL_length hl]
    exact denL_append hl (denL_replicate ρ undef _)
  refine wp_seq (hA ρ own w _ [] _ hfr hr fun ρ1 own1 w1 l1 ht1 hl1 hr1 => ?_)
  obtain ⟨lc, hlc, hB1⟩ := hB ρ1 l1 hl1
  refine wp_seq (hB1 w1 _ ?_)
  have hl2 : denL (ρ1 ++ [.vals [.func (.func g) #[] lc.toArray]]) (setN t1 slot (.unk m1.length 0)) = some (l1.set slot (.func (.func g) #[] lc.toArray)) :=
    setN_den slot (denL_mono ⟨_, rfl⟩ hl1) (by simp only [den, ← hr1.len]; simp)
  refine hC _ own1 w1 _ _ _ hl2 (hr1.vals _) fun ρ3 own3 w3 l3 ht3 hl3 hr3 => ?_
  have hlc3 : denL ρ3 cap = some lc := by
    obtain ⟨lx, hx⟩ := ht3.ext
    refine denL_mono ⟨[.vals [.func (.func g) #[] lc.toArray]] ++ lx, ?_⟩ hlc
    rw [hx, List.append_assoc]
  have key : Leaves P fn l3.toArray (fun e w' => ∃ ρ' own' x, To ρ own w ρ' own' w' ∧ den ρ' (tupS ls) = some x ∧ Rep X ρ' own' m4 w' ∧ e = .returned x) [{ target := .fn (.func g) lc.toArray, args := #[] }] (modeOf e) w3 := by
    refine leaves_cons (by cases e <;> simp [modeOf]) (f := g) (args := lc.toArray) (hi lc w3) ((hD ρ3 own3 w3 lc hlc3 hr3).mono ?_)
    rintro e' v w' ⟨⟨x, rfl⟩, rfl, ρ4, own4, ht4, hr4⟩
    show Leaves P fn l3.toArray _ [] (settle v) w'
    rw [hu]
    obtain ⟨x2, hx2, hres2⟩ := results_sound hres (denL_mono ht4.ext hl3) hr4
    exact ⟨x2, hres2, ρ4, own4, x2, ((ht1.vals _).trans ht3).trans ht4, hx2, hr4, rfl⟩
  rcases he with rfl | rfl | ⟨ch, rfl⟩ <;> exact key
end
section
variable {P : Program} {X : Ext} {Γ : Env}
/-- What a function comes to that defers a closure: 'capOf' tells what the closure holds, 'catch' what it makes of a panic. -/
noncomputable def guardK (P : Program) (rs : List ResultVar) (j : Nat) (catch_ : List PanicEntry → List SObj → Option (List SObj)) : SEx → List Sv → List SObj → Option (Sv × List SObj) := fun e t m => match e with
  | .ret => (match resS P t m rs with
    | some l => some (tupS l, m.take j)
    | none => none)
  | .normal => (match resS P t m rs with
    | some l => some (tupS l, m.take j)
    | none => none)
  | .panic ch => (match catch_ ch m with
    | some m4 => (match resS P t m4 rs with
      | some l => some (tupS l, m4.take j)
      | none => none)
    | none => none)
  | .exit _ => none
noncomputable def guardE (P : Program) (Γ : Env) (n : Nat) (A C : Code) (rs : List ResultVar) (slot nt j : Nat) (catch_ : List Sv → List PanicEntry → List SObj → Option (List SObj)) (t0 : List Sv) (m0 : List SObj) : Option (Sv × List SObj) :=
  ev P Γ n (fun _ => none) A t0 m0 fun e t1 m1 => match e with
    | .normal => bif Nat.beq t1.length nt then ev P Γ n (fun _ => none) C (setN t1 slot (.unk m1.length 0)) (m1 ++ [.dead]) (guardK P rs j (catch_ t1)) else none
    | _ => none
theorem callR_guardE (hΓ : EnvOk P X Γ) {n : Nat} {F : FuncId} {fn : Func} {A B C : Code} {args : List Sv} {m0 M : List SObj} {S : Sv} {g : FuncId} {slot nt j : Nat} {capOf : List Sv → List Sv} {catch_ : List Sv → List PanicEntry → List SObj → Option (List SObj)}
    (h : guardE P Γ n A C fn.results.toList slot nt j catch_ (args ++ List.replicate (fn.ntmps - args.length) (.v undef)) m0 = some (S, M))
    (hfn : P.funcs[F]? = some fn) (hb : fn.body = some (.seq A (.seq B C)))
    (hB : ∀ t1 : List Sv, t1.length = nt → ∀ ρ l, denL ρ t1 = some l → ∃ lc : List Value, denL ρ (capOf t1) = some lc ∧ ∀ (w : World) (Q : Exit → Act → World → Prop), Q .normal ⟨(l.set slot (.func (.func g) #[] lc.toArray)).toArray, [{ target := .fn (.func g) lc.toArray, args := #[] }]⟩ w → B.wp P Q ⟨l.toArray, []⟩ w)
    (hi : ∀ (lc : List Value) (w : World), (invoke (.fn (.func g) lc.toArray) #[]).run P w = .ok (.enter g lc.toArray) w)
    (hidle : ∀ (t1 : List Sv) (m : List SObj), t1.length = nt → CallDR P X g (capOf t1) .returning m .returning m)
    (hcatch : ∀ (t1 : List Sv) (ch : List PanicEntry) (m m4 : List SObj), t1.length = nt → catch_ t1 ch m = some m4 → ∃ u, settle u = .returning ∧ CallDR P X g (capOf t1) (.panicking ch) m u m4)
    (hj : Nat.beq m0.length j = true) (hl : Nat.beq M.length j = true) (hc : clM j M = true) (hs : clS j S = true) : CallR P X F args m0 S M := by
  have hj := Nat.eq_of_beq_eq_true hj
  have hl := Nat.eq_of_beq_eq_true hl
  obtain ⟨e, t1, m1, h1, hA⟩ := ev_sound hΓ n _ _ _ _ _ _ (blkIn_none P X A) h
  cases e <;> try cases h1
  simp only at h1
  obtain ⟨hnt, h1⟩ := cond_some h1
  have hnt := Nat.eq_of_beq_eq_true hnt
  obtain ⟨e, t3, m3, h2, hC⟩ := ev_sound hΓ n _ _ _ _ _ _ (blkIn_none P X C) h1
  have fin : ∀ {m4 : List SObj}, CallR P X F args m0 S m4 → m4.take j = M → CallR P X F args m0 S M := fun {m4} hk e => by
    subst e
    rw [← List.take_append_drop j m4] at hk
    exact hk.drop (by omega) (by rw [hj]; exact hc) (by rw [hj]; exact hs)
  cases e with
  | exit id => cases h2
  | normal =>
    simp only [guardK] at h2
    split at h2
    · rename_i l hres
      simp only [Option.some.injEq, Prod.mk.injEq] at h2
      obtain ⟨rfl, h3⟩ := h2
      exact fin (callR_guard hfn hb hA (fun ρ l hl => hB t1 hnt ρ l hl) hi hC (.inr (.inl rfl)) (hidle t1 m3 hnt) rfl hres) h3
    · cases h2
  | ret =>
    simp only [guardK] at h2
    split at h2
    · rename_i l hres
      simp only [Option.some.injEq, Prod.mk.injEq] at h2
      obtain ⟨rfl, h3⟩ := h2
      exact fin (callR_guard hfn hb hA (fun ρ l hl => hB t1 hnt ρ l hl) hi hC (.inl rfl) (hidle t1 m3 hnt) rfl hres) h3
    · cases h2
  | panic ch =>
    simp only [guardK] at h2
    split at h2
    · rename_i m4 hm4
      split at h2
      · rename_i l hres
        simp only [Option.some.injEq, Prod.mk.injEq] at h2
        obtain ⟨rfl, h3⟩ := h2
        obtain ⟨u, hu, hD⟩ := hcatch t1 ch m3 m4 hnt hm4
        exact fin (callR_guard hfn hb hA (fun ρ l hl => hB t1 hnt ρ l hl) hi hC (.inr (.inr ⟨ch, rfl⟩)) hD hu hres) h3
      · cases h2
    · cases h2
end
end Go.Ev
