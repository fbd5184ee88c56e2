/- Contracts: a function of values alone, told by a Lean function. -/
import Derived.Test.YtpgdpoloipifeaaNum
import Derived.Laws.Externs
namespace Go.Ev
open Go
set_option linter.unusedVariables false

/-- An answer of a function of values alone, in continuation style: guards, then the value. -/
abbrev Nice := (R : Type) → List Sv → (Sv → Option R) → Option R

def pureSpec (s : Nice) : Spec := fun R args m k _ => s R args fun x => k x m

/-- What is to be shown of it. -/
def NiceOk (P : Program) (Γ : Env) (n : Nat) (f : FuncId) (s : Nice) : Prop :=
  ∀ (R : Type) args (kv : Sv → Option R) r, s R args kv = some r → ∃ x, kv x = some r ∧ grL args = true ∧ gr x = true ∧ evF (R := Sv) P Γ n f args [] (fun x _ => some x) (fun _ _ => none) = some x

theorem specOk_of_nice {P : Program} {X : Ext} {Γ : Env} (hΓ : EnvOk P X Γ) {n : Nat} {f : FuncId} {s : Nice} (h : NiceOk P Γ n f s) : SpecOk P X f (pureSpec s) := by
  intro R args m k kp r hr
  obtain ⟨x, h1, h2, h3, h4⟩ := h R args _ r hr
  rcases evF_sound hΓ n _ _ _ _ _ _ h4 with ⟨_, h5 | h5⟩ | h5
  · obtain ⟨sv, m', h6, h7⟩ := h5
    simp at h6; subst h6
    refine .inl ⟨sv, m, h1, fun ρ own w l hl hrep => ?_⟩
    obtain ⟨la, hla⟩ := denL_gr h2
    have e : la = l := Option.some.inj ((hla ρ).symm.trans hl)
    subst e
    obtain ⟨v, hv⟩ := den_gr h3
    refine (h7 [] (fun _ => none) w la (hla []) (Rep.nil X w)).mono fun e w' ⟨ρ', own', x', ht, hx', _, he⟩ => ?_
    rw [hv] at hx'; simp at hx'; subst hx'
    have hk := ht.kept
    exact ⟨ρ, own, v, ⟨⟨[], by simp⟩, fun _ hb => .inl hb, ⟨hk.os, hk.tape, hk.output, hk.size, fun b hlt _ => hk.block b hlt rfl⟩⟩, hv ρ, hrep.same (fun b hb => hk.block b hb rfl) hk.size, he⟩
  · obtain ⟨_, _, h6, _⟩ := h5; cases h6
  · obtain ⟨sv, m', h6, h7⟩ := h5
    simp at h6; subst h6
    refine .inr (.inr ⟨sv, m, h1, fun ρ own w l hl hrep => ?_⟩)
    obtain ⟨la, hla⟩ := denL_gr h2
    have e : la = l := Option.some.inj ((hla ρ).symm.trans hl)
    subst e
    obtain ⟨v, hv⟩ := den_gr h3
    obtain ⟨ρ', own', x', w', h8, ht, hx', _, hq⟩ := h7 [] (fun _ => none) w la (hla []) (Rep.nil X w)
    rw [hv] at hx'; simp at hx'; subst hx'
    exact ⟨ρ, own, v, w', h8, ht.same, hv ρ, hrep.behind ht, hq⟩

/-- The same, each call by contracts of its own. -/
def NiceOkX (P : Program) (X : Ext) (f : FuncId) (s : Nice) : Prop :=
  ∀ (R : Type) args (kv : Sv → Option R) r, s R args kv = some r → ∃ x Γ n, kv x = some r ∧ grL args = true ∧ gr x = true ∧ EnvOk P X Γ ∧ evF (R := Sv) P Γ n f args [] (fun x _ => some x) (fun _ _ => none) = some x

theorem specOk_of_niceX {P : Program} {X : Ext} {f : FuncId} {s : Nice} (h : NiceOkX P X f s) : SpecOk P X f (pureSpec s) := by
  intro R args m k kp r hr
  obtain ⟨x, Γ, n, h1, h2, h3, hΓ, h4⟩ := h R args _ r hr
  rcases evF_sound hΓ n _ _ _ _ _ _ h4 with ⟨_, h5 | h5⟩ | h5
  · obtain ⟨sv, m', h6, h7⟩ := h5
    simp at h6; subst h6
    refine .inl ⟨sv, m, h1, fun ρ own w l hl hrep => ?_⟩
    obtain ⟨la, hla⟩ := denL_gr h2
    have e : la = l := Option.some.inj ((hla ρ).symm.trans hl)
    subst e
    obtain ⟨v, hv⟩ := den_gr h3
    refine (h7 [] (fun _ => none) w la (hla []) (Rep.nil X w)).mono fun e w' ⟨ρ', own', x', ht, hx', _, he⟩ => ?_
    rw [hv] at hx'; simp at hx'; subst hx'
    have hk := ht.kept
    exact ⟨ρ, own, v, ⟨⟨[], by simp⟩, fun _ hb => .inl hb, ⟨hk.os, hk.tape, hk.output, hk.size, fun b hlt _ => hk.block b hlt rfl⟩⟩, hv ρ, hrep.same (fun b hb => hk.block b hb rfl) hk.size, he⟩
  · obtain ⟨_, _, h6, _⟩ := h5; cases h6
  · obtain ⟨sv, m', h6, h7⟩ := h5
    simp at h6; subst h6
    refine .inr (.inr ⟨sv, m, h1, fun ρ own w l hl hrep => ?_⟩)
    obtain ⟨la, hla⟩ := denL_gr h2
    have e : la = l := Option.some.inj ((hla ρ).symm.trans hl)
    subst e
    obtain ⟨v, hv⟩ := den_gr h3
    obtain ⟨ρ', own', x', w', h8, ht, hx', _, hq⟩ := h7 [] (fun _ => none) w la (hla []) (Rep.nil X w)
    rw [hv] at hx'; simp at hx'; subst hx'
    exact ⟨ρ, own, v, w', h8, ht.same, hv ρ, hrep.behind ht, hq⟩

/-- One contract more. -/
def Env.add (Γ : Env) (f : FuncId) (s : Spec) : Env := ⟨fun g => match Nat.beq g f with
  | true => some s
  | false => Γ.specs g, Γ.wide, Γ.split, Γ.hooks, Γ.quiets, Γ.news⟩

/-- The same, with slots whose numbers are told one by one. -/
def Env.cut (Γ : Env) (l : List (Nat × Nat × Nat)) : Env := ⟨Γ.specs, Γ.wide, l, Γ.hooks, Γ.quiets, Γ.news⟩
theorem EnvOk.cut {P : Program} {X : Ext} {Γ : Env} (hΓ : EnvOk P X Γ) (l : List (Nat × Nat × Nat)) : EnvOk P X (Γ.cut l) := ⟨hΓ.mixed, hΓ.names, hΓ.specs, hΓ.quiets, hΓ.hooks, hΓ.news⟩

theorem EnvOk.add {P : Program} {X : Ext} {Γ : Env} (hΓ : EnvOk P X Γ) {f : FuncId} {s : Spec} (hc : callOkB P f = true) (hs : SpecOk P X f s) : EnvOk P X (Γ.add f s) :=
  ⟨hΓ.mixed, hΓ.names, fun g s' h => by
    simp only [Env.add] at h
    split at h
    · rename_i hg
      have := Nat.eq_of_beq_eq_true hg
      subst this
      simp at h; subst h
      exact .inl ⟨callOk_of hΓ hc, hs⟩
    · exact hΓ.specs g s' h, hΓ.quiets, hΓ.hooks, hΓ.news⟩

/-- A contract more of a call that leaves memory alone. -/
def Env.addQ (Γ : Env) (f : FuncId) (s : Spec) : Env := ⟨Γ.specs, Γ.wide, Γ.split, Γ.hooks, fun g => match Nat.beq g f with
  | true => some s
  | false => Γ.quiets g, Γ.news⟩
theorem EnvOk.addQ {P : Program} {X : Ext} {Γ : Env} (hΓ : EnvOk P X Γ) {f : FuncId} {s : Spec} (hc : callOkB P f = true) (hs : QSpecOk P X f s) : EnvOk P X (Γ.addQ f s) :=
  ⟨hΓ.mixed, hΓ.names, hΓ.specs, fun g s' h => by
    simp only [Env.addQ] at h
    split at h
    · rename_i hg
      have := Nat.eq_of_beq_eq_true hg
      subst this
      simp at h; subst h
      exact ⟨callOk_of hΓ hc, hs⟩
    · exact hΓ.quiets g s' h, hΓ.hooks, hΓ.news⟩

/-- A contract more of a call that only lays new objects. -/
def Env.addN (Γ : Env) (f : FuncId) (s : NSpec) : Env := ⟨Γ.specs, Γ.wide, Γ.split, Γ.hooks, Γ.quiets, fun g => match Nat.beq g f with
  | true => some (.n s)
  | false => Γ.news g⟩
/-- A contract more of a call that turns one object. -/
def Env.addW (Γ : Env) (f : FuncId) (s : WSpec) : Env := ⟨Γ.specs, Γ.wide, Γ.split, Γ.hooks, Γ.quiets, fun g => match Nat.beq g f with
  | true => some (.w s)
  | false => Γ.news g⟩
theorem EnvOk.addW {P : Program} {X : Ext} {Γ : Env} (hΓ : EnvOk P X Γ) {f : FuncId} {s : WSpec} (hc : callOkB P f = true) (hs : WSpecOk P X f s) : EnvOk P X (Γ.addW f s) :=
  ⟨hΓ.mixed, hΓ.names, hΓ.specs, hΓ.quiets, hΓ.hooks, fun g s' h => by
    simp only [Env.addW] at h
    split at h
    · rename_i hg
      have := Nat.eq_of_beq_eq_true hg
      subst this
      simp at h; subst h
      exact ⟨callOk_of hΓ hc, hs⟩
    · exact hΓ.news g s' h⟩
theorem EnvOk.addN {P : Program} {X : Ext} {Γ : Env} (hΓ : EnvOk P X Γ) {f : FuncId} {s : NSpec} (hc : callOkB P f = true) (hs : NSpecOk P X f s) : EnvOk P X (Γ.addN f s) :=
  ⟨hΓ.mixed, hΓ.names, hΓ.specs, hΓ.quiets, hΓ.hooks, fun g s' h => by
    simp only [Env.addN] at h
    split at h
    · rename_i hg
      have := Nat.eq_of_beq_eq_true hg
      subst this
      simp at h; subst h
      exact ⟨callOk_of hΓ hc, hs⟩
    · exact hΓ.news g s' h⟩
/-- A contract more of a call that turns some objects, or panics. -/
def Env.addP (Γ : Env) (f : FuncId) (s : PSpec) : Env := ⟨Γ.specs, Γ.wide, Γ.split, Γ.hooks, Γ.quiets, fun g => match Nat.beq g f with
  | true => some (.p s)
  | false => Γ.news g⟩
theorem EnvOk.addP {P : Program} {X : Ext} {Γ : Env} (hΓ : EnvOk P X Γ) {f : FuncId} {s : PSpec} (hc : callOkB P f = true) (hs : PSpecOk P X f s) : EnvOk P X (Γ.addP f s) :=
  ⟨hΓ.mixed, hΓ.names, hΓ.specs, hΓ.quiets, hΓ.hooks, fun g s' h => by
    simp only [Env.addP] at h
    split at h
    · rename_i hg
      have := Nat.eq_of_beq_eq_true hg
      subst this
      simp at h; subst h
      exact ⟨callOk_of hΓ hc, hs⟩
    · exact hΓ.news g s' h⟩
/-- A contract more of a call that leaves memory as it was, or panics: it may float. -/
def Env.addF (Γ : Env) (f : FuncId) (s : QPSpec) : Env := ⟨Γ.specs, Γ.wide, Γ.split, Γ.hooks, Γ.quiets, fun g => match Nat.beq g f with
  | true => some (.q s)
  | false => Γ.news g⟩
theorem EnvOk.addF {P : Program} {X : Ext} {Γ : Env} (hΓ : EnvOk P X Γ) {f : FuncId} {s : QPSpec} (hc : callOkB P f = true) (hs : QPOk P X f s) : EnvOk P X (Γ.addF f s) :=
  ⟨hΓ.mixed, hΓ.names, hΓ.specs, hΓ.quiets, hΓ.hooks, fun g s' h => by
    simp only [Env.addF] at h
    split at h
    · rename_i hg
      have := Nat.eq_of_beq_eq_true hg
      subst this
      simp at h; subst h
      exact ⟨callOk_of hΓ hc, hs⟩
    · exact hΓ.news g s' h⟩
/-- A function that counts as an effect. -/
def Env.widen (Γ : Env) (f : FuncId) : Env := ⟨Γ.specs, fun g => match Nat.beq g f with
  | true => true
  | false => Γ.wide g, Γ.split, Γ.hooks, Γ.quiets, Γ.news⟩
theorem EnvOk.widen {P : Program} {X : Ext} {Γ : Env} (hΓ : EnvOk P X Γ) (f : FuncId) : EnvOk P X (Γ.widen f) := ⟨hΓ.mixed, hΓ.names, hΓ.specs, hΓ.quiets, hΓ.hooks, hΓ.news⟩
/-- A function that answers no memory after all. -/
def Env.narrow (Γ : Env) (f : FuncId) : Env := ⟨Γ.specs, fun g => match Nat.beq g f with
  | true => false
  | false => Γ.wide g, Γ.split, Γ.hooks, Γ.quiets, Γ.news⟩
theorem EnvOk.narrow {P : Program} {X : Ext} {Γ : Env} (hΓ : EnvOk P X Γ) (f : FuncId) : EnvOk P X (Γ.narrow f) := ⟨hΓ.mixed, hΓ.names, hΓ.specs, hΓ.quiets, hΓ.hooks, hΓ.news⟩

theorem EnvOk.addX {P : Program} {X : Ext} {Γ : Env} (hΓ : EnvOk P X Γ) {f : FuncId} {s : Spec} (hs : ExtOk P X f s) : EnvOk P X (Γ.add f s) :=
  ⟨hΓ.mixed, hΓ.names, fun g s' h => by
    simp only [Env.add] at h
    split at h
    · rename_i hg
      have := Nat.eq_of_beq_eq_true hg
      subst this
      simp at h; subst h
      exact .inr hs
    · exact hΓ.specs g s' h, hΓ.quiets, hΓ.hooks, hΓ.news⟩

/-! ### Functions of floats that have no text -/
/-- A function without a text. -/
structure Bare (P : Program) (f : FuncId) (e : Array Value → Sem Value) : Prop where
  at_ : ∃ fn, P.funcs[f]? = some fn ∧ (fn.name == "runtime.NumGoroutine") = false ∧ fn.body.isNone = true ∧ Extern.findNext fn = none ∧ Extern.find fn = some e

theorem run_bare {P : Program} {f : FuncId} {e : Array Value → Sem Value} (h : Bare P f e) {args : Array Value} {w w' : World} {v : Value} (hr : (e args).run P w = .ok v w') :
    (callFunc f args).run P w = .ok (.value v) w' := by
  obtain ⟨fn, hf, hn, hb, h2, h3⟩ := h.at_
  rw [run_callFunc_extern hf hn hb h2 h3 args w, hr]; rfl

theorem denL_one {ρ : List Un} {x : Value} {l : List Value} (h : denL ρ [.v x] = some l) : l = [x] := by
  obtain ⟨y, ys, hy, hys, rfl⟩ := denL_cons h
  simp [denL] at hys; subst hys
  rw [den_vv hy]

theorem extR_quiet {P : Program} {X : Ext} {f : FuncId} {e : Array Value → Sem Value} (hb : Bare P f e) {x y : Value} {m : List SObj} (h : ∀ w, (e #[x]).run P w = .ok y w) : ExtR P X f [.v x] m (.v y) m := fun ρ own w l hl hr => by
  have := denL_one hl; subst this
  exact ⟨ρ, own, y, w, run_bare hb (h w), To.refl _ _ _, rfl, hr, fun _ => rfl⟩

theorem extR_nan {P : Program} {X : Ext} {f : FuncId} {e : Array Value → Sem Value} (hb : Bare P f e) {x : Value} {m : List SObj}
    (h : ∀ w, ∃ z w', (e #[x]).run P w = .ok (.float .f64 z) w' ∧ (Ieee.double.read z).isNaN = true ∧ (w' = w ∨ w' = { w with drawn := w.drawn + 1 })) : ExtR P X f [.v x] m (.nan m.length) (m ++ [.dead]) := fun ρ own w l hl hr => by
  have := denL_one hl; subst this
  obtain ⟨z, w', h1, hz, hw⟩ := h w
  have hd : den (ρ ++ [Un.nan z hz]) (.nan m.length) = some (.float .f64 z) := by simp only [den, ← hr.len]; simp
  rcases hw with rfl | rfl
  · obtain ⟨ht, hr'⟩ := hr.note (.nan z hz)
    exact ⟨_, own, _, _, run_bare hb h1, ht, hd, hr', fun h => by simp [gr] at h⟩
  · obtain ⟨ht, hr'⟩ := hr.drew.note (.nan z hz)
    have t0 : To ρ own w ρ own { w with drawn := w.drawn + 1 } := ⟨⟨[], by simp⟩, fun _ hb => .inl hb, ⟨rfl, rfl, rfl, Nat.le_refl _, fun _ _ _ => rfl⟩⟩
    exact ⟨_, own, _, _, run_bare hb h1, t0.trans ht, hd, hr', fun h => by simp [gr] at h⟩

theorem bitsX_ok {P : Program} {X : Ext} {f : FuncId} (hb : Bare P f Extern.MathFloatBits.float64bits) : ExtOk P X f bitsX := by
  intro R args m k kp r h
  unfold bitsX at h
  split at h
  · exact ⟨_, _, h, extR_quiet hb fun w => rfl⟩
  · cases h
theorem frombitsX_ok {P : Program} {X : Ext} {f : FuncId} (hb : Bare P f Extern.MathFloatBits.float64frombits) : ExtOk P X f frombitsX := by
  intro R args m k kp r h
  unfold frombitsX at h
  split at h
  · exact ⟨_, _, h, extR_quiet hb fun w => rfl⟩
  · cases h
theorem sqrt_at (x : Nat) : Extern.MathSqrt.sqrt #[.float .f64 x] = (match FloatKind.f64.format.sqrt x with
    | some r => pure (.float .f64 r)
    | none => do pure (.float .f64 (← choose (.nanBits .f64 x x)))) := rfl
theorem trunc_at (name : String) (way : Ieee.Toward) (x : Nat) : Extern.MathFloor.toIntegral name way #[.float .f64 x] = (match FloatKind.f64.decode x with
    | .nan s t =>
      if FloatKind.f64.format.quiet t = t then pure (.float .f64 x) else do
      let kept ← choose (.extern "math.Floor,Ceil,Trunc,RoundToEven.signallingNaN kept" 2)
      pure (.float .f64 (if kept == 1 then x else FloatKind.f64.encode (.nan s (FloatKind.f64.format.quiet t))))
    | d => pure (.float .f64 (FloatKind.f64.encode (d.integral way)))) := rfl
theorem sqrtX_ok {P : Program} {X : Ext} {f : FuncId} (hb : Bare P f Extern.MathSqrt.sqrt) : ExtOk P X f sqrtX := by
  intro R args m k kp r h
  unfold sqrtX at h
  split at h
  · rename_i a
    cases hok : fsqok a with
    | true =>
      rw [hok, cond_true] at h
      refine ⟨_, _, h, extR_quiet hb fun w => ?_⟩
      unfold fsqok at hok
      obtain ⟨r, hr⟩ := Option.isSome_iff_exists.1 hok
      rw [sqrt_at]; simp [FloatKind.format, fsqrt, hr]
    | false =>
      rw [hok, cond_false] at h
      refine ⟨_, _, h, extR_nan hb fun w => ?_⟩
      unfold fsqok at hok
      simp only [Option.isSome_eq_false_iff, Option.isNone_iff_eq_none] at hok
      exact ⟨_, _, by rw [sqrt_at]; simp [FloatKind.format, hok, choose, Sem.run, Question.forced]; rfl, nan_bits _ a a, .inr rfl⟩
  · cases h
theorem nan_read {x : Nat} {s : Bool} {t : Nat} (h : Ieee.double.read x = .nan s t) : 0 < t ∧ t < 4503599627370496 := by
  unfold Ieee.Format.read at h
  have e0 : Ieee.double.signWeight = 9223372036854775808 := by decide
  have e1 : Ieee.double.binade = 4503599627370496 := by decide
  have e2 : Ieee.double.infRung = 9218868437227405312 := by decide
  simp only [e0, e1, e2] at h
  have hlt : x % 9223372036854775808 < 9223372036854775808 := Nat.mod_lt _ (by omega)
  split at h
  · cases h
  · split at h
    · cases h
    · split at h
      · cases h
      · simp only [Ieee.Datum.nan.injEq] at h
        obtain ⟨_, rfl⟩ := h
        omega
theorem nan_write {s : Bool} {t : Nat} (h0 : 0 < t) (h1 : t < 4503599627370496) : (Ieee.double.read (Ieee.double.write (.nan s t))).isNaN = true := by
  have e0 : Ieee.double.signWeight = 9223372036854775808 := by decide
  have e1 : Ieee.double.binade = 4503599627370496 := by decide
  have e2 : Ieee.double.infRung = 9218868437227405312 := by decide
  simp only [Ieee.Format.write, Ieee.Format.word, e0, e1, e2, Nat.mod_eq_of_lt h1]
  unfold Ieee.Format.read
  simp only [e0, e1, e2]
  cases s
  · simp only [Bool.false_eq_true, if_false]
    rw [if_neg (by omega), if_neg (by omega), if_neg (by omega)]; rfl
  · simp only [if_true]
    rw [if_neg (by omega), if_neg (by omega), if_neg (by omega)]; rfl
theorem quiet_bd {t : Nat} (h0 : 0 < t) (h1 : t < 4503599627370496) : 0 < Ieee.double.quiet t ∧ Ieee.double.quiet t < 4503599627370496 := by
  have e : Ieee.double.quiet t = t ||| 2251799813685248 := rfl
  rw [e]
  refine ⟨?_, ?_⟩
  · rcases Nat.eq_zero_or_pos (t ||| 2251799813685248) with h | h
    · have := (Nat.or_eq_zero_iff.1 h).2; omega
    · exact h
  · exact Nat.or_lt_two_pow (n := 52) h1 (by decide)
theorem truncX_ok {P : Program} {X : Ext} {f : FuncId} (hb : Bare P f (Extern.MathFloor.toIntegral "math.archTrunc" .zero)) : ExtOk P X f truncX := by
  intro R args m k kp r h
  unfold truncX at h
  split at h
  · rename_i a
    cases hn : fnan a with
    | true =>
      rw [hn, cond_true] at h
      refine ⟨_, _, h, extR_nan hb fun w => ?_⟩
      unfold fnan at hn
      cases hd : Ieee.double.read a with
      | number s m i => rw [hd] at hn; cases hn
      | infinity s => rw [hd] at hn; cases hn
      | nan s t =>
        obtain ⟨h0, h1⟩ := nan_read hd
        by_cases hq : Ieee.double.quiet t = t
        · exact ⟨a, w, by rw [trunc_at]; simp [FloatKind.decode, FloatKind.format, hd, hq], by rw [hd]; rfl, .inl rfl⟩
        · obtain ⟨h2, h3⟩ := quiet_bd h0 h1
          have hz : ∀ n : Nat, (Ieee.double.read (if n = 1 then a else FloatKind.f64.encode (.nan s (Ieee.double.quiet t)))).isNaN = true := fun n => by
            split
            · rw [hd]; rfl
            · exact nan_write h2 h3
          exact ⟨_, _, by rw [trunc_at]; simp [FloatKind.decode, FloatKind.format, hd, hq, choose, Sem.run, Question.forced]; rfl, hz _, .inr rfl⟩
    | false =>
      rw [hn, cond_false] at h
      refine ⟨_, _, h, extR_quiet hb fun w => ?_⟩
      unfold fnan at hn
      cases hd : Ieee.double.read a with
      | nan s t => rw [hd] at hn; cases hn
      | number s m i => rw [trunc_at]; simp [FloatKind.decode, FloatKind.format, hd, ftrunc]
      | infinity s => rw [trunc_at]; simp [FloatKind.decode, FloatKind.format, hd, ftrunc]
  · cases h

/-! ### Blocks -/
def Env.hook (Γ : Env) (f : FuncId) (id : Nat) (h : Hook) : Env := ⟨Γ.specs, Γ.wide, Γ.split, fun g i => match Nat.beq g f with
  | true => (match Nat.beq i id with
    | true => some h
    | false => Γ.hooks g i)
  | false => Γ.hooks g i, Γ.quiets, Γ.news⟩

/-- The blocks of a function that bear a number. -/
def blksAt (P : Program) (f : FuncId) (id : Nat) : List Code :=
  match P.funcs[f]? with
  | some fn => match fn.body with
    | some c => ((blocksOf c).filter fun p => Nat.beq p.1 id).map (·.2)
    | none => []
  | none => []

theorem EnvOk.hook {P : Program} {X : Ext} {Γ : Env} (hΓ : EnvOk P X Γ) {f : FuncId} {id : Nat} {a : Code} {h : Hook} (hu : blksAt P f id = [a]) (hh : HookOk P X (.block id a) h) : EnvOk P X (Γ.hook f id h) :=
  ⟨hΓ.mixed, hΓ.names, hΓ.specs, hΓ.quiets, fun g fn c hfn hb i b s hm hs => by
    simp only [Env.hook] at hs
    split at hs
    · rename_i hg
      have := Nat.eq_of_beq_eq_true hg
      subst this
      split at hs
      · rename_i hi
        have := Nat.eq_of_beq_eq_true hi
        subst this
        simp at hs; subst hs
        have hmem : b ∈ blksAt P g i := by
          simp only [blksAt, hfn, hb, List.mem_map, List.mem_filter]
          exact ⟨(i, b), ⟨hm, by simp⟩, rfl⟩
        rw [hu] at hmem
        simp at hmem
        subst hmem
        exact hh
      · exact hΓ.hooks g fn c hfn hb i b s hm hs
    · exact hΓ.hooks g fn c hfn hb i b s hm hs, hΓ.news⟩

theorem hookOk_of_ev {P : Program} {X : Ext} {Γ : Env} (hΓ : EnvOk P X Γ) {c : Code} {h : Hook}
    (hev : ∀ (R : Type) t m (k : SEx → List Sv → List SObj → Option R) r, h R t m k = some r → ∃ n, ev P Γ n (fun _ => none) c t m k = some r) : HookOk P X c h := fun R t m k r hr => by
  obtain ⟨n, hn⟩ := hev R t m k r hr
  exact ev_sound hΓ n _ _ _ _ _ _ (blkIn_none P X c) hn

/-! ### Guards -/
def in8 (x : Int) : Bool := decide (0 ≤ x) && decide (x < 256)
def in16 (x : Int) : Bool := decide (0 ≤ x) && decide (x < 65536)
def in32 (x : Int) : Bool := decide (0 ≤ x) && decide (x < 4294967296)
def in64 (x : Int) : Bool := decide (0 ≤ x) && decide (x < 18446744073709551616)
def ini32 (x : Int) : Bool := decide (-2147483648 ≤ x) && decide (x < 2147483648)
def ini64 (x : Int) : Bool := decide (-9223372036854775808 ≤ x) && decide (x < 9223372036854775808)

theorem in8_iff {x : Int} : in8 x = true ↔ 0 ≤ x ∧ x < 256 := by simp [in8]
theorem in16_iff {x : Int} : in16 x = true ↔ 0 ≤ x ∧ x < 65536 := by simp [in16]
theorem in32_iff {x : Int} : in32 x = true ↔ 0 ≤ x ∧ x < 4294967296 := by simp [in32]
theorem in64_iff {x : Int} : in64 x = true ↔ 0 ≤ x ∧ x < 18446744073709551616 := by simp [in64]
theorem ini32_iff {x : Int} : ini32 x = true ↔ -2147483648 ≤ x ∧ x < 2147483648 := by simp [ini32]
theorem ini64_iff {x : Int} : ini64 x = true ↔ -9223372036854775808 ≤ x ∧ x < 9223372036854775808 := by simp [ini64]
theorem in8_wr (x : Int) : in8 (IntKind.u8.wrap x) = true := by rw [in8_iff, wr_u8]; omega
theorem in16_wr (x : Int) : in16 (IntKind.u16.wrap x) = true := by rw [in16_iff, wr_u16]; omega
theorem in32_wr (x : Int) : in32 (IntKind.u32.wrap x) = true := by rw [in32_iff, wr_u32]; omega
theorem in64_wr (x : Int) : in64 (IntKind.u64.wrap x) = true := by rw [in64_iff, wr_u64]; omega
theorem ini32_wr (x : Int) : ini32 (IntKind.i32.wrap x) = true := by rw [ini32_iff, wr_i32]; omega
theorem ini64_wr (x : Int) : ini64 (IntKind.i64.wrap x) = true := by rw [ini64_iff, wr_i64]; omega

/-- A u32 with its sign; a u64 with its. -/
def s32 (x : Int) : Int := if x < 2147483648 then x else x - 4294967296
def s64 (x : Int) : Int := if x < 9223372036854775808 then x else x - 18446744073709551616
theorem wr_i32_s {x : Int} (h : 0 ≤ x) (h' : x < 4294967296) : IntKind.i32.wrap x = s32 x := by rw [wr_i32]; unfold s32; split <;> omega
theorem wr_i64_s {x : Int} (h : 0 ≤ x) (h' : x < 18446744073709551616) : IntKind.i64.wrap x = s64 x := by rw [wr_i64]; unfold s64; split <;> omega
theorem s32_bd {x : Int} (h : 0 ≤ x) (h' : x < 4294967296) : -2147483648 ≤ s32 x ∧ s32 x < 2147483648 := by unfold s32; split <;> omega
theorem s64_bd {x : Int} (h : 0 ≤ x) (h' : x < 18446744073709551616) : -9223372036854775808 ≤ s64 x ∧ s64 x < 9223372036854775808 := by unfold s64; split <;> omega
end Go.Ev
