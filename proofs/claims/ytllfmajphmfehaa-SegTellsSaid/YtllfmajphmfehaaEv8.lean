/- Contracts: a function of values alone, told by a Lean function. -/
import Derived.Test.YtllfmajphmfehaaNum
namespace Go.Ev
open Go
set_option linter.unusedVariables false

/-- An answer of a function of values alone, in continuation style: guards, then the value. -/
abbrev Nice := (R : Type) → List Sv → (Sv → Option R) → Option R

def pureSpec (s : Nice) : Spec := fun R args m k _ => s R args fun x => k x m

/-- What is to be shown of it. -/
def NiceOk (P : Program) (Γ : Env) (n : Nat) (f : FuncId) (s : Nice) : Prop :=
  ∀ (R : Type) args (kv : Sv → Option R) r, s R args kv = some r → ∃ x, kv x = some r ∧ grL args = true ∧ gr x = true ∧ evF (R := Sv) P Γ n f args [] (fun x _ => some x) (fun _ _ => none) = some x

theorem specOk_of_nice {P : Program} {X : Ext} {Γ : Env} (hΓ : EnvOk P X Γ) {n : Nat} {f : FuncId} {s : Nice} (h : NiceOk P Γ n f s) : SpecOk P X f (pureSpec s) := by
  intro R args m k kp r hr
  obtain ⟨x, h1, h2, h3, h4⟩ := h R args _ r hr
  obtain ⟨_, h5 | h5⟩ := evF_sound hΓ n _ _ _ _ _ _ h4
  · obtain ⟨sv, m', h6, h7⟩ := h5
    simp at h6; subst h6
    refine .inl ⟨sv, m, h1, fun ρ own w l hl hrep => ?_⟩
    obtain ⟨la, hla⟩ := denL_gr h2
    have e : la = l := Option.some.inj ((hla ρ).symm.trans hl)
    subst e
    obtain ⟨v, hv⟩ := den_gr h3
    refine (h7 [] (fun _ => none) w la (hla []) (Rep.nil X w)).mono fun e w' ⟨ρ', own', x', ht, hx', _, he⟩ => ?_
    rw [hv] at hx'; simp at hx'; subst hx'
    have hk := ht.kept
    exact ⟨ρ, own, v, ⟨⟨[], by simp⟩, fun _ hb => .inl hb, ⟨hk.os, hk.tape, hk.output, hk.size, fun b hlt _ => hk.block b hlt rfl⟩⟩, hv ρ, hrep.same (fun b hb => hk.block b hb rfl) hk.size, he⟩
  · obtain ⟨_, _, h6, _⟩ := h5; cases h6

/-- The same, each call by contracts of its own. -/
def NiceOkX (P : Program) (X : Ext) (f : FuncId) (s : Nice) : Prop :=
  ∀ (R : Type) args (kv : Sv → Option R) r, s R args kv = some r → ∃ x Γ n, kv x = some r ∧ grL args = true ∧ gr x = true ∧ EnvOk P X Γ ∧ evF (R := Sv) P Γ n f args [] (fun x _ => some x) (fun _ _ => none) = some x

theorem specOk_of_niceX {P : Program} {X : Ext} {f : FuncId} {s : Nice} (h : NiceOkX P X f s) : SpecOk P X f (pureSpec s) := by
  intro R args m k kp r hr
  obtain ⟨x, Γ, n, h1, h2, h3, hΓ, h4⟩ := h R args _ r hr
  obtain ⟨_, h5 | h5⟩ := evF_sound hΓ n _ _ _ _ _ _ h4
  · obtain ⟨sv, m', h6, h7⟩ := h5
    simp at h6; subst h6
    refine .inl ⟨sv, m, h1, fun ρ own w l hl hrep => ?_⟩
    obtain ⟨la, hla⟩ := denL_gr h2
    have e : la = l := Option.some.inj ((hla ρ).symm.trans hl)
    subst e
    obtain ⟨v, hv⟩ := den_gr h3
    refine (h7 [] (fun _ => none) w la (hla []) (Rep.nil X w)).mono fun e w' ⟨ρ', own', x', ht, hx', _, he⟩ => ?_
    rw [hv] at hx'; simp at hx'; subst hx'
    have hk := ht.kept
    exact ⟨ρ, own, v, ⟨⟨[], by simp⟩, fun _ hb => .inl hb, ⟨hk.os, hk.tape, hk.output, hk.size, fun b hlt _ => hk.block b hlt rfl⟩⟩, hv ρ, hrep.same (fun b hb => hk.block b hb rfl) hk.size, he⟩
  · obtain ⟨_, _, h6, _⟩ := h5; cases h6

def callOkB (P : Program) (f : FuncId) : Bool :=
  match P.funcs[f]? with
  | some fn => fn.body.isSome
  | none => false

theorem callOk_of {P : Program} {X : Ext} {Γ : Env} (hΓ : EnvOk P X Γ) {f : FuncId} (h : callOkB P f = true) : CallOk P f := by
  unfold callOkB at h
  split at h
  · rename_i fn hfn; exact ⟨fn, hfn, h, hΓ.names f fn hfn⟩
  · cases h

/-- One contract more. -/
def Env.add (Γ : Env) (f : FuncId) (s : Spec) : Env := ⟨fun g => match Nat.beq g f with
  | true => some s
  | false => Γ.specs g, Γ.wide, Γ.split, Γ.hooks⟩

/-- The same, with slots whose numbers are told one by one. -/
def Env.cut (Γ : Env) (l : List (Nat × Nat × Nat)) : Env := ⟨Γ.specs, Γ.wide, l, Γ.hooks⟩
theorem EnvOk.cut {P : Program} {X : Ext} {Γ : Env} (hΓ : EnvOk P X Γ) (l : List (Nat × Nat × Nat)) : EnvOk P X (Γ.cut l) := ⟨hΓ.mixed, hΓ.names, hΓ.specs, hΓ.hooks⟩

theorem EnvOk.add {P : Program} {X : Ext} {Γ : Env} (hΓ : EnvOk P X Γ) {f : FuncId} {s : Spec} (hc : callOkB P f = true) (hs : SpecOk P X f s) : EnvOk P X (Γ.add f s) :=
  ⟨hΓ.mixed, hΓ.names, fun g s' h => by
    simp only [Env.add] at h
    split at h
    · rename_i hg
      have := Nat.eq_of_beq_eq_true hg
      subst this
      simp at h; subst h
      exact ⟨callOk_of hΓ hc, hs⟩
    · exact hΓ.specs g s' h, hΓ.hooks⟩

/-! ### Blocks -/
def Env.hook (Γ : Env) (f : FuncId) (id : Nat) (h : Hook) : Env := ⟨Γ.specs, Γ.wide, Γ.split, fun g i => match Nat.beq g f with
  | true => (match Nat.beq i id with
    | true => some h
    | false => Γ.hooks g i)
  | false => Γ.hooks g i⟩

/-- The blocks of a function that bear a number. -/
def blksAt (P : Program) (f : FuncId) (id : Nat) : List Code :=
  match P.funcs[f]? with
  | some fn => match fn.body with
    | some c => ((blocksOf c).filter fun p => Nat.beq p.1 id).map (·.2)
    | none => []
  | none => []

theorem EnvOk.hook {P : Program} {X : Ext} {Γ : Env} (hΓ : EnvOk P X Γ) {f : FuncId} {id : Nat} {a : Code} {h : Hook} (hu : blksAt P f id = [a]) (hh : HookOk P X (.block id a) h) : EnvOk P X (Γ.hook f id h) :=
  ⟨hΓ.mixed, hΓ.names, hΓ.specs, fun g fn c hfn hb i b s hm hs => by
    simp only [Env.hook] at hs
    split at hs
    · rename_i hg
      have := Nat.eq_of_beq_eq_true hg
      subst this
      split at hs
      · rename_i hi
        have := Nat.eq_of_beq_eq_true hi
        subst this
        simp at hs; subst hs
        have hmem : b ∈ blksAt P g i := by
          simp only [blksAt, hfn, hb, List.mem_map, List.mem_filter]
          exact ⟨(i, b), ⟨hm, by simp⟩, rfl⟩
        rw [hu] at hmem
        simp at hmem
        subst hmem
        exact hh
      · exact hΓ.hooks g fn c hfn hb i b s hm hs
    · exact hΓ.hooks g fn c hfn hb i b s hm hs⟩

theorem hookOk_of_ev {P : Program} {X : Ext} {Γ : Env} (hΓ : EnvOk P X Γ) {c : Code} {h : Hook}
    (hev : ∀ (R : Type) t m (k : SEx → List Sv → List SObj → Option R) r, h R t m k = some r → ∃ n, ev P Γ n (fun _ => none) c t m k = some r) : HookOk P X c h := fun R t m k r hr => by
  obtain ⟨n, hn⟩ := hev R t m k r hr
  exact ev_sound hΓ n _ _ _ _ _ _ (blkIn_none P X c) hn

/-! ### Guards -/
def in8 (x : Int) : Bool := decide (0 ≤ x) && decide (x < 256)
def in16 (x : Int) : Bool := decide (0 ≤ x) && decide (x < 65536)
def in32 (x : Int) : Bool := decide (0 ≤ x) && decide (x < 4294967296)
def in64 (x : Int) : Bool := decide (0 ≤ x) && decide (x < 18446744073709551616)
def ini32 (x : Int) : Bool := decide (-2147483648 ≤ x) && decide (x < 2147483648)
def ini64 (x : Int) : Bool := decide (-9223372036854775808 ≤ x) && decide (x < 9223372036854775808)

theorem in8_iff {x : Int} : in8 x = true ↔ 0 ≤ x ∧ x < 256 := by simp [in8]
theorem in16_iff {x : Int} : in16 x = true ↔ 0 ≤ x ∧ x < 65536 := by simp [in16]
theorem in32_iff {x : Int} : in32 x = true ↔ 0 ≤ x ∧ x < 4294967296 := by simp [in32]
theorem in64_iff {x : Int} : in64 x = true ↔ 0 ≤ x ∧ x < 18446744073709551616 := by simp [in64]
theorem ini32_iff {x : Int} : ini32 x = true ↔ -2147483648 ≤ x ∧ x < 2147483648 := by simp [ini32]
theorem ini64_iff {x : Int} : ini64 x = true ↔ -9223372036854775808 ≤ x ∧ x < 9223372036854775808 := by simp [ini64]
theorem in8_wr (x : Int) : in8 (IntKind.u8.wrap x) = true := by rw [in8_iff, wr_u8]; omega
theorem in16_wr (x : Int) : in16 (IntKind.u16.wrap x) = true := by rw [in16_iff, wr_u16]; omega
theorem in32_wr (x : Int) : in32 (IntKind.u32.wrap x) = true := by rw [in32_iff, wr_u32]; omega
theorem in64_wr (x : Int) : in64 (IntKind.u64.wrap x) = true := by rw [in64_iff, wr_u64]; omega
theorem ini32_wr (x : Int) : ini32 (IntKind.i32.wrap x) = true := by rw [ini32_iff, wr_i32]; omega
theorem ini64_wr (x : Int) : ini64 (IntKind.i64.wrap x) = true := by rw [ini64_iff, wr_i64]; omega

/-- A u32 with its sign; a u64 with its. -/
def s32 (x : Int) : Int := if x < 2147483648 then x else x - 4294967296
def s64 (x : Int) : Int := if x < 9223372036854775808 then x else x - 18446744073709551616
theorem wr_i32_s {x : Int} (h : 0 ≤ x) (h' : x < 4294967296) : IntKind.i32.wrap x = s32 x := by rw [wr_i32]; unfold s32; split <;> omega
theorem wr_i64_s {x : Int} (h : 0 ≤ x) (h' : x < 18446744073709551616) : IntKind.i64.wrap x = s64 x := by rw [wr_i64]; unfold s64; split <;> omega
theorem s32_bd {x : Int} (h : 0 ≤ x) (h' : x < 4294967296) : -2147483648 ≤ s32 x ∧ s32 x < 2147483648 := by unfold s32; split <;> omega
theorem s64_bd {x : Int} (h : 0 ≤ x) (h' : x < 18446744073709551616) : -9223372036854775808 ≤ s64 x ∧ s64 x < 9223372036854775808 := by unfold s64; split <;> omega
end Go.Ev
