/- From the reckoning to a law's row: how arguments are opened, what a call that makes true comes to. -/
import Derived.Test.YtpgdpoloipifeaaEv6
import Derived.Carry
import Derived.ProofKit
import Derived.OpenShut
import Derived.ChangeOld
import Derived.SizedLaws
import Derived.WalkKit
namespace Go.Ev
set_option linter.unusedVariables false
open Go Go.RowKit

/-- What a law's answer must be. -/
def isT : Sv → List SObj → Option Bool := fun s _ =>
  match s with
  | .v (.bool b) => some b
  | _ => none

def callOkB (P : Program) (f : FuncId) : Bool :=
  match P.funcs[f]? with
  | some fn => fn.body.isSome
  | none => false

theorem callOk_of {P : Program} {X : Ext} {Γ : Env} (hΓ : EnvOk P X Γ) {f : FuncId} (h : callOkB P f = true) : CallOk P f := by
  unfold callOkB at h
  split at h
  · rename_i fn hfn; exact ⟨fn, hfn, h, hΓ.names f fn hfn⟩
  · cases h

theorem law_calls {P : Program} {X : Ext} {Γ : Env} (hΓ : EnvOk P X Γ) {n : Nat} {f : FuncId} {args : List Sv} (h : evF P Γ n f args [] isT (fun _ _ => none) = some true) {l : List Value} (hl : denL [] args = some l) (hb : callOkB P f = true) (w : World) :
    Calls P f l.toArray w fun e w' => e = .returned (.bool true) ∧ Below w.heap.size w w' := by
  rcases evF_sound hΓ n _ _ _ _ _ _ h with ⟨_, h | h⟩ | h
  · obtain ⟨sv, m', h1, h2⟩ := h
    have hs : sv = .v (.bool true) := by
      unfold isT at h1
      split at h1
      · simp at h1; rw [h1]
      · cases h1
    subst hs
    refine (h2 [] (fun _ => none) w l hl (Rep.nil X w)).mono fun e w' ⟨ρ', own', x, ht, hx, _, he⟩ => ?_
    have := den_vv hx
    subst this
    exact ⟨he, ht.kept.os, ht.kept.tape, ht.kept.output, ht.kept.size, fun k hk => ht.kept.block k hk rfl⟩
  · obtain ⟨_, _, h, _⟩ := h; cases h
  · obtain ⟨sv, m', _, h2⟩ := h
    obtain ⟨_, _, x, w', h3, _⟩ := h2 [] (fun _ => none) w l hl (Rep.nil X w)
    obtain ⟨fn, hfn, hbd, hn⟩ := callOk_of hΓ hb
    have : fn.body.isNone = false := by cases h : fn.body <;> simp_all
    simp only [callFunc, Sem.run_bind, run_program, Result.andThen_ok, hfn] at h3
    simp [hn, this] at h3

/-- The kinds of a plain type's cells. -/
inductive CK where
  | int (k : IntKind)
  | bool

def ckFields (P : Program) (E : TypeId → Option (List CK)) : Nat → List Field → Option (List CK)
  | _, [] => some []
  | off, f :: fs => if f.offset = off then match E f.type with
      | some a => if a.length = P.cellsOf f.type then match ckFields P E (off + a.length) fs with
          | some b => some (a ++ b)
          | none => none
        else none
      | none => none
    else none
def ckRep : Nat → List CK → List CK
  | 0, _ => []
  | n + 1, ks => ks ++ ckRep n ks

def ckinds (P : Program) : Nat → TypeId → Option (List CK)
  | 0, _ => none
  | d + 1, t => match P.underlying t with
    | some .bool => some [.bool]
    | some (.int k) => some [.int k]
    | some (.struct fs) => match ckFields P (ckinds P d) 0 fs.toList with
      | some ks => if ks.length = P.cellsOf t then some ks else none
      | none => none
    | some (.array n e) => match ckinds P d e with
      | some ks => if ks.length = P.cellsOf e ∧ n * ks.length = P.cellsOf t then some (ckRep n ks) else none
      | none => none
    | _ => none

def fitsC : List CK → List Value → Prop
  | [], cs => cs = []
  | .int k :: ks, cs => ∃ n r, cs = .int k n :: r ∧ (Lit.int k n).wf = true ∧ fitsC ks r
  | .bool :: ks, cs => ∃ b r, cs = .bool b :: r ∧ fitsC ks r

theorem fitsC_append : ∀ {a b : List CK} {l l' : List Value}, fitsC a l → fitsC b l' → fitsC (a ++ b) (l ++ l')
  | [], b, l, l', h, h' => by simp only [fitsC] at h; subst h; simpa using h'
  | .int k :: a, b, l, l', h, h' => by
    obtain ⟨n, r, rfl, hw, hr⟩ := h
    exact ⟨n, r ++ l', rfl, hw, fitsC_append hr h'⟩
  | .bool :: a, b, l, l', h, h' => by
    obtain ⟨n, r, rfl, hr⟩ := h
    exact ⟨n, r ++ l', rfl, fitsC_append hr h'⟩

section
variable {H : Type} {enc : TypeId × Value → H} {P : Program} {w : World} {base : Nat} {spare : Nat → Bool} {held : Bool}

theorem fits_fields {E : TypeId → Option (List CK)} {m : Nat} (hE : ∀ t ks, E t = some ks → ∀ cs x, DataW.trod enc P w base spare held m t cs = some x → fitsC ks cs ∧ x.2 = []) {cs : List Value} :
    ∀ {fs : List Field} {off : Nat} {ks : List CK} {xs : List (DataW H × List MemPlace)}, ckFields P E off fs = some ks → xs.length = fs.length →
      (∀ (i : Nat) (f : Field), fs[i]? = some f → DataW.trod enc P w base spare held m f.type ((cs.drop f.offset).take (P.cellsOf f.type)) = xs[i]?) →
      fitsC ks ((cs.drop off).take ks.length) ∧ xs.flatMap (·.2) = []
  | [], off, ks, xs, h, hl, _ => by
    simp [ckFields] at h; subst h
    have : xs = [] := List.eq_nil_of_length_eq_zero (by simpa using hl)
    subst this
    simp [fitsC]
  | f :: fs, off, ks, xs, h, hl, hx => by
    simp only [ckFields] at h
    split at h
    · rename_i ho
      split at h
      · rename_i a ha
        split at h
        · rename_i hla
          split at h
          · rename_i b hb
            simp at h; subst h
            obtain ⟨x, xs, rfl⟩ : ∃ x xs', xs = x :: xs' := by cases xs with | nil => simp at hl | cons x xs' => exact ⟨x, xs', rfl⟩
            have h0 := hx 0 f rfl
            simp only [List.getElem?_cons_zero] at h0
            obtain ⟨h1, h2⟩ := hE _ _ ha _ _ h0
            obtain ⟨h3, h4⟩ := fits_fields hE hb (by simpa using hl) (fun i f' hf => by have := hx (i + 1) f' (by simpa using hf); simpa using this)
            refine ⟨?_, by simp [h2, h4]⟩
            subst ho
            rw [← hla] at h1
            have := fitsC_append h1 h3
            have e : (cs.drop f.offset).take (a ++ b).length = (cs.drop f.offset).take a.length ++ (cs.drop (f.offset + a.length)).take b.length := by
              rw [List.length_append, List.take_add, List.drop_drop]
            rw [e]; exact this
          · cases h
        · cases h
      · cases h
    · cases h

theorem fits_rep {ks : List CK} {m : Nat} {e : TypeId} {cs : List Value} (hks : ks.length = P.cellsOf e) (hE : ∀ cs x, DataW.trod enc P w base spare held m e cs = some x → fitsC ks cs ∧ x.2 = []) :
    ∀ (n i : Nat) {xs : List (DataW H × List MemPlace)}, xs.length = n → (∀ j, j < n → DataW.trod enc P w base spare held m e ((cs.drop ((i + j) * P.cellsOf e)).take (P.cellsOf e)) = xs[j]?) →
      fitsC (ckRep n ks) ((cs.drop (i * ks.length)).take (n * ks.length)) ∧ xs.flatMap (·.2) = []
  | 0, i, xs, hl, _ => by
    have : xs = [] := List.eq_nil_of_length_eq_zero hl
    subst this
    simp [ckRep, fitsC]
  | n + 1, i, xs, hl, hx => by
    obtain ⟨x, xs, rfl⟩ : ∃ x xs', xs = x :: xs' := by cases xs with | nil => simp at hl | cons x xs' => exact ⟨x, xs', rfl⟩
    have h0 := hx 0 (by omega)
    simp only [List.getElem?_cons_zero, Nat.add_zero] at h0
    obtain ⟨h1, h2⟩ := hE _ _ h0
    obtain ⟨h3, h4⟩ := fits_rep hks hE n (i + 1) (xs := xs) (by simpa using hl) (fun j hj => by
      have := hx (j + 1) (by omega)
      rw [show i + (j + 1) = i + 1 + j by omega] at this
      simpa using this)
    refine ⟨?_, by simp [h2, h4]⟩
    rw [← hks] at h1
    have := fitsC_append h1 h3
    have e1 : (cs.drop (i * ks.length)).take ((n + 1) * ks.length) = (cs.drop (i * ks.length)).take ks.length ++ (cs.drop ((i + 1) * ks.length)).take (n * ks.length) := by
      rw [show (n + 1) * ks.length = ks.length + n * ks.length by rw [Nat.succ_mul]; omega, List.take_add, List.drop_drop, show i * ks.length + ks.length = (i + 1) * ks.length by rw [Nat.succ_mul]]
    rw [e1]; exact this

theorem fits_of_trod : ∀ (d : Nat) {m : Nat} {t : TypeId} {ks : List CK}, ckinds P d t = some ks → ∀ cs x, DataW.trod enc P w base spare held m t cs = some x → fitsC ks cs ∧ x.2 = []
  | 0, m, t, ks, h, cs, x, hx => by simp [ckinds] at h
  | d + 1, m, t, ks, h, cs, x, hx => by
    simp only [ckinds] at h
    split at h
    · rename_i hu
      simp at h; subst h
      cases m with
      | zero => simp [DataW.trod] at hx
      | succ m =>
        unfold DataW.trod at hx
        rw [hu] at hx
        split at hx <;> simp_all [fitsC]
        subst hx; rfl
    · rename_i k hu
      simp at h; subst h
      obtain ⟨n, rfl, rfl, hw⟩ := DataW.trod_int hu hx
      exact ⟨⟨n, [], rfl, hw, rfl⟩, rfl⟩
    · rename_i fs hu
      split at h
      · rename_i ks' hk
        split at h
        · rename_i hlen
          simp at h; subst h
          obtain ⟨xs, m', rfl, rfl, hl, hxl, hf⟩ := DataW.trod_struct hu hx
          obtain ⟨h1, h2⟩ := fits_fields (fun t ks h cs x hx => fits_of_trod d h cs x hx) hk (by simpa using hxl) (fun i f hi => hf i f (by simpa using hi))
          refine ⟨?_, h2⟩
          have : (cs.drop 0).take ks'.length = cs := by rw [List.drop_zero]; exact List.take_of_length_le (by omega)
          rwa [this] at h1
        · cases h
      · cases h
    · rename_i n e hu
      split at h
      · rename_i ks' hk
        split at h
        · rename_i hlen
          simp at h; subst h
          obtain ⟨xs, m', rfl, rfl, hl, hxl, hf⟩ := DataW.trod_array hu hx
          obtain ⟨h1, h2⟩ := fits_rep hlen.1 (fun cs x hx => fits_of_trod d hk cs x hx) n 0 hxl (fun j hj => by simpa using hf j hj)
          refine ⟨?_, h2⟩
          have : (cs.drop (0 * ks'.length)).take (n * ks'.length) = cs := by rw [Nat.zero_mul, List.drop_zero]; exact List.take_of_length_le (by omega)
          rwa [this] at h1
        · cases h
      · cases h
    · cases h

/-- An argument of a plain type, opened: its cells, each of its kind; it meets no memory. -/
theorem open_plain {r : Reach} {b0 : Nat} {d : Nat} {t : TypeId} {ks : List CK} {v : Value} {x : DataW H} {ps : List MemPlace} (hk : ckinds P d t = some ks) (hv : Value.okWide P w r b0 t v) (h : DataW.Trod enc P w base spare held t v x ps) :
    ps = [] ∧ ∃ cs : List Value, fitsC ks cs ∧ v.cells = cs.toArray := by
  obtain ⟨fuel, hf⟩ := h
  obtain ⟨h1, h2⟩ := fits_of_trod d hk _ _ hf
  exact ⟨h2, v.cells.toList, h1, by simp⟩

theorem agg_of_cells {r : Reach} {b0 : Nat} {t : TypeId} {v : Value} (hu : aggT P t = true) (hv : Value.okWide P w r b0 t v) {cs : List Value} (h : v.cells = cs.toArray) : v = .agg cs.toArray := by
  unfold aggT at hu
  unfold Value.okWide at hv
  split at hu
  · rename_i d he
    rw [he] at hv
    cases d <;> first
      | (simp [aggD] at hu; done)
      | (obtain ⟨c, rfl, _⟩ := hv; simp [Value.cells] at h; rw [h])
  · cases hu
end
end Go.Ev
