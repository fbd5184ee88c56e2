/- Rows of which a function tells the cells, rows that grow: what is said of them holds. -/
import Derived.Test.YtpgdpoloipifeaaEvO
import Derived.LoopN
import Derived.Laws.MakeOwn
import Derived.Laws.Append
import Derived.Lib.ConvBytes
namespace Go.Ev
set_option linter.unusedVariables false
set_option linter.unusedSimpArgs false
open Go
section
variable {P : Program} {X : Ext}

def CallR (P : Program) (X : Ext) (f : FuncId) (args : List Sv) (m : List SObj) (s : Sv) (m' : List SObj) : Prop :=
  ∀ ρ own w l, denL ρ args = some l → Rep X ρ own m w → Calls P f l.toArray w fun e w' => ∃ ρ' own' x, To ρ own w ρ' own' w' ∧ den ρ' s = some x ∧ Rep X ρ' own' m' w' ∧ e = .returned x

def CallP (P : Program) (X : Ext) (f : FuncId) (args : List Sv) (m : List SObj) (ch : List PanicEntry) (m' : List SObj) : Prop :=
  ∀ ρ own w l, denL ρ args = some l → Rep X ρ own m w → Calls P f l.toArray w fun e w' => ∃ ρ' own', To ρ own w ρ' own' w' ∧ Rep X ρ' own' m' w' ∧ e = .panicked ch

/-- A function without a text. -/
def ExtR (P : Program) (X : Ext) (f : FuncId) (args : List Sv) (m : List SObj) (s : Sv) (m' : List SObj) : Prop :=
  ∀ ρ own w l, denL ρ args = some l → Rep X ρ own m w → ∃ ρ' own' x w', (callFunc f l.toArray).run P w = .ok (.value x) w' ∧ To ρ own w ρ' own' w' ∧ den ρ' s = some x ∧ Rep X ρ' own' m' w' ∧ (gr s = true → w' = w)

def ExtOk (P : Program) (X : Ext) (f : FuncId) (s : Spec) : Prop :=
  ∀ (R : Type) args m (k : Sv → List SObj → Option R) kp r, s R args m k kp = some r → ∃ sv m', k sv m' = some r ∧ ExtR P X f args m sv m'

def SpecOk (P : Program) (X : Ext) (f : FuncId) (s : Spec) : Prop :=
  ∀ (R : Type) args m (k : Sv → List SObj → Option R) kp r, s R args m k kp = some r →
    (∃ sv m', k sv m' = some r ∧ CallR P X f args m sv m') ∨ (∃ ch m', kp ch m' = some r ∧ CallP P X f args m ch m') ∨ (∃ sv m', k sv m' = some r ∧ ExtR P X f args m sv m')

def EvR (P : Program) (X : Ext) (c : Code) (t : List Sv) (m : List SObj) (e : SEx) (t' : List Sv) (m' : List SObj) : Prop :=
  ∀ ρ own w l ds (Q : Exit → Act → World → Prop), denL ρ t = some l → Rep X ρ own m w →
    (∀ ρ' own' w' l', To ρ own w ρ' own' w' → denL ρ' t' = some l' → Rep X ρ' own' m' w' → Q e.toExit ⟨l'.toArray, ds⟩ w') → c.wp P Q ⟨l.toArray, ds⟩ w

/-- What a hook answers, the code comes to. -/
def HookOk (P : Program) (X : Ext) (c : Code) (h : Hook) : Prop :=
  ∀ (R : Type) t m (k : SEx → List Sv → List SObj → Option R) r, h R t m k = some r → ∃ e t' m', k e t' m' = some r ∧ EvR P X c t m e t' m'

/-- The blocks within a text. -/
def blocksOf : Code → List (Nat × Code)
  | .seq a b => blocksOf a ++ blocksOf b
  | .cond _ a b => blocksOf a ++ blocksOf b
  | .block id a => (id, a) :: blocksOf a
  | .loop a => blocksOf a
  | _ => []

def BlkIn (P : Program) (X : Ext) (B : Nat → Option Hook) (c : Code) : Prop :=
  ∀ id a h, (id, a) ∈ blocksOf c → B id = some h → HookOk P X (.block id a) h

theorem blkIn_none (P : Program) (X : Ext) (c : Code) : BlkIn P X (fun _ => none) c := fun _ _ _ _ h => by cases h
theorem BlkIn.left {P : Program} {X : Ext} {B : Nat → Option Hook} {a b : Code} (h : BlkIn P X B (.seq a b)) : BlkIn P X B a := fun id c g hm => h id c g (by simp [blocksOf, hm])
theorem BlkIn.right {P : Program} {X : Ext} {B : Nat → Option Hook} {a b : Code} (h : BlkIn P X B (.seq a b)) : BlkIn P X B b := fun id c g hm => h id c g (by simp [blocksOf, hm])
theorem BlkIn.yes {P : Program} {X : Ext} {B : Nat → Option Hook} {x : Operand} {a b : Code} (h : BlkIn P X B (.cond x a b)) : BlkIn P X B a := fun id c g hm => h id c g (by simp [blocksOf, hm])
theorem BlkIn.no {P : Program} {X : Ext} {B : Nat → Option Hook} {x : Operand} {a b : Code} (h : BlkIn P X B (.cond x a b)) : BlkIn P X B b := fun id c g hm => h id c g (by simp [blocksOf, hm])
theorem BlkIn.inner {P : Program} {X : Ext} {B : Nat → Option Hook} {id : Nat} {a : Code} (h : BlkIn P X B (.block id a)) : BlkIn P X B a := fun i c g hm => h i c g (by simp [blocksOf, hm])
theorem BlkIn.round {P : Program} {X : Ext} {B : Nat → Option Hook} {a : Code} (h : BlkIn P X B (.loop a)) : BlkIn P X B a := h

/-- The contract of a call that leaves memory alone. -/
def QSpecOk (P : Program) (X : Ext) (f : FuncId) (s : Spec) : Prop :=
  ∀ (R : Type) args m (k : Sv → List SObj → Option R) kp r, s R args m k kp = some r → ∃ sv, k sv m = some r ∧ QuietR P X f args m sv

/-- The contract of a call that only lays new objects. -/
def NSpecOk (P : Program) (X : Ext) (f : FuncId) (s : NSpec) : Prop :=
  ∀ (R : Type) args m (k : Sv → List SObj → Option R) r, s R args m k = some r → ∃ sv ex, k sv ex = some r ∧ CallR P X f args m sv (m ++ ex)

/-- The contract of a call that turns one object. -/
def WSpecOk (P : Program) (X : Ext) (f : FuncId) (s : WSpec) : Prop :=
  ∀ (R : Type) args m (k : Sv → Nat → SObj → Option R) r, s R args m k = some r → ∃ sv g o, k sv g o = some r ∧ CallR P X f args m sv (m.set g o)
/-- The contract of a call that turns some objects, or panics. -/
def PSpecOk (P : Program) (X : Ext) (f : FuncId) (s : PSpec) : Prop :=
  ∀ (R : Type) args m (k : Sv → List (Nat × SObj) → Option R) kp r, s R args m k kp = some r → (∃ sv u, k sv u = some r ∧ CallR P X f args m sv (upds m u)) ∨ (∃ ch, kp ch = some r ∧ CallP P X f args m ch m)
/-- The contract of a call that leaves memory as it was, or panics, whatever stands beside what it looks at. -/
def QPOk (P : Program) (X : Ext) (f : FuncId) (s : QPSpec) : Prop :=
  ∀ (R : Type) args mq (k : Sv → Option R) kp r, s R args mq k kp = some r → (∃ sv, k sv = some r ∧ ∀ m, Compat mq m → CallR P X f args m sv m) ∨ (∃ ch, kp ch = some r ∧ ∀ m, Compat mq m → CallP P X f args m ch m)
def NWOk (P : Program) (X : Ext) (f : FuncId) : NW → Prop
  | .n s => NSpecOk P X f s
  | .w s => WSpecOk P X f s
  | .p s => PSpecOk P X f s
  | .q s => QPOk P X f s

structure EnvOk (P : Program) (X : Ext) (Γ : Env) : Prop where
  mixed : P.follows .mixedOrders = true
  names : ∀ (f : FuncId) (fn : Func), P.funcs[f]? = some fn → fn.name ≠ "runtime.NumGoroutine"
  specs : ∀ (f : FuncId) (s : Spec), Γ.specs f = some s → (CallOk P f ∧ SpecOk P X f s) ∨ ExtOk P X f s
  quiets : ∀ (f : FuncId) (s : Spec), Γ.quiets f = some s → CallOk P f ∧ QSpecOk P X f s
  hooks : ∀ (f : FuncId) (fn : Func) (c : Code), P.funcs[f]? = some fn → fn.body = some c → BlkIn P X (Γ.hooks f) c
  news : ∀ (f : FuncId) (s : NW), Γ.news f = some s → CallOk P f ∧ NWOk P X f s

structure EOk {R : Type} (P : Program) (X : Ext) (E : CallE R) : Prop where
  call : ∀ f args m k kp r, E false f args m k kp = some r → (CallOk P f ∧ ((∃ sv m', k sv m' = some r ∧ CallR P X f args m sv m') ∨ (∃ ch m', kp ch m' = some r ∧ CallP P X f args m ch m'))) ∨ (∃ sv m', k sv m' = some r ∧ ExtR P X f args m sv m')
  quiet : ∀ f args m k kp r, E true f args m k kp = some r → ∃ sv, k sv m = some r ∧ CallOk P f ∧ QuietR P X f args m sv

theorem To.same {ρ ρ' : List Un} {own own' : Nat → Option Nat} {w w' : World} (h : To [] (fun _ => none) w ρ' own' w') : To ρ own w ρ own w' :=
  have hk := h.kept
  ⟨⟨[], by simp⟩, fun _ hb => .inl hb, ⟨hk.os, hk.tape, hk.output, hk.size, fun b hlt _ => hk.block b hlt rfl⟩⟩
theorem Rep.behind {X : Ext} {ρ ρ' : List Un} {own own' : Nat → Option Nat} {m : List SObj} {w w' : World} (hr : Rep X ρ own m w) (h : To [] (fun _ => none) w ρ' own' w') : Rep X ρ own m w' :=
  hr.same (fun b hb => h.kept.block b hb rfl) h.kept.size

theorem cond_some {R : Type} {c : Bool} {x : Option R} {r : R} (h : (bif c then x else none) = some r) : c = true ∧ x = some r := by
  cases c <;> simp_all

theorem pureOk_of {R : Type} {E : CallE R} (hE : EOk P X E) : PureOk P X (pureE E) := by
  intro f args m kv r h
  unfold pureE at h
  cases hg : grL args with
  | false =>
    rw [hg, cond_false] at h
    obtain ⟨sv, h1, h2, h3⟩ := hE.quiet _ _ _ _ _ _ h
    exact .inr ⟨sv, h1, h2, h3⟩
  | true =>
  refine .inl ?_
  rw [hg, cond_true] at h
  rcases hE.call _ _ _ _ _ _ h with ⟨hok, h | h⟩ | h
  · obtain ⟨sv, m', h1, h2⟩ := h
    obtain ⟨hs, h1⟩ := cond_some h1
    obtain ⟨l, hl⟩ := denL_gr hg
    obtain ⟨x, hx⟩ := den_gr hs
    refine ⟨sv, x, l, h1, hx, hl, .inl ⟨hok, fun w => ?_⟩⟩
    exact (h2 [] (fun _ => none) w l (hl []) (Rep.nil X w)).mono fun e w' ⟨ρ', own', x', ht, hx', _, he⟩ => by
      rw [hx] at hx'; simp at hx'; subst hx'
      exact ⟨he, ht.kept⟩
  · obtain ⟨_, _, h, _⟩ := h; cases h
  · obtain ⟨sv, m', h1, h2⟩ := h
    obtain ⟨hs, h1⟩ := cond_some h1
    obtain ⟨l, hl⟩ := denL_gr hg
    obtain ⟨x, hx⟩ := den_gr hs
    refine ⟨sv, x, l, h1, hx, hl, .inr fun w => ?_⟩
    obtain ⟨ρ', own', x', w', h3, _, h4, _, h5⟩ := h2 [] (fun _ => none) w l (hl []) (Rep.nil X w)
    rw [hx] at h4; simp at h4; subst h4
    rw [h3, h5 hs]

theorem wp_of_quiet1 {o : Oper} {a : Act} {w : World} {K : Act → World → Prop} {Q : Exit → Act → World → Prop} {C : World → Prop} {x : Value} (hw : C w) (hq : ∀ w, C w → o.quietAt P a C w x)
    (hK : ∀ w', C w' → K (a.put o.dst x) w') : o.wp P a w K Q :=
  Oper.wp_of_quiet (C := C) (K := fun a' => a' = a.put o.dst x) hw (fun a' w' hw' he => by subst he; exact hK w' hw') ⟨x, hq, rfl⟩

def OpR (P : Program) (X : Ext) (o : Oper) (t : List Sv) (m : List SObj) (x : Sv) (m' : List SObj) : Prop :=
  ∀ ρ own w l ds (K : Act → World → Prop) (Q : Exit → Act → World → Prop), denL ρ t = some l → Rep X ρ own m w →
    (∀ ρ' own' w' vx, To ρ own w ρ' own' w' → den ρ' x = some vx → Rep X ρ' own' m' w' → K (Act.put ⟨l.toArray, ds⟩ o.dst vx) w') → o.wp P ⟨l.toArray, ds⟩ w K Q

def OpP (P : Program) (X : Ext) (o : Oper) (t : List Sv) (m : List SObj) (ch : List PanicEntry) (m' : List SObj) : Prop :=
  ∀ ρ own w l ds (K : Act → World → Prop) (Q : Exit → Act → World → Prop), denL ρ t = some l → Rep X ρ own m w →
    (∀ ρ' own' w', To ρ own w ρ' own' w' → Rep X ρ' own' m' w' → Q (.panic ch) ⟨l.toArray, ds⟩ w') → o.wp P ⟨l.toArray, ds⟩ w K Q

theorem opR_of_qop {R : Type} {E : CallE R} (hE : EOk P X E) {o : Oper} {t : List Sv} {m : List SObj} {kv : Sv → Option R} {r : R} (h : qop P (pureE E) o t m kv = some r) :
    ∃ x, kv x = some r ∧ OpR P X o t m x m := by
  obtain ⟨sv, h1, h2⟩ := qop_sound (pureOk_of hE) h
  refine ⟨sv, h1, fun ρ own w l ds K Q hl hr hK => ?_⟩
  obtain ⟨x, hx, hq⟩ := h2.all ρ own (fun w' => To ρ own w ρ own w' ∧ Rep X ρ own m w') w l ds ⟨To.refl _ _ _, hr⟩ (fun _ hw => hw.2)
    (fun w1 w2 ⟨ht, hrep⟩ hk => ⟨ht.trans ⟨⟨[], by simp⟩, fun _ hb => .inl hb, ⟨hk.os, hk.tape, hk.output, hk.size, fun b hlt _ => hk.block b hlt rfl⟩⟩, hrep.same (fun b hb => hk.block b hb rfl) hk.size⟩) hl
  exact wp_of_quiet1 (C := fun w' => To ρ own w ρ own w' ∧ Rep X ρ own m w') ⟨To.refl _ _ _, hr⟩ hq fun w' hw' => hK ρ own w' x hw'.1 hx hw'.2

theorem oneL_one {ρ : List Un} : ∀ {cs : List Sv} {l : List Value}, oneL cs = true → denL ρ cs = some l → ∀ v ∈ l, v.oneCell' = true
  | [], l, _, h, v, hv => by simp [denL] at h; subst h; simp at hv
  | c :: cs, l, hc, h, v, hv => by
    obtain ⟨x, xs, hx, hxs, rfl⟩ := denL_cons h
    simp only [oneL, Bool.and_eq_true] at hc
    rcases List.mem_cons.1 hv with rfl | hv
    · cases c with
      | v y => simp [den] at hx; subst hx; simpa [one] using hc.1
      | ptr b off => obtain ⟨g, _, rfl⟩ := den_ptr hx; rfl
      | sl b off n cap => obtain ⟨g, _, rfl⟩ := den_sl hx; rfl
      | mp b => obtain ⟨g, _, rfl⟩ := den_mp hx; rfl
      | unk b i => simp [one] at hc
      | pix b off len i => obtain ⟨_, g, _, rfl⟩ := den_pix hx; rfl
      | sa b c off len => obtain ⟨g, n, _, _, _, rfl⟩ := den_sa hx; rfl
      | nan b => obtain ⟨_, _, rfl⟩ := den_nan hx; rfl
      | agg cs => simp [one] at hc
      | tup cs => simp [one] at hc
    · exact oneL_one hc.2 hxs v hv

theorem cellsS_sound {ρ : List Un} {s : Sv} {cs : List Sv} (h : cellsS s = some cs) {x : Value} (hx : den ρ s = some x) : ∃ l, denL ρ cs = some l ∧ x.cells = l.toArray ∧ ∀ v ∈ l, v.oneCell' = true := by
  unfold cellsS at h
  split at h
  · rename_i cs'
    obtain ⟨ho, h⟩ := cond_some h
    simp at h; subst h
    obtain ⟨l, hl, rfl⟩ := den_agg hx
    exact ⟨l, hl, rfl, oneL_one ho hl⟩
  · rename_i s' hn
    obtain ⟨ho, h⟩ := cond_some h
    simp at h; subst h
    have h1 := oneL_one (ρ := ρ) (cs := [s]) (by simp [oneL, ho]) (denL_mk hx rfl) x (by simp)
    refine ⟨[x], denL_mk hx rfl, ?_, by simpa using h1⟩
    cases x <;> first | rfl | (simp [Value.oneCell'] at h1)

theorem setRow_seg {w : World} {g : Nat} {l : List Value} {e : TypeId} (hg : w.heap[g]? = some (.cells l.toArray e (0, 0))) (off : Nat) {xs : List Value} (hfit : off + xs.length ≤ l.length) (h1 : ∀ v ∈ xs, v.oneCell' = true) :
    (storeCells ⟨g, off, none⟩ xs 0).run P w = .ok () (w.setRow g (l.take off ++ xs ++ l.drop (off + xs.length)).toArray) := by
  have := run_storeCells_at P g off e xs 0 l.toArray w hg (by simpa using hfit) h1
  simpa using this

def replV : Nat → List Value → List Value
  | 0, _ => []
  | n + 1, z => z ++ replV n z

theorem repl_den {ρ : List Un} {z : List Sv} {l : List Value} (h : denL ρ z = some l) : ∀ n, denL ρ (repl n z) = some (replV n l)
  | 0 => rfl
  | n + 1 => denL_append h (repl_den h n)

theorem replV_get (z : List Value) : ∀ (n i : Nat), (replV n z)[i]? = if i < n * z.length then z[i % z.length]? else none
  | 0, i => by simp [replV]
  | n + 1, i => by
    rw [replV, List.getElem?_append]
    have e : (n + 1) * z.length = n * z.length + z.length := Nat.succ_mul _ _
    by_cases hi : i < z.length
    · rw [if_pos hi, if_pos (by omega), Nat.mod_eq_of_lt hi]
    · rw [if_neg hi, replV_get z n]
      by_cases h2 : i - z.length < n * z.length
      · rw [if_pos h2, if_pos (by omega), Nat.mod_eq_sub_mod (Nat.le_of_not_lt hi)]
      · rw [if_neg h2, if_neg (by omega)]

theorem repl_range (z : Array Value) {s : Nat} (hs : z.size = s) (n : Nat) : ((Array.range (n * s)).map fun i => z[i % z.size]!) = (replV n z.toList).toArray := by
  apply Array.ext'
  apply List.ext_getElem?
  intro i
  simp only [Array.toList_map, Array.toList_range, List.getElem?_map]
  rw [replV_get]
  have hl : z.toList.length = s := by simpa using hs
  rw [hl]
  by_cases hi : i < n * s
  · have hpos : 0 < s := by rcases Nat.eq_zero_or_pos s with h | h; · subst h; omega
                            · exact h
    have hlt := Nat.mod_lt i hpos
    rw [if_pos hi, List.getElem?_range hi]
    simp only [Option.map_some, hs]
    rw [getElem!_pos z (i % s) (by omega)]
    simp [show i % s < z.size by omega]
  · rw [if_neg hi, List.getElem?_eq_none (by simp; omega)]
    rfl


/-! ### Rows of which a function tells the cells, rows that grow -/
theorem frOk.at {fr : Nat × Nat} {n i : Nat} (h : frOk fr n) (hi : i < n) : (decide (fr.1 ≤ i) && decide (i < fr.2)) = false := by
  rcases h with rfl | h
  · simp
  · have : ¬ fr.1 ≤ i := by omega
    simp [this]

theorem run_storeCells_fr (g o : Nat) (t : TypeId) (fr : Nat × Nat) : ∀ (vs : List Value) (i : Nat) (cur : Array Value) (w : World), w.heap[g]? = some (.cells cur t fr) → frOk fr cur.size → o + i + vs.length ≤ cur.size → (∀ v ∈ vs, v.oneCell' = true) →
    (storeCells ⟨g, o, none⟩ vs i).run P w = .ok () (w.setRow g (cur.toList.take (o + i) ++ vs ++ cur.toList.drop (o + i + vs.length)).toArray)
  | [], i, cur, w, hg, _, _, _ => by
    simp only [storeCells, List.append_nil, List.length_nil, Nat.add_zero, List.take_append_drop, Array.toArray_toList]
    rw [setRow_self w g cur t fr hg]
    rfl
  | v :: rest, i, cur, w, hg, hf, hl, h1 => by
    have hi : o + i < cur.size := by simp at hl; omega
    have hadd : (⟨g, o, none⟩ : Addr).add i = ⟨g, o + i, none⟩ := by unfold Addr.add; split <;> simp_all
    have hcell : w.cell? ⟨g, o + i, none⟩ = some cur[o + i] := by simp [World.cell?, hg, hi]
    have hfro : w.frozen? ⟨g, o + i, none⟩ = false := by
      have := hf.at hi
      obtain ⟨lo, hi'⟩ := fr
      simp only [World.frozen?, hg]
      exact this
    have hst : (store ((⟨g, o, none⟩ : Addr).add i) v).run P w = .ok () (w.setRow g (cur.setIfInBounds (o + i) v)) := by
      rw [hadd, run_store P w _ v _ (h1 v (by simp)), hcell]
      simp [hfro, setCell_eq_setRow w g (o + i) cur t fr v hg]
    have ih := run_storeCells_fr g o t fr rest (i + 1) (cur.setIfInBounds (o + i) v) (w.setRow g (cur.setIfInBounds (o + i) v)) (setRow_heap w g cur _ t _ hg) (by simpa using hf) (by simp at hl ⊢; omega) (fun x hx => h1 x (by simp [hx]))
    simp only [storeCells, Sem.run_bind, hst, Result.andThen_ok, ih, setRow_setRow]
    congr 3
    have e := list_seg_step cur.toList (o + i) v rest (by simp at hl ⊢; omega)
    simpa [Array.toList_setIfInBounds, Nat.add_assoc] using e

/-- A row's own block gets other cells. -/
theorem Rep.setRow' {ρ : List Un} {own : Nat → Option Nat} {m : List SObj} {w : World} (h : Rep X ρ own m w) {k g : Nat} {cs : Array Value} (hg : ρ[k]? = some (.blk g)) (hown : own g = some k) (o : SObj)
    (hob : ObjAt X ρ own k g (w.setRow g cs) o) : To ρ own w ρ own (w.setRow g cs) ∧ Rep X ρ own (m.set k o) (w.setRow g cs) := by
  have hne : ∀ b, b ≠ g → (w.setRow g cs).heap[b]? = w.heap[b]? := fun b hb => setRow_other w g b _ hb
  refine ⟨⟨⟨[], by simp⟩, fun _ hb => .inl hb, ⟨rfl, rfl, rfl, by simp, fun b _ hb => hne b (fun e' => by subst e'; rw [hown] at hb; cases hb)⟩⟩, ⟨by simp [h.len], fun b j hb => by simpa using h.lt b j hb, fun j o' ho ha => ?_⟩⟩
  by_cases hj : j = k
  · subst hj
    have hlt := (h.lt g j hown).2
    rw [List.getElem?_set_self hlt] at ho
    simp at ho; subst ho
    exact ⟨g, hg, hob⟩
  · rw [List.getElem?_set_ne (fun e' => hj e'.symm)] at ho
    obtain ⟨g2, hg2, hob2⟩ := h.obj j o' ho ha
    refine ⟨g2, hg2, hob2.stable (fun b hb => hne b (fun e' => ?_)) (fun b _ hb => hne b (fun e' => ?_)) (by simp)⟩
    · subst e'; rw [hown] at hb; simp at hb; exact hj hb.symm
    · subst e'; rw [hown] at hb; cases hb

theorem sizeS_info {T : TypeId} {n : Nat} (h : sizeS P T n = true) : ∃ i, P.info? T = some i ∧ i.size = n := by
  unfold sizeS at h
  split at h
  · rename_i i hi; exact ⟨i, hi, by have := Nat.eq_of_beq_eq_true h; omega⟩
  · cases h

theorem storeArr_sound {R : Type} {T : TypeId} {b : Nat} {q : IntKind} {e : TypeId} {n : Nat} {F : Int → Int} {j : Int} {xv : Sv} {m : List SObj} {k : List SObj → Option R} {r : R} (h : storeArr P T b q e n F j xv m k = some r) (hm : m[b]? = some (.arr q e n F)) :
    ∃ o, k (m.set b o) = some r ∧ ∀ ρ own w g (i : Nat) vx, j = (i : Int) → ρ[b]? = some (.blk g) → den ρ xv = some vx → Rep X ρ own m w →
      ∃ w', (Instr.storeAt T (.pointer (some ⟨g, i, none⟩)) vx).run P w = .ok () w' ∧ To ρ own w ρ own w' ∧ Rep X ρ own (m.set b o) w' := by
  unfold storeArr at h
  split at h
  · rename_i q' v
    obtain ⟨hb, h9⟩ := cond_some h
    clear h
    simp only [Bool.and_eq_true, decide_eq_true_eq] at hb
    obtain ⟨hsz, hq, hjn⟩ := hb
    subst hq
    refine ⟨_, h9, fun ρ own w g i vx hji hg hvx hr => ?_⟩
    have := den_vv hvx; subst this
    subst hji
    obtain ⟨g', hg', hown, l, h1, h2, hh⟩ := hr.obj b _ hm rfl
    rw [hg] at hg'; simp at hg'; subst hg'
    obtain ⟨ii, hi, his⟩ := sizeS_info hsz
    have hil : i < l.length := by omega
    have hst := setRow_seg (P := P) hh i (xs := [.int q' v]) (by simp; omega) (by intro v hv; simp at hv; subst hv; rfl)
    have hl2 : l.take i ++ [Value.int q' v] ++ l.drop (i + [Value.int q' v].length) = l.set i (.int q' v) := by
      rw [List.set_eq_take_append_cons_drop, if_pos hil]; simp
    rw [hl2] at hst
    obtain ⟨ht, hr'⟩ := hr.setRow' (cs := (l.set i (.int q' v)).toArray) hg hown (.arr q' e n (updM F (i : Int) v))
      ⟨hown, l.set i (.int q' v), by simpa using h1, fun x hx => by
        rw [List.getElem?_set]
        by_cases hxi : i = x
        · subst hxi; simp [hil, updM]
        · rw [if_neg hxi, h2 x hx]
          have : ((x : Int) == (i : Int)) = false := by simp; omega
          simp [updM, this], setRow_heap w g _ _ e _ hh⟩
    exact ⟨_, by simp [Instr.storeAt, Instr.sureAddr, storeVar, run_sizeOf w hi, his, Value.cells, hst], ht, hr'⟩
  · cases h

theorem offI_cast (off : Nat) {i : Int} (h : 0 ≤ i) : offI off i = ((off + i.toNat : Nat) : Int) := by cases off <;> simp only [offI] <;> omega

theorem zerosGo_spec {q : IntKind} {ρ : List Un} : ∀ {z : List Sv} {n : Nat} {l : List Value}, zerosGo q z n = true → denL ρ z = some l → l.length = n ∧ ∀ i : Nat, i < n → l[i]? = some (.int q 0)
  | [], 0, l, _, hl => by simp [denL] at hl; subst hl; exact ⟨rfl, fun i hi => by omega⟩
  | [], n + 1, l, h, _ => by simp [zerosGo] at h
  | s :: z, 0, l, h, _ => by cases s <;> (try rename_i x; cases x) <;> simp [zerosGo] at h
  | s :: z, n + 1, l, h, hl => by
    obtain ⟨x, xs, hx, hxs, rfl⟩ := denL_cons hl
    cases s with
    | v y =>
      cases y with
      | int q' y =>
        simp only [zerosGo] at h
        split at h
        · rename_i hc
          simp only [Bool.and_eq_true, decide_eq_true_eq, beq_iff_eq] at hc
          obtain ⟨rfl, rfl⟩ := hc
          have := den_vv hx; subst this
          obtain ⟨h1, h2⟩ := zerosGo_spec h hxs
          refine ⟨by simp [h1], fun i hi => ?_⟩
          cases i with
          | zero => rfl
          | succ i => simpa using h2 i (by omega)
        · cases h
      | _ => simp [zerosGo] at h
    | _ => simp [zerosGo] at h
theorem bigZ_spec {e : TypeId} {z : List Sv} {q : IntKind} {n : Nat} (h : bigZ P e z = some (q, n)) : zerosGo q z n = true := by
  unfold bigZ at h
  split at h
  · split at h
    · split at h
      · split at h
        · rename_i hz; simp at h; obtain ⟨rfl, rfl⟩ := h; exact hz
        · cases h
      · cases h
    · cases h
  · cases h

theorem mkRow_sound {R : Type} {T : TypeId} {l c : Sv} {m : List SObj} {k : Sv → List SObj → Option R} {r : R} (h : mkRow P T l c m k = some r) : ∃ x o, k x (m ++ [o]) = some r ∧
    ∀ ρ own w vl vc, den ρ l = some vl → den ρ c = some vc → Rep X ρ own m w → ∃ ρ' own' w' v, (Instr.makeSlice T vl vc).run P w = .ok v w' ∧ To ρ own w ρ' own' w' ∧ den ρ' x = some v ∧ Rep X ρ' own' (m ++ [o]) w' := by
  unfold mkRow at h
  split at h
  · rename_i e hu
    split at h
    · rename_i q hq
      split at h
      · rename_i ie hie
        split at h
        · rename_i ka a
          split at h
          · rename_i kc c
            obtain ⟨hb, h⟩ := cond_some h
            simp only [Bool.and_eq_true, decide_eq_true_eq] at hb
            obtain ⟨hby, hsz, hz, h0, hac, hc⟩ := hb
            have hby := Nat.le_of_ble_eq_true hby
            have hsz := Nat.eq_of_beq_eq_true hsz
            refine ⟨_, _, h, fun ρ own w vl vc hvl hvc hr => ?_⟩
            have := den_vv hvl; subst this
            have := den_vv hvc; subst this
            have hz2 : ie.zero = some (.int q 0) := by
              unfold zeroIs at hz
              split at hz
              · rename_i q' z hz'
                simp only [Bool.and_eq_true, decide_eq_true_eq, beq_iff_eq] at hz
                obtain ⟨rfl, rfl⟩ := hz; exact hz'
              · cases hz
            have hbc : (ie.bytes : Int) * c ≤ 281474976710656 := by
              have h1 : (ie.bytes : Int) ≤ 8 := by omega
              have h2 : (ie.bytes : Int) * c ≤ 8 * c := Int.mul_le_mul_of_nonneg_right h1 (by omega)
              omega
            have hrun := run_make (P := P) w T e ie _ hu hie hz2 ka kc a c h0 hac hbc (by omega)
            have hcells : (madeCells (Value.cells (.int q 0)) (c.toNat * ie.size)).toList = List.replicate c.toNat (.int q 0) := by
              simp only [madeCells, hsz, Nat.mul_one, Value.cells]
              apply List.ext_getElem?
              intro i
              simp only [Array.toList_map, Array.toList_range, List.getElem?_map, List.getElem?_replicate]
              by_cases hi : i < c.toNat
              · simp [hi, Nat.mod_one]
              · simp [hi]
            obtain ⟨own', ht, hr'⟩ := hr.allocObj (.cells (madeCells (Value.cells (.int q 0)) (c.toNat * ie.size)) e) (.arr q e c.toNat fun _ => 0) fun own' ho =>
              ⟨ho, List.replicate c.toNat (.int q 0), by simp, fun i hi => by simp [hi], by rw [heap_alloc_new, ← hcells]⟩
            refine ⟨_, own', _, _, hrun, ht, ?_, hr'⟩
            simp only [den, ← hr.len]
            simp
          · cases h
        · cases h
      · cases h
    · cases h
  · cases h

theorem ObjAt.reown {ρ : List Un} {own own' : Nat → Option Nat} {k g : Nat} {w : World} {o : SObj} (h : ObjAt X ρ own k g w o) (hk : ∀ x, own' x = some k ↔ own x = some k) (hn : ∀ x, x < w.heap.size → own x = none → own' x = none) : ObjAt X ρ own' k g w o := by
  cases o with
  | cells cs e => obtain ⟨h1, h2⟩ := h; exact ⟨(hk _).2 h1, h2⟩
  | ro base n f => obtain ⟨h1, h2, h3⟩ := h; exact ⟨hn _ h2 h1, h2, h3⟩
  | ext tag M =>
    obtain ⟨h1, h2⟩ := h
    have e : (fun b => own' b = some k) = fun b => own b = some k := funext fun b => propext (hk b)
    exact ⟨(hk _).2 h1, by rw [e]; exact h2⟩
  | pm q es => obtain ⟨h1, h2⟩ := h; exact ⟨(hk _).2 h1, h2⟩
  | it b n => obtain ⟨h1, h2⟩ := h; exact ⟨(hk _).2 h1, h2⟩
  | bm q qe M => obtain ⟨h1, h2⟩ := h; exact ⟨(hk _).2 h1, h2⟩
  | buf c cs e => obtain ⟨h1, h2⟩ := h; exact ⟨(hk _).2 h1, h2⟩
  | bufz z c cs e => obtain ⟨h1, h2⟩ := h; exact ⟨(hk _).2 h1, h2⟩
  | arr q e n F => obtain ⟨h1, h2⟩ := h; exact ⟨(hk _).2 h1, h2⟩
  | m1 q a es clk p nw => obtain ⟨h1, h2⟩ := h; exact ⟨(hk _).2 h1, h2⟩
  | rowd => trivial
  | dead => trivial

/-- A row that has grown: it may lie where it lay. -/
theorem Rep.moved {ρ : List Un} {own : Nat → Option Nat} {m : List SObj} {w : World} (h : Rep X ρ own m w) {b g : Nat} {cs : Array Value} (hg : ρ[b]? = some (.blk g)) (hown : own g = some b) (n : Nat) (o : SObj)
    (hob : ∀ own' : Nat → Option Nat, own' g = some m.length → ObjAt X (ρ ++ [.blk g, .cap n]) own' m.length g (w.setRow g cs) o) :
    ∃ own', To ρ own w (ρ ++ [.blk g, .cap n]) own' (w.setRow g cs) ∧ Rep X (ρ ++ [.blk g, .cap n]) own' (m.set b .dead ++ [o, .dead]) (w.setRow g cs) := by
  have hpre : ∃ l, ρ ++ [Un.blk g, .cap n] = ρ ++ l := ⟨_, rfl⟩
  have hne : ∀ x, x ≠ g → (w.setRow g cs).heap[x]? = w.heap[x]? := fun x hx => setRow_other w g x _ hx
  refine ⟨fun x => if x = g then some m.length else own x, ⟨hpre, fun x hx => ?_, ⟨rfl, rfl, rfl, by simp, fun x _ hx => hne x (fun e => by subst e; rw [hown] at hx; cases hx)⟩⟩, ⟨by simp [h.len], fun x j hj => ?_, fun j o' ho ha => ?_⟩⟩
  · by_cases e : x = g
    · subst e; rw [hown] at hx; cases hx
    · exact .inl (by simp [e, hx])
  · split at hj
    · rename_i e; subst e; simp at hj; subst hj
      have := (h.lt x b hown).1
      simp; exact this
    · have := h.lt x j hj
      simp; omega
  · by_cases hj : j < m.length
    · rw [List.getElem?_append_left (by simpa using hj)] at ho
      by_cases hjb : j = b
      · subst hjb
        rw [List.getElem?_set_self hj] at ho
        simp at ho; subst ho; cases ha
      · rw [List.getElem?_set_ne (fun e => hjb e.symm)] at ho
        obtain ⟨g2, hg2, hob2⟩ := h.obj j o' ho ha
        refine ⟨g2, by rw [List.getElem?_append_left (List.getElem?_eq_some_iff.1 hg2).1]; exact hg2, ?_⟩
        have h1 := (hob2.stable (w' := w.setRow g cs) (fun x hx => hne x (fun e => by subst e; rw [hown] at hx; simp at hx; exact hjb hx.symm)) (fun x _ hx => hne x (fun e => by subst e; rw [hown] at hx; cases hx)) (by simp)).mono hpre
        exact h1.reown (fun x => by
          by_cases e : x = g
          · subst e
            simp only [if_true, hown, Option.some.injEq]
            constructor
            · intro e; omega
            · intro e; exact absurd e.symm hjb
          · simp [e]) (fun x _ hx => by
          by_cases e : x = g
          · subst e; rw [hown] at hx; cases hx
          · simp [e, hx])
    · rcases Nat.lt_or_ge j (m.length + 1) with h' | h'
      · have : j = m.length := by omega
        subst this
        rw [List.getElem?_append_right (by simp)] at ho
        simp at ho; subst ho
        exact ⟨g, by rw [← h.len]; simp, hob _ (by simp)⟩
      · rw [List.getElem?_append_right (by simp; omega)] at ho
        simp only [List.length_set] at ho
        rcases Nat.lt_or_ge j (m.length + 2) with h2 | h2
        · have : j - m.length = 1 := by omega
          rw [this] at ho; simp at ho; subst ho; cases ha
        · rw [List.getElem?_eq_none (by simp; omega)] at ho; cases ho

/-- A new row with a length of its own. -/
theorem Rep.allocCapW {ρ : List Un} {own : Nat → Option Nat} {m : List SObj} {w : World} {w2 : World} (h : Rep X ρ own m w) (hos : w2.os = w.os) (htp : w2.tape = w.tape) (hout : w2.output = w.output) (hsz : w2.heap.size = w.heap.size + 1) (hold : ∀ x, x < w.heap.size → w2.heap[x]? = w.heap[x]?) (n : Nat) (o : SObj)
    (hob : ∀ own' : Nat → Option Nat, own' w.heap.size = some m.length → ObjAt X (ρ ++ [.blk w.heap.size, .cap n]) own' m.length w.heap.size w2 o) :
    ∃ own', To ρ own w (ρ ++ [.blk w.heap.size, .cap n]) own' w2 ∧ Rep X (ρ ++ [.blk w.heap.size, .cap n]) own' (m ++ [o, .dead]) w2 := by
  have hpre : ∃ l, ρ ++ [Un.blk w.heap.size, .cap n] = ρ ++ l := ⟨_, rfl⟩
  refine ⟨fun x => if x = w.heap.size then some m.length else own x, ⟨hpre, fun x hx => ?_, ⟨hos, htp, hout, by omega, fun x hlt _ => hold x hlt⟩⟩, ⟨by simp [h.len], fun x j hj => ?_, fun j o' ho ha => ?_⟩⟩
  · by_cases e : x = w.heap.size
    · exact .inr (by omega)
    · exact .inl (by simp [e, hx])
  · split at hj
    · rename_i e; subst e; simp at hj; subst hj; simp; omega
    · have := h.lt x j hj
      simp; omega
  · by_cases hj : j < m.length
    · rw [List.getElem?_append_left hj] at ho
      obtain ⟨g2, hg2, hob2⟩ := h.obj j o' ho ha
      refine ⟨g2, by rw [List.getElem?_append_left (List.getElem?_eq_some_iff.1 hg2).1]; exact hg2, ?_⟩
      have hne : ∀ x, own x = some j → x ≠ w.heap.size := fun x hx e => by have := (h.lt x j hx).1; omega
      have h0 := hob2.reown (own' := fun x => if x = w.heap.size then some m.length else own x) (fun x => by
        by_cases e : x = w.heap.size
        · subst e
          simp only [if_true, Option.some.injEq]
          constructor
          · intro e; omega
          · intro e; exact absurd rfl (hne _ e)
        · simp [e]) (fun x hx h' => by simp [show x ≠ w.heap.size by omega, h'])
      exact (h0.stable (w' := w2) (fun x hx => hold x (by
          split at hx
          · simp at hx; omega
          · exact (h.lt x j hx).1)) (fun x hx _ => hold x hx) (by omega)).mono hpre
    · rcases Nat.lt_or_ge j (m.length + 1) with h' | h'
      · have : j = m.length := by omega
        subst this
        rw [List.getElem?_append_right (by simp)] at ho
        simp at ho; subst ho
        exact ⟨w.heap.size, by rw [← h.len]; simp, hob _ (by simp)⟩
      · rw [List.getElem?_append_right (by omega)] at ho
        rcases Nat.lt_or_ge j (m.length + 2) with h2 | h2
        · have : j - m.length = 1 := by omega
          rw [this] at ho; simp at ho; subst ho; cases ha
        · rw [List.getElem?_eq_none (by simp; omega)] at ho; cases ho

/-- A new row with two lengths of its own: of cells, of elements. -/
theorem Rep.allocCap2 {ρ : List Un} {own : Nat → Option Nat} {m : List SObj} {w : World} (h : Rep X ρ own m w) (ob : Obj) (n n2 : Nat) (o : SObj)
    (hob : ∀ own' : Nat → Option Nat, own' w.heap.size = some m.length → ObjAt X (ρ ++ [.blk w.heap.size, .cap n]) own' m.length w.heap.size (w.alloc ob) o) :
    ∃ own', To ρ own w (ρ ++ [.blk w.heap.size, .cap n, .cap n2]) own' (w.alloc ob) ∧ Rep X (ρ ++ [.blk w.heap.size, .cap n, .cap n2]) own' (m ++ [o, .dead, .dead]) (w.alloc ob) := by
  obtain ⟨own', ht, hr⟩ := h.allocCapW (w2 := w.alloc ob) rfl rfl rfl (by simp) (fun x hx => heap_alloc_old w ob hx) n o hob
  have e1 : ρ ++ [Un.blk w.heap.size, .cap n, .cap n2] = (ρ ++ [.blk w.heap.size, .cap n]) ++ [.cap n2] := by simp
  have e2 : m ++ [o, .dead, .dead] = (m ++ [o, .dead]) ++ [.dead] := by simp
  have hpre : ∃ l, (ρ ++ [Un.blk w.heap.size, .cap n]) ++ [.cap n2] = (ρ ++ [.blk w.heap.size, .cap n]) ++ l := ⟨_, rfl⟩
  rw [e1, e2]
  obtain ⟨⟨l', hl'⟩, hn, hk⟩ := ht
  refine ⟨own', ⟨⟨[.blk w.heap.size, .cap n] ++ [.cap n2], by simp⟩, hn, hk⟩, ⟨by simp [hr.len]; have := hr.len; simp at this; omega, fun b k hb => ⟨(hr.lt b k hb).1, by have := (hr.lt b k hb).2; simp at this ⊢; omega⟩, fun k o' ho ha => ?_⟩⟩
  by_cases hj : k < (m ++ [o, SObj.dead]).length
  · rw [List.getElem?_append_left hj] at ho
    obtain ⟨g2, hg2, hob2⟩ := hr.obj k o' ho ha
    exact ⟨g2, by rw [List.getElem?_append_left (List.getElem?_eq_some_iff.1 hg2).1]; exact hg2, hob2.mono hpre⟩
  · rw [List.getElem?_append_right (by omega)] at ho
    rcases Nat.eq_zero_or_pos (k - (m ++ [o, SObj.dead]).length) with h0 | h0
    · rw [h0] at ho; simp at ho; subst ho; cases ha
    · rw [List.getElem?_eq_none (by simp; simp at h0; omega)] at ho; cases ho

theorem Rep.allocCap {ρ : List Un} {own : Nat → Option Nat} {m : List SObj} {w : World} (h : Rep X ρ own m w) (ob : Obj) (n : Nat) (o : SObj)
    (hob : ∀ own' : Nat → Option Nat, own' w.heap.size = some m.length → ObjAt X (ρ ++ [.blk w.heap.size, .cap n]) own' m.length w.heap.size (w.alloc ob) o) :
    ∃ own', To ρ own w (ρ ++ [.blk w.heap.size, .cap n]) own' (w.alloc ob) ∧ Rep X (ρ ++ [.blk w.heap.size, .cap n]) own' (m ++ [o, .dead]) (w.alloc ob) :=
  h.allocCapW (w2 := w.alloc ob) rfl rfl rfl (by simp) (fun x hx => heap_alloc_old w ob hx) n o hob

theorem den_bufs {ρ : List Un} {g n L : Nat} (h : L ≤ n) : den (ρ ++ [.blk g, .cap n]) (.sa ρ.length (ρ.length + 1) 0 L) = some (.slice (some ⟨g, 0, none⟩) L n) := by
  simp [den, h]

theorem den_bufs2 {ρ : List Un} {g N n L : Nat} (h : L ≤ n) : den (ρ ++ [.blk g, .cap n, .cap N]) (.sa ρ.length (ρ.length + 1) 0 L) = some (.slice (some ⟨g, 0, none⟩) L n) := by
  simp [den, h]

theorem toBytes_sound {R : Type} {src dst : TypeId} {s : ByteArray} {m : List SObj} {k : Sv → List SObj → Option R} {r : R} (h : toBytes P src dst s m k = some r) : ∃ x m', k x m' = some r ∧
    ∀ ρ own w, Rep X ρ own m w → ∃ ρ' own' w' v, (convert src dst (.string s)).run P w = .ok v w' ∧ To ρ own w ρ' own' w' ∧ den ρ' x = some v ∧ Rep X ρ' own' m' w' := by
  unfold toBytes at h
  split at h
  · rename_i hs
    split at h
    · rename_i e hd
      split at h
      · rename_i he
        refine ⟨_, _, h, fun ρ own w hr => ?_⟩
        obtain ⟨cap, hcap⟩ : ∃ cap, cap = grownCap w s.size 0 e := ⟨_, rfl⟩
        have hle : s.size ≤ cap := by rw [hcap]; exact grownCap_ge w s.size 0 e
        have hbc : Lib.bytesCells w e s = ((s.data.toList.map fun (b : UInt8) => Value.int .u8 (b.toNat : Int)) ++ List.replicate (cap - s.size) (Value.int .u8 0)).toArray := by
          apply Array.ext'; simp [Lib.bytesCells, hcap]
        have hlen : (s.data.toList.map fun b => Value.int .u8 (b.toNat : Int)).length + (List.replicate (cap - s.size) (Value.int .u8 0)).length = cap := by
          have : s.data.toList.length = s.size := rfl
          simp only [List.length_map, List.length_replicate, this]; omega
        have hsz : (Lib.bytesCells w e s).size = cap := by rw [hbc]; simpa using hlen
        obtain ⟨own', ht, hr'⟩ := hr.allocCapW (w2 := Lib.bytesWorld w e s) (by unfold Lib.bytesWorld World.freeze; split <;> rfl) (by unfold Lib.bytesWorld World.freeze; split <;> rfl) (by unfold Lib.bytesWorld World.freeze; split <;> rfl) (Lib.bytesWorld_size w e s) (Lib.bytesWorld_at_old w e s) cap (.buf (m.length + 1) (strB s) e) fun own' ho =>
          ⟨ho, _, _, (cap, cap + 1), by
            have := denL_v (ρ ++ [.blk w.heap.size, .cap cap]) (s.data.toList.map fun b => Value.int .u8 (b.toNat : Int))
            rw [List.map_map] at this; exact this, by rw [hlen]; unfold capAt; rw [← hr.len]; simp, .inr (by rw [hlen]; exact Nat.le_refl _), by rw [Lib.bytesWorld_at_new, hsz, hbc]⟩
        refine ⟨_, own', _, .slice (some ⟨w.heap.size, 0, none⟩) s.size cap, ?_, ht, ?_, hr'⟩
        · rw [hcap]; exact Lib.run_convert_string_bytes w src dst e s hs hd he
        · have := den_bufs (ρ := ρ) (g := w.heap.size) hle
          rw [hr.len] at this; exact this
      · cases h
    · cases h
  · cases h

theorem Rep.kill {ρ : List Un} {own : Nat → Option Nat} {m : List SObj} {w : World} (h : Rep X ρ own m w) (b : Nat) : Rep X ρ own (m.set b .dead) w :=
  ⟨by simp [h.len], fun x j hj => by simpa using h.lt x j hj, fun j o ho ha => by
    by_cases e : j = b
    · subst e
      by_cases hlt : j < m.length
      · rw [List.getElem?_set_self hlt] at ho; simp at ho; subst ho; cases ha
      · rw [List.getElem?_eq_none (by simp; omega)] at ho; cases ho
    · rw [List.getElem?_set_ne (fun e' => e e'.symm)] at ho
      exact h.obj j o ho ha⟩

theorem srcS_sound {m : List SObj} {x : Sv} {sz n : Nat} {xs : List Sv} (h : srcS m x sz = some (n, xs)) {ρ : List Un} {own : Nat → Option Nat} {w : World} {vx : Value} (hvx : den ρ x = some vx) (hr : Rep X ρ own m w) :
    (vx = .slice none n 0 ∨ True) ∧ ∃ news, denL ρ xs = some news ∧ ((n = 0 ∧ xs = [] ∧ ∃ a b, vx = .slice none a b) ∨ ∃ a c, vx = .slice (some a) n c ∧ news.length = n * sz ∧ ∀ j u, news[j]? = some u → w.cell? (a.add j) = some u) := by
  refine ⟨.inr trivial, ?_⟩
  have row : ∀ (g off : Nat) (cs : List Sv) (l l2 : List Value) e fr (xs : List Sv), denL ρ cs = some l → seg cs off (n * sz) = some xs → w.heap[g]? = some (.cells (l ++ l2).toArray e fr) →
      ∃ news, denL ρ xs = some news ∧ news.length = n * sz ∧ ∀ j u, news[j]? = some u → w.cell? ((⟨g, off, none⟩ : Addr).add j) = some u := fun g off cs l l2 e fr xs hl hs hh => by
    have h1 := seg_den off (n * sz) hl hs
    refine ⟨_, h1.1, by simp; omega, fun j u hj => ?_⟩
    rw [addr_add, cell_of_row w g _ _ e fr hh]
    rw [List.getElem?_take, List.getElem?_drop] at hj
    split at hj
    · simp only [List.getElem?_toArray]
      rw [List.getElem?_append_left (List.getElem?_eq_some_iff.1 hj).1]; exact hj
    · cases hj
  unfold srcS at h
  split at h
  · rename_i a b
    simp at h; obtain ⟨rfl, rfl⟩ := h
    have := den_vv hvx; subst this
    exact ⟨[], rfl, .inl ⟨rfl, rfl, _, _, rfl⟩⟩
  · rename_i b off n' cap
    obtain ⟨g, hg, rfl⟩ := den_sl hvx
    split at h
    · rename_i cs e hm
      split at h
      · rename_i ys hs
        simp at h; obtain ⟨rfl, rfl⟩ := h
        obtain ⟨g', hg', _, l, hl, hh⟩ := hr.obj b _ hm rfl
        rw [hg] at hg'; simp at hg'; subst hg'
        obtain ⟨news, h1, h2, h3⟩ := row g off cs l [] e _ _ hl hs (by simpa using hh)
        exact ⟨news, h1, .inr ⟨_, _, rfl, h2, h3⟩⟩
      · cases h
    · rename_i c cs e hm
      split at h
      · rename_i ys hs
        simp at h; obtain ⟨rfl, rfl⟩ := h
        obtain ⟨g', hg', _, l, l2, fr, hl, _, _, hh⟩ := hr.obj b _ hm rfl
        rw [hg] at hg'; simp at hg'; subst hg'
        obtain ⟨news, h1, h2, h3⟩ := row g off cs l l2 e fr _ hl hs hh
        exact ⟨news, h1, .inr ⟨_, _, rfl, h2, h3⟩⟩
      · cases h
    · cases h
  · rename_i b c off n'
    obtain ⟨g, nc, hg, _, _, rfl⟩ := den_sa hvx
    split at h
    · rename_i c cs e hm
      split at h
      · rename_i ys hs
        simp at h; obtain ⟨rfl, rfl⟩ := h
        obtain ⟨g', hg', _, l, l2, fr, hl, _, _, hh⟩ := hr.obj b _ hm rfl
        rw [hg] at hg'; simp at hg'; subst hg'
        obtain ⟨news, h1, h2, h3⟩ := row g off cs l l2 e fr _ hl hs hh
        exact ⟨news, h1, .inr ⟨_, _, rfl, h2, h3⟩⟩
      · cases h
    · cases h
  · cases h

theorem run_append_room_fr (w : World) (t ty e : TypeId) (i : TypeInfo) (ht : P.underlying t = some (.slice e)) (hi : P.info? e = some i) (h1s : i.size = 1)
    (g sLen sCap : Nat) (cur : Array Value) (fr : Nat × Nat) (hg : w.heap[g]? = some (.cells cur e fr)) (hfr : frOk fr cur.size)
    (a : Addr) (n c : Nat) (news : List Value) (hl : news.length = n) (hnews : ∀ j u, news[j]? = some u → w.cell? (a.add j) = some u) (h1 : ∀ u ∈ news, u.oneCell' = true)
    (hroom : sLen + n ≤ sCap) (hfit : sLen + news.length ≤ cur.size) :
    (Builtin.append_ #[t, t] ty #[.slice (some ⟨g, 0, none⟩) sLen sCap, .slice (some a) n c]).run P w =
      .ok (.slice (some ⟨g, 0, none⟩) (sLen + n) sCap) (w.setRow g (cur.toList.take sLen ++ news ++ cur.toList.drop (sLen + news.length)).toArray) := by
  have hf := run_firstCells_some (P := P) w i.size n a n c news (by rw [h1s]; simpa using hl) hnews
  have hst := run_storeCells_fr (P := P) g sLen e fr news 0 cur w hg hfr (by simpa using hfit) h1
  simp only [Nat.add_zero] at hst
  simp [Builtin.append_, run_underlying ht, sizeOf, typeInfo, hi, Builtin.lenOf, hroom, hf, Addr.add_lit, hst, h1s]
  simp [h1s] at hf
  simp [hf, hst]

theorem run_append_roomz (w : World) (t ty e : TypeId) (i : TypeInfo) (ht : P.underlying t = some (.slice e)) (hi : P.info? e = some i)
    (g sLen sCap : Nat) (cur : Array Value) (fr : Nat × Nat) (hg : w.heap[g]? = some (.cells cur e fr)) (hfr : frOk fr cur.size)
    (a : Addr) (n c : Nat) (news : List Value) (hl : news.length = n * i.size) (hnews : ∀ j u, news[j]? = some u → w.cell? (a.add j) = some u) (h1 : ∀ u ∈ news, u.oneCell' = true)
    (hroom : sLen + n ≤ sCap) (hfit : sLen * i.size + news.length ≤ cur.size) :
    (Builtin.append_ #[t, t] ty #[.slice (some ⟨g, 0, none⟩) sLen sCap, .slice (some a) n c]).run P w =
      .ok (.slice (some ⟨g, 0, none⟩) (sLen + n) sCap) (w.setRow g (cur.toList.take (sLen * i.size) ++ news ++ cur.toList.drop (sLen * i.size + news.length)).toArray) := by
  have hf := run_firstCells_some (P := P) w i.size n a n c news hl hnews
  have hst := run_storeCells_fr (P := P) g (sLen * i.size) e fr news 0 cur w hg hfr (by simpa using hfit) h1
  simp only [Nat.add_zero] at hst
  simp [Builtin.append_, run_underlying ht, sizeOf, typeInfo, hi, Builtin.lenOf, hroom, hf, Addr.add_lit, hst]

theorem appS_sound {R : Type} {ts : Array TypeId} {args : List Sv} {m : List SObj} {k : Sv → List SObj → Option R} {r : R} (h : appS P ts args m k = some r) : ∃ x m', k x m' = some r ∧
    ∀ ρ own w l ty, denL ρ args = some l → Rep X ρ own m w → ∃ ρ' own' w' v, (Builtin.append_ ts ty l.toArray).run P w = .ok v w' ∧ To ρ own w ρ' own' w' ∧ den ρ' x = some v ∧ Rep X ρ' own' m' w' := by
  unfold appS at h
  split at h
  · rename_i t t' hts
    split at h
    · rename_i htt
      have htt := Nat.eq_of_beq_eq_true htt
      subst htt
      have hts : ts = #[t, t] := Array.ext' (by simpa using hts)
      subst hts
      split at h
      · rename_i e hu
        split at h
        · rename_i ie hie
          split at h
          · rename_i s x
            split at h
            · rename_i n xs hsrc
              split at h
              · rename_i ob len cs hdst
                split at h
                · rename_i hb
                  simp only [Bool.and_eq_true] at hb
                  obtain ⟨hn, hby, hln, hone, hsz, hz⟩ := hb
                  have hn : 0 < n := by simpa using hn
                  have hby := Nat.le_of_ble_eq_true hby
                  have hln := Nat.le_of_ble_eq_true hln
                  have hsz := Nat.eq_of_beq_eq_true hsz
                  obtain ⟨z, hz, hzs⟩ : ∃ z, ie.zero = some z ∧ z.cells.size = 1 := by
                    unfold zeroOne at hz
                    split at hz
                    · rename_i z hz'; exact ⟨z, hz', Nat.eq_of_beq_eq_true hz⟩
                    · cases hz
                  have fits : ∀ old, old < len + n → Builtin.nextslicecap (len + n) old * ie.bytes ≤ 281474976710656 := fun old ho => growslice_fits (by omega) (by omega)
                  refine ⟨_, _, h, fun ρ own w l ty hl hr => ?_⟩
                  obtain ⟨vs, l1, hvs, hl1, rfl⟩ := denL_cons hl
                  obtain ⟨vx, l2, hvx, hl2, rfl⟩ := denL_cons hl1
                  simp [denL] at hl2; subst hl2
                  obtain ⟨_, news, hnews, hcase⟩ := srcS_sound hsrc hvx hr
                  rcases hcase with ⟨h0, _⟩ | ⟨a, c, rfl, hnl, hcells⟩
                  · omega
                  have hnl' : news.length = n := by rw [hnl, hsz]; simp
                  have h1n : ∀ u ∈ news, u.oneCell' = true := oneL_one hone hnews
                  have t0 : To ρ own w ρ own w.drew := ⟨⟨[], by simp⟩, fun _ hb => .inl hb, ⟨rfl, rfl, rfl, Nat.le_refl _, fun _ _ _ => rfl⟩⟩
                  -- the row lies anew
                  have grown : ∀ (olds : List Value) (old : Nat) (cs : List Sv) (m1 : List SObj), denL ρ cs = some olds → olds.length = len → Rep X ρ own m1 w.drew → m1.length = m.length → ∃ ρ' own',
                      To ρ own w ρ' own' (w.drew.alloc (.cells (olds.toArray ++ news.toArray ++ Builtin.zeroCells z.cells (grownCap w (len + n) old e - (len + n))) e)) ∧
                      den ρ' (.sa m.length (m.length + 1) 0 (len + n)) = some (.slice (some ⟨w.heap.size, 0, none⟩) (len + n) (grownCap w (len + n) old e)) ∧
                      Rep X ρ' own' (m1 ++ [.buf (m.length + 1) (cs ++ xs) e, .dead]) (w.drew.alloc (.cells (olds.toArray ++ news.toArray ++ Builtin.zeroCells z.cells (grownCap w (len + n) old e - (len + n))) e)) := fun olds old cs m1 hcs hol hr1 hml => by
                    have hge := grownCap_ge w (len + n) old e
                    have hz0 : (Builtin.zeroCells z.cells (grownCap w (len + n) old e - (len + n))).toList.length = grownCap w (len + n) old e - (len + n) := by simp [Builtin.zeroCells, hzs]
                    have hcapl : (olds ++ news).length + (Builtin.zeroCells z.cells (grownCap w (len + n) old e - (len + n))).toList.length = grownCap w (len + n) old e := by
                      rw [hz0, List.length_append, hol, hnl']; omega
                    obtain ⟨own', ht, hr'⟩ := hr1.allocCap (.cells (olds.toArray ++ news.toArray ++ Builtin.zeroCells z.cells (grownCap w (len + n) old e - (len + n))) e)
                      (grownCap w (len + n) old e) (.buf (m.length + 1) (cs ++ xs) e) fun own' ho =>
                      ⟨ho, olds ++ news, (Builtin.zeroCells z.cells (grownCap w (len + n) old e - (len + n))).toList, (0, 0), denL_append (denL_mono ⟨_, rfl⟩ hcs) (denL_mono ⟨_, rfl⟩ hnews),
                        by rw [hcapl]; unfold capAt; rw [← hml, ← hr1.len]; simp, .inl rfl, by
                        rw [heap_alloc_new]; congr 2; apply Array.ext'; simp⟩
                    refine ⟨_, own', t0.trans ht, ?_, hr'⟩
                    have := den_bufs (ρ := ρ) (g := w.heap.size) hge
                    rw [hr.len] at this; exact this
                  unfold dstS at hdst
                  split at hdst
                  · simp at hdst
                    obtain ⟨rfl, rfl, rfl⟩ := hdst
                    have := den_vv hvs; subst this
                    have hrun := run_append_nil (P := P) w t ty e ie z hu hie hz a n c news hnl hcells hn (by omega) (by have := hby; simp only [Nat.zero_add] at this; omega)
                    obtain ⟨ρ', own', ht, hd, hr'⟩ := grown [] 0 [] m rfl rfl hr.drew rfl
                    simp only [Nat.zero_add, List.nil_append] at hd hr' ht ⊢
                    simp only [Array.empty_append] at hd hr' ht
                    exact ⟨ρ', own', _, _, hrun, ht, hd, hr'⟩
                  · rename_i b cc len0
                    split at hdst
                    · rename_i c' cs0 e' hmb
                      split at hdst
                      · rename_i hbb
                        simp at hdst
                        obtain ⟨rfl, rfl, rfl⟩ := hdst
                        simp only [Bool.and_eq_true] at hbb
                        obtain ⟨hcc, hcl, hee⟩ := hbb
                        have hcc := Nat.eq_of_beq_eq_true hcc
                        have hcl := Nat.eq_of_beq_eq_true hcl
                        have hee := Nat.eq_of_beq_eq_true hee
                        subst hcc hee
                        obtain ⟨g, nc, hg, hnc, hle, rfl⟩ := den_sa hvs
                        obtain ⟨g', hg', hown, lc, l2, fr, hlc, hcap, hfr, hh⟩ := hr.obj b _ hmb rfl
                        rw [hg] at hg'; simp at hg'; subst hg'
                        unfold capAt at hcap
                        rw [hnc] at hcap; simp at hcap
                        have hll : lc.length = len0 := by rw [denL_length hlc, hcl, hsz]; simp
                        by_cases hroom : len0 + n ≤ nc
                        · have hrun := run_append_room_fr (P := P) w t ty e ie hu hie hsz g len0 (nc - 0) (lc ++ l2).toArray fr hh (by simpa using hfr) a n c news hnl' hcells h1n (by omega) (by simp; omega)
                          obtain ⟨own', ht, hr'⟩ := hr.moved (cs := ((lc ++ l2).toArray.toList.take len0 ++ news ++ (lc ++ l2).toArray.toList.drop (len0 + news.length)).toArray) hg hown nc (.buf (m.length + 1) (cs0 ++ xs) e) fun own' ho =>
                            ⟨ho, lc ++ news, (lc ++ l2).drop (len0 + news.length), fr, denL_append (denL_mono ⟨_, rfl⟩ hlc) (denL_mono ⟨_, rfl⟩ hnews), by
                              unfold capAt; rw [← hr.len]; simp; omega, by
                              have : (lc ++ news).length + ((lc ++ l2).drop (len0 + news.length)).length = lc.length + l2.length := by simp; omega
                              rw [this]; exact hfr, by
                              rw [setRow_heap w g _ _ e _ hh]
                              congr 2
                              rw [← hll]; simp⟩
                          refine ⟨_, own', _, _, hrun, ht, ?_, hr'⟩
                          have := den_bufs (ρ := ρ) (g := g) hroom
                          rw [hr.len] at this; exact this
                        · have holds : ∀ j v, lc[j]? = some v → w.cell? ((⟨g, 0, none⟩ : Addr).add j) = some v := fun j v hj => by
                            rw [addr_add, cell_of_row w g _ _ e fr hh, Nat.zero_add]
                            simp only [List.getElem?_toArray]
                            rw [List.getElem?_append_left (List.getElem?_eq_some_iff.1 hj).1]; exact hj
                          have hrun := run_append_grow (P := P) w t ty e ie z hu hie hz ⟨g, 0, none⟩ len0 (nc - 0) lc (by rw [hll, hsz]; simp) holds a n c news hnl hcells (by omega) (by omega) (fits _ (by omega))
                          obtain ⟨ρ', own', ht, hd, hr'⟩ := grown lc (nc - 0) cs0 (m.set b .dead) hlc hll (hr.drew.kill b) (by simp)
                          exact ⟨ρ', own', _, _, hrun, ht, hd, hr'⟩
                      · cases hdst
                    · cases hdst
                  · rename_i b off len0 cap0
                    split at hdst
                    · rename_i cs0 e' hmb
                      split at hdst
                      · rename_i hcl
                        have hcl : cap0 < len0 + n := by simpa using hcl
                        split at hdst
                        · rename_i ys hys
                          simp at hdst
                          obtain ⟨rfl, rfl, rfl⟩ := hdst
                          obtain ⟨g, hg, rfl⟩ := den_sl hvs
                          obtain ⟨g', hg', hown, lc, hlc, hh⟩ := hr.obj b _ hmb rfl
                          rw [hg] at hg'; simp at hg'; subst hg'
                          have h1 := seg_den off (len0 * ie.size) hlc hys
                          have hol : ((lc.drop off).take (len0 * ie.size)).length = len0 := by have := h1.2; rw [hsz] at this ⊢; simp; omega
                          have holds : ∀ j v, ((lc.drop off).take (len0 * ie.size))[j]? = some v → w.cell? ((⟨g, off, none⟩ : Addr).add j) = some v := fun j v hj => by
                            rw [addr_add, cell_of_row w g _ _ e' (0, 0) hh]
                            rw [List.getElem?_take, List.getElem?_drop] at hj
                            split at hj
                            · simpa using hj
                            · cases hj
                          have hrun := run_append_grow (P := P) w t ty e ie z hu hie hz ⟨g, off, none⟩ len0 cap0 _ (by rw [hol, hsz]; simp) holds a n c news hnl hcells hcl (by omega) (fits _ hcl)
                          obtain ⟨ρ', own', ht, hd, hr'⟩ := grown _ cap0 ys m h1.1 hol hr.drew rfl
                          exact ⟨ρ', own', _, _, hrun, ht, hd, hr'⟩
                        · cases hdst
                      · cases hdst
                    · cases hdst
                  · cases hdst
                · split at h
                  · split at h
                    · rename_i hb
                      simp only [Bool.and_eq_true] at hb
                      obtain ⟨hn, hby, hln, hz⟩ := hb
                      have hn : 0 < n := by simpa using hn
                      have hby := Nat.le_of_ble_eq_true hby
                      have hln := Nat.le_of_ble_eq_true hln
                      obtain ⟨z, hz, hzs⟩ : ∃ z, ie.zero = some z ∧ z.cells.size = ie.size := by
                        unfold zeroN at hz
                        split at hz
                        · rename_i z hz'; exact ⟨z, hz', Nat.eq_of_beq_eq_true hz⟩
                        · cases hz
                      refine ⟨_, _, h, fun ρ own w l ty hl hr => ?_⟩
                      obtain ⟨vs, l1, hvs, hl1, rfl⟩ := denL_cons hl
                      obtain ⟨vx, l2, hvx, hl2, rfl⟩ := denL_cons hl1
                      simp [denL] at hl2; subst hl2
                      obtain ⟨_, news, hnews, hcase⟩ := srcS_sound hsrc hvx hr
                      rcases hcase with ⟨h0, _⟩ | ⟨a, c, rfl, hnl, hcells⟩
                      · omega
                      have := den_vv hvs; subst this
                      have hrun := run_append_nil (P := P) w t ty e ie z hu hie hz a n c news hnl hcells hn (by omega) (by omega)
                      have t0 : To ρ own w ρ own w.drew := ⟨⟨[], by simp⟩, fun _ hb => .inl hb, ⟨rfl, rfl, rfl, Nat.le_refl _, fun _ _ _ => rfl⟩⟩
                      have hge := grownCap_ge w n 0 e
                      obtain ⟨own', ht, hr'⟩ := hr.drew.allocCap2 (.cells (news.toArray ++ Builtin.zeroCells z.cells (grownCap w n 0 e - n)) e)
                        (grownCap w n 0 e) 0 (.bufz ie.size (m.length + 1) xs e) fun own' ho =>
                        ⟨ho, news, (Builtin.zeroCells z.cells (grownCap w n 0 e - n)).toList, grownCap w n 0 e, denL_mono ⟨_, rfl⟩ hnews,
                          by unfold capAt; rw [← hr.len]; simp, by
                          simp only [Builtin.zeroCells, hnl]; simp [hzs]; rw [← Nat.add_mul]; congr 1; omega, by
                          rw [heap_alloc_new]; congr 2; apply Array.ext'; simp⟩
                      refine ⟨_, own', _, _, hrun, t0.trans ht, ?_, hr'⟩
                      have hL := hr.len
                      have := den_bufs2 (ρ := ρ) (g := w.heap.size) (N := 0) hge
                      rw [hL] at this; exact this
                    · cases h
                  · cases h
              · split at h
                · rename_i b len cs hdst
                  split at h
                  · rename_i hb
                    simp only [Bool.and_eq_true] at hb
                    obtain ⟨hn, hby, hln, hone, hz⟩ := hb
                    have hn : 0 < n := by simpa using hn
                    have hby := Nat.le_of_ble_eq_true hby
                    have hln := Nat.le_of_ble_eq_true hln
                    obtain ⟨z, hz, hzs⟩ : ∃ z, ie.zero = some z ∧ z.cells.size = ie.size := by
                      unfold zeroN at hz
                      split at hz
                      · rename_i z hz'; exact ⟨z, hz', Nat.eq_of_beq_eq_true hz⟩
                      · cases hz
                    have fits : ∀ old, old < len + n → Builtin.nextslicecap (len + n) old * ie.bytes ≤ 281474976710656 := fun old ho => growslice_fits (by omega) (by omega)
                    refine ⟨_, _, h, fun ρ own w l ty hl hr => ?_⟩
                    obtain ⟨vs, l1, hvs, hl1, rfl⟩ := denL_cons hl
                    obtain ⟨vx, l2, hvx, hl2, rfl⟩ := denL_cons hl1
                    simp [denL] at hl2; subst hl2
                    obtain ⟨_, news, hnews, hcase⟩ := srcS_sound hsrc hvx hr
                    rcases hcase with ⟨h0, _⟩ | ⟨a, c, rfl, hnl, hcells⟩
                    · omega
                    have h1n : ∀ u ∈ news, u.oneCell' = true := oneL_one hone hnews
                    have t0 : To ρ own w ρ own w.drew := ⟨⟨[], by simp⟩, fun _ hb => .inl hb, ⟨rfl, rfl, rfl, Nat.le_refl _, fun _ _ _ => rfl⟩⟩
                    unfold dstZ at hdst
                    split at hdst
                    · rename_i b0 cc len0 hno
                      split at hdst
                      · rename_i z' c' cs0 e' hmb
                        split at hdst
                        · rename_i hbb
                          simp at hdst
                          obtain ⟨rfl, rfl, rfl⟩ := hdst
                          simp only [Bool.and_eq_true] at hbb
                          obtain ⟨hcc, hcl, hee, hzz⟩ := hbb
                          have hcc := Nat.eq_of_beq_eq_true hcc
                          have hcl := Nat.eq_of_beq_eq_true hcl
                          have hee := Nat.eq_of_beq_eq_true hee
                          have hzz := Nat.eq_of_beq_eq_true hzz
                          subst hcc hee hzz
                          obtain ⟨g, nc, hg, hnc, hle, rfl⟩ := den_sa hvs
                          obtain ⟨g', hg', hown, lc, l2, nn, hlc, hcap, hnn, hh⟩ := hr.obj b0 _ hmb rfl
                          rw [hg] at hg'; simp at hg'; subst hg'
                          unfold capAt at hcap
                          rw [hnc] at hcap; simp at hcap; subst hcap
                          have hll : lc.length = len0 * ie.size := by rw [denL_length hlc, hcl]
                          by_cases hroom : len0 + n ≤ nc
                          · have hfit : len0 * ie.size + news.length ≤ (lc ++ l2).toArray.size := by
                              rw [hnl, ← Nat.add_mul]; simp; rw [hnn]; exact Nat.mul_le_mul_right _ hroom
                            have hrun := run_append_roomz (P := P) w t ty e ie hu hie g len0 (nc - 0) (lc ++ l2).toArray (0, 0) hh (.inl rfl) a n c news hnl hcells h1n (by omega) hfit
                            obtain ⟨own', ht, hr'⟩ := hr.moved (cs := ((lc ++ l2).toArray.toList.take (len0 * ie.size) ++ news ++ (lc ++ l2).toArray.toList.drop (len0 * ie.size + news.length)).toArray) hg hown nc (.bufz ie.size (m.length + 1) (cs0 ++ xs) e) fun own' ho =>
                              ⟨ho, lc ++ news, (lc ++ l2).drop (len0 * ie.size + news.length), nc, denL_append (denL_mono ⟨_, rfl⟩ hlc) (denL_mono ⟨_, rfl⟩ hnews), by
                                unfold capAt; rw [← hr.len]; simp, by
                                simp at hfit ⊢; omega, by
                                rw [setRow_heap w g _ _ e _ hh]
                                congr 2
                                rw [← hll]; simp⟩
                            refine ⟨_, own', _, _, hrun, ht, ?_, hr'⟩
                            have := den_bufs (ρ := ρ) (g := g) hroom
                            rw [hr.len] at this; exact this
                          · have holds : ∀ j v, lc[j]? = some v → w.cell? ((⟨g, 0, none⟩ : Addr).add j) = some v := fun j v hj => by
                              rw [addr_add, cell_of_row w g _ _ e (0, 0) hh, Nat.zero_add]
                              simp only [List.getElem?_toArray]
                              rw [List.getElem?_append_left (List.getElem?_eq_some_iff.1 hj).1]; exact hj
                            have hrun := run_append_grow (P := P) w t ty e ie z hu hie hz ⟨g, 0, none⟩ len0 (nc - 0) lc hll holds a n c news hnl hcells (by omega) (by omega) (fits _ (by omega))
                            have hge := grownCap_ge w (len0 + n) (nc - 0) e
                            obtain ⟨own', ht, hr'⟩ := (hr.drew.kill b0).allocCap (.cells (lc.toArray ++ news.toArray ++ Builtin.zeroCells z.cells (grownCap w (len0 + n) (nc - 0) e - (len0 + n))) e)
                              (grownCap w (len0 + n) (nc - 0) e) (.bufz ie.size (m.length + 1) (cs0 ++ xs) e) fun own' ho =>
                              ⟨ho, lc ++ news, (Builtin.zeroCells z.cells (grownCap w (len0 + n) (nc - 0) e - (len0 + n))).toList, grownCap w (len0 + n) (nc - 0) e, denL_append (denL_mono ⟨_, rfl⟩ hlc) (denL_mono ⟨_, rfl⟩ hnews),
                                by unfold capAt; rw [← hr.len]; simp, by
                                simp only [Builtin.zeroCells, List.length_append, hnl, hll]; simp [hzs]; rw [← Nat.add_mul, ← Nat.add_mul]; congr 1; simp only [Nat.sub_zero] at hge; omega, by
                                rw [heap_alloc_new]; congr 2; apply Array.ext'; simp⟩
                            refine ⟨_, own', _, _, hrun, t0.trans ht, ?_, by simpa using hr'⟩
                            have := den_bufs (ρ := ρ) (g := w.heap.size) hge
                            rw [hr.len] at this; exact this
                        · cases hdst
                      · cases hdst
                    · cases hdst
                  · cases h
                · cases h
            · cases h
          · cases h
        · cases h
      · cases h
    · cases h
  · cases h
end
end Go.Ev
