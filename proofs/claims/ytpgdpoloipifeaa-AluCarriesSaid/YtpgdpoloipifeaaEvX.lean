/- A memory of pages, as a function tells it: what making one, getting and setting a byte come to. -/
import Derived.Test.YtpgdpoloipifeaaEv9
namespace Go.Ev
open Go
set_option linter.unusedVariables false
set_option linter.unusedSimpArgs false

/-- The page of a place. -/
def pgOf : List MapEntry → Int → Option Nat
  | [], _ => none
  | e :: l, a => match e.key, e.val with
    | .int _ k, .pointer (some ad) => bif a == k then some ad.block else pgOf l a
    | _, _ => none
def PgEnts (es : List MapEntry) : Prop := ∀ e ∈ es, ∃ a b, e.key = .int .u32 a ∧ e.val = .pointer (some ⟨b, 0, none⟩)

theorem pgOf_none {a : Int} : ∀ {es : List MapEntry} (i : Nat), PgEnts es → pgOf es a = none → Instr.findNow (.int .u32) (.int .u32 a) es i = some none
  | [], _, _, _ => rfl
  | e :: es, i, h, hp => by
    obtain ⟨k, b, h1, h2⟩ := h e (by simp)
    simp only [pgOf, h1, h2] at hp
    have hc : (a == k) = false := by
      cases hh : a == k
      · rfl
      · rw [hh] at hp; cases hp
    rw [hc, cond_false] at hp
    simp only [Instr.findNow, Instr.sameNow, h1, if_true, hc]
    exact pgOf_none (i + 1) (fun x hx => h x (by simp [hx])) hp
theorem pgOf_some {a : Int} {b : Nat} : ∀ {es : List MapEntry} (i : Nat), PgEnts es → pgOf es a = some b → ∃ j, Instr.findNow (.int .u32) (.int .u32 a) es i = some (some (j, .pointer (some ⟨b, 0, none⟩)))
  | [], _, _, h => by cases h
  | e :: es, i, h, hp => by
    obtain ⟨k, c, h1, h2⟩ := h e (by simp)
    simp only [pgOf, h1, h2] at hp
    cases hc : a == k with
    | true =>
      rw [hc, cond_true] at hp
      simp at hp; subst hp
      exact ⟨i, by simp only [Instr.findNow, Instr.sameNow, h1, h2, if_true, hc]⟩
    | false =>
      rw [hc, cond_false] at hp
      obtain ⟨j, hj⟩ := pgOf_some (i + 1) (fun x hx => h x (by simp [hx])) hp
      exact ⟨j, by simp only [Instr.findNow, Instr.sameNow, h1, if_true, hc]; exact hj⟩
theorem pgOf_snoc {a x : Int} {b : Nat} {e : MapEntry} (h1 : e.key = .int .u32 a) (h2 : e.val = .pointer (some ⟨b, 0, none⟩)) : ∀ {es : List MapEntry}, PgEnts es → pgOf (es ++ [e]) x = match pgOf es x with
    | some c => some c
    | none => bif x == a then some b else none
  | [], _ => by simp [pgOf, h1, h2]
  | e' :: es, h => by
    obtain ⟨k, c, h3, h4⟩ := h e' (by simp)
    have ih := pgOf_snoc (x := x) h1 h2 (es := es) (fun y hy => h y (by simp [hy]))
    simp only [List.cons_append, pgOf, h3, h4]
    cases x == k
    · simpa using ih
    · rfl

/-- A memory of pages. -/
def PgAt (M : Int → Int) (g : Nat) (owned : Nat → Prop) (w : World) : Prop :=
  ∃ gm es clk T, owned g ∧ w.heap[g]? = some (.cells #[.map (some gm)] T (0, 0)) ∧ owned gm ∧ gm ≠ g ∧ w.heap[gm]? = some (.map es.toArray clk) ∧ PgEnts es ∧
    (∀ a b, pgOf es a = some b → a % 4096 = 0 ∧ owned b ∧ b ≠ g ∧ b ≠ gm ∧ ∃ (l : List Value) (Tp : TypeId), 4096 ≤ l.length ∧ (∀ j : Nat, j < 4096 → l[j]? = some (.int .u8 (M (a + (j : Int))))) ∧ w.heap[b]? = some (.cells l.toArray Tp (0, 0))) ∧
    (∀ a a' b, pgOf es a = some b → pgOf es a' = some b → a = a') ∧
    (∀ a, a % 4096 = 0 → pgOf es a = none → ∀ j : Nat, j < 4096 → M (a + (j : Int)) = 0)

theorem PgAt.stable {M : Int → Int} {g : Nat} {owned : Nat → Prop} {w w' : World} (hb : ∀ b, owned b → w'.heap[b]? = w.heap[b]?) (h : PgAt M g owned w) : PgAt M g owned w' := by
  obtain ⟨gm, es, clk, T, h1, h2, h3, h4, h5, h6, h7, h8, h9⟩ := h
  refine ⟨gm, es, clk, T, h1, by rw [hb g h1]; exact h2, h3, h4, by rw [hb gm h3]; exact h5, h6, fun a b hp => ?_, h8, h9⟩
  obtain ⟨q0, q1, q2, q3, l, Tp, q4, q5, q6⟩ := h7 a b hp
  exact ⟨q0, q1, q2, q3, l, Tp, q4, q5, by rw [hb b q1]; exact q6⟩

def XM : Ext := ⟨fun tag M g owned w => tag = 0 ∧ PgAt M g owned w, fun tag M g owned w w' hb h => ⟨h.1, h.2.stable hb⟩⟩

def memNewS : Spec := fun R args m k _ => match args with
  | [] => k (.ptr m.length 0) (m ++ [.ext 0 fun _ => 0])
  | _ => none
def memGetS : Spec := fun R args m k _ => match args with
  | [.ptr b 0, .v (.int .u32 a)] => (match m[b]? with
    | some (.ext 0 M) => bif in32 a then k (.v (.int .u8 (M a))) m else none
    | _ => none)
  | _ => none
def memSetS : Spec := fun R args m k _ => match args with
  | [.ptr b 0, .v (.int .u32 a), .v (.int .u8 v)] => (match m[b]? with
    | some (.ext 0 M) => bif in32 a then k (.tup []) (m.set b (.ext 0 (updM M a v))) else none
    | _ => none)
  | _ => none

abbrev kSM : Sv → List SObj → Option (Sv × List SObj) := fun s m => some (s, m)
abbrev kNo {R : Type} : List PanicEntry → List SObj → Option R := fun _ _ => none

section
variable {P : Program} {Γ : Env}

/-- A function that has a text: what its reckoning comes to, each call comes to. -/
theorem callR_ev {X : Ext} (hΓ : EnvOk P X Γ) {n : Nat} {f : FuncId} {args : List Sv} {m m' : List SObj} {s : Sv} (hb : callOkB P f = true) (h : evF P Γ n f args m kSM kNo = some (s, m')) : CallR P X f args m s m' := by
  rcases evF_sound hΓ n _ _ _ _ _ _ h with ⟨_, h1 | h1⟩ | h1
  · obtain ⟨sv, m2, e, h2⟩ := h1
    simp at e; obtain ⟨rfl, rfl⟩ := e
    exact h2
  · obtain ⟨_, _, e, _⟩ := h1; cases e
  · obtain ⟨sv, m2, _, h2⟩ := h1
    intro ρ own w l hl hr
    exfalso
    obtain ⟨fn, hfn, hbd, hn⟩ := callOk_of hΓ hb
    obtain ⟨_, _, x, w', hrun, _⟩ := h2 ρ own w l hl hr
    have hbn : fn.body.isNone = false := by cases h : fn.body <;> simp_all
    simp only [callFunc, Sem.run_bind, run_program, Result.andThen_ok, hfn] at hrun
    simp [hn, hbn] at hrun

/-- What is owned in the small memory of one page. -/
def own3 (g gm gp : Nat) : Nat → Option Nat := fun x => if x = g then some 0 else if x = gm then some 1 else if x = gp then some 2 else none
def own2 (g gm : Nat) : Nat → Option Nat := fun x => if x = g then some 0 else if x = gm then some 1 else none

theorem getElem_pre {ρ ρ' : List Un} (hp : ∃ l, ρ' = ρ ++ l) {i : Nat} {u : Un} (h : ρ[i]? = some u) : ρ'[i]? = some u := by
  obtain ⟨l, rfl⟩ := hp
  rw [List.getElem?_append_left (List.getElem?_eq_some_iff.1 h).1]; exact h

theorem head_cells {X : Ext} {ρ : List Un} {own : Nat → Option Nat} {m : List SObj} {w : World} (hr : Rep X ρ own m w) {k j g gm : Nat} {T : TypeId} (hm : m[k]? = some (.cells [.mp j] T)) (hk : ρ[k]? = some (.blk g)) (hj : ρ[j]? = some (.blk gm)) :
    w.heap[g]? = some (.cells #[.map (some gm)] T (0, 0)) := by
  obtain ⟨g', hg', _, l, hl, hh⟩ := hr.obj k _ hm rfl
  rw [hk] at hg'; simp at hg'; subst hg'
  obtain ⟨x, xs, hx, hxs, rfl⟩ := denL_cons hl
  simp [denL] at hxs; subst hxs
  obtain ⟨g2, hg2, rfl⟩ := den_mp hx
  rw [hj] at hg2; simp at hg2; subst hg2
  exact hh

theorem rep2 {X : Ext} {w : World} {g gm : Nat} {T : TypeId} {es : List MapEntry} {clk : Nat} {a : Int} (hg : w.heap[g]? = some (.cells #[.map (some gm)] T (0, 0))) (hm : w.heap[gm]? = some (.map es.toArray clk)) (hne : gm ≠ g)
    (hf : Instr.findNow (.int .u32) (.int .u32 a) es 0 = some none) : Rep X [.blk g, .blk gm] (own2 g gm) [.cells [.mp 1] T, .m1 .u32 a es clk none false] w := by
  have lg := (Array.getElem?_eq_some_iff.1 hg).1
  have lm := (Array.getElem?_eq_some_iff.1 hm).1
  refine ⟨rfl, fun b k hk => ?_, fun k o ho ha => ?_⟩
  · unfold own2 at hk
    split at hk
    · rename_i e; simp at hk; subst hk e; exact ⟨lg, by simp⟩
    · split at hk
      · rename_i e; simp at hk; subst hk e; exact ⟨lm, by simp⟩
      · cases hk
  · match k with
    | 0 => simp at ho; subst ho; exact ⟨g, rfl, by simp [own2], [.map (some gm)], by simp [denL, den], hg⟩
    | 1 => simp at ho; subst ho; exact ⟨gm, rfl, by simp [own2, hne], by rw [hm]; exact ⟨rfl, hf, rfl⟩⟩
    | k + 2 => simp at ho

theorem get_core {X : Ext} {n : Nat} {f : FuncId} (hΓ : EnvOk P X Γ) (hb : callOkB P f = true)
    (h0 : ∀ at_ es clk T, in32 at_ = true → evF P Γ n f [.ptr 0 0, .v (.int .u32 at_)] [.cells [.mp 1] T, .m1 .u32 (at_ - at_ % 4096) es clk none false] kSM kNo = some (.v (.int .u8 0), [.cells [.mp 1] T, .m1 .u32 (at_ - at_ % 4096) es clk none false]))
    (h1 : ∀ at_ es clk T F, in32 at_ = true → evF P Γ n f [.ptr 0 0, .v (.int .u32 at_)] [.cells [.mp 1] T, .m1 .u32 (at_ - at_ % 4096) es clk (some (.ptr 2 0)) false, .ro 0 4096 F] kSM kNo = some (.v (F (at_ % 4096).toNat), [.cells [.mp 1] T, .m1 .u32 (at_ - at_ % 4096) es clk (some (.ptr 2 0)) false, .ro 0 4096 F]))
    {M : Int → Int} {g : Nat} {owned : Nat → Prop} {w : World} (hp : PgAt M g owned w) {at_ : Int} (hat : in32 at_ = true) :
    Calls P f #[.pointer (some ⟨g, 0, none⟩), .int .u32 at_] w fun e w' => e = .returned (.int .u8 (M at_)) ∧ Kept (fun _ => none) w w' := by
  obtain ⟨gm, es, clk, T, q1, q2, q3, q4, q5, q6, q7, q8, q9⟩ := hp
  have hb32 := in32_iff.1 hat
  have hsplit : at_ = (at_ - at_ % 4096) + ((at_ % 4096).toNat : Int) := by omega
  cases hpg : pgOf es (at_ - at_ % 4096) with
  | none =>
    have hc := callR_ev hΓ hb (h0 at_ es clk T hat)
    refine (hc [.blk g, .blk gm] (own2 g gm) w [.pointer (some ⟨g, 0, none⟩), .int .u32 at_] rfl (rep2 q2 q5 q4 (pgOf_none 0 q6 hpg))).mono fun e w' ⟨ρ', own', x, ht, hx, hr, he⟩ => ?_
    have := den_vv hx; subst this
    have hM : M at_ = 0 := by rw [hsplit]; exact q9 _ (by omega) hpg _ (by omega)
    refine ⟨by rw [he, hM], ⟨ht.kept.os, ht.kept.tape, ht.kept.output, ht.kept.size, fun b hlt _ => ?_⟩⟩
    by_cases e1 : b = g
    · subst e1
      rw [head_cells hr (k := 0) (j := 1) (T := T) rfl (getElem_pre ht.ext rfl) (getElem_pre ht.ext rfl), q2]
    · by_cases e2 : b = gm
      · subst e2
        obtain ⟨g', hg', _, hm1⟩ := hr.obj 1 _ rfl rfl
        rw [getElem_pre ht.ext (i := 1) (u := .blk b) rfl] at hg'; simp at hg'; subst hg'
        unfold m1At at hm1
        rw [hm1.2.2, q5]
      · exact ht.kept.block b hlt (by simp [own2, e1, e2])
  | some gp =>
    obtain ⟨p0, p1, p2, p3, l, Tp, p4, p5, p6⟩ := q7 _ _ hpg
    have lp := (Array.getElem?_eq_some_iff.1 p6).1
    have hc := callR_ev hΓ hb (h1 at_ es clk T (fun j => .int .u8 (M ((at_ - at_ % 4096) + (j : Int)))) hat)
    have lg := (Array.getElem?_eq_some_iff.1 q2).1
    have lm := (Array.getElem?_eq_some_iff.1 q5).1
    obtain ⟨j, hj⟩ := pgOf_some 0 q6 hpg
    have hrep : Rep X [.blk g, .blk gm, .blk gp] (own2 g gm) [.cells [.mp 1] T, .m1 .u32 (at_ - at_ % 4096) es clk (some (.ptr 2 0)) false, .ro 0 4096 (fun j => .int .u8 (M ((at_ - at_ % 4096) + (j : Int))))] w := by
      refine ⟨rfl, fun b k hk => ?_, fun k o ho ha => ?_⟩
      · unfold own2 at hk
        split at hk
        · rename_i e; simp at hk; subst hk e; exact ⟨lg, by simp⟩
        · split at hk
          · rename_i e; simp at hk; subst hk e; exact ⟨lm, by simp⟩
          · cases hk
      · match k with
        | 0 => simp at ho; subst ho; exact ⟨g, rfl, by simp [own2], [.map (some gm)], by simp [denL, den], q2⟩
        | 1 => simp at ho; subst ho; exact ⟨gm, rfl, by simp [own2, q4], .pointer (some ⟨gp, 0, none⟩), by simp [den], .inl ⟨rfl, ⟨j, hj⟩, q5⟩⟩
        | 2 =>
          simp at ho; subst ho
          refine ⟨gp, rfl, by simp [own2, p2, p3], lp, fun i hi hi' => ?_⟩
          rw [cell_of_row w gp _ _ Tp _ p6]
          simpa using p5 i (by omega)
        | k + 3 => simp at ho
    refine (hc [.blk g, .blk gm, .blk gp] (own2 g gm) w [.pointer (some ⟨g, 0, none⟩), .int .u32 at_] rfl hrep).mono fun e w' ⟨ρ', own', x, ht, hx, hr, he⟩ => ?_
    have := den_vv hx; subst this
    have hM : M ((at_ - at_ % 4096) + ((at_ % 4096).toNat : Int)) = M at_ := by rw [← hsplit]
    refine ⟨by rw [he, hM], ⟨ht.kept.os, ht.kept.tape, ht.kept.output, ht.kept.size, fun b hlt _ => ?_⟩⟩
    by_cases e1 : b = g
    · subst e1
      rw [head_cells hr (k := 0) (j := 1) (T := T) rfl (getElem_pre ht.ext rfl) (getElem_pre ht.ext rfl), q2]
    · by_cases e2 : b = gm
      · subst e2
        obtain ⟨g', hg', _, hm1⟩ := hr.obj 1 _ rfl rfl
        rw [getElem_pre ht.ext (i := 1) (u := .blk b) rfl] at hg'; simp at hg'; subst hg'
        unfold m1At at hm1
        obtain ⟨v, _, h | h⟩ := hm1
        · rw [h.2.2, q5]
        · exact absurd h.1 (by simp)
      · exact ht.kept.block b hlt (by simp [own2, e1, e2])

theorem memGet_ok {n : Nat} {f : FuncId} (hΓ : EnvOk P XM Γ) (hb : callOkB P f = true)
    (h0 : ∀ at_ es clk T, in32 at_ = true → evF P Γ n f [.ptr 0 0, .v (.int .u32 at_)] [.cells [.mp 1] T, .m1 .u32 (at_ - at_ % 4096) es clk none false] kSM kNo = some (.v (.int .u8 0), [.cells [.mp 1] T, .m1 .u32 (at_ - at_ % 4096) es clk none false]))
    (h1 : ∀ at_ es clk T F, in32 at_ = true → evF P Γ n f [.ptr 0 0, .v (.int .u32 at_)] [.cells [.mp 1] T, .m1 .u32 (at_ - at_ % 4096) es clk (some (.ptr 2 0)) false, .ro 0 4096 F] kSM kNo = some (.v (F (at_ % 4096).toNat), [.cells [.mp 1] T, .m1 .u32 (at_ - at_ % 4096) es clk (some (.ptr 2 0)) false, .ro 0 4096 F])) :
    SpecOk P XM f memGetS ∧ QSpecOk P XM f memGetS := by
  have core : ∀ (R : Type) args m (k : Sv → List SObj → Option R) kp r, memGetS R args m k kp = some r → ∃ sv, k sv m = some r ∧ QuietR P XM f args m sv := by
    intro R args m k kp r h
    unfold memGetS at h
    split at h
    · rename_i b a
      split at h
      · rename_i M hm
        obtain ⟨hg, h⟩ := cond_some h
        refine ⟨_, h, fun ρ own mm w l hc hr hl => ⟨_, rfl, ?_⟩⟩
        obtain ⟨x, xs, hx, hxs, rfl⟩ := denL_cons hl
        obtain ⟨y, ys, hy, hys, rfl⟩ := denL_cons hxs
        simp [denL] at hys; subst hys
        obtain ⟨gb, hgb, rfl⟩ := den_ptr hx
        have := den_vv hy; subst this
        obtain ⟨g', hg', hown, _, hpg⟩ := hr.obj b _ (hc b _ hm rfl) rfl
        rw [hgb] at hg'; simp at hg'; subst hg'
        exact get_core hΓ hb h0 h1 hpg hg
      · cases h
    · cases h
  refine ⟨fun R args m k kp r h => ?_, core⟩
  obtain ⟨sv, h2, h3⟩ := core R args m k kp r h
  refine .inl ⟨sv, m, h2, fun ρ own w l hl hr => ?_⟩
  obtain ⟨x, hx, hcalls⟩ := h3 ρ own m w l (Compat.refl m) hr hl
  exact hcalls.mono fun e w' ⟨he, hk⟩ => ⟨ρ, own, x, ⟨⟨[], by simp⟩, fun _ hb => .inl hb, ⟨hk.os, hk.tape, hk.output, hk.size, fun b hlt _ => hk.block b hlt rfl⟩⟩, hx, hr.same (fun b hb => hk.block b hb rfl) hk.size, he⟩

/-- An object's own blocks turn, and new ones may come: the others stay. -/
theorem Rep.turnAt {X : Ext} {ρ : List Un} {own own' : Nat → Option Nat} {m : List SObj} {w w' : World} (h : Rep X ρ own m w) {k g : Nat} {o : SObj} (hk : k < m.length) (hg : ρ[k]? = some (.blk g))
    (hos : w'.os = w.os) (htp : w'.tape = w.tape) (hout : w'.output = w.output) (hsz : w.heap.size ≤ w'.heap.size)
    (hkeep : ∀ b, b < w.heap.size → own b ≠ some k → w'.heap[b]? = w.heap[b]?)
    (hold : ∀ b, b < w.heap.size → own' b = own b) (hnew : ∀ b, w.heap.size ≤ b → own' b = none ∨ (own' b = some k ∧ b < w'.heap.size))
    (hob : ObjAt X ρ own' k g w' o) : To ρ own w ρ own' w' ∧ Rep X ρ own' (m.set k o) w' := by
  have hlt0 : ∀ b j, own b = some j → b < w.heap.size := fun b j hb => (h.lt b j hb).1
  refine ⟨⟨⟨[], by simp⟩, fun b hb => ?_, ⟨hos, htp, hout, hsz, fun b hlt hb => hkeep b hlt (by rw [hb]; simp)⟩⟩, ⟨by simp [h.len], fun b j hj => ?_, fun j o' ho ha => ?_⟩⟩
  · rcases Nat.lt_or_ge b w.heap.size with hlt | hge
    · exact .inl (by rw [hold b hlt]; exact hb)
    · exact .inr hge
  · rcases Nat.lt_or_ge b w.heap.size with hlt | hge
    · rw [hold b hlt] at hj
      have := h.lt b j hj
      simp; omega
    · rcases hnew b hge with h1 | ⟨h1, h2⟩
      · rw [h1] at hj; cases hj
      · rw [h1] at hj; simp at hj; subst hj; simp; exact ⟨h2, hk⟩
  · by_cases hjk : j = k
    · subst hjk
      rw [List.getElem?_set_self hk] at ho
      simp at ho; subst ho
      exact ⟨g, hg, hob⟩
    · rw [List.getElem?_set_ne (fun e => hjk e.symm)] at ho
      obtain ⟨g2, hg2, hob2⟩ := h.obj j o' ho ha
      refine ⟨g2, hg2, ?_⟩
      have h1 := hob2.reown (own' := own') (fun x => by
        rcases Nat.lt_or_ge x w.heap.size with hlt | hge
        · rw [hold x hlt]
        · constructor
          · intro e
            rcases hnew x hge with h1 | ⟨h1, _⟩
            · rw [h1] at e; cases e
            · rw [h1] at e; simp at e; exact absurd e.symm hjk
          · intro e; have := hlt0 x j e; omega) (fun x hlt hx => by rw [hold x hlt]; exact hx)
      refine h1.stable (fun x hx => ?_) (fun x hlt hx => ?_) hsz
      · rcases Nat.lt_or_ge x w.heap.size with hlt | hge
        · rw [hold x hlt] at hx
          exact hkeep x hlt (by rw [hx]; simp; exact hjk)
        · rcases hnew x hge with h1 | ⟨h1, _⟩
          · rw [h1] at hx; cases hx
          · rw [h1] at hx; simp at hx; exact absurd hx.symm hjk
      · rw [hold x hlt] at hx
        exact hkeep x hlt (by rw [hx]; simp)

theorem memSet_ok {n : Nat} {f : FuncId} {Tp0 : TypeId} (hΓ : EnvOk P XM Γ) (hb : callOkB P f = true)
    (h0 : ∀ at_ v es clk T, in32 at_ = true → evF P Γ n f [.ptr 0 0, .v (.int .u32 at_), .v (.int .u8 v)] [.cells [.mp 1] T, .m1 .u32 (at_ - at_ % 4096) es clk none false] kSM kNo =
      some (.tup [], [.cells [.mp 1] T, .m1 .u32 (at_ - at_ % 4096) es clk (some (.ptr 2 0)) true, .arr .u8 Tp0 4096 (updM (fun _ => 0) (at_ % 4096) v)]))
    (h1 : ∀ at_ v es clk T Tp F, in32 at_ = true → evF P Γ n f [.ptr 0 0, .v (.int .u32 at_), .v (.int .u8 v)] [.cells [.mp 1] T, .m1 .u32 (at_ - at_ % 4096) es clk (some (.ptr 2 0)) false, .arr .u8 Tp 4096 F] kSM kNo =
      some (.tup [], [.cells [.mp 1] T, .m1 .u32 (at_ - at_ % 4096) es clk (some (.ptr 2 0)) false, .arr .u8 Tp 4096 (updM F (at_ % 4096) v)])) :
    SpecOk P XM f memSetS := by
  intro R args m k kp r h
  unfold memSetS at h
  split at h
  · rename_i b at_ v
    split at h
    · rename_i M hm
      obtain ⟨hg, h⟩ := cond_some h
      refine .inl ⟨_, _, h, fun ρ own w l hl hr => ?_⟩
      obtain ⟨x, xs, hx, hxs, rfl⟩ := denL_cons hl
      obtain ⟨y, ys, hy, hys, rfl⟩ := denL_cons hxs
      obtain ⟨z, zs, hz, hzs, rfl⟩ := denL_cons hys
      simp [denL] at hzs; subst hzs
      obtain ⟨gb, hgb, rfl⟩ := den_ptr hx
      have := den_vv hy; subst this
      have := den_vv hz; subst this
      obtain ⟨g', hg', hown, _, hpg⟩ := hr.obj b _ hm rfl
      rw [hgb] at hg'; simp at hg'; subst hg'
      have hbm : b < m.length := (List.getElem?_eq_some_iff.1 hm).1
      obtain ⟨gm, es, clk, T, q1, q2, q3, q4, q5, q6, q7, q8, q9⟩ := hpg
      have hb32 := in32_iff.1 hg
      have hsplit : at_ = (at_ - at_ % 4096) + ((at_ % 4096).toNat : Int) := by omega
      have lg := (Array.getElem?_eq_some_iff.1 q2).1
      have lm := (Array.getElem?_eq_some_iff.1 q5).1
      -- what a page of other places says
      have other : ∀ a, a % 4096 = 0 → a ≠ at_ - at_ % 4096 → ∀ j : Nat, j < 4096 → updM M at_ v (a + (j : Int)) = M (a + (j : Int)) := fun a h0 hne j hj => by
        have : (a + (j : Int) == at_) = false := by simp; omega
        simp [updM, this]
      have same : ∀ j : Nat, j < 4096 → updM M at_ v ((at_ - at_ % 4096) + (j : Int)) = updM (fun j => M ((at_ - at_ % 4096) + j)) (at_ % 4096) v (j : Int) := fun j hj => by
        unfold updM
        have : ((at_ - at_ % 4096) + (j : Int) == at_) = ((j : Int) == at_ % 4096) := by
          rw [Bool.eq_iff_iff]; simp; omega
        rw [this]
      cases hpf : pgOf es (at_ - at_ % 4096) with
      | none =>
        have hc := callR_ev hΓ hb (h0 at_ v es clk T hg)
        refine (hc [.blk gb, .blk gm] (own2 gb gm) w [.pointer (some ⟨gb, 0, none⟩), .int .u32 at_, .int .u8 v] rfl (rep2 q2 q5 q4 (pgOf_none 0 q6 hpf))).mono fun e w' ⟨ρ', own', x, ht, hx, hr', he⟩ => ?_
        have hx2 : x = .tuple #[] := by simpa [den, denL] using hx.symm
        subst hx2
        -- the three objects
        have o0 := head_cells hr' (k := 0) (j := 1) (T := T) rfl (getElem_pre ht.ext rfl) (getElem_pre ht.ext rfl)
        obtain ⟨gp, hgp, hownp, lp, p4, p5, p6⟩ := hr'.obj 2 _ rfl rfl
        obtain ⟨g1, hg1, hown1, hm1⟩ := hr'.obj 1 _ rfl rfl
        rw [getElem_pre ht.ext (i := 1) (u := .blk gm) rfl] at hg1; simp at hg1; subst hg1
        unfold m1At at hm1
        obtain ⟨vp, hvp, hm1⟩ := hm1
        obtain ⟨gq, hgq, rfl⟩ := den_ptr hvp
        rw [hgp] at hgq; simp at hgq; subst hgq
        rcases hm1 with hm1 | ⟨_, hf, clk', born, hmap⟩
        · exact absurd hm1.1 (by simp)
        have hnew : w.heap.size ≤ gp := by
          rcases Nat.lt_or_ge gp w.heap.size with hlt | hge
          · exfalso
            have hgpg : gp ≠ gb := fun e => by subst e; rw [o0] at p6; simp at p6; have := congrArg List.length p6.1; simp at this; omega
            have hgpm : gp ≠ gm := fun e => by subst e; rw [hmap] at p6; cases p6
            rcases ht.news gp (by simp [own2, hgpg, hgpm]) with h | h
            · rw [hownp] at h; cases h
            · omega
          · exact hge
        have lgp := (Array.getElem?_eq_some_iff.1 p6).1
        obtain ⟨own2', hown2⟩ : ∃ o : Nat → Option Nat, o = fun x => if x = gp then some b else own x := ⟨_, rfl⟩
        have hownlt : ∀ x j, own x = some j → x < w.heap.size := fun x j hx => (hr.lt x j hx).1
        obtain ⟨ht2, hr2⟩ := hr.turnAt (own' := own2') (w' := w') (o := .ext 0 (updM M at_ v)) hbm hgb ht.kept.os ht.kept.tape ht.kept.output ht.kept.size
          (fun x hlt hx => by
            have e1 : x ≠ gb := fun e => hx (by rw [e]; exact hown)
            have e2 : x ≠ gm := fun e => hx (by rw [e]; exact q3)
            exact ht.kept.block x hlt (by simp [own2, e1, e2]))
          (fun x hlt => by rw [hown2]; simp [show x ≠ gp by omega])
          (fun x hge => by
            by_cases e : x = gp
            · right; rw [hown2]; subst e; exact ⟨by simp, lgp⟩
            · left
              have : own x = none := by
                cases h : own x with
                | none => rfl
                | some j => have := hownlt x j h; omega
              rw [hown2]; simp [e, this])
          ⟨by rw [hown2]; simp [show gb ≠ gp by omega, hown], rfl, by
            refine ⟨gm, es ++ [{ key := .int .u32 (at_ - at_ % 4096), val := .pointer (some ⟨gp, 0, none⟩), born := born }], clk', T, by rw [hown2]; simp [show gb ≠ gp by omega, hown], o0, by rw [hown2]; simp [show gm ≠ gp by omega]; exact q3, q4, hmap, ?_, ?_, ?_, ?_⟩
            · intro e' he'
              rcases List.mem_append.1 he' with he' | he'
              · exact q6 e' he'
              · simp at he'; subst he'; exact ⟨_, _, rfl, rfl⟩
            · intro a c hac
              rw [pgOf_snoc rfl rfl q6] at hac
              cases hpa : pgOf es a with
              | some c' =>
                rw [hpa] at hac; simp at hac; subst hac
                obtain ⟨r0, r1, r2, r3, l', Tp', r4, r5, r6⟩ := q7 a _ hpa
                have hne : a ≠ at_ - at_ % 4096 := fun e => by rw [e, hpf] at hpa; cases hpa
                have hcl := (Array.getElem?_eq_some_iff.1 r6).1
                refine ⟨r0, by rw [hown2]; simp [show c' ≠ gp by omega, r1], r2, r3, l', Tp', r4, fun j hj => by rw [other a r0 hne j hj]; exact r5 j hj, ?_⟩
                rw [ht.kept.block c' hcl (by simp [own2, r2, r3])]; exact r6
              | none =>
                rw [hpa] at hac
                cases hae : a == at_ - at_ % 4096 with
                | false => rw [hae] at hac; cases hac
                | true =>
                  rw [hae] at hac; simp at hac hae; subst hac hae
                  have hgpg : gp ≠ gb := by omega
                  have hgpm : gp ≠ gm := by omega
                  refine ⟨by omega, by rw [hown2]; simp, hgpg, hgpm, lp, Tp0, p4, fun j hj => ?_, p6⟩
                  rw [p5 j hj, same j hj]
                  unfold updM
                  cases (j : Int) == at_ % 4096
                  · simp only [cond_false]; rw [q9 _ (by omega) hpf j hj]
                  · rfl
            · intro a a' c h1 h2
              rw [pgOf_snoc rfl rfl q6] at h1 h2
              have old : ∀ x c, pgOf es x = some c → c ≠ gp := fun x c h => by
                obtain ⟨_, _, _, _, l', Tp', _, _, r6⟩ := q7 x c h
                have := (Array.getElem?_eq_some_iff.1 r6).1
                omega
              cases h3 : pgOf es a with
              | some c1 =>
                rw [h3] at h1; simp at h1; subst h1
                cases h4 : pgOf es a' with
                | some c2 => rw [h4] at h2; simp at h2; subst h2; exact q8 _ _ _ h3 h4
                | none =>
                  rw [h4] at h2
                  cases h5 : a' == at_ - at_ % 4096 <;> rw [h5] at h2 <;> simp at h2
                  exact absurd h2.symm (old _ _ h3)
              | none =>
                rw [h3] at h1
                cases h5 : a == at_ - at_ % 4096 <;> rw [h5] at h1 <;> simp at h1
                subst h1
                cases h4 : pgOf es a' with
                | some c2 => rw [h4] at h2; simp at h2; subst h2; exact absurd rfl (old _ _ h4)
                | none =>
                  rw [h4] at h2
                  cases h6 : a' == at_ - at_ % 4096 <;> rw [h6] at h2 <;> simp at h2
                  simp at h5 h6
                  rw [h5, h6]
            · intro a h0 hpa j hj
              rw [pgOf_snoc rfl rfl q6] at hpa
              cases h3 : pgOf es a with
              | some c1 => rw [h3] at hpa; cases hpa
              | none =>
                rw [h3] at hpa
                cases h5 : a == at_ - at_ % 4096 with
                | true => rw [h5] at hpa; cases hpa
                | false =>
                  simp at h5
                  rw [other a h0 h5 j hj]
                  exact q9 a h0 h3 j hj⟩
        exact ⟨ρ, own2', _, ht2, by simp [den, denL], hr2, he⟩
      | some gp =>
        obtain ⟨p0, p1, p2, p3, l, Tp, p4, p5, p6⟩ := q7 _ _ hpf
        have lp := (Array.getElem?_eq_some_iff.1 p6).1
        obtain ⟨jx, hjx⟩ := pgOf_some 0 q6 hpf
        have hc := callR_ev hΓ hb (h1 at_ v es clk T Tp (fun j => M ((at_ - at_ % 4096) + j)) hg)
        have hrep : Rep XM [.blk gb, .blk gm, .blk gp] (own3 gb gm gp) [.cells [.mp 1] T, .m1 .u32 (at_ - at_ % 4096) es clk (some (.ptr 2 0)) false, .arr .u8 Tp 4096 (fun j => M ((at_ - at_ % 4096) + j))] w := by
          refine ⟨rfl, fun b k hk => ?_, fun k o ho ha => ?_⟩
          · unfold own3 at hk
            split at hk
            · rename_i e; simp at hk; subst hk e; exact ⟨lg, by simp⟩
            · split at hk
              · rename_i e; simp at hk; subst hk e; exact ⟨lm, by simp⟩
              · split at hk
                · rename_i e; simp at hk; subst hk e; exact ⟨lp, by simp⟩
                · cases hk
          · match k with
            | 0 => simp at ho; subst ho; exact ⟨gb, rfl, by simp [own3], [.map (some gm)], by simp [denL, den], q2⟩
            | 1 => simp at ho; subst ho; exact ⟨gm, rfl, by simp [own3, q4], .pointer (some ⟨gp, 0, none⟩), by simp [den], .inl ⟨rfl, ⟨jx, hjx⟩, q5⟩⟩
            | 2 => simp at ho; subst ho; exact ⟨gp, rfl, by simp [own3, p2, p3], l, p4, p5, p6⟩
            | k + 3 => simp at ho
        refine (hc [.blk gb, .blk gm, .blk gp] (own3 gb gm gp) w [.pointer (some ⟨gb, 0, none⟩), .int .u32 at_, .int .u8 v] rfl hrep).mono fun e w' ⟨ρ', own', x, ht, hx, hr', he⟩ => ?_
        have hx2 : x = .tuple #[] := by simpa [den, denL] using hx.symm
        subst hx2
        have o0 := head_cells hr' (k := 0) (j := 1) (T := T) rfl (getElem_pre ht.ext rfl) (getElem_pre ht.ext rfl)
        obtain ⟨g2, hgp, hownp, lp2, s4, s5, s6⟩ := hr'.obj 2 _ rfl rfl
        rw [getElem_pre ht.ext (i := 2) (u := .blk gp) rfl] at hgp; simp at hgp; subst hgp
        obtain ⟨g1, hg1, hown1, hm1⟩ := hr'.obj 1 _ rfl rfl
        rw [getElem_pre ht.ext (i := 1) (u := .blk gm) rfl] at hg1; simp at hg1; subst hg1
        unfold m1At at hm1
        obtain ⟨vp, hvp, hm1⟩ := hm1
        rcases hm1 with ⟨_, _, hmap⟩ | hm1
        rotate_left
        · exact absurd hm1.1 (by simp)
        have hownlt : ∀ x j, own x = some j → x < w.heap.size := fun x j hx => (hr.lt x j hx).1
        obtain ⟨ht2, hr2⟩ := hr.turnAt (own' := own) (w' := w') (o := .ext 0 (updM M at_ v)) hbm hgb ht.kept.os ht.kept.tape ht.kept.output ht.kept.size
          (fun x hlt hx => by
            have e1 : x ≠ gb := fun e => hx (by rw [e]; exact hown)
            have e2 : x ≠ gm := fun e => hx (by rw [e]; exact q3)
            have e3 : x ≠ gp := fun e => hx (by rw [e]; exact p1)
            exact ht.kept.block x hlt (by simp [own3, e1, e2, e3]))
          (fun x hlt => rfl)
          (fun x hge => by
            left
            cases h : own x with
            | none => rfl
            | some j => have := hownlt x j h; omega)
          ⟨hown, rfl, gm, es, clk, T, hown, o0, q3, q4, hmap, q6, fun a c hac => by
            by_cases hae : a = at_ - at_ % 4096
            · subst hae
              rw [hpf] at hac; simp at hac; subst hac
              exact ⟨p0, p1, p2, p3, lp2, Tp, s4, fun j hj => by rw [s5 j hj, same j hj], s6⟩
            · obtain ⟨r0, r1, r2, r3, l', Tp', r4, r5, r6⟩ := q7 a _ hac
              have hcp : c ≠ gp := fun e => hae (q8 _ _ _ (e ▸ hac) hpf)
              have hcl := (Array.getElem?_eq_some_iff.1 r6).1
              exact ⟨r0, r1, r2, r3, l', Tp', r4, fun j hj => by rw [other a r0 hae j hj]; exact r5 j hj, by rw [ht.kept.block c hcl (by simp [own3, r2, r3, hcp])]; exact r6⟩, q8, fun a h0 hpa j hj => by
            have hne : a ≠ at_ - at_ % 4096 := fun e => by rw [e, hpf] at hpa; cases hpa
            rw [other a h0 hne j hj]
            exact q9 a h0 hpa j hj⟩
        exact ⟨ρ, own, _, ht2, by simp [den, denL], hr2, he⟩
    · cases h
  · cases h

theorem memNew_ok {n : Nat} {f : FuncId} {T0 : TypeId} (hΓ : EnvOk P XM Γ) (hb : callOkB P f = true) (h0 : evF P Γ n f [] [] kSM kNo = some (.ptr 1 0, [.pm .u32 [], .cells [.mp 0] T0])) : SpecOk P XM f memNewS := by
  intro R args m k kp r h
  unfold memNewS at h
  split at h
  · refine .inl ⟨_, _, h, fun ρ own w l hl hr => ?_⟩
    simp [denL] at hl; subst hl
    have hc := callR_ev hΓ hb h0
    refine (hc [] (fun _ => none) w [] rfl (Rep.nil XM w)).mono fun e w' ⟨ρ', own', x, ht, hx, hr', he⟩ => ?_
    obtain ⟨g, hg, rfl⟩ := den_ptr hx
    obtain ⟨gm, hgm, hownm, es', lm, hperm, hents, hmap⟩ := hr'.obj 0 _ rfl rfl
    have hes : es' = [] := by simpa using hperm
    subst hes
    simp only [entsAt] at hents; subst hents
    have o1 := head_cells hr' (k := 1) (j := 0) (T := T0) rfl hg hgm
    obtain ⟨g', hg', hown1, _⟩ := hr'.obj 1 _ rfl rfl
    rw [hg] at hg'; simp at hg'; subst hg'
    have hge : w.heap.size ≤ g := by
      rcases ht.news g rfl with h | h
      · rw [hown1] at h; cases h
      · exact h
    have hgem : w.heap.size ≤ gm := by
      rcases ht.news gm rfl with h | h
      · rw [hownm] at h; cases h
      · exact h
    have lg := (Array.getElem?_eq_some_iff.1 o1).1
    have lm := (Array.getElem?_eq_some_iff.1 hmap).1
    have hne : gm ≠ g := fun e => by subst e; rw [o1] at hmap; cases hmap
    have hkeep : ∀ b, b < w.heap.size → w'.heap[b]? = w.heap[b]? := fun b hlt => ht.kept.block b hlt rfl
    have hownlt : ∀ x j, own x = some j → x < w.heap.size ∧ j < m.length := fun x j hx => hr.lt x j hx
    have hpre : ∃ l, ρ ++ [Un.blk g] = ρ ++ l := ⟨_, rfl⟩
    refine ⟨ρ ++ [.blk g], fun x => if x = g ∨ x = gm then some m.length else own x, .pointer (some ⟨g, 0, none⟩), ⟨hpre, fun x hx => ?_, ⟨ht.kept.os, ht.kept.tape, ht.kept.output, ht.kept.size, fun b hlt _ => hkeep b hlt⟩⟩, ?_, ⟨by simp [hr.len], fun x j hj => ?_, fun j o ho ha => ?_⟩, he⟩
    · by_cases e : x = g ∨ x = gm
      · right; rcases e with e | e <;> omega
      · left; simp [e, hx]
    · simp only [den, ← hr.len]; simp
    · split at hj
      · rename_i e; simp at hj; subst hj; simp; rcases e with e | e <;> omega
      · have := hownlt x j hj
        have := ht.kept.size
        simp; omega
    · by_cases hj : j < m.length
      · rw [List.getElem?_append_left hj] at ho
        obtain ⟨g2, hg2, hob2⟩ := hr.obj j o ho ha
        refine ⟨g2, getElem_pre hpre hg2, ?_⟩
        have h1 := hob2.reown (own' := fun x => if x = g ∨ x = gm then some m.length else own x) (fun x => by
          by_cases e : x = g ∨ x = gm
          · simp only [e, if_true, Option.some.injEq]
            constructor
            · intro h; omega
            · intro h; have := (hownlt x j h).1; rcases e with e | e <;> omega
          · simp [e]) (fun x hlt hx => by rw [if_neg (by intro e; rcases e with e | e <;> omega)]; exact hx)
        refine (h1.stable (w' := w') (fun x hx => ?_) (fun x hlt hx => hkeep x hlt) ht.kept.size).mono hpre
        split at hx
        · simp at hx; omega
        · exact hkeep x (hownlt x j hx).1
      · have hjm : j = m.length := by
          rcases Nat.lt_or_ge j (m.length + 1) with h' | h'
          · omega
          · rw [List.getElem?_eq_none (by simp; omega)] at ho; cases ho
        subst hjm
        simp at ho; subst ho
        refine ⟨g, by rw [← hr.len]; simp, by simp, rfl, gm, [], 0, T0, by simp, o1, by simp, hne, ?_, fun e he => (by simp at he), fun a b h => (by cases h), fun a a' b h => (by cases h), fun a _ _ j _ => rfl⟩
        simpa using hmap
  · cases h
end
end Go.Ev
