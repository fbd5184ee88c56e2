/- The values, the memory and the operations of a reckoning of Go code by the kernel: each operation's answer is that of the model. -/
import Derived.Deep.Quiet
import Derived.Laws.Rows
import Derived.Laws.StructEq
import Derived.Laws.CopyRow
import Derived.Laws.AppendOwn
namespace Go.Ev
set_option linter.unusedVariables false
open Go

/-- What isn't told: a block's number, or any values. -/
inductive Un where
  | blk (g : Nat)
  | vals (l : List Value)
  | nan (x : Nat) (h : (Ieee.double.read x).isNaN = true)
  | cap (n : Nat)

inductive Sv where
  | v (x : Value)
  | ptr (b off : Nat)
  | sl (b off len cap : Nat)
  | sa (b c off len : Nat)
  | mp (b : Nat)
  | unk (b i : Nat)
  | pix (b off len : Nat) (i : Int)
  | nan (b : Nat)
  | agg (cs : List Sv)
  | tup (cs : List Sv)

mutual
def den (ρ : List Un) : Sv → Option Value
  | .v x => some x
  | .ptr b off => match ρ[b]? with
    | some (.blk g) => some (.pointer (some ⟨g, off, none⟩))
    | _ => none
  | .sl b off len cap => match ρ[b]? with
    | some (.blk g) => some (.slice (some ⟨g, off, none⟩) len cap)
    | _ => none
  | .sa b c off len => match ρ[b]? with
    | some (.blk g) => match ρ[c]? with
      | some (.cap n) => if off + len ≤ n then some (.slice (some ⟨g, off, none⟩) len (n - off)) else none
      | _ => none
    | _ => none
  | .mp b => match ρ[b]? with
    | some (.blk g) => some (.map (some g))
    | _ => none
  | .unk b i => match ρ[b]? with
    | some (.vals l) => l[i]?
    | _ => none
  | .pix b off len i => match ρ[b]? with
    | some (.blk g) => if 0 ≤ i ∧ i < (len : Int) then some (.pointer (some ⟨g, off + i.toNat, none⟩)) else none
    | _ => none
  | .nan b => match ρ[b]? with
    | some (.nan x _) => some (.float .f64 x)
    | _ => none
  | .agg cs => match denL ρ cs with
    | some l => some (.agg l.toArray)
    | none => none
  | .tup cs => match denL ρ cs with
    | some l => some (.tuple l.toArray)
    | none => none
def denL (ρ : List Un) : List Sv → Option (List Value)
  | [] => some []
  | c :: cs => match den ρ c, denL ρ cs with
    | some x, some xs => some (x :: xs)
    | _, _ => none
end

mutual
def gr : Sv → Bool
  | .v _ => true
  | .ptr _ _ => false
  | .sl _ _ _ _ => false
  | .sa _ _ _ _ => false
  | .mp _ => false
  | .unk _ _ => false
  | .pix _ _ _ _ => false
  | .nan _ => false
  | .agg cs => grL cs
  | .tup cs => grL cs
def grL : List Sv → Bool
  | [] => true
  | c :: cs => gr c && grL cs
end

theorem denL_cons {ρ : List Un} {c : Sv} {cs : List Sv} {l : List Value} (h : denL ρ (c :: cs) = some l) :
    ∃ x xs, den ρ c = some x ∧ denL ρ cs = some xs ∧ l = x :: xs := by
  simp only [denL] at h
  split at h
  · rename_i x xs hx hxs; exact ⟨x, xs, hx, hxs, by simpa using h.symm⟩
  · cases h

theorem denL_mk {ρ : List Un} {c : Sv} {cs : List Sv} {x : Value} {xs : List Value} (h : den ρ c = some x) (h' : denL ρ cs = some xs) :
    denL ρ (c :: cs) = some (x :: xs) := by simp [denL, h, h']

mutual
theorem den_mono {ρ ρ' : List Un} (hp : ∃ l, ρ' = ρ ++ l) : ∀ {s : Sv} {x : Value}, den ρ s = some x → den ρ' s = some x
  | .v x, y, h => by simpa [den] using h
  | .ptr b off, y, h => by
    obtain ⟨l, rfl⟩ := hp
    simp only [den] at h ⊢
    cases hb : ρ[b]? with
    | none => simp [hb] at h
    | some g =>
      have hlt := (List.getElem?_eq_some_iff.1 hb).1
      rw [List.getElem?_append_left hlt, hb]; simpa [hb] using h
  | .sl b off len cap, y, h => by
    obtain ⟨l, rfl⟩ := hp
    simp only [den] at h ⊢
    cases hb : ρ[b]? with
    | none => simp [hb] at h
    | some g =>
      have hlt := (List.getElem?_eq_some_iff.1 hb).1
      rw [List.getElem?_append_left hlt, hb]; simpa [hb] using h
  | .sa b c off len, y, h => by
    obtain ⟨l, rfl⟩ := hp
    simp only [den] at h ⊢
    cases hb : ρ[b]? with
    | none => simp [hb] at h
    | some g =>
      have hlt := (List.getElem?_eq_some_iff.1 hb).1
      rw [List.getElem?_append_left hlt, hb]
      cases hc : ρ[c]? with
      | none => cases g <;> simp [hb, hc] at h
      | some g2 =>
        have hlt2 := (List.getElem?_eq_some_iff.1 hc).1
        rw [List.getElem?_append_left hlt2, hc]; simpa [hb, hc] using h
  | .mp b, y, h => by
    obtain ⟨l, rfl⟩ := hp
    simp only [den] at h ⊢
    cases hb : ρ[b]? with
    | none => simp [hb] at h
    | some g =>
      have hlt := (List.getElem?_eq_some_iff.1 hb).1
      rw [List.getElem?_append_left hlt, hb]; simpa [hb] using h
  | .unk b i, y, h => by
    obtain ⟨l, rfl⟩ := hp
    simp only [den] at h ⊢
    cases hb : ρ[b]? with
    | none => simp [hb] at h
    | some g =>
      have hlt := (List.getElem?_eq_some_iff.1 hb).1
      rw [List.getElem?_append_left hlt, hb]; simpa [hb] using h
  | .nan b, y, h => by
    obtain ⟨l, rfl⟩ := hp
    simp only [den] at h ⊢
    cases hb : ρ[b]? with
    | none => simp [hb] at h
    | some g =>
      have hlt := (List.getElem?_eq_some_iff.1 hb).1
      rw [List.getElem?_append_left hlt, hb]; simpa [hb] using h
  | .pix b off len i, y, h => by
    obtain ⟨l, rfl⟩ := hp
    simp only [den] at h ⊢
    cases hb : ρ[b]? with
    | none => simp [hb] at h
    | some g =>
      have hlt := (List.getElem?_eq_some_iff.1 hb).1
      rw [List.getElem?_append_left hlt, hb]; simpa [hb] using h
  | .agg cs, y, h => by
    simp only [den] at h ⊢
    cases hc : denL ρ cs with
    | none => simp [hc] at h
    | some l => rw [denL_mono hp hc]; simpa [hc] using h
  | .tup cs, y, h => by
    simp only [den] at h ⊢
    cases hc : denL ρ cs with
    | none => simp [hc] at h
    | some l => rw [denL_mono hp hc]; simpa [hc] using h
theorem denL_mono {ρ ρ' : List Un} (hp : ∃ l, ρ' = ρ ++ l) : ∀ {cs : List Sv} {l : List Value}, denL ρ cs = some l → denL ρ' cs = some l
  | [], l, h => by simpa [denL] using h
  | c :: cs, l, h => by
    obtain ⟨x, xs, hx, hxs, rfl⟩ := denL_cons h
    exact denL_mk (den_mono hp hx) (denL_mono hp hxs)
end

mutual
theorem den_gr : ∀ {s : Sv}, gr s = true → ∃ x, ∀ ρ, den ρ s = some x
  | .v x, _ => ⟨x, fun _ => rfl⟩
  | .ptr _ _, h => by simp [gr] at h
  | .sl _ _ _ _, h => by simp [gr] at h
  | .sa _ _ _ _, h => by simp [gr] at h
  | .mp _, h => by simp [gr] at h
  | .unk _ _, h => by simp [gr] at h
  | .pix _ _ _ _, h => by simp [gr] at h
  | .nan _, h => by simp [gr] at h
  | .agg cs, h => by
    obtain ⟨l, hl⟩ := denL_gr (cs := cs) (by simpa [gr] using h)
    exact ⟨.agg l.toArray, fun ρ => by simp only [den, hl ρ]⟩
  | .tup cs, h => by
    obtain ⟨l, hl⟩ := denL_gr (cs := cs) (by simpa [gr] using h)
    exact ⟨.tuple l.toArray, fun ρ => by simp only [den, hl ρ]⟩
theorem denL_gr : ∀ {cs : List Sv}, grL cs = true → ∃ l, ∀ ρ, denL ρ cs = some l
  | [], _ => ⟨[], fun _ => rfl⟩
  | c :: cs, h => by
    simp only [grL, Bool.and_eq_true] at h
    obtain ⟨x, hx⟩ := den_gr h.1
    obtain ⟨l, hl⟩ := denL_gr h.2
    exact ⟨x :: l, fun ρ => denL_mk (hx ρ) (hl ρ)⟩
end

theorem denL_length {ρ : List Un} : ∀ {cs : List Sv} {l : List Value}, denL ρ cs = some l → l.length = cs.length
  | [], l, h => by simp [denL] at h; subst h; rfl
  | c :: cs, l, h => by
    obtain ⟨_, xs, _, hxs, rfl⟩ := denL_cons h
    simp [denL_length hxs]

theorem denL_append {ρ : List Un} : ∀ {a b : List Sv} {la lb : List Value}, denL ρ a = some la → denL ρ b = some lb → denL ρ (a ++ b) = some (la ++ lb)
  | [], b, la, lb, h, hb => by simp [denL] at h; subst h; simpa using hb
  | c :: cs, b, la, lb, h, hb => by
    obtain ⟨x, xs, hx, hxs, rfl⟩ := denL_cons h
    exact denL_mk hx (denL_append hxs hb)

theorem denL_v (ρ : List Un) : ∀ (l : List Value), denL ρ (l.map .v) = some l
  | [] => rfl
  | x :: l => denL_mk rfl (denL_v ρ l)

theorem denL_replicate (ρ : List Un) (x : Value) : ∀ (n : Nat), denL ρ (List.replicate n (.v x)) = some (List.replicate n x)
  | 0 => rfl
  | n + 1 => denL_mk rfl (denL_replicate ρ x n)

/-! ### Lists -/
def nth : List Sv → Nat → Sv
  | [], _ => .v undef
  | x :: _, 0 => x
  | _ :: l, n + 1 => nth l n
def setN : List Sv → Nat → Sv → List Sv
  | [], _, _ => []
  | _ :: l, 0, y => y :: l
  | x :: l, n + 1, y => x :: setN l n y
def takeN : List Sv → Nat → Option (List Sv)
  | _, 0 => some []
  | [], _ + 1 => none
  | x :: l, n + 1 => match takeN l n with
    | some r => some (x :: r)
    | none => none
def seg : List Sv → Nat → Nat → Option (List Sv)
  | l, 0, n => takeN l n
  | [], _ + 1, _ => none
  | _ :: l, o + 1, n => seg l o n
/-- 'xs' laid over the head of a list; none: it is too short. -/
def over : List Sv → List Sv → Option (List Sv)
  | l, [] => some l
  | [], _ :: _ => none
  | _ :: l, y :: ys => match over l ys with
    | some r => some (y :: r)
    | none => none
def setSeg : List Sv → Nat → List Sv → Option (List Sv)
  | l, 0, ys => over l ys
  | [], _ + 1, _ => none
  | x :: l, o + 1, ys => match setSeg l o ys with
    | some r => some (x :: r)
    | none => none

theorem nth_den {ρ : List Un} : ∀ {t : List Sv} {l : List Value} (i : Nat), denL ρ t = some l → den ρ (nth t i) = some (l.getD i undef)
  | [], l, i, h => by simp [denL] at h; subst h; simp [nth, den]
  | c :: cs, l, 0, h => by obtain ⟨x, xs, hx, _, rfl⟩ := denL_cons h; simpa [nth] using hx
  | c :: cs, l, i + 1, h => by obtain ⟨x, xs, _, hxs, rfl⟩ := denL_cons h; simpa [nth] using nth_den i hxs

theorem setN_den {ρ : List Un} : ∀ {t : List Sv} {l : List Value} (i : Nat) {s : Sv} {x : Value}, denL ρ t = some l → den ρ s = some x → denL ρ (setN t i s) = some (l.set i x)
  | [], l, i, s, x, h, _ => by simp [denL] at h; subst h; simp [setN, denL]
  | c :: cs, l, 0, s, x, h, hs => by obtain ⟨y, ys, _, hys, rfl⟩ := denL_cons h; simpa [setN] using denL_mk hs hys
  | c :: cs, l, i + 1, s, x, h, hs => by obtain ⟨y, ys, hy, hys, rfl⟩ := denL_cons h; simpa [setN] using denL_mk hy (setN_den i hys hs)

theorem takeN_den {ρ : List Un} : ∀ {t : List Sv} {l : List Value} (n : Nat) {r : List Sv}, denL ρ t = some l → takeN t n = some r → denL ρ r = some (l.take n) ∧ n ≤ l.length
  | t, l, 0, r, _, hr => by simp [takeN] at hr; subst hr; simp [denL]
  | [], l, n + 1, r, h, hr => by simp [takeN] at hr
  | c :: cs, l, n + 1, r, h, hr => by
    obtain ⟨y, ys, hy, hys, rfl⟩ := denL_cons h
    simp only [takeN] at hr
    split at hr
    · rename_i r' hr'
      simp at hr; subst hr
      have := takeN_den n hys hr'
      exact ⟨by simpa using denL_mk hy this.1, by simpa using this.2⟩
    · cases hr

theorem seg_den {ρ : List Un} : ∀ {t : List Sv} {l : List Value} (o n : Nat) {r : List Sv}, denL ρ t = some l → seg t o n = some r → denL ρ r = some ((l.drop o).take n) ∧ o + n ≤ l.length
  | t, l, 0, n, r, h, hr => by
    have := takeN_den n h (by cases t <;> simpa [seg] using hr)
    simpa using this
  | [], l, o + 1, n, r, h, hr => by simp [seg] at hr
  | c :: cs, l, o + 1, n, r, h, hr => by
    obtain ⟨y, ys, hy, hys, rfl⟩ := denL_cons h
    have := seg_den o n hys (by simpa [seg] using hr)
    exact ⟨by simpa using this.1, by have := this.2; simp; omega⟩

theorem over_den {ρ : List Un} : ∀ {t : List Sv} {l : List Value} {ys : List Sv} {ly : List Value} {r : List Sv}, denL ρ t = some l → denL ρ ys = some ly → over t ys = some r →
    denL ρ r = some (ly ++ l.drop ly.length) ∧ ly.length ≤ l.length
  | t, l, [], ly, r, h, hy, hr => by
    have : over t [] = some t := by cases t <;> rfl
    rw [this] at hr; simp at hr; subst hr
    simp [denL] at hy; subst hy; simpa using h
  | [], l, y :: ys, ly, r, h, hy, hr => by simp [over] at hr
  | c :: cs, l, y :: ys, ly, r, h, hy, hr => by
    obtain ⟨a, as, ha, has, rfl⟩ := denL_cons h
    obtain ⟨b, bs, hb, hbs, rfl⟩ := denL_cons hy
    simp only [over] at hr
    split at hr
    · rename_i r' hr'
      simp at hr; subst hr
      have := over_den has hbs hr'
      exact ⟨by simpa using denL_mk hb this.1, by simpa using this.2⟩
    · cases hr

theorem setSeg_den {ρ : List Un} : ∀ {t : List Sv} {l : List Value} (o : Nat) {ys : List Sv} {ly : List Value} {r : List Sv}, denL ρ t = some l → denL ρ ys = some ly → setSeg t o ys = some r →
    denL ρ r = some (l.take o ++ ly ++ l.drop (o + ly.length)) ∧ o + ly.length ≤ l.length
  | t, l, 0, ys, ly, r, h, hy, hr => by
    have := over_den h hy (by cases t <;> simpa [setSeg] using hr)
    simpa using this
  | [], l, o + 1, ys, ly, r, h, hy, hr => by simp [setSeg] at hr
  | c :: cs, l, o + 1, ys, ly, r, h, hy, hr => by
    obtain ⟨a, as, ha, has, rfl⟩ := denL_cons h
    simp only [setSeg] at hr
    split at hr
    · rename_i r' hr'
      simp at hr; subst hr
      have := setSeg_den o has hy hr'
      refine ⟨?_, by have := this.2; simp; omega⟩
      have e : o + 1 + ly.length = (o + ly.length) + 1 := by omega
      rw [e]
      simpa using denL_mk ha this.1
    · cases hr

theorem denL_get {ρ : List Un} : ∀ {cs : List Sv} {l : List Value} (i : Nat) {s : Sv}, denL ρ cs = some l → cs[i]? = some s → ∃ x, l[i]? = some x ∧ den ρ s = some x
  | [], l, i, s, h, hs => by simp at hs
  | c :: cs, l, 0, s, h, hs => by obtain ⟨x, xs, hx, _, rfl⟩ := denL_cons h; simp at hs; subst hs; exact ⟨x, by simp, hx⟩
  | c :: cs, l, i + 1, s, h, hs => by obtain ⟨x, xs, _, hxs, rfl⟩ := denL_cons h; simpa using denL_get i hxs (by simpa using hs)

/-! ### Memory -/
inductive SObj where
  | cells (cs : List Sv) (e : TypeId)
  | ro (base n : Nat) (f : Nat → Value)
  | ext (tag : Nat) (M : Int → Int)
  | pm (q : IntKind) (es : List (Int × Sv))
  | it (b n : Nat)
  | bm (q qe : IntKind) (M : Int → Int)
  | buf (c : Nat) (cs : List Sv) (e : TypeId)
  | bufz (z c : Nat) (cs : List Sv) (e : TypeId)
  | arr (q : IntKind) (e : TypeId) (n : Nat) (F : Int → Int)
  | m1 (q : IntKind) (a : Int) (es : List MapEntry) (clk : Nat) (p : Option Sv) (nw : Bool)
  | rowd
  | dead

def alive : SObj → Bool
  | .dead => false
  | .rowd => false
  | _ => true

/-- What an object of another make is in memory: it hangs on the blocks that it owns alone. -/
structure Ext where
  at_ : Nat → (Int → Int) → Nat → (Nat → Prop) → World → Prop
  stable : ∀ tag M g (owned : Nat → Prop) (w w' : World), (∀ b, owned b → w'.heap[b]? = w.heap[b]?) → at_ tag M g owned w → at_ tag M g owned w'

/-- A map's entries, in the order in which they were laid. -/
def entsAt (ρ : List Un) (q : IntKind) : Nat → List (Int × Sv) → List MapEntry → Prop
  | _, [], l => l = []
  | i, (a, s) :: es, l => ∃ v l', l = { key := .int q a, val := v, born := i } :: l' ∧ den ρ s = some v ∧ entsAt ρ q (i + 1) es l'

theorem entsAt.mono {ρ ρ' : List Un} {q : IntKind} (hp : ∃ l, ρ' = ρ ++ l) : ∀ {i : Nat} {es : List (Int × Sv)} {l : List MapEntry}, entsAt ρ q i es l → entsAt ρ' q i es l
  | i, [], l, h => h
  | i, (a, s) :: es, l, ⟨v, l', h1, h2, h3⟩ => ⟨v, l', h1, den_mono hp h2, entsAt.mono hp h3⟩

theorem entsAt.snoc {ρ : List Un} {q : IntKind} {a : Int} {s : Sv} {v : Value} (hs : den ρ s = some v) : ∀ {i : Nat} {es : List (Int × Sv)} {l : List MapEntry}, entsAt ρ q i es l → entsAt ρ q i (es ++ [(a, s)]) (l ++ [{ key := .int q a, val := v, born := i + es.length }])
  | i, [], l, h => by
    simp only [entsAt] at h; subst h
    exact ⟨v, [], by simp, hs, rfl⟩
  | i, (b, t) :: es, l, ⟨u, l', h1, h2, h3⟩ => by
    subst h1
    refine ⟨u, _, by simp; rfl, h2, ?_⟩
    have := entsAt.snoc (a := a) hs h3
    rw [show i + 1 + es.length = i + (es.length + 1) by omega] at this
    simpa using this

/-- What a map of numbers to numbers answers. -/
def lookI : List MapEntry → Int → Int
  | [], _ => 0
  | e :: l, a => match e.key, e.val with
    | .int _ k, .int _ b => bif a == k then b else lookI l a
    | _, _ => 0
def intEnts (q qe : IntKind) (l : List MapEntry) : Prop := ∀ e ∈ l, ∃ a b, e.key = .int q a ∧ e.val = .int qe b

/-- How long a row is of which only the head is told. -/
def capAt (ρ : List Un) (c n : Nat) : Prop := ρ[c]? = some (.cap n)
theorem capAt.mono {ρ ρ' : List Un} {c n : Nat} (hp : ∃ l, ρ' = ρ ++ l) (h : capAt ρ c n) : capAt ρ' c n := by
  obtain ⟨l, rfl⟩ := hp
  unfold capAt at h ⊢
  rw [List.getElem?_append_left (List.getElem?_eq_some_iff.1 h).1]; exact h
/-- No cell of a row is frozen. -/
def frOk (fr : Nat × Nat) (n : Nat) : Prop := fr = (0, 0) ∨ n ≤ fr.1
/-- A map of which one key is told: 'es' are all entries, but for a new one of that key. -/
def m1At (ρ : List Un) (q : IntKind) (a : Int) (es : List MapEntry) (clk : Nat) (p : Option Sv) (nw : Bool) (ob : Option Obj) : Prop :=
  match p with
  | none => nw = false ∧ Instr.findNow (.int q) (.int q a) es 0 = some none ∧ ob = some (.map es.toArray clk)
  | some s => ∃ v, den ρ s = some v ∧ ((nw = false ∧ (∃ i, Instr.findNow (.int q) (.int q a) es 0 = some (some (i, v))) ∧ ob = some (.map es.toArray clk)) ∨
      (nw = true ∧ Instr.findNow (.int q) (.int q a) es 0 = some none ∧ ∃ clk born, ob = some (.map (es ++ [({ key := .int q a, val := v, born := born } : MapEntry)]).toArray clk)))
theorem m1At.mono {ρ ρ' : List Un} {q : IntKind} {a : Int} {es : List MapEntry} {clk : Nat} {p : Option Sv} {nw : Bool} {ob : Option Obj} (hp : ∃ l, ρ' = ρ ++ l) (h : m1At ρ q a es clk p nw ob) : m1At ρ' q a es clk p nw ob := by
  unfold m1At at h ⊢
  cases p with
  | none => exact h
  | some s => obtain ⟨v, h1, h2⟩ := h; exact ⟨v, den_mono hp h1, h2⟩

def ObjAt (X : Ext) (ρ : List Un) (own : Nat → Option Nat) (k g : Nat) (w : World) : SObj → Prop
  | .cells cs e => own g = some k ∧ ∃ l, denL ρ cs = some l ∧ w.heap[g]? = some (.cells l.toArray e (0, 0))
  | .ro base n f => own g = none ∧ g < w.heap.size ∧ ∀ i, base ≤ i → i < base + n → w.cell? ⟨g, i, none⟩ = some (f i)
  | .ext tag M => own g = some k ∧ X.at_ tag M g (fun b => own b = some k) w
  | .pm q es => own g = some k ∧ ∃ es' l, es'.Perm es ∧ entsAt ρ q 0 es' l ∧ w.heap[g]? = some (.map l.toArray es.length)
  | .it b n => own g = some k ∧ ∃ gm, ρ[b]? = some (.blk gm) ∧ w.heap[g]? = some (.mapIter (some gm) n #[] n)
  | .bm q qe M => own g = some k ∧ ∃ l clk, intEnts q qe l ∧ (∀ a, lookI l a = M a) ∧ w.heap[g]? = some (.map l.toArray clk)
  | .buf c cs e => own g = some k ∧ ∃ l l2 fr, denL ρ cs = some l ∧ capAt ρ c (l.length + l2.length) ∧ frOk fr (l.length + l2.length) ∧ w.heap[g]? = some (.cells (l ++ l2).toArray e fr)
  | .bufz z c cs e => own g = some k ∧ ∃ l l2 n, denL ρ cs = some l ∧ capAt ρ c n ∧ l.length + l2.length = n * z ∧ w.heap[g]? = some (.cells (l ++ l2).toArray e (0, 0))
  | .arr q e n F => own g = some k ∧ ∃ l : List Value, n ≤ l.length ∧ (∀ i : Nat, i < n → l[i]? = some (.int q (F i))) ∧ w.heap[g]? = some (.cells l.toArray e (0, 0))
  | .m1 q a es clk p nw => own g = some k ∧ m1At ρ q a es clk p nw w.heap[g]?
  | .rowd => True
  | .dead => True

structure Rep (X : Ext) (ρ : List Un) (own : Nat → Option Nat) (m : List SObj) (w : World) : Prop where
  len : ρ.length = m.length
  lt : ∀ b k, own b = some k → b < w.heap.size ∧ k < m.length
  obj : ∀ k o, m[k]? = some o → alive o = true → ∃ g, ρ[k]? = some (.blk g) ∧ ObjAt X ρ own k g w o

structure Kept (own : Nat → Option Nat) (w w' : World) : Prop where
  os : w'.os = w.os
  tape : w'.tape = w.tape
  output : w'.output = w.output
  size : w.heap.size ≤ w'.heap.size
  block : ∀ b, b < w.heap.size → own b = none → w'.heap[b]? = w.heap[b]?

/-- From (ρ, own, w) on to (ρ', own', w'). -/
structure To (ρ : List Un) (own : Nat → Option Nat) (w : World) (ρ' : List Un) (own' : Nat → Option Nat) (w' : World) : Prop where
  ext : ∃ l, ρ' = ρ ++ l
  news : ∀ b, own b = none → own' b = none ∨ w.heap.size ≤ b
  kept : Kept own w w'

theorem To.refl (ρ : List Un) (own : Nat → Option Nat) (w : World) : To ρ own w ρ own w :=
  ⟨⟨[], by simp⟩, fun _ h => .inl h, ⟨rfl, rfl, rfl, Nat.le_refl _, fun _ _ _ => rfl⟩⟩

theorem To.trans {ρ ρ' ρ'' : List Un} {own own' own'' : Nat → Option Nat} {w w' w'' : World} (h : To ρ own w ρ' own' w') (h' : To ρ' own' w' ρ'' own'' w'') : To ρ own w ρ'' own'' w'' := by
  obtain ⟨⟨l, rfl⟩, ho, hk⟩ := h
  obtain ⟨⟨l', rfl⟩, ho', hk'⟩ := h'
  refine ⟨⟨l ++ l', by simp⟩, fun b hb => ?_, ⟨hk'.os.trans hk.os, hk'.tape.trans hk.tape, hk'.output.trans hk.output, Nat.le_trans hk.size hk'.size, fun b hlt hb => ?_⟩⟩
  · rcases ho b hb with h1 | h1
    · rcases ho' b h1 with h2 | h2
      · exact .inl h2
      · exact .inr (Nat.le_trans hk.size h2)
    · exact .inr h1
  · have h1 : own' b = none := by rcases ho b hb with h1 | h1 <;> first | exact h1 | omega
    rw [hk'.block b (Nat.lt_of_lt_of_le hlt hk.size) h1, hk.block b hlt hb]

theorem ObjAt.stable {X : Ext} {ρ : List Un} {own : Nat → Option Nat} {k g : Nat} {w w' : World} {o : SObj} (hb : ∀ b, own b = some k → w'.heap[b]? = w.heap[b]?)
    (hn : ∀ b, b < w.heap.size → own b = none → w'.heap[b]? = w.heap[b]?) (hs : w.heap.size ≤ w'.heap.size) (h : ObjAt X ρ own k g w o) : ObjAt X ρ own k g w' o := by
  cases o with
  | cells cs e => obtain ⟨h1, l, h2, h3⟩ := h; exact ⟨h1, l, h2, by rw [hb g h1]; exact h3⟩
  | ro base n f =>
    obtain ⟨h1, h2, h3⟩ := h
    exact ⟨h1, Nat.lt_of_lt_of_le h2 hs, fun i hi hi' => by rw [World.cell?_of_block (w := w) (hn g h2 h1)]; exact h3 i hi hi'⟩
  | ext tag M => obtain ⟨h1, h2⟩ := h; exact ⟨h1, X.stable tag M g _ w w' hb h2⟩
  | pm q es => obtain ⟨h1, es', l, hp, h2, h3⟩ := h; exact ⟨h1, es', l, hp, h2, by rw [hb g h1]; exact h3⟩
  | it b n => obtain ⟨h1, gm, h2, h3⟩ := h; exact ⟨h1, gm, h2, by rw [hb g h1]; exact h3⟩
  | bm q qe M => obtain ⟨h1, l, clk, h2, h3, h4⟩ := h; exact ⟨h1, l, clk, h2, h3, by rw [hb g h1]; exact h4⟩
  | buf c cs e => obtain ⟨h1, l, l2, fr, h2, h3, h4, h5⟩ := h; exact ⟨h1, l, l2, fr, h2, h3, h4, by rw [hb g h1]; exact h5⟩
  | bufz z c cs e => obtain ⟨h1, l, l2, n, h2, h3, h4, h5⟩ := h; exact ⟨h1, l, l2, n, h2, h3, h4, by rw [hb g h1]; exact h5⟩
  | arr q e n F => obtain ⟨h1, l, h2, h3, h4⟩ := h; exact ⟨h1, l, h2, h3, by rw [hb g h1]; exact h4⟩
  | m1 q a es clk p nw => obtain ⟨h1, h2⟩ := h; exact ⟨h1, by rw [hb g h1]; exact h2⟩
  | rowd => trivial
  | dead => trivial

/-- Nothing that is owned has turned, nor what nobody owns. -/
theorem Rep.same {X : Ext} {ρ : List Un} {own : Nat → Option Nat} {m : List SObj} {w w' : World} (h : Rep X ρ own m w) (hb : ∀ b, b < w.heap.size → w'.heap[b]? = w.heap[b]?)
    (hs : w.heap.size ≤ w'.heap.size) : Rep X ρ own m w' :=
  ⟨h.len, fun b k hk => ⟨Nat.lt_of_lt_of_le (h.lt b k hk).1 hs, (h.lt b k hk).2⟩, fun k o ho ha => by
    obtain ⟨g, hg, hob⟩ := h.obj k o ho ha
    exact ⟨g, hg, hob.stable (fun b hb' => hb b (h.lt b k hb').1) (fun b hlt _ => hb b hlt) hs⟩⟩

theorem Rep.nil (X : Ext) (w : World) : Rep X [] (fun _ => none) [] w :=
  ⟨rfl, fun _ _ h => (by cases h), fun k o h => by simp at h⟩

theorem Rep.drew {X : Ext} {ρ : List Un} {own : Nat → Option Nat} {m : List SObj} {w : World} (h : Rep X ρ own m w) : Rep X ρ own m { w with drawn := w.drawn + 1 } :=
  h.same (fun _ _ => rfl) (Nat.le_refl _)

theorem ObjAt.mono {X : Ext} {ρ ρ' : List Un} {own : Nat → Option Nat} {k g : Nat} {w : World} {o : SObj} (hp : ∃ l, ρ' = ρ ++ l) (h : ObjAt X ρ own k g w o) : ObjAt X ρ' own k g w o := by
  cases o with
  | cells cs e => obtain ⟨h1, l, h2, h3⟩ := h; exact ⟨h1, l, denL_mono hp h2, h3⟩
  | ro base n f => exact h
  | ext tag M => exact h
  | pm q es => obtain ⟨h1, es', l, hq, h2, h3⟩ := h; exact ⟨h1, es', l, hq, h2.mono hp, h3⟩
  | it b n =>
    obtain ⟨h1, gm, h2, h3⟩ := h
    obtain ⟨l, rfl⟩ := hp
    exact ⟨h1, gm, by rw [List.getElem?_append_left (List.getElem?_eq_some_iff.1 h2).1]; exact h2, h3⟩
  | bm q qe M => exact h
  | buf c cs e => obtain ⟨h1, l, l2, fr, h2, h3, h4, h5⟩ := h; exact ⟨h1, l, l2, fr, denL_mono hp h2, h3.mono hp, h4, h5⟩
  | bufz z c cs e => obtain ⟨h1, l, l2, n, h2, h3, h4, h5⟩ := h; exact ⟨h1, l, l2, n, denL_mono hp h2, h3.mono hp, h4, h5⟩
  | arr q e n F => exact h
  | m1 q a es clk p nw => obtain ⟨h1, h2⟩ := h; exact ⟨h1, h2.mono hp⟩
  | rowd => trivial
  | dead => trivial

/-- Something more that isn't told, and no object. -/
theorem Rep.note {X : Ext} {ρ : List Un} {own : Nat → Option Nat} {m : List SObj} {w : World} (h : Rep X ρ own m w) (u : Un) : To ρ own w (ρ ++ [u]) own w ∧ Rep X (ρ ++ [u]) own (m ++ [.dead]) w := by
  refine ⟨⟨⟨_, rfl⟩, fun _ hb => .inl hb, ⟨rfl, rfl, rfl, Nat.le_refl _, fun _ _ _ => rfl⟩⟩, ⟨by simp [h.len], fun b k hk => ?_, fun k o ho ha => ?_⟩⟩
  · have := h.lt b k hk
    simp; omega
  · by_cases hk : k < m.length
    · rw [List.getElem?_append_left hk] at ho
      obtain ⟨g, hg, hob⟩ := h.obj k o ho ha
      exact ⟨g, by rw [List.getElem?_append_left (List.getElem?_eq_some_iff.1 hg).1]; exact hg, hob.mono ⟨_, rfl⟩⟩
    · have hkm : k = m.length := by
        rcases Nat.lt_or_ge k (m.length + 1) with h' | h'
        · omega
        · rw [List.getElem?_eq_none (by simp; omega)] at ho; cases ho
      subst hkm
      simp at ho
      subst ho
      cases ha

/-- A new object. -/
theorem Rep.allocObj {X : Ext} {ρ : List Un} {own : Nat → Option Nat} {m : List SObj} {w : World} (h : Rep X ρ own m w) (ob : Obj) (o : SObj)
    (hob : ∀ own' : Nat → Option Nat, own' w.heap.size = some m.length → ObjAt X (ρ ++ [.blk w.heap.size]) own' m.length w.heap.size (w.alloc ob) o) :
    ∃ own', To ρ own w (ρ ++ [.blk w.heap.size]) own' (w.alloc ob) ∧ Rep X (ρ ++ [.blk w.heap.size]) own' (m ++ [o]) (w.alloc ob) := by
  have hpre : ∃ l, ρ ++ [.blk w.heap.size] = ρ ++ l := ⟨_, rfl⟩
  have hold : ∀ b, b < w.heap.size → (w.alloc ob).heap[b]? = w.heap[b]? := fun b hb => heap_alloc_old w _ b hb
  refine ⟨fun b => if b = w.heap.size then some m.length else own b, ⟨hpre, fun b hb => ?_, ⟨rfl, rfl, rfl, by simp, fun b hlt _ => hold b hlt⟩⟩, ⟨by simp [h.len], fun b k hk => ?_, fun k o ho ha => ?_⟩⟩
  · by_cases e' : b = w.heap.size
    · exact .inr (by omega)
    · simp [e', hb]
  · split at hk
    · rename_i e'; simp at hk; subst hk; simp [e']
    · have := h.lt b k hk
      simp; omega
  · by_cases hk : k < m.length
    · rw [List.getElem?_append_left hk] at ho
      obtain ⟨g, hg, hob⟩ := h.obj k o ho ha
      have hgl := (List.getElem?_eq_some_iff.1 hg).1
      refine ⟨g, by rw [List.getElem?_append_left hgl]; exact hg, ?_⟩
      have hne : ∀ b, own b = some k → b ≠ w.heap.size := fun b hb e' => by have := (h.lt b k hb).1; omega
      cases o with
      | cells cs' e' =>
        obtain ⟨h1, l', h2, h3⟩ := hob
        refine ⟨by simp [hne g h1, h1], l', denL_mono hpre h2, by rw [hold g (h.lt g k h1).1]; exact h3⟩
      | ro base n f =>
        obtain ⟨h1, h2, h3⟩ := hob
        exact ⟨by simp [show g ≠ w.heap.size by omega, h1], by simp; omega, fun i hi hi' => by rw [World.cell?_of_block (w := w) (hold g h2)]; exact h3 i hi hi'⟩
      | ext tag M =>
        obtain ⟨h1, h2⟩ := hob
        refine ⟨by simp [hne g h1, h1], ?_⟩
        have e1 : (fun b => (if b = w.heap.size then some m.length else own b) = some k) = fun b => own b = some k := by
          funext b
          by_cases e' : b = w.heap.size
          · subst e'
            simp only [if_true]
            apply propext
            constructor
            · intro h'; simp at h'; omega
            · intro h'; exact absurd rfl (hne _ h')
          · simp [e']
        rw [e1]
        exact X.stable tag M g _ w _ (fun b hb => hold b (h.lt b k hb).1) h2
      | pm q es =>
        obtain ⟨h1, es', l', hp, h2, h3⟩ := hob
        exact ⟨by simp [hne g h1, h1], es', l', hp, h2.mono hpre, by rw [hold g (h.lt g k h1).1]; exact h3⟩
      | it b n =>
        obtain ⟨h1, gm, h2, h3⟩ := hob
        exact ⟨by simp [hne g h1, h1], gm, by rw [List.getElem?_append_left (List.getElem?_eq_some_iff.1 h2).1]; exact h2, by rw [hold g (h.lt g k h1).1]; exact h3⟩
      | bm q qe M =>
        obtain ⟨h1, l', clk, h2, h3, h4⟩ := hob
        exact ⟨by simp [hne g h1, h1], l', clk, h2, h3, by rw [hold g (h.lt g k h1).1]; exact h4⟩
      | buf c cs' e' =>
        obtain ⟨h1, l', l2, fr, h2, h3, h4, h5⟩ := hob
        exact ⟨by simp [hne g h1, h1], l', l2, fr, denL_mono hpre h2, h3.mono hpre, h4, by rw [hold g (h.lt g k h1).1]; exact h5⟩
      | bufz z c cs' e' =>
        obtain ⟨h1, l', l2, n, h2, h3, h4, h5⟩ := hob
        exact ⟨by simp [hne g h1, h1], l', l2, n, denL_mono hpre h2, h3.mono hpre, h4, by rw [hold g (h.lt g k h1).1]; exact h5⟩
      | arr q e' n F =>
        obtain ⟨h1, l', h2, h3, h4⟩ := hob
        exact ⟨by simp [hne g h1, h1], l', h2, h3, by rw [hold g (h.lt g k h1).1]; exact h4⟩
      | m1 q a es clk p nw =>
        obtain ⟨h1, h2⟩ := hob
        exact ⟨by simp [hne g h1, h1], by rw [hold g (h.lt g k h1).1]; exact h2.mono hpre⟩
      | rowd => trivial
      | dead => trivial
    · have hkm : k = m.length := by
        rcases Nat.lt_or_ge k (m.length + 1) with h' | h'
        · omega
        · rw [List.getElem?_eq_none (by simp; omega)] at ho; cases ho
      subst hkm
      simp at ho
      subst ho
      exact ⟨w.heap.size, by rw [← h.len]; simp, hob _ (by simp)⟩

/-- A new row of cells. -/
theorem Rep.alloc {X : Ext} {ρ : List Un} {own : Nat → Option Nat} {m : List SObj} {w : World} (h : Rep X ρ own m w) {cs : List Sv} {e : TypeId} {l : List Value} (hl : denL ρ cs = some l) :
    ∃ own', To ρ own w (ρ ++ [.blk w.heap.size]) own' (w.alloc (.cells l.toArray e)) ∧ Rep X (ρ ++ [.blk w.heap.size]) own' (m ++ [.cells cs e]) (w.alloc (.cells l.toArray e)) :=
  h.allocObj _ (.cells cs e) fun own' ho => ⟨ho, l, denL_mono ⟨_, rfl⟩ hl, heap_alloc_new w _⟩

/-- A world with another block. -/
def putBlock (w : World) (g : Nat) (ob : Obj) : World := { w with heap := w.heap.setIfInBounds g ob }
theorem putBlock_other (w : World) (g b : Nat) (ob : Obj) (h : b ≠ g) : (putBlock w g ob).heap[b]? = w.heap[b]? := by
  simp only [putBlock]; exact Array.getElem?_setIfInBounds_ne (Ne.symm h)
theorem putBlock_same (w : World) (g : Nat) (ob : Obj) (h : g < w.heap.size) : (putBlock w g ob).heap[g]? = some ob := by
  simp [putBlock, h]

/-- An object's own block gets another content. -/
theorem Rep.putObj {X : Ext} {ρ : List Un} {own : Nat → Option Nat} {m : List SObj} {w : World} (h : Rep X ρ own m w) {k g : Nat} (hg : ρ[k]? = some (.blk g)) (hown : own g = some k) (ob : Obj) (o : SObj)
    (hob : ObjAt X ρ own k g (putBlock w g ob) o) : To ρ own w ρ own (putBlock w g ob) ∧ Rep X ρ own (m.set k o) (putBlock w g ob) := by
  have hne : ∀ b, b ≠ g → (putBlock w g ob).heap[b]? = w.heap[b]? := fun b hb => putBlock_other w g b ob hb
  have hsz : (putBlock w g ob).heap.size = w.heap.size := by simp [putBlock]
  refine ⟨⟨⟨[], by simp⟩, fun _ hb => .inl hb, ⟨rfl, rfl, rfl, by rw [hsz]; exact Nat.le_refl _, fun b _ hb => hne b (fun e' => by subst e'; rw [hown] at hb; cases hb)⟩⟩, ⟨by simp [h.len], fun b j hb => by rw [hsz]; simpa using h.lt b j hb, fun j o' ho ha => ?_⟩⟩
  by_cases hj : j = k
  · subst hj
    have hlt := (h.lt g j hown).2
    rw [List.getElem?_set_self hlt] at ho
    simp at ho; subst ho
    exact ⟨g, hg, hob⟩
  · rw [List.getElem?_set_ne (fun e' => hj e'.symm)] at ho
    obtain ⟨g2, hg2, hob2⟩ := h.obj j o' ho ha
    refine ⟨g2, hg2, hob2.stable (fun b hb => hne b (fun e' => ?_)) (fun b _ hb => hne b (fun e' => ?_)) (by rw [hsz]; exact Nat.le_refl _)⟩
    · subst e'; rw [hown] at hb; simp at hb; exact hj hb.symm
    · subst e'; rw [hown] at hb; cases hb

/-- A row of cells gets others. -/
theorem Rep.setRow {X : Ext} {ρ : List Un} {own : Nat → Option Nat} {m : List SObj} {w : World} (h : Rep X ρ own m w) {k : Nat} {cs cs' : List Sv} {e : TypeId} {g : Nat}
    (hk : m[k]? = some (.cells cs e)) (hg : ρ[k]? = some (.blk g)) {l' : List Value} (hl : denL ρ cs' = some l') :
    To ρ own w ρ own (w.setRow g l'.toArray) ∧ Rep X ρ own (m.set k (.cells cs' e)) (w.setRow g l'.toArray) := by
  obtain ⟨g', hg', h1, l, h2, h3⟩ := h.obj k _ hk rfl
  have : g' = g := by rw [hg'] at hg; simpa using hg
  subst this
  have hne : ∀ b, b ≠ g' → (w.setRow g' l'.toArray).heap[b]? = w.heap[b]? := fun b hb => setRow_other w g' b _ hb
  refine ⟨⟨⟨[], by simp⟩, fun _ hb => .inl hb, ⟨rfl, rfl, rfl, by simp, fun b _ hb => hne b (fun e' => by subst e'; rw [h1] at hb; cases hb)⟩⟩, ⟨by simp [h.len], fun b j hb => by simpa using h.lt b j hb, fun j o ho ha => ?_⟩⟩
  by_cases hj : j = k
  · subst hj
    have hlt := (List.getElem?_eq_some_iff.1 hk).1
    rw [List.getElem?_set_self hlt] at ho
    simp at ho; subst ho
    exact ⟨g', hg', h1, l', hl, setRow_heap w g' _ _ e _ h3⟩
  · rw [List.getElem?_set_ne (fun e' => hj e'.symm)] at ho
    obtain ⟨g2, hg2, hob⟩ := h.obj j o ho ha
    refine ⟨g2, hg2, hob.stable (fun b hb => hne b (fun e' => ?_)) (fun b _ hb => hne b (fun e' => ?_)) (by simp)⟩
    · subst e'; rw [h1] at hb; simp at hb; exact hj hb.symm
    · subst e'; rw [h1] at hb; cases hb
end Go.Ev
