/- The operations that only reckon or read: what the reckoning answers is what the model's operation yields, in each world that the memory describes. -/
import Derived.Test.YtpgdpoloipifeaaEv1
namespace Go.Ev
set_option linter.unusedVariables false
open Go

def get (t : List Sv) : Operand → Sv
  | .tmp i => nth t i
  | .const x => match x with
    | .agg cs => .agg (cs.toList.map .v)
    | x => .v x
  | .global g => .v (.pointer (some ⟨g, 0, none⟩))
  | .func f => .v (.func (.func f) #[] #[])

theorem get_den {ρ : List Un} {t : List Sv} {l : List Value} {ds : List Deferred} (h : denL ρ t = some l) (x : Operand) : den ρ (get t x) = some (Act.eval ⟨l.toArray, ds⟩ x) := by
  cases x with
  | tmp i => simpa [get, Act.eval] using nth_den i h
  | const x => cases x <;> simp [get, Act.eval, den, denL_v]
  | global g => simp [get, Act.eval, den]
  | func f => simp [get, Act.eval, den]

def aggD : TypeDesc → Bool
  | .struct _ => true
  | .array _ _ => true
  | _ => false

def aggT (P : Program) (t : TypeId) : Bool :=
  match P.underlying t with
  | some d => aggD d
  | none => false

theorem aggT_of {P : Program} {t : TypeId} {d : TypeDesc} (h : P.underlying t = some d) : aggT P t = aggD d := by simp [aggT, h]

theorem run_isAgg {P : Program} {t : TypeId} (w : World) {d : TypeDesc} (h : P.underlying t = some d) : (isAgg t).run P w = .ok (aggD d) w := by
  unfold isAgg
  rw [Sem.run_bind, run_underlying h w]
  cases d <;> rfl

theorem run_sizeOf {P : Program} {t : TypeId} {i : TypeInfo} (w : World) (h : P.info? t = some i) : (sizeOf t).run P w = .ok i.size w := by
  simp [sizeOf, typeInfo, h]

/-- A part of a row of cells: a struct or an array, or one cell. -/
def partS (P : Program) (t : TypeId) (cs : List Sv) (off : Nat) : Option Sv :=
  match P.underlying t with
  | none => none
  | some d => match aggD d with
    | true => match P.info? t with
      | some i => match seg cs off i.size with
        | some l => some (.agg l)
        | none => none
      | none => none
    | false => cs[off]?

theorem partS_cases {P : Program} {t : TypeId} {cs : List Sv} {off : Nat} {s : Sv} (h : partS P t cs off = some s) :
    ∃ d, P.underlying t = some d ∧ ((aggD d = true ∧ ∃ i l, P.info? t = some i ∧ seg cs off i.size = some l ∧ s = .agg l) ∨ (aggD d = false ∧ cs[off]? = some s)) := by
  unfold partS at h
  split at h
  · cases h
  · rename_i d hu
    refine ⟨d, hu, ?_⟩
    split at h
    · rename_i ha
      split at h
      · rename_i i hi
        split at h
        · rename_i l hs
          simp at h
          exact .inl ⟨ha, i, l, hi, hs, h.symm⟩
        · cases h
      · cases h
    · rename_i ha
      exact .inr ⟨ha, h⟩

theorem run_part {P : Program} {ρ : List Un} {t : TypeId} {cs : List Sv} {l : List Value} {off : Nat} {s : Sv} (hl : denL ρ cs = some l) (h : partS P t cs off = some s) (w : World) :
    ∃ x, den ρ s = some x ∧ (part t l.toArray off).run P w = .ok x w := by
  obtain ⟨d, hd, h⟩ := partS_cases h
  rcases h with ⟨ha, i, l', hi, hs, rfl⟩ | ⟨ha, hs⟩
  · obtain ⟨h1, h2⟩ := seg_den off i.size hl hs
    refine ⟨.agg ((l.drop off).take i.size).toArray, by simp only [den, h1], ?_⟩
    simp only [part, Sem.run_bind, run_isAgg w hd, Result.andThen_ok, ha, if_true, run_sizeOf w hi, Sem.run_pure]
    congr 2
    apply Array.ext'
    simp
  · obtain ⟨x, hx, hden⟩ := denL_get off hl hs
    refine ⟨x, hden, ?_⟩
    simp [part, Sem.run_bind, run_isAgg w hd, ha, hx]

theorem addr_add (b o n : Nat) : Addr.add ⟨b, o, none⟩ n = ⟨b, o + n, none⟩ := Addr.add_lit b o n

theorem run_loadVar {P : Program} {ρ : List Un} {t : TypeId} {cs : List Sv} {l : List Value} {off : Nat} {s : Sv} (hl : denL ρ cs = some l) (h : partS P t cs off = some s)
    (w : World) (g : Nat) {e : TypeId} {fr : Nat × Nat} (hg : w.heap[g]? = some (.cells l.toArray e fr)) :
    ∃ x, den ρ s = some x ∧ (loadVar t ⟨g, off, none⟩).run P w = .ok x w := by
  obtain ⟨d, hd, h⟩ := partS_cases h
  rcases h with ⟨ha, i, l', hi, hs, rfl⟩ | ⟨ha, hs⟩
  · obtain ⟨h1, h2⟩ := seg_den off i.size hl hs
    refine ⟨.agg ((l.drop off).take i.size).toArray, by simp only [den, h1], ?_⟩
    have hlen : ((l.drop off).take i.size).length = i.size := by simp; omega
    have hload : (loadCells ⟨g, off, none⟩ i.size).run P w = .ok ((l.drop off).take i.size).toArray w := by
      have := run_loadCells_list (P := P) w ⟨g, off, none⟩ ((l.drop off).take i.size) (fun j v hv => by
        rw [addr_add, cell_of_row w g (off + j) _ e fr hg]
        rw [List.getElem?_take] at hv
        split at hv
        · simpa using hv
        · cases hv)
      rwa [hlen] at this
    simp only [loadVar, Sem.run_bind, run_isAgg w hd, Result.andThen_ok, ha, if_true, run_sizeOf w hi, hload, Sem.run_pure]
  · obtain ⟨x, hx, hden⟩ := denL_get off hl hs
    refine ⟨x, hden, ?_⟩
    have hc : w.cell? ⟨g, off, none⟩ = some x := by rw [cell_of_row w g off _ e fr hg]; simpa using hx
    simp [loadVar, Sem.run_bind, run_isAgg w hd, ha, hc]

/-- Reading out of a row that is another's: the place may be any. -/
def roS (P : Program) (t : TypeId) (base n : Nat) (f : Nat → Value) (off : Nat) (R : Type) (kv : Sv → Option R) : Option R :=
  match P.underlying t with
  | none => none
  | some d => match aggD d with
    | true => match P.info? t with
      | some i => bif decide (base ≤ off ∧ off + i.size ≤ base + n) then kv (.agg ((List.range i.size).map fun j => .v (f (off + j)))) else none
      | none => none
    | false => bif decide (base ≤ off ∧ off + 1 ≤ base + n) then kv (.v (f off)) else none

theorem run_ro {P : Program} {t : TypeId} {base n : Nat} {f : Nat → Value} {off : Nat} {R : Type} {kv : Sv → Option R} {r : R} (h : roS P t base n f off R kv = some r) :
    ∃ s x, kv s = some r ∧ (∀ ρ, den ρ s = some x) ∧ ∀ (w : World) (g : Nat), (∀ i, base ≤ i → i < base + n → w.cell? ⟨g, i, none⟩ = some (f i)) → (loadVar t ⟨g, off, none⟩).run P w = .ok x w := by
  unfold roS at h
  split at h
  · cases h
  · rename_i d hu
    split at h
    · rename_i ha
      split at h
      · rename_i i hi
        by_cases hb : base ≤ off ∧ off + i.size ≤ base + n
        · rw [decide_eq_true hb, cond_true] at h
          refine ⟨_, .agg ((List.range i.size).map fun j => f (off + j)).toArray, h, fun ρ => ?_, fun w g hw => ?_⟩
          · have := denL_v ρ ((List.range i.size).map fun j => f (off + j))
            rw [List.map_map] at this
            simp only [den]
            rw [show ((List.range i.size).map fun j => Sv.v (f (off + j))) = (List.range i.size).map (Sv.v ∘ fun j => f (off + j)) from rfl, this]
          · have hload := run_loadCells (P := P) w ⟨g, off, none⟩ i.size (fun j => f (off + j)) (fun j hj => by rw [addr_add]; exact hw _ (by omega) (by omega))
            simp only [loadVar, Sem.run_bind, run_isAgg w hu, Result.andThen_ok, ha, if_true, run_sizeOf w hi, hload, Sem.run_pure]
        · rw [decide_eq_false hb, cond_false] at h; cases h
      · cases h
    · rename_i ha
      by_cases hb : base ≤ off ∧ off + 1 ≤ base + n
      · rw [decide_eq_true hb, cond_true] at h
        refine ⟨_, f off, h, fun ρ => by simp [den], fun w g hw => ?_⟩
        have hc := hw off hb.1 (by omega)
        simp [loadVar, Sem.run_bind, run_isAgg w hu, ha, hc]
      · rw [decide_eq_false hb, cond_false] at h; cases h

/-! ### Arithmetic -/
/-- 'bits', stuck where a number is not told (the kernel would not end in it). -/
def bitsL (op : BinOp) (k : IntKind) (a b : Int) : Int := match a with
  | .ofNat m => (match b with
    | .ofNat n => bits op k (.ofNat m) (.ofNat n)
    | .negSucc n => bits op k (.ofNat m) (.negSucc n))
  | .negSucc m => (match b with
    | .ofNat n => bits op k (.negSucc m) (.ofNat n)
    | .negSucc n => bits op k (.negSucc m) (.negSucc n))
theorem bitsL_eq (op : BinOp) (k : IntKind) (a b : Int) : bitsL op k a b = bits op k a b := by cases a <;> cases b <;> rfl

def intS (op : BinOp) (k : IntKind) (a b : Int) (R : Type) (kv : Sv → Option R) : Option R :=
  match op with
  | .add => kv (.v (.int k (k.wrap (a + b))))
  | .sub => kv (.v (.int k (k.wrap (a - b))))
  | .mul => kv (.v (.int k (k.wrap (a * b))))
  | .quo => bif b == 0 then none else kv (.v (.int k (k.wrap (a.tdiv b))))
  | .rem => bif b == 0 then none else kv (.v (.int k (a.tmod b)))
  | .and => kv (.v (.int k (bitsL .and k a b)))
  | .or => kv (.v (.int k (bitsL .or k a b)))
  | .xor => kv (.v (.int k (bitsL .xor k a b)))
  | .andNot => kv (.v (.int k (bitsL .andNot k a b)))
  | .eql => kv (.v (.bool (a == b)))
  | .neq => kv (.v (.bool (a != b)))
  | .lss => kv (.v (.bool (decide (a < b))))
  | .leq => kv (.v (.bool (decide (a ≤ b))))
  | .gtr => kv (.v (.bool (decide (a > b))))
  | .geq => kv (.v (.bool (decide (a ≥ b))))
  | _ => none

def shiftS (op : BinOp) (k : IntKind) (a b : Int) (R : Type) (kv : Sv → Option R) : Option R :=
  match op with
  | .shl => bif decide (0 ≤ b) then kv (.v (.int k (k.wrap (a * 2 ^ (min b.toNat k.bits))))) else none
  | .shr => bif decide (0 ≤ b) then kv (.v (.int k (a.fdiv (2 ^ (min b.toNat k.bits))))) else none
  | _ => none


/-- Are two strings the same? (A name of its own, so that it stays whole.) -/
def strEq (a b : ByteArray) : Bool := a.toList == b.toList
def eqOne (P : Program) (t : TypeId) : Sv → Sv → Option Bool
  | .v (.int k a), .v (.int k' b) => match P.underlying t with
    | some (.int _) => if k = k' then some (a == b) else none
    | _ => none
  | .v (.bool a), .v (.bool b) => match P.underlying t with
    | some .bool => some (a == b)
    | _ => none
  | .v (.string a), .v (.string b) => match P.underlying t with
    | some .string => some (strEq a b)
    | _ => none
  | _, _ => none

def eqFields (P : Program) (E : TypeId → Sv → Sv → Option Bool) (xs ys : List Sv) : List Field → Option Bool
  | [] => some true
  | f :: fs => if f.name = "_" then none else
    match partS P f.type xs f.offset, partS P f.type ys f.offset with
    | some a, some b => match E f.type a b, eqFields P E xs ys fs with
      | some r, some q => some (r && q)
      | _, _ => none
    | _, _ => none

def eqElems (P : Program) (E : Sv → Sv → Option Bool) (e : TypeId) (n : Nat) (xs ys : List Sv) : Nat → Nat → Option Bool
  | 0, _ => some true
  | c + 1, i => match partS P e xs (i * n), partS P e ys (i * n) with
    | some a, some b => match E a b, eqElems P E e n xs ys c (i + 1) with
      | some r, some q => some (r && q)
      | _, _ => none
    | _, _ => none

/-- '==' at a type. -/
def eqS (P : Program) : Nat → TypeId → Sv → Sv → Option Bool
  | 0, _, _, _ => none
  | d + 1, t, x, y => match P.underlying t with
    | some (.struct fs) => match P.stoodInHeld t with
      | true => none
      | false => match x, y with
        | .agg xs, .agg ys => eqFields P (eqS P d) xs ys fs.toList
        | _, _ => none
    | some (.array len e) => match P.info? e with
      | some i => match x, y with
        | .agg xs, .agg ys => eqElems P (eqS P d e) e i.size xs ys len 0
        | _, _ => none
      | none => none
    | some _ => eqOne P t x y
    | none => none

theorem run_eqOne {P : Program} {t : TypeId} {x y : Sv} {r : Bool} (h : eqOne P t x y = some r) (n : Nat) (ρ : List Un) : ∃ a b, den ρ x = some a ∧ den ρ y = some b ∧ ∀ w, (Op.equalIn (n + 1) t a b).run P w = .ok r w := by
  unfold eqOne at h
  split at h
  · split at h
    · rename_i hu
      split at h
      · rename_i hk; subst hk; simp at h; subst h
        exact ⟨_, _, rfl, rfl, fun w => run_equalIn_int w n t _ _ _ _ hu⟩
      · cases h
    · cases h
  · split at h
    · rename_i hu; simp at h; subst h; exact ⟨_, _, rfl, rfl, fun w => run_equalIn_bool' w n t _ _ hu⟩
    · cases h
  · split at h
    · rename_i hu; simp at h; subst h; exact ⟨_, _, rfl, rfl, fun w => run_equalIn_string w n t _ _ hu⟩
    · cases h
  · cases h

theorem run_eqFields {P : Program} {ρ : List Un} {E : TypeId → Sv → Sv → Option Bool} {n : Nat} (hE : ∀ t x y r, E t x y = some r → ∀ a b, den ρ x = some a → den ρ y = some b → ∀ w, (Op.equalIn n t a b).run P w = .ok r w)
    {xs ys : List Sv} {lx ly : List Value} (hx : denL ρ xs = some lx) (hy : denL ρ ys = some ly) :
    ∀ {fs : List Field} {r : Bool}, eqFields P E xs ys fs = some r → ∀ w, (Op.eqFields n lx.toArray ly.toArray fs).run P w = .ok r w
  | [], r, h, w => by simp [eqFields] at h; subst h; rfl
  | f :: fs, r, h, w => by
    simp only [eqFields] at h
    split at h
    · cases h
    · rename_i hn
      split at h
      · rename_i a b ha hb
        split at h
        · rename_i r1 q h1 h2
          simp at h; subst h
          obtain ⟨va, hva, ra⟩ := run_part hx ha w
          obtain ⟨vb, hvb, rb⟩ := run_part hy hb w
          have re := hE _ _ _ _ h1 va vb hva hvb w
          have rq := run_eqFields hE hx hy h2 w
          simp only [Op.eqFields, if_pos hn, Sem.run_bind, ra, rb, re, Result.andThen_ok]
          cases r1
          · simp
          · simpa using rq
        · cases h
      · cases h

theorem run_eqElems {P : Program} {ρ : List Un} {E : Sv → Sv → Option Bool} {n : Nat} {e : TypeId} {sz : Nat} (hsz : ∀ w, (sizeOf e).run P w = .ok sz w)
    (hE : ∀ x y r, E x y = some r → ∀ a b, den ρ x = some a → den ρ y = some b → ∀ w, (Op.equalIn n e a b).run P w = .ok r w)
    {xs ys : List Sv} {lx ly : List Value} (hx : denL ρ xs = some lx) (hy : denL ρ ys = some ly) :
    ∀ (c i : Nat) {r : Bool}, eqElems P E e sz xs ys c i = some r → ∀ w,
      (forIn (m := Sem) (List.range' i c) ((none, ()) : Option Bool × Unit) (fun j _ => do
        if !(← Op.equalIn n e (← part e lx.toArray (j * sz)) (← part e ly.toArray (j * sz))) then pure (ForInStep.done (some false, ())) else pure (ForInStep.yield (none, ())))).run P w =
        .ok (if r then (none, ()) else (some false, ())) w
  | 0, i, r, h, w => by simp [eqElems] at h; subst h; simp
  | c + 1, i, r, h, w => by
    simp only [eqElems] at h
    split at h
    · rename_i a b ha hb
      split at h
      · rename_i r1 q h1 h2
        simp at h; subst h
        obtain ⟨va, hva, ra⟩ := run_part hx ha w
        obtain ⟨vb, hvb, rb⟩ := run_part hy hb w
        have re := hE _ _ _ h1 va vb hva hvb w
        have rq := run_eqElems hsz hE hx hy c (i + 1) h2 w
        simp only [List.range'_succ, List.forIn_cons, Sem.run_bind, ra, rb, re, Result.andThen_ok]
        cases r1
        · simp
        · simpa using rq
      · cases h
    · cases h

theorem run_eqS {P : Program} {ρ : List Un} : ∀ (d : Nat) {n : Nat}, d ≤ n → ∀ {t : TypeId} {x y : Sv} {r : Bool}, eqS P d t x y = some r → ∀ a b, den ρ x = some a → den ρ y = some b → ∀ w, (Op.equalIn n t a b).run P w = .ok r w
  | 0, n, _, t, x, y, r, h, a, b, ha, hb, w => by simp [eqS] at h
  | d + 1, n, hn, t, x, y, r, h, a, b, ha, hb, w => by
    obtain ⟨n, rfl⟩ : ∃ k, n = k + 1 := ⟨n - 1, by omega⟩
    simp only [eqS] at h
    split at h
    · rename_i fs hu
      split at h
      · cases h
      · rename_i hst
        split at h
        · rename_i xs ys
          simp only [den] at ha hb
          split at ha
          · rename_i lx hx
            split at hb
            · rename_i ly hy
              simp at ha hb; subst ha hb
              have hf : P.fieldsOf t = fs := by unfold Program.fieldsOf; rw [hu]
              rw [run_equalIn_struct w n t _ _ (by rw [hf]; exact hu) hst, hf]
              exact run_eqFields (fun t x y r h => run_eqS d (by omega) h) hx hy h w
            · cases hb
          · cases ha
        · cases h
    · rename_i len e hu
      split at h
      · rename_i i hi
        split at h
        · rename_i xs ys
          simp only [den] at ha hb
          split at ha
          · rename_i lx hx
            split at hb
            · rename_i ly hy
              simp at ha hb; subst ha hb
              have := run_eqElems (P := P) (n := n) (fun w => run_sizeOf w hi) (fun x y r h => run_eqS d (by omega) h) hx hy len 0 h w
              simp only [Op.equalIn, Sem.run_bind, run_underlying hu, Result.andThen_ok, run_sizeOf w hi, Std.Legacy.Range.forIn_eq_forIn_range', Std.Legacy.Range.size, Nat.sub_zero, Nat.add_sub_cancel, Nat.div_one]
              rw [this]
              cases r <;> simp
            · cases hb
          · cases ha
        · cases h
      · cases h
    · obtain ⟨a', b', ha', hb', hr⟩ := run_eqOne h n ρ
      rw [ha] at ha'; rw [hb] at hb'
      simp at ha' hb'; subst ha' hb'
      exact hr w
    · cases h
end Go.Ev
