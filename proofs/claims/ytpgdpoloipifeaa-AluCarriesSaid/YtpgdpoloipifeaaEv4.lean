/- The soundness of one quiet operation. -/
import Derived.Test.YtpgdpoloipifeaaEv3
import Derived.Maps.RangeRun
import Derived.Laws.Slices
namespace Go.Ev
set_option linter.unusedVariables false
open Go

section
variable {P : Program} {R : Type} {ρ : List Un}

def CallOk (P : Program) (f : FuncId) : Prop := ∃ fn, P.funcs[f]? = some fn ∧ fn.body.isSome = true ∧ fn.name ≠ "runtime.NumGoroutine"

/-- One memory is another, but for what is dead there. -/
def Compat (mq m : List SObj) : Prop := ∀ (k : Nat) (o : SObj), mq[k]? = some o → alive o = true → m[k]? = some o
theorem Compat.refl (m : List SObj) : Compat m m := fun _ _ h _ => h
/-- A call that leaves memory alone: what it answers is told by what the memory says. -/
def QuietR (P : Program) (X : Ext) (f : FuncId) (args : List Sv) (m : List SObj) (sv : Sv) : Prop :=
  ∀ ρ own mm w l, Compat m mm → Rep X ρ own mm w → denL ρ args = some l → ∃ x, den ρ sv = some x ∧ Calls P f l.toArray w fun e w' => e = .returned x ∧ Kept (fun _ => none) w w'

def PureOk (P : Program) (X : Ext) (H : FuncId → List Sv → List SObj → (Sv → Option R) → Option R) : Prop :=
  ∀ f args m kv r, H f args m kv = some r → (∃ s x l, kv s = some r ∧ (∀ ρ, den ρ s = some x) ∧ (∀ ρ, denL ρ args = some l) ∧
    ((CallOk P f ∧ ∀ w, Calls P f l.toArray w fun e w' => e = .returned x ∧ Kept (fun _ => none) w w') ∨ ∀ w, (callFunc f l.toArray).run P w = .ok (.value x) w)) ∨
    (∃ sv, kv sv = some r ∧ CallOk P f ∧ QuietR P X f args m sv)


theorem run_call {o : Oper} {ρ : Operand → Value} {c : Call} {fo : Operand} {f : FuncId} {first cap : Array Value} (ho : o.op = .call c) (hc : c.callee = .value fo) (hf : ρ fo = .func (.func f) first cap) (hok : CallOk P f) (w : World) :
    (execOp ρ o).run P w = .ok (.enter f (first ++ c.args.map ρ ++ cap)) w := by
  obtain ⟨fn, hfn, hb, hn⟩ := hok
  have hnb : fn.body.isNone = false := by cases h : fn.body <;> simp_all
  simp only [execOp, ho, resolve, hc, hf, Deferred.ofValue, Sem.run_bind, Sem.run_pure, Result.andThen_ok, invoke, callFunc, run_program, hfn]
  simp [hn, hnb]

theorem run_ext {o : Oper} {ρ : Operand → Value} {c : Call} {fo : Operand} {f : FuncId} {first cap : Array Value} (ho : o.op = .call c) (hc : c.callee = .value fo) (hf : ρ fo = .func (.func f) first cap) (w : World) :
    (execOp ρ o).run P w = (callFunc f (first ++ c.args.map ρ ++ cap)).run P w := by
  simp only [execOp, ho, resolve, hc, hf, Deferred.ofValue, Sem.run_bind, Sem.run_pure, Result.andThen_ok, invoke]

theorem quiet_value {o : Oper} {a : Act} {C : World → Prop} {w : World} {x : Value} (h : (execOp a.eval o).run P w = .ok (.value x) w) : o.quietAt P a C w x := by
  unfold Oper.quietAt; rw [h]; exact ⟨rfl, rfl⟩

theorem den_ptr {b off : Nat} {x : Value} (h : den ρ (.ptr b off) = some x) : ∃ g, ρ[b]? = some (.blk g) ∧ x = .pointer (some ⟨g, off, none⟩) := by
  simp only [den] at h
  split at h
  · rename_i g hg; simp at h; exact ⟨g, hg, h.symm⟩
  · cases h

theorem den_sl {b off len cap : Nat} {x : Value} (h : den ρ (.sl b off len cap) = some x) : ∃ g, ρ[b]? = some (.blk g) ∧ x = .slice (some ⟨g, off, none⟩) len cap := by
  simp only [den] at h
  split at h
  · rename_i g hg; simp at h; exact ⟨g, hg, h.symm⟩
  · cases h

theorem den_mp {b : Nat} {x : Value} (h : den ρ (.mp b) = some x) : ∃ g, ρ[b]? = some (.blk g) ∧ x = .map (some g) := by
  simp only [den] at h
  split at h
  · rename_i g hg; simp at h; exact ⟨g, hg, h.symm⟩
  · cases h

theorem den_pix {b off len : Nat} {i : Int} {x : Value} (h : den ρ (.pix b off len i) = some x) : (0 ≤ i ∧ i < (len : Int)) ∧ ∃ g, ρ[b]? = some (.blk g) ∧ x = .pointer (some ⟨g, off + i.toNat, none⟩) := by
  simp only [den] at h
  split at h
  · rename_i g hg
    split at h
    · rename_i hb; simp at h; exact ⟨hb, g, hg, h.symm⟩
    · cases h
  · cases h
theorem intsOf_map : ∀ {l : List Sv} {q : IntKind} {xs : List Int}, intsOf l = some (q, xs) → l = xs.map fun x => .v (.int q x)
  | [], q, xs, h => by simp [intsOf] at h
  | [s], q, xs, h => by
    unfold intsOf at h
    split at h <;> simp_all
    obtain ⟨rfl, rfl⟩ := h; rfl
  | s :: y :: l, q, xs, h => by
    cases s with
    | v z =>
      cases z with
      | int q0 x =>
        simp only [intsOf] at h
        split at h
        · rename_i q' xs' hr
          split at h
          · rename_i hq
            subst hq
            simp at h
            obtain ⟨rfl, rfl⟩ := h
            rw [intsOf_map hr]; rfl
          · cases h
        · cases h
      | _ => simp [intsOf] at h
    | _ => simp [intsOf] at h
theorem selL_get : ∀ {xs : List Int} {i j : Int}, j ≤ i → i < j + (xs.length : Int) → xs[(i - j).toNat]? = some (selL i j xs)
  | [], i, j, h, h' => by simp at h'; omega
  | [x], i, j, h, h' => by
    have : i = j := by simp at h'; omega
    subst this; simp [selL]
  | x :: y :: l, i, j, h, h' => by
    simp only [selL]
    by_cases e : i = j
    · subst e; simp
    · have hb : (i == j) = false := by simpa using e
      rw [hb, cond_false]
      have := selL_get (xs := y :: l) (i := i) (j := j + 1) (by omega) (by simp only [List.length_cons] at h' ⊢; omega)
      rw [show (i - j).toNat = (i - (j + 1)).toNat + 1 by omega]
      simpa using this

theorem den_agg {cs : List Sv} {x : Value} (h : den ρ (.agg cs) = some x) : ∃ l, denL ρ cs = some l ∧ x = .agg l.toArray := by
  simp only [den] at h
  split at h
  · rename_i g hg; simp at h; exact ⟨g, hg, h.symm⟩
  · cases h

theorem den_tup {cs : List Sv} {x : Value} (h : den ρ (.tup cs) = some x) : ∃ l, denL ρ cs = some l ∧ x = .tuple l.toArray := by
  simp only [den] at h
  split at h
  · rename_i g hg; simp at h; exact ⟨g, hg, h.symm⟩
  · cases h

theorem den_vv {x y : Value} (h : den ρ (.v x) = some y) : y = x := by simp [den] at h; exact h.symm

theorem cond_some' {R : Type} {c : Bool} {x : Option R} {r : R} (h : (bif c then x else none) = some r) : c = true ∧ x = some r := by
  cases c <;> simp_all

theorem brIdx_sound {f : Nat → Option R} {r : R} : ∀ {n j : Nat} {i : Int}, brIdx n j i f = some r → ∃ k : Nat, i = (k : Int) ∧ j ≤ k ∧ k < j + n ∧ f k = some r
  | 0, j, i, h => by cases h
  | n + 1, j, i, h => by
    simp only [brIdx] at h
    cases hi : (i == (j : Int)) with
    | true => rw [hi, cond_true] at h; exact ⟨j, by simpa using hi, by omega, by omega, h⟩
    | false =>
      rw [hi, cond_false] at h
      obtain ⟨k, h1, h2, h3, h4⟩ := brIdx_sound h
      exact ⟨k, h1, by omega, by omega, h4⟩

theorem atIdx_sound {f : Nat → Option R} {r : R} {len : Nat} {i : Int} (h : atIdx len i f = some r) : (0 ≤ i ∧ i < (len : Int)) ∧ f i.toNat = some r := by
  unfold atIdx at h
  cases hl : Nat.ble len 128 with
  | true =>
    rw [hl, cond_true] at h
    obtain ⟨k, rfl, h2, h3, h4⟩ := brIdx_sound h
    exact ⟨by omega, by simpa using h4⟩
  | false =>
    rw [hl, cond_false] at h
    by_cases hb : 0 ≤ i ∧ i < (len : Int)
    · rw [decide_eq_true hb, cond_true] at h
      exact ⟨hb, h⟩
    · rw [decide_eq_false hb, cond_false] at h; cases h

theorem idxV_sound {e : TypeId} {len : Nat} {cs : List Sv} {i : Int} {kv : Sv → Option R} {r : R} (h : idxV P e len cs i kv = some r) :
    ∃ ie s, P.info? e = some ie ∧ partS P e cs (i.toNat * ie.size) = some s ∧ (0 ≤ i ∧ i < (len : Int)) ∧ kv s = some r := by
  unfold idxV at h
  split at h
  · rename_i ie hie
    split at h
    · rename_i hk
      simp only [Bool.and_eq_true] at hk
      have h1 := Nat.eq_of_beq_eq_true hk.2.1
      have h2 := Nat.eq_of_beq_eq_true hk.2.2
      split at h
      · rename_i q xs hxs
        obtain ⟨hb, h⟩ := cond_some' h
        simp only [Bool.and_eq_true, decide_eq_true_eq] at hb
        refine ⟨ie, _, hie, ?_, hb, h⟩
        have h3 := intsOf_map hxs
        have hxl : xs.length = len := by rw [← h2, h3]; simp
        have h4 := selL_get (xs := xs) (i := i) (j := 0) (by omega) (by omega)
        rw [Int.sub_zero] at h4
        have hT := hk.1
        unfold intT at hT
        split at hT
        · rename_i hu
          unfold partS
          rw [hu, h1, Nat.mul_one, h3]
          simp only [aggD, List.getElem?_map, h4, Option.map_some]
        · cases hT
      · cases h
    · obtain ⟨hb, h⟩ := atIdx_sound h
      split at h
      · rename_i s hs; exact ⟨ie, s, hie, hs, hb, h⟩
      · cases h
  · cases h
theorem indexS_sound {e : TypeId} {len : Nat} {i : Int} {b off : Nat} {kv : Sv → Option R} {r : R} (h : indexS P e len i b off kv = some r) :
    ∃ sv ie, P.info? e = some ie ∧ kv sv = some r ∧ (0 ≤ i ∧ i < (len : Int)) ∧ ∀ ρ (g : Nat), ρ[b]? = some (.blk g) → den ρ sv = some (.pointer (some ((⟨g, off, none⟩ : Addr).add (i.toNat * ie.size)))) := by
  unfold indexS at h
  split at h
  · rename_i ie hie
    split at h
    · rename_i hk
      simp only [Bool.and_eq_true] at hk
      have h1 := Nat.eq_of_beq_eq_true hk.2.1
      obtain ⟨hb, h⟩ := cond_some' h
      simp only [Bool.and_eq_true, decide_eq_true_eq] at hb
      exact ⟨_, ie, hie, h, hb, fun ρ g hg => by simp [den, hg, hb, addr_add, h1]⟩
    · obtain ⟨hb, h⟩ := atIdx_sound h
      exact ⟨_, ie, hie, h, hb, fun ρ g hg => by simp [den, hg, addr_add]⟩
  · cases h


theorem idxR_sound {m : List SObj} {e : TypeId} {len : Nat} {i : Int} {b off : Nat} {kv : Sv → Option R} {r : R} (h : idxR P m e len i b off kv = some r) :
    ∃ sv ie, P.info? e = some ie ∧ kv sv = some r ∧ (0 ≤ i ∧ i < (len : Int)) ∧ ∀ ρ (g : Nat), ρ[b]? = some (.blk g) → den ρ sv = some (.pointer (some ((⟨g, off, none⟩ : Addr).add (i.toNat * ie.size)))) := by
  unfold idxR at h
  split at h
  · split at h
    · rename_i ie hie
      obtain ⟨hb, h⟩ := cond_some' h
      simp only [Bool.and_eq_true, decide_eq_true_eq] at hb
      have h1 := Nat.eq_of_beq_eq_true hb.1
      exact ⟨_, ie, hie, h, hb.2, fun ρ g hg => by simp [den, hg, hb.2, addr_add, h1]⟩
    · cases h
  · exact indexS_sound h

theorem u8sOf_map : ∀ {l : List Sv} {xs : List Int}, u8sOf l = some xs → l = xs.map fun x => .v (.int .u8 x)
  | [], xs, h => by simp [u8sOf] at h; subst h; rfl
  | s :: l, xs, h => by
    cases s with
    | v x =>
      cases x with
      | int q x =>
        simp only [u8sOf] at h
        split at h
        · rename_i ys hys
          split at h
          · rename_i hq; simp at h; subst h hq; rw [u8sOf_map hys]; rfl
          · cases h
        · cases h
      | _ => simp [u8sOf] at h
    | _ => simp [u8sOf] at h

theorem run_str {src dst e : TypeId} (hs : P.underlying src = some (.slice e)) (he : P.underlying e = some (.int .u8)) (hd : P.underlying dst = some .string) {g off len cap : Nat} {l : List Value} {fr : Nat × Nat} {et : TypeId} {w : World}
    (hh : w.heap[g]? = some (.cells l.toArray et fr)) {xs : List Int} (hlen : xs.length = len) (hx : ∀ i x, xs[i]? = some x → l[off + i]? = some (.int .u8 x)) :
    (convert src dst (.slice (some ⟨g, off, none⟩) len cap)).run P w = .ok (.string (strOfNums xs)) w :=
  run_convert_bytes_arg w src e hs he g off len cap xs hlen (fun i hi => by
    rw [cell_of_row w g _ _ et fr hh]
    have hlt : i < xs.length := by omega
    have := hx i xs[i] (List.getElem?_eq_getElem hlt)
    simp [this, List.getD, List.getElem?_eq_getElem hlt]) dst hd

theorem lstr_sound {cs : List Sv} {off len : Nat} {kv : Sv → Option R} {r : R} (h : lstr cs off len kv = some r) : ∃ xs : List Int, kv (.v (.string (strOfNums xs))) = some r ∧ xs.length = len ∧
    ∀ ρ l l2, denL ρ cs = some l → ∀ i x, xs[i]? = some x → (l ++ l2)[off + i]? = some (.int .u8 x) := by
  unfold lstr at h
  split at h
  · rename_i sg hsg
    split at h
    · rename_i xs hxs
      have hm := u8sOf_map hxs
      have hlen : xs.length = len := by
        obtain ⟨r', hr'⟩ : ∃ r', r' = len := ⟨_, rfl⟩
        have key : ∀ (t : List Sv) (o n : Nat) (r : List Sv), seg t o n = some r → r.length = n := by
          intro t o
          have tk : ∀ (t : List Sv) (n : Nat) (r : List Sv), takeN t n = some r → r.length = n := by
            intro t n
            induction n generalizing t with
            | zero => intro r h; cases t <;> (simp [takeN] at h; subst h; rfl)
            | succ n ih =>
              intro r h
              cases t with
              | nil => simp [takeN] at h
              | cons c cs =>
                simp only [takeN] at h
                split at h
                · rename_i r' hr'; simp at h; subst h; simp [ih _ _ hr']
                · cases h
          induction o generalizing t with
          | zero => intro n r h; exact tk t n r (by cases t <;> simpa [seg] using h)
          | succ o ih =>
            intro n r h
            cases t with
            | nil => simp [seg] at h
            | cons c cs => exact ih cs n r (by simpa [seg] using h)
        have := key _ _ _ _ hsg
        rw [hm] at this; simpa using this
      refine ⟨xs, h, hlen, fun ρ l l2 hl i x hi => ?_⟩
      have h1 := seg_den off len hl hsg
      rw [hm] at h1
      have h5 : denL ρ (xs.map fun x => Sv.v (.int .u8 x)) = some (xs.map fun x => Value.int .u8 x) := by
        have := denL_v ρ (xs.map fun x => Value.int .u8 x)
        rw [List.map_map] at this; exact this
      rw [h5] at h1
      have h6 := Option.some.inj h1.1
      have h7 : (xs.map fun x => Value.int .u8 x)[i]? = some (.int .u8 x) := by rw [List.getElem?_map, hi]; rfl
      rw [h6, List.getElem?_take, List.getElem?_drop] at h7
      have hlt := (List.getElem?_eq_some_iff.1 hi).1
      rw [if_pos (by omega)] at h7
      rw [List.getElem?_append_left (List.getElem?_eq_some_iff.1 h7).1]; exact h7
    · cases h
  · cases h

theorem rowStr_sound {m : List SObj} {b off len : Nat} {kv : Sv → Option R} {r : R} (h : rowStr m b off len kv = some r) : ∃ (xs : List Int) (o : SObj), kv (.v (.string (strOfNums xs))) = some r ∧ xs.length = len ∧ m[b]? = some o ∧ alive o = true ∧
    ∀ (X : Ext) ρ own k g w, ObjAt X ρ own k g w o → ∃ (l : List Value) (et : TypeId) (fr : Nat × Nat), w.heap[g]? = some (.cells l.toArray et fr) ∧ ∀ i x, xs[i]? = some x → l[off + i]? = some (.int .u8 x) := by
  unfold rowStr at h
  split at h
  · rename_i q e n F hm
    obtain ⟨hb, h9⟩ := cond_some' h
    clear h
    simp only [Bool.and_eq_true, decide_eq_true_eq] at hb
    obtain ⟨hq, hle⟩ := hb
    subst hq
    refine ⟨(List.range len).map fun (i : Nat) => F (offI off (i : Int)), _, h9, by simp, hm, rfl, fun X ρ own k g w ho => ?_⟩
    obtain ⟨_, l, h1, h2, h3⟩ := ho
    refine ⟨l, _, _, h3, fun i x hi => ?_⟩
    rw [List.getElem?_map] at hi
    by_cases hlt : i < len
    · rw [List.getElem?_range hlt] at hi
      simp at hi
      rw [h2 (off + i) (by omega), ← hi]
      congr 2
      cases off with
      | zero => simp [offI]
      | succ k => simp only [offI]; congr 1
    · rw [List.getElem?_eq_none (by simpa using hlt)] at hi; cases hi
  · rename_i cs e hm
    obtain ⟨xs, h1, h2, h3⟩ := lstr_sound h
    refine ⟨xs, _, h1, h2, hm, rfl, fun X ρ own k g w ho => ?_⟩
    obtain ⟨_, l, h4, h5⟩ := ho
    exact ⟨l, _, _, h5, fun i x hi => by have := h3 ρ l [] h4 i x hi; simpa using this⟩
  · rename_i c cs e hm
    obtain ⟨xs, h1, h2, h3⟩ := lstr_sound h
    refine ⟨xs, _, h1, h2, hm, rfl, fun X ρ own k g w ho => ?_⟩
    obtain ⟨_, l, l2, fr, h4, _, _, h5⟩ := ho
    exact ⟨l ++ l2, _, _, h5, fun i x hi => h3 ρ l l2 h4 i x hi⟩
  · cases h

theorem toStr_sound {src dst : TypeId} {x : Sv} {m : List SObj} {kv : Sv → Option R} {r : R} (h : toStr P src dst x m kv = some r) : ∃ s, kv (.v (.string s)) = some r ∧
    ∀ (X : Ext) ρ own mm w v, Compat m mm → Rep X ρ own mm w → den ρ x = some v → (convert src dst v).run P w = .ok (.string s) w := by
  unfold toStr at h
  split at h
  · rename_i e hs
    split at h
    · rename_i he
      split at h
      · rename_i hd
        split at h
        · refine ⟨_, h, fun X ρ own mm w v hc hr hv => ?_⟩
          have := den_vv hv; subst this
          exact run_convert_bytes_nil w src e hs he _ _ dst hd
        · rename_i b off len cap
          obtain ⟨xs, o, h1, h2, h3, ha, h4⟩ := rowStr_sound h
          refine ⟨_, h1, fun X ρ own mm w v hc hr hv => ?_⟩
          obtain ⟨g, hg, rfl⟩ := den_sl hv
          obtain ⟨g', hg', hob⟩ := hr.obj b o (hc b o h3 ha) ha
          rw [hg] at hg'; simp at hg'; subst hg'
          obtain ⟨l, et, fr, h5, h6⟩ := h4 X ρ own b g w hob
          exact run_str hs he hd h5 h2 h6
        · rename_i b c off len
          obtain ⟨xs, o, h1, h2, h3, ha, h4⟩ := rowStr_sound h
          refine ⟨_, h1, fun X ρ own mm w v hc hr hv => ?_⟩
          obtain ⟨g, n, hg, _, _, rfl⟩ := den_sa hv
          obtain ⟨g', hg', hob⟩ := hr.obj b o (hc b o h3 ha) ha
          rw [hg] at hg'; simp at hg'; subst hg'
          obtain ⟨l, et, fr, h5, h6⟩ := h4 X ρ own b g w hob
          exact run_str hs he hd h5 h2 h6
        · cases h
      · cases h
    · cases h
  · cases h

theorem bndS_run {x : Option Sv} {d : Nat} {i : Int} (h : bndS x d = some i) : (x = none ∧ i = d) ∨ ∃ k, x = some (.v (.int k i)) := by
  unfold bndS at h
  split at h
  · simp at h; exact .inl ⟨rfl, h.symm⟩
  · rename_i k j; simp at h; subst h; exact .inr ⟨k, rfl⟩
  · cases h

/-- The bounds of a slice. -/
theorem run_bounds {isS : Bool} {len cap : Nat} {lo hi : Option Sv} {vlo vhi : Option Value} {l h : Int} (ρ : List Un) (hlo : bndS lo 0 = some l) (hhi : bndS hi len = some h)
    (dlo : ∀ s, lo = some s → ∃ v, vlo = some v ∧ den ρ s = some v) (nlo : lo = none → vlo = none) (dhi : ∀ s, hi = some s → ∃ v, vhi = some v ∧ den ρ s = some v) (nhi : hi = none → vhi = none)
    (h0 : 0 ≤ l) (h1 : l ≤ h) (h2 : h ≤ (cap : Int)) (w : World) : (Instr.sliceBounds isS len cap vlo vhi none).run P w = .ok (l.toNat, h.toNat, cap) w := by
  unfold Instr.sliceBounds
  rcases bndS_run hhi with ⟨e1, e2⟩ | ⟨k, e1⟩
  · rw [nhi e1]
    subst e2
    rcases bndS_run hlo with ⟨e3, e4⟩ | ⟨k', e3⟩
    · rw [nlo e3]; subst e4; simp
    · obtain ⟨v, hv, hd⟩ := dlo _ e3
      have := den_vv hd; subst this
      rw [hv]
      simp [run_sliceBound w k' l len _ h0 h1]
  · obtain ⟨v, hv, hd⟩ := dhi _ e1
    have := den_vv hd; subst this
    rw [hv]
    rcases bndS_run hlo with ⟨e3, e4⟩ | ⟨k', e3⟩
    · rw [nlo e3]; subst e4
      simp [run_sliceBound w k h cap _ (by omega) h2]
    · obtain ⟨v', hv', hd'⟩ := dlo _ e3
      have := den_vv hd'; subst this
      rw [hv']
      have e : (h.toNat : Int) = h := by omega
      simp [run_sliceBound w k h cap _ (by omega) h2, run_sliceBound w k' l h.toNat _ h0 (by omega)]

theorem sliceS_sound {T : TypeId} {x : Sv} {lo hi : Option Sv} {kv : Sv → Option R} {r : R} (h : sliceS P T x lo hi kv = some r) : ∃ sv, kv sv = some r ∧
    ∀ ρ v (vlo vhi : Option Value), den ρ x = some v → (∀ s, lo = some s → ∃ v, vlo = some v ∧ den ρ s = some v) → (lo = none → vlo = none) → (∀ s, hi = some s → ∃ v, vhi = some v ∧ den ρ s = some v) → (hi = none → vhi = none) →
      ∃ z, den ρ sv = some z ∧ ∀ w, (Instr.sliceAt T v vlo vhi none).run P w = .ok z w := by
  unfold sliceS at h
  split at h
  · rename_i e hu
    split at h
    · rename_i ie hie
      split at h
      · rename_i hsz
        have hsz := Nat.eq_of_beq_eq_true hsz
        split at h
        · rename_i b off len cap
          split at h
          · rename_i l hl
            split at h
            · rename_i hh hhh
              obtain ⟨hb, h⟩ := cond_some' h
              simp only [Bool.and_eq_true, Bool.or_eq_true, decide_eq_true_eq, beq_iff_eq] at hb
              obtain ⟨h0, h1, h2, h3⟩ := hb
              refine ⟨_, h, fun ρ v vlo vhi hx dlo nlo dhi nhi => ?_⟩
              obtain ⟨g, hg, rfl⟩ := den_sl hx
              refine ⟨.slice (some ⟨g, off + l.toNat, none⟩) (hh - l).toNat (cap - l.toNat), by simp [den, hg], fun w => ?_⟩
              have hr := run_bounds (P := P) (isS := true) ρ hl hhh dlo nlo dhi nhi h0 h1 h2 w
              simp only [Instr.sliceAt, Instr.slice, Sem.run_bind, run_underlying hu, Result.andThen_ok, hr, run_sizeOf w hie, hsz, Nat.mul_one, Sem.run_pure]
              have e1 : hh.toNat - l.toNat = (hh - l).toNat := by omega
              rw [e1]
              by_cases hc : cap = l.toNat
              · have : l = 0 := by omega
                subst this
                simp at hc
                simp [hc]
              · rw [if_neg hc]
                simp [addr_add]
            · cases h
          · cases h
        · rename_i b c off len
          split at h
          · rename_i l hl
            split at h
            · rename_i hh hhh
              obtain ⟨hb, h⟩ := cond_some' h
              simp only [Bool.and_eq_true, Bool.or_eq_true, decide_eq_true_eq, beq_iff_eq] at hb
              obtain ⟨h0, h1, h2, h3⟩ := hb
              refine ⟨_, h, fun ρ v vlo vhi hx dlo nlo dhi nhi => ?_⟩
              obtain ⟨g, n, hg, hn, hle, rfl⟩ := den_sa hx
              refine ⟨.slice (some ⟨g, off + l.toNat, none⟩) (hh - l).toNat (n - (off + l.toNat)), ?_, fun w => ?_⟩
              · simp only [den, hg, hn]
                rw [if_pos (by omega)]
              have hr := run_bounds (P := P) (isS := true) (cap := n - off) ρ hl hhh dlo nlo dhi nhi h0 h1 (by omega) w
              simp only [Instr.sliceAt, Instr.slice, Sem.run_bind, run_underlying hu, Result.andThen_ok, hr, run_sizeOf w hie, hsz, Nat.mul_one, Sem.run_pure]
              have e1 : hh.toNat - l.toNat = (hh - l).toNat := by omega
              have e2 : n - off - l.toNat = n - (off + l.toNat) := by omega
              rw [e1, e2]
              by_cases hc : n - off = l.toNat
              · have : l = 0 := by omega
                subst this
                simp at hc
                simp [hc]
              · rw [if_neg hc]
                simp [addr_add]
            · cases h
          · cases h
        · cases h
      · cases h
    · cases h
  · rename_i hu
    split at h
    · rename_i s
      split at h
      · rename_i l hl
        split at h
        · rename_i hh hhh
          obtain ⟨hb, h⟩ := cond_some' h
          simp only [Bool.and_eq_true, decide_eq_true_eq] at hb
          obtain ⟨h0, h1, h2⟩ := hb
          refine ⟨_, h, fun ρ v vlo vhi hx dlo nlo dhi nhi => ?_⟩
          have := den_vv hx; subst this
          refine ⟨_, rfl, fun w => ?_⟩
          have hr := run_bounds (P := P) (isS := false) ρ hl hhh dlo nlo dhi nhi h0 h1 h2 w
          simp [Instr.sliceAt, Instr.slice, run_underlying hu, hr]
        · cases h
      · cases h
    · cases h
  · cases h

theorem builtinS_sound {b : Builtin} {ts : Array TypeId} {args : List Sv} {kv : Sv → Option R} {r : R} (h : builtinS P b ts args kv = some r) :
    ∃ sv x, kv sv = some r ∧ (∀ ρ, den ρ sv = some x) ∧ ∀ ρ l ty cs, denL ρ args = some l → ∀ w, (builtin b ts ty cs l.toArray).run P w = .ok (.value x) w := by
  unfold builtinS at h
  split at h
  · refine ⟨_, _, h, fun _ => rfl, fun ρ l ty cs hl w => ?_⟩
    obtain ⟨x, xs, hx, hxs, rfl⟩ := denL_cons hl
    obtain ⟨y, ys, hy, hys, rfl⟩ := denL_cons hxs
    simp [denL] at hys; subst hys
    have := den_vv hx; subst this
    have := den_vv hy; subst this
    simp [builtin, Builtin.max_, Builtin.max2]
  · refine ⟨_, _, h, fun _ => rfl, fun ρ l ty cs hl w => ?_⟩
    obtain ⟨x, xs, hx, hxs, rfl⟩ := denL_cons hl
    obtain ⟨y, ys, hy, hys, rfl⟩ := denL_cons hxs
    simp [denL] at hys; subst hys
    have := den_vv hx; subst this
    have := den_vv hy; subst this
    simp [builtin, Builtin.min_, Builtin.min2]
  · split at h
    · rename_i t ht
      split at h
      · rename_i s hu
        refine ⟨_, _, h, fun _ => rfl, fun ρ l ty cs hl w => ?_⟩
        obtain ⟨x, xs, hx, hxs, rfl⟩ := denL_cons hl
        simp [denL] at hxs; subst hxs
        have := den_vv hx; subst this
        simp [builtin, Builtin.len_, ht, run_underlying hu, goInt]
      · rename_i e b' off n cap hu
        refine ⟨_, _, h, fun _ => rfl, fun ρ l ty cs hl w => ?_⟩
        obtain ⟨x, xs, hx, hxs, rfl⟩ := denL_cons hl
        simp [denL] at hxs; subst hxs
        obtain ⟨g, _, rfl⟩ := den_sl hx
        simp [builtin, Builtin.len_, ht, run_underlying hu, goInt]
      · rename_i e b' c' off n hu
        refine ⟨_, _, h, fun _ => rfl, fun ρ l ty cs hl w => ?_⟩
        obtain ⟨x, xs, hx, hxs, rfl⟩ := denL_cons hl
        simp [denL] at hxs; subst hxs
        obtain ⟨g, nc, _, _, _, rfl⟩ := den_sa hx
        simp [builtin, Builtin.len_, ht, run_underlying hu, goInt]
      · rename_i e a n cap hu
        refine ⟨_, _, h, fun _ => rfl, fun ρ l ty cs hl w => ?_⟩
        obtain ⟨x, xs, hx, hxs, rfl⟩ := denL_cons hl
        simp [denL] at hxs; subst hxs
        have := den_vv hx; subst this
        simp [builtin, Builtin.len_, ht, run_underlying hu, goInt]
      · rename_i n e hu
        refine ⟨_, _, h, fun _ => rfl, fun ρ l ty cs hl w => ?_⟩
        obtain ⟨x, xs, hx, hxs, rfl⟩ := denL_cons hl
        simp [denL] at hxs; subst hxs
        simp [builtin, Builtin.len_, ht, run_underlying hu, goInt]
      · cases h
    · cases h
  · cases h

theorem denL_map {t : List Sv} {l : List Value} {ds : List Deferred} (h : denL ρ t = some l) : ∀ (xs : List Operand), denL ρ (xs.map (get t)) = some (xs.map (Act.eval ⟨l.toArray, ds⟩))
  | [] => rfl
  | x :: xs => denL_mk (get_den h x) (denL_map h xs)
theorem denL_mapOf {t : List Sv} {a : Act} : ∀ (xs : List Operand), (∀ x ∈ xs, den ρ (get t x) = some (a.eval x)) → denL ρ (xs.map (get t)) = some (xs.map a.eval)
  | [], _ => rfl
  | x :: xs, h => denL_mk (h x (by simp)) (denL_mapOf xs fun y hy => h y (by simp [hy]))


theorem ents_get {ρ : List Un} {q : IntKind} : ∀ {i : Nat} {es : List (Int × Sv)} {l : List MapEntry}, entsAt ρ q i es l → ∀ {j : Nat} {a : Int} {s : Sv}, es[j]? = some (a, s) → ∃ v, den ρ s = some v ∧ l[j]? = some { key := .int q a, val := v, born := i + j }
  | i, [], l, h, j, a, s, hj => by simp at hj
  | i, (b, t) :: es, l, ⟨u, l', h1, h2, h3⟩, j, a, s, hj => by
    subst h1
    cases j with
    | zero => simp at hj; obtain ⟨rfl, rfl⟩ := hj; exact ⟨u, h2, by simp⟩
    | succ j =>
      obtain ⟨v, hv, hl⟩ := ents_get h3 (show es[j]? = some (a, s) by simpa using hj)
      exact ⟨v, hv, by simp [hl, Nat.add_assoc, Nat.add_comm 1 j]⟩
theorem ents_length {ρ : List Un} {q : IntKind} : ∀ {i : Nat} {es : List (Int × Sv)} {l : List MapEntry}, entsAt ρ q i es l → l.length = es.length
  | i, [], l, h => by simp only [entsAt] at h; subst h; rfl
  | i, (b, t) :: es, l, ⟨u, l', h1, h2, h3⟩ => by subst h1; simp [ents_length h3]
theorem ents_born {ρ : List Un} {q : IntKind} : ∀ {i : Nat} {es : List (Int × Sv)} {l : List MapEntry}, entsAt ρ q i es l → ∀ x ∈ l, i ≤ x.born ∧ x.born < i + es.length
  | i, [], l, h, x, hx => by simp only [entsAt] at h; subst h; simp at hx
  | i, (b, t) :: es, l, ⟨u, l', h1, h2, h3⟩, x, hx => by
    subst h1
    rcases List.mem_cons.1 hx with rfl | hx
    · simp
    · have := ents_born h3 x hx; simp only [List.length_cons]; omega
theorem ents_nodup {ρ : List Un} {q : IntKind} : ∀ {i : Nat} {es : List (Int × Sv)} {l : List MapEntry}, entsAt ρ q i es l → (l.map (·.born)).Nodup
  | i, [], l, h => by simp only [entsAt] at h; subst h; simp
  | i, (b, t) :: es, l, ⟨u, l', h1, h2, h3⟩ => by
    subst h1
    rw [List.map_cons, List.nodup_cons]
    refine ⟨fun hm => ?_, ents_nodup h3⟩
    obtain ⟨x, hx, he⟩ := List.mem_map.1 hm
    have := ents_born h3 x hx
    simp at he; omega
theorem keyKind_spec {T : TypeId} {q : IntKind} (h : keyKind P T q = true) : ∃ kt et, P.underlying T = some (.map kt et) ∧ P.underlying kt = some (.int q) := by
  unfold keyKind at h
  split at h
  · rename_i kt et hu
    split at h
    · rename_i q' hk
      have := of_decide_eq_true h
      subst this
      exact ⟨kt, et, hu, hk⟩
    · cases h
  · cases h
theorem find_upd {q qe : IntKind} {a v : Int} {nw : MapEntry} (hn : nw.key = .int q a ∧ nw.val = .int qe v) (f : MapEntry → MapEntry) (hf : ∀ e, (f e).key = .int q a ∧ (f e).val = .int qe v) : ∀ {l : List MapEntry} (i : Nat), intEnts q qe l →
    (Instr.findNow (.int q) (.int q a) l i = some none ∧ lookI l a = 0 ∧ ∀ x, lookI (l ++ [nw]) x = (bif x == a then v else lookI l x)) ∨
    (∃ j e, Instr.findNow (.int q) (.int q a) l i = some (some (i + j, e.val)) ∧ l[j]? = some e ∧ e.key = .int q a ∧ e.val = .int qe (lookI l a) ∧ ∀ x, lookI (l.modify j f) x = (bif x == a then v else lookI l x))
  | [], i, _ => .inl ⟨rfl, rfl, fun x => by simp [lookI, hn.1, hn.2]⟩
  | e :: l, i, h => by
    obtain ⟨k, b, hk, hb⟩ := h e List.mem_cons_self
    by_cases hak : a = k
    · subst hak
      refine .inr ⟨0, e, ?_, rfl, hk, ?_, fun x => ?_⟩
      · simp [Instr.findNow, Instr.sameNow, hk]
      · simp [lookI, hk, hb]
      · simp only [List.modify_zero_cons, lookI, (hf e).1, (hf e).2, hk, hb]
        cases (x == a) <;> rfl
    · have hne : (a == k) = false := by simpa using hak
      have hf0 : Instr.findNow (.int q) (.int q a) (e :: l) i = Instr.findNow (.int q) (.int q a) l (i + 1) := by
        simp [Instr.findNow, Instr.sameNow, hk, hne]
      have hl0 : lookI (e :: l) a = lookI l a := by simp [lookI, hk, hb, hne]
      rw [hf0, hl0]
      have comm : ∀ x (y : Int), (bif x == k then b else (bif x == a then v else y)) = (bif x == a then v else (bif x == k then b else y)) := fun x y => by
        by_cases h1 : x = k
        · subst h1
          have : (x == a) = false := by simpa using (Ne.symm hak)
          simp [this]
        · have : (x == k) = false := by simpa using h1
          simp [this]
      rcases find_upd hn f hf (i + 1) (fun e' he' => h e' (List.mem_cons_of_mem _ he')) with ⟨h1, h2, h3⟩ | ⟨j, e', h1, h2, h3, h4, h5⟩
      · refine .inl ⟨h1, h2, fun x => ?_⟩
        simp only [List.cons_append, lookI, hk, hb, h3, comm]
      · refine .inr ⟨j + 1, e', by rw [h1, show i + 1 + j = i + (j + 1) by omega], by simpa using h2, h3, h4, fun x => ?_⟩
        simp only [List.modify_succ_cons, lookI, hk, hb, h5, comm]

theorem run_lookup_bm {T : TypeId} {q qe : IntKind} {a : Int} {w : World} {g clk : Nat} {l : List MapEntry} (hk : keyKind P T q = true) (he : elemInt P T qe = true) (hl : intEnts q qe l) (hh : w.heap[g]? = some (.map l.toArray clk)) :
    (Instr.lookup T (.map (some g)) (.int q a) false).run P w = .ok (.int qe (lookI l a)) w := by
  obtain ⟨kt, et, hu, huk⟩ := keyKind_spec hk
  have hz : (zeroValue et).run P w = .ok (.int qe 0) w := by
    unfold elemInt at he
    rw [hu] at he
    dsimp only at he
    split at he
    · rename_i ii hi
      split at he
      · rename_i q' z hz
        simp only [Bool.and_eq_true, decide_eq_true_eq, beq_iff_eq] at he
        obtain ⟨rfl, rfl⟩ := he
        simp [zeroValue, typeInfo, hi, hz]
      · cases he
    · cases he
  have hget : (getObj g).run P w = .ok (.map l.toArray clk) w := MapKept.run_getObj_map hh
  have hck : ∀ b, (Instr.checkKey b 10000 kt (.int q a)).run P w = .ok () w := fun b => MapKept.run_checkKey huk (by simp [MapKept.IsKey]) b 9999
  have hfind := find_upd (v := 0) (nw := ⟨.int q a, .int qe 0, 0⟩) ⟨rfl, rfl⟩ (fun _ => ⟨.int q a, .int qe 0, 0⟩) (fun _ => ⟨rfl, rfl⟩) 0 hl (a := a)
  rcases hfind with ⟨h1, h2, _⟩ | ⟨j, e, h1, h2, h3, h4, _⟩
  · have hfk : (Instr.findKey kt (.int q a) l).run P w = .ok none w := MapKept.run_findKey huk h1
    simp [Instr.lookup, Sem.run_bind, run_underlying hu, hget, hck, hfk, hz, h2]
  · have hfk : (Instr.findKey kt (.int q a) l).run P w = .ok (some (0 + j, e.val)) w := MapKept.run_findKey huk h1
    simp [Instr.lookup, Sem.run_bind, run_underlying hu, hget, hck, hfk, h4]

theorem run_loadVar_int {T : TypeId} (hT : intT P T = true) {w : World} {g off : Nat} {v : Value} (h : w.cell? ⟨g, off, none⟩ = some v) : (loadVar T ⟨g, off, none⟩).run P w = .ok v w := by
  have hu : ∃ d, P.underlying T = some d ∧ aggD d = false := by
    unfold intT at hT
    split at hT
    · rename_i hu; exact ⟨_, hu, rfl⟩
    · cases hT
  obtain ⟨d, hu, had⟩ := hu
  simp [loadVar, Sem.run_bind, run_isAgg w hu, had, h]

theorem run_loadVar_buf {t : TypeId} {cs : List Sv} {l l2 : List Value} {off : Nat} {s : Sv} (hl : denL ρ cs = some l) (h : partS P t cs off = some s)
    (w : World) (g : Nat) {e : TypeId} {fr : Nat × Nat} (hg : w.heap[g]? = some (.cells (l ++ l2).toArray e fr)) :
    ∃ x, den ρ s = some x ∧ (loadVar t ⟨g, off, none⟩).run P w = .ok x w := by
  obtain ⟨d, hd, hc⟩ := partS_cases h
  rcases hc with ⟨ha, i, sg, hi, hsg, rfl⟩ | ⟨ha, hs⟩
  · have h1 := seg_den off i.size hl hsg
    refine ⟨.agg ((l.drop off).take i.size).toArray, by simp only [den, h1.1], ?_⟩
    have hlen : ((l.drop off).take i.size).length = i.size := by simp; omega
    have hcells := run_loadCells_list (P := P) w ⟨g, off, none⟩ ((l.drop off).take i.size) (fun j v hj => by
      have hplain : (⟨g, off, none⟩ : Addr).add j = ⟨g, off + j, none⟩ := addr_add g off j
      rw [hplain, cell_of_row w g _ _ e fr hg]
      rw [List.getElem?_take, List.getElem?_drop] at hj
      split at hj
      · simp only [List.getElem?_toArray]
        rw [List.getElem?_append_left (List.getElem?_eq_some_iff.1 hj).1]; exact hj
      · cases hj)
    rw [hlen] at hcells
    simp [loadVar, run_isAgg w hd, ha, run_sizeOf w hi, hcells]
  · obtain ⟨x, hx, hden⟩ := denL_get off hl hs
    refine ⟨x, hden, ?_⟩
    have hcell : w.cell? ⟨g, off, none⟩ = some x := by
      rw [cell_of_row w g _ _ e fr hg]
      simp only [List.getElem?_toArray]
      rw [List.getElem?_append_left (List.getElem?_eq_some_iff.1 hx).1]; exact hx
    simp [loadVar, run_isAgg w hd, ha, hcell]

theorem findNow_snoc {q : IntKind} {a : Int} {v : Value} {bn : Nat} : ∀ {es : List MapEntry} (i : Nat), Instr.findNow (.int q) (.int q a) es i = some none →
    Instr.findNow (.int q) (.int q a) (es ++ [({ key := .int q a, val := v, born := bn } : MapEntry)]) i = some (some (i + es.length, v))
  | [], i, _ => by simp [Instr.findNow, Instr.sameNow]
  | e :: es, i, h => by
    simp only [List.cons_append, Instr.findNow] at h ⊢
    split at h
    · simp at h
    · rename_i he
      rw [findNow_snoc (i + 1) h]
      simp; omega
    · cases h

theorem notK_mem {a : Int} : ∀ {es : List (Int × Sv)}, notK a es = true → ∀ p ∈ es, p.1 ≠ a
  | [], _, p, hp => by cases hp
  | (k, s) :: r, h, p, hp => by
    simp only [notK, Bool.and_eq_true, Bool.not_eq_true', beq_eq_false_iff_ne] at h
    rcases List.mem_cons.1 hp with rfl | hp
    · exact fun e => h.1 e.symm
    · exact notK_mem h.2 p hp
theorem lookP_sound {R : Type} {a : Int} {kv : Sv → Option R} {r : R} : ∀ {es : List (Int × Sv)}, lookP es a kv = some r → ∃ s, (a, s) ∈ es ∧ kv s = some r
  | [], h => by cases h
  | (k, s) :: l, h => by
    simp only [lookP] at h
    cases hb : a == k
    · rw [hb, cond_false] at h
      obtain ⟨s', h1, h2⟩ := lookP_sound h
      exact ⟨s', List.mem_cons_of_mem _ h1, h2⟩
    · rw [hb, cond_true] at h
      have := eq_of_beq hb
      subst this
      exact ⟨s, List.mem_cons_self, h⟩
theorem distK_same {a : Int} {s t : Sv} : ∀ {es : List (Int × Sv)}, distK es = true → (a, s) ∈ es → (a, t) ∈ es → s = t
  | [], _, h, _ => by cases h
  | (k, u) :: l, hd, h1, h2 => by
    simp only [distK, Bool.and_eq_true] at hd
    rcases List.mem_cons.1 h1 with e1 | h1 <;> rcases List.mem_cons.1 h2 with e2 | h2
    · simp only [Prod.mk.injEq] at e1 e2; rw [e1.2, e2.2]
    · simp only [Prod.mk.injEq] at e1
      exact absurd e1.1 (notK_mem hd.1 _ h2)
    · simp only [Prod.mk.injEq] at e2
      exact absurd e2.1 (notK_mem hd.1 _ h1)
    · exact distK_same hd.2 h1 h2
theorem pm_find {q : IntKind} {a : Int} {s : Sv} : ∀ {i : Nat} {es : List (Int × Sv)} {l : List MapEntry} (n : Nat), entsAt ρ q i es l → (a, s) ∈ es → (∀ t, (a, t) ∈ es → t = s) → ∃ j v, Instr.findNow (.int q) (.int q a) l n = some (some (j, v)) ∧ den ρ s = some v
  | i, [], l, n, _, h, _ => by cases h
  | i, (b, t) :: es, l, n, ⟨u, l', h1, h2, h3⟩, hm, hs => by
    subst h1
    by_cases e : b = a
    · subst e
      have := hs t List.mem_cons_self
      subst this
      exact ⟨n, u, by simp [Instr.findNow, Instr.sameNow], h2⟩
    · have hne : (a == b) = false := by simpa using fun e' : a = b => e e'.symm
      have hm' : (a, s) ∈ es := by
        rcases List.mem_cons.1 hm with h | h
        · simp only [Prod.mk.injEq] at h; exact absurd h.1.symm e
        · exact h
      obtain ⟨j, v, h4, h5⟩ := pm_find (n + 1) h3 hm' fun t ht => hs t (List.mem_cons_of_mem _ ht)
      refine ⟨j, v, ?_, h5⟩
      simp only [Instr.findNow, Instr.sameNow, if_true, hne]
      exact h4
theorem run_lookup_pm {T : TypeId} {q : IntKind} {a : Int} {s : Sv} {w : World} {g : Nat} {es es' : List (Int × Sv)} {l : List MapEntry} {clk : Nat} (hk : keyKind P T q = true) (hd : distK es = true) (hm : (a, s) ∈ es) (hp : es'.Perm es) (hl : entsAt ρ q 0 es' l) (hh : w.heap[g]? = some (.map l.toArray clk)) :
    ∃ v, den ρ s = some v ∧ (Instr.lookup T (.map (some g)) (.int q a) false).run P w = .ok v w := by
  obtain ⟨kt, et, hu, hkt⟩ := keyKind_spec hk
  obtain ⟨j, v, hf, hv⟩ := pm_find 0 hl (hp.symm.mem_iff.1 hm) fun t ht => distK_same hd (hp.mem_iff.1 ht) hm
  refine ⟨v, hv, ?_⟩
  have hck : ∀ b, (Instr.checkKey b 10000 kt (.int q a)).run P w = .ok () w := fun b => MapKept.run_checkKey hkt (by simp [MapKept.IsKey]) b 9999
  have hfk : (Instr.findKey kt (.int q a) l).run P w = .ok (some (j, v)) w := MapKept.run_findKey hkt hf
  have hgo : (getObj g).run P w = .ok (.map l.toArray clk) w := MapKept.run_getObj_map hh
  simp [Instr.lookup, Sem.run_bind, run_underlying hu, hgo, hck, hfk]

theorem run_lookup_m1 {T : TypeId} {q : IntKind} {a : Int} {w : World} {g : Nat} {es : List MapEntry} {clk : Nat} {p : Option Sv} {nw : Bool} (hk : keyKind P T q = true) (he : elemPtr P T = true) (h : m1At ρ q a es clk p nw w.heap[g]?) :
    ∃ v, den ρ (match p with | some s => s | none => Sv.v (.pointer none)) = some v ∧ (Instr.lookup T (.map (some g)) (.int q a) false).run P w = .ok v w := by
  obtain ⟨kt, et, hu, hkt⟩ := keyKind_spec hk
  have hz : ∃ i, P.info? et = some i ∧ i.zero = some (.pointer none) := by
    unfold elemPtr at he
    rw [hu] at he
    dsimp only at he
    split at he
    · rename_i i hi
      split at he
      · rename_i hz; exact ⟨i, hi, hz⟩
      · cases he
    · cases he
  obtain ⟨i, hi, hz⟩ := hz
  have key : ∀ (L : List MapEntry) clk (o : Option (Nat × Value)), w.heap[g]? = some (.map L.toArray clk) → Instr.findNow (.int q) (.int q a) L 0 = some o →
      (Instr.lookup T (.map (some g)) (.int q a) false).run P w = .ok (match o with | some (_, v) => v | none => .pointer none) w := fun L clk o hh hf => by
    have hck : ∀ b, (Instr.checkKey b 10000 kt (.int q a)).run P w = .ok () w := fun b => MapKept.run_checkKey hkt (by simp [MapKept.IsKey]) b 9999
    have hfk : (Instr.findKey kt (.int q a) L).run P w = .ok o w := MapKept.run_findKey hkt hf
    have hgo : (getObj g).run P w = .ok (.map L.toArray clk) w := MapKept.run_getObj_map hh
    have hze : (zeroValue et).run P w = .ok (.pointer none) w := by simp [zeroValue, typeInfo, hi, hz]
    cases o with
    | none => simp [Instr.lookup, Sem.run_bind, run_underlying hu, hgo, hck, hfk, hze]
    | some p => simp [Instr.lookup, Sem.run_bind, run_underlying hu, hgo, hck, hfk]
  unfold m1At at h
  cases p with
  | none =>
    obtain ⟨_, hf, hh⟩ := h
    exact ⟨_, rfl, key _ _ _ hh hf⟩
  | some s =>
    obtain ⟨v, hv, h | h⟩ := h
    · obtain ⟨_, ⟨j, hf⟩, hh⟩ := h
      exact ⟨v, hv, key _ _ _ hh hf⟩
    · obtain ⟨_, hf, clk, bn, hh⟩ := h
      exact ⟨v, hv, key _ _ _ hh (findNow_snoc 0 hf)⟩

/-- In each class of worlds that the memory describes, shut under calls that leave memory alone: the operation yields this. -/
def QopR (P : Program) (X : Ext) (o : Oper) (t : List Sv) (m : List SObj) (sv : Sv) : Prop :=
  ∀ (ρ : List Un) (own : Nat → Option Nat) (C : World → Prop) (w0 : World) (mm : List SObj) (a0 : Act), Compat m mm → C w0 → (∀ w, C w → Rep X ρ own mm w) → (∀ w w', C w → Kept (fun _ => none) w w' → C w') →
    (∀ x ∈ o.op.operands, den ρ (get t x) = some (a0.eval x)) → ∃ x, den ρ sv = some x ∧ ∀ w, C w → o.quietAt P a0 C w x
theorem QopR.all {X : Ext} {o : Oper} {t : List Sv} {m : List SObj} {sv : Sv} (h : QopR P X o t m sv) (ρ : List Un) (own : Nat → Option Nat) (C : World → Prop) (w0 : World) (l : List Value) (ds : List Deferred) (h0 : C w0) (hC : ∀ w, C w → Rep X ρ own m w)
    (hK : ∀ w w', C w → Kept (fun _ => none) w w' → C w') (hl : denL ρ t = some l) : ∃ x, den ρ sv = some x ∧ ∀ w, C w → o.quietAt P ⟨l.toArray, ds⟩ C w x :=
  h ρ own C w0 m ⟨l.toArray, ds⟩ (Compat.refl m) h0 hC hK fun x _ => get_den hl x

theorem arg_mem {o : Oper} {c : Call} (ho : o.op = .call c) {y : Operand} (hy : y ∈ c.args.toList) : y ∈ o.op.operands := by
  have hy' : y ∈ c.args := by simpa using hy
  rw [ho]
  simp [Op.operands, Call.operands, hy']
theorem part_mem {o : Oper} {T : TypeId} {parts : Array (Nat × Operand)} (ho : o.op = .build T parts) {j : Nat} {q : Nat × Operand} (hq : parts.toList[j]? = some q) : q.2 ∈ o.op.operands := by
  have hm := List.mem_of_getElem? hq
  rw [ho]
  simp only [Op.operands, List.mem_toArray]
  exact List.mem_map_of_mem hm

theorem qop_sound {X : Ext} {m : List SObj} {H : FuncId → List Sv → List SObj → (Sv → Option R) → Option R} (hH : PureOk P X H) {o : Oper} {t : List Sv} {kv : Sv → Option R} {r : R} (h : qop P H o t m kv = some r) :
    ∃ sv, kv sv = some r ∧ QopR P X o t m sv := by
  unfold qop at h
  split at h
  · rename_i x ho
    exact ⟨_, h, fun ρ own C w0 mm a0 hmm hw0 hC hK hl => ⟨_, hl x (by simp [ho, Op.operands]), fun w _ => quiet_value (by simp [execOp, ho])⟩⟩
  · rename_i x ho
    exact ⟨_, h, fun ρ own C w0 mm a0 hmm hw0 hC hK hl => ⟨_, hl x (by simp [ho, Op.operands]), fun w _ => quiet_value (by simp [execOp, ho])⟩⟩
  · rename_i c a b ho
    split at h
    · rename_i cb hc
      obtain ⟨sv, h1, h2⟩ := pickS_sound h
      refine ⟨sv, h1, fun ρ own C w0 mm a0 hmm hw0 hC hK hl => ?_⟩
      have hcv := hl c (by simp [ho, Op.operands])
      rw [hc] at hcv
      have hcv := den_vv hcv
      exact ⟨_, h2 ρ _ _ (hl a (by simp [ho, Op.operands])) (hl b (by simp [ho, Op.operands])), fun w _ => quiet_value (by simp [execOp, ho, hcv, asBool])⟩
    · cases h
  · rename_i x ho
    split at h
    · rename_i b off hc
      refine ⟨_, h, fun ρ own C w0 mm a0 hmm hw0 hC hK hl => ?_⟩
      have hx := hl x (by simp [ho, Op.operands])
      rw [hc] at hx
      obtain ⟨g, hg, hx'⟩ := den_ptr hx
      exact ⟨_, hx, fun w _ => quiet_value (by simp [execOp, ho, hx'])⟩
    · rename_i b off len i hc
      refine ⟨_, h, fun ρ own C w0 mm a0 hmm hw0 hC hK hl => ?_⟩
      have hx := hl x (by simp [ho, Op.operands])
      rw [hc] at hx
      obtain ⟨_, g, hg, hx'⟩ := den_pix hx
      exact ⟨_, hx, fun w _ => quiet_value (by simp [execOp, ho, hx'])⟩
    · rename_i f a b hc
      refine ⟨_, h, fun ρ own C w0 mm a0 hmm hw0 hC hK hl => ?_⟩
      have hx := hl x (by simp [ho, Op.operands])
      rw [hc] at hx
      exact ⟨_, hx, fun w _ => quiet_value (by have := den_vv hx; simp [execOp, ho, this])⟩
    · cases h
  · rename_i op xT x y yT ho
    obtain ⟨sv, z, h1, h2, h3⟩ := binS_sound h
    exact ⟨sv, h1, fun ρ own C w0 mm a0 hmm hw0 hC hK hl => ⟨z, h2 ρ, fun w _ => quiet_value (by
      have := h3 ρ _ _ (hl x (by simp [ho, Op.operands])) (hl y (by simp [ho, Op.operands])) x y w
      simp only [execOp, ho]
      rw [Sem.run_bind, this]; rfl)⟩⟩
  · rename_i op xT x ho
    obtain ⟨sv, z, h1, h2, h3⟩ := unS_sound (P := P) h
    exact ⟨sv, h1, fun ρ own C w0 mm a0 hmm hw0 hC hK hl => ⟨z, h2 ρ, fun w _ => quiet_value (by
      have := h3 ρ _ (hl x (by simp [ho, Op.operands])) w
      simp only [execOp, ho]
      rw [Sem.run_bind, this]; rfl)⟩⟩
  · rename_i src dst x ho
    have conv : ∀ s, get t x = s → toStr P src dst s m kv = some r → ∃ sv, kv sv = some r ∧ QopR P X o t m sv := fun s hs h => by
      obtain ⟨sb, h1, h2⟩ := toStr_sound h
      refine ⟨_, h1, fun ρ own C w0 mm a0 hmm hw0 hC hK hl => ⟨_, rfl, fun w hw => quiet_value ?_⟩⟩
      have hx := hl x (by simp [ho, Op.operands])
      rw [hs] at hx
      have := h2 X ρ own mm w _ hmm (hC w hw) hx
      simp only [execOp, ho]
      rw [Sem.run_bind, this]; rfl
    split at h
    · rename_i hc; exact conv _ hc h
    · rename_i hc; exact conv _ hc h
    · rename_i hc; exact conv _ hc h
    · obtain ⟨sv, h1, h2⟩ := convS_sound h
      refine ⟨sv, h1, fun ρ own C w0 mm a0 hmm hw0 hC hK hl => ?_⟩
      obtain ⟨z, h3, h4⟩ := h2 ρ _ (hl x (by simp [ho, Op.operands]))
      exact ⟨z, h3, fun w _ => quiet_value (by
        have := h4 w
        simp only [execOp, ho]
        rw [Sem.run_bind, this]; rfl)⟩
  · rename_i T x lo hi mx ho
    split at h
    rotate_left
    · cases h
    obtain ⟨sv, h1, h2⟩ := sliceS_sound h
    refine ⟨sv, h1, fun ρ own C w0 mm a0 hmm hw0 hC hK hl => ?_⟩
    obtain ⟨z, h3, h4⟩ := h2 ρ _ (lo.map a0.eval) (hi.map a0.eval) (hl x (by simp [ho, Op.operands]))
      (fun s hs => by
        cases lo with
        | none => cases hs
        | some y => simp at hs; subst hs; exact ⟨_, rfl, hl y (by simp [ho, Op.operands])⟩) (fun hs => by cases lo <;> simp_all)
      (fun s hs => by
        cases hi with
        | none => cases hs
        | some y => simp at hs; subst hs; exact ⟨_, rfl, hl y (by simp [ho, Op.operands])⟩) (fun hs => by cases hi <;> simp_all)
    exact ⟨z, h3, fun w _ => quiet_value (by
      have := h4 w
      simp only [execOp, ho, Option.map_none]
      rw [Sem.run_bind, this]; rfl)⟩
  · rename_i T x ho
    split at h
    · cases h
    · rename_i d hd hu
      split at h
      · rename_i v hc
        refine ⟨_, h, fun ρ own C w0 mm a0 hmm hw0 hC hK hl => ⟨_, rfl, fun w _ => quiet_value ?_⟩⟩
        have hx := hl x (by simp [ho, Op.operands])
        rw [hc] at hx
        have hx := den_vv hx
        simp only [execOp, ho, Instr.makeInterface, Sem.run_bind, run_underlying hu, Result.andThen_ok, hx]
        rfl
      · rename_i hc
        refine ⟨_, h, fun ρ own C w0 mm a0 hmm hw0 hC hK hl => ⟨_, rfl, fun w _ => quiet_value ?_⟩⟩
        have hx := hl x (by simp [ho, Op.operands])
        rw [hc] at hx
        obtain ⟨lx, hlx, hx⟩ := den_agg hx
        simp [denL] at hlx; subst hlx
        simp only [execOp, ho, Instr.makeInterface, Sem.run_bind, run_underlying hu, Result.andThen_ok, hx]
        rfl
      · cases h
    · cases h
  · rename_i s x f ho
    split at h
    · rename_i fs hu
      split at h
      · rename_i fld b off hf hc
        split at h
        · rename_i i hi
          split at h
          · cases h
          · rename_i hz
            refine ⟨_, h, fun ρ own C w0 mm a0 hmm hw0 hC hK hl => ?_⟩
            have hx := hl x (by simp [ho, Op.operands])
            rw [hc] at hx
            obtain ⟨g, hg, hx'⟩ := den_ptr hx
            refine ⟨.pointer (some ⟨g, off + fld.offset, none⟩), by simp only [den, hg], fun w _ => quiet_value ?_⟩
            simp [execOp, ho, Instr.fieldAt, run_underlying hu, hf, hx', Instr.sureAddr, fieldPlace, run_sizeOf w hi, hz, addr_add]
        · cases h
      · cases h
    · cases h
  · rename_i xT x f ho
    split at h
    · rename_i fs hu
      split at h
      · rename_i fld cs hf hc
        split at h
        · rename_i s hs
          refine ⟨_, h, fun ρ own C w0 mm a0 hmm hw0 hC hK hl => ?_⟩
          have hx := hl x (by simp [ho, Op.operands])
          rw [hc] at hx
          obtain ⟨lx, hlx, hx'⟩ := den_agg hx
          have hpart := fun w => run_part (P := P) hlx hs w
          obtain ⟨z, hz, _⟩ := hpart default
          refine ⟨z, hz, fun w _ => quiet_value ?_⟩
          obtain ⟨z', hz', hr⟩ := hpart w
          rw [hz] at hz'; simp at hz'; subst hz'
          simp [execOp, ho, Instr.field, run_underlying hu, hf, hx', asAgg, hr]
        · cases h
      · cases h
    · cases h
  · rename_i T x ix ho
    split at h
    · rename_i len e hu
      split at h
      · rename_i b off k i hc hi
        obtain ⟨sv, ie, hie, h1, h2, h3⟩ := idxR_sound h
        refine ⟨sv, h1, fun ρ own C w0 mm a0 hmm hw0 hC hK hl => ?_⟩
        have hx := hl x (by simp [ho, Op.operands])
        have hix := hl ix (by simp [ho, Op.operands])
        rw [hc] at hx; rw [hi] at hix
        obtain ⟨g, hg, hx'⟩ := den_ptr hx
        have hix := den_vv hix
        refine ⟨_, h3 ρ g hg, fun w _ => quiet_value ?_⟩
        simp [execOp, ho, Instr.indexAt, run_underlying hu, hx', hix, asIntOf, Instr.sureAddr, h2, run_sizeOf w hie]
      · cases h
    · rename_i e hu
      split at h
      · rename_i b off len cap k i hc hi
        obtain ⟨sv, ie, hie, h1, h2, h3⟩ := idxR_sound h
        refine ⟨sv, h1, fun ρ own C w0 mm a0 hmm hw0 hC hK hl => ?_⟩
        have hx := hl x (by simp [ho, Op.operands])
        have hix := hl ix (by simp [ho, Op.operands])
        rw [hc] at hx; rw [hi] at hix
        obtain ⟨g, hg, hx'⟩ := den_sl hx
        have hix := den_vv hix
        refine ⟨_, h3 ρ g hg, fun w _ => quiet_value ?_⟩
        simp [execOp, ho, Instr.indexAt, run_underlying hu, hx', hix, asIntOf, h2, run_sizeOf w hie]
      · rename_i b c off len k i hc hi
        obtain ⟨sv, ie, hie, h1, h2, h3⟩ := idxR_sound h
        refine ⟨sv, h1, fun ρ own C w0 mm a0 hmm hw0 hC hK hl => ?_⟩
        have hx := hl x (by simp [ho, Op.operands])
        have hix := hl ix (by simp [ho, Op.operands])
        rw [hc] at hx; rw [hi] at hix
        obtain ⟨g, nc, hg, _, _, hx'⟩ := den_sa hx
        have hix := den_vv hix
        refine ⟨_, h3 ρ g hg, fun w _ => quiet_value ?_⟩
        simp [execOp, ho, Instr.indexAt, run_underlying hu, hx', hix, asIntOf, h2, run_sizeOf w hie]
      · cases h
    · cases h
  · rename_i T x ix ho
    split at h
    · rename_i len e hu
      split at h
      · rename_i cs k i hc hi
        obtain ⟨ie, s, hie, hs, hb, h⟩ := idxV_sound h
        refine ⟨_, h, fun ρ own C w0 mm a0 hmm hw0 hC hK hl => ?_⟩
        have hx := hl x (by simp [ho, Op.operands])
        have hix := hl ix (by simp [ho, Op.operands])
        rw [hc] at hx; rw [hi] at hix
        obtain ⟨lx, hlx, hx'⟩ := den_agg hx
        have hix := den_vv hix
        have hpart := fun w => run_part (P := P) hlx hs w
        obtain ⟨z, hz, _⟩ := hpart default
        refine ⟨z, hz, fun w _ => quiet_value ?_⟩
        obtain ⟨z', hz', hr⟩ := hpart w
        rw [hz] at hz'; simp at hz'; subst hz'
        simp [execOp, ho, Instr.index, run_underlying hu, hx', hix, asIntOf, hb, run_sizeOf w hie, hr]
      · cases h
    · rename_i hu
      split at h
      · rename_i s k i hc hi
        obtain ⟨hb, h⟩ := cond_some' h
        have hb := of_decide_eq_true hb
        refine ⟨_, h, fun ρ own C w0 mm a0 hmm hw0 hC hK hl => ?_⟩
        have hx := hl x (by simp [ho, Op.operands])
        have hix := hl ix (by simp [ho, Op.operands])
        rw [hc] at hx; rw [hi] at hix
        have hx := den_vv hx
        have hix := den_vv hix
        refine ⟨_, rfl, fun w _ => quiet_value ?_⟩
        have hlt : i.toNat < s.size := by omega
        have hs : s[i.toNat]? = some s[i.toNat] := getElem?_pos s i.toNat hlt
        simp [execOp, ho, Instr.index, run_underlying hu, hx, hix, asIntOf, hb.1, hs, byteAt]
      · cases h
    · cases h
  · rename_i T a ho
    split at h
    · rename_i b off hc
      split at h
      · rename_i cs e hm
        split at h
        · rename_i s hs
          refine ⟨_, h, fun ρ own C w0 mm a0 hmm hw0 hC hK hl => ?_⟩
          have ha := hl a (by simp [ho, Op.operands])
          rw [hc] at ha
          obtain ⟨g, hg, ha'⟩ := den_ptr ha
          have look : ∀ w, C w → ∃ z, den ρ s = some z ∧ (loadVar T ⟨g, off, none⟩).run P w = .ok z w := fun w hw => by
            obtain ⟨g', hg', _, lc, hlc, hh⟩ := (hC w hw).obj b _ (hmm b _ hm rfl) rfl
            rw [hg] at hg'; simp at hg'; subst hg'
            exact run_loadVar hlc hs w g hh
          obtain ⟨z, hz, _⟩ := look w0 hw0
          refine ⟨z, hz, fun w hw => quiet_value ?_⟩
          obtain ⟨z', hz', hr⟩ := look w hw
          rw [hz] at hz'; simp at hz'; subst hz'
          simp [execOp, ho, Instr.loadAt, Instr.sureAddr, ha', hr]
        · cases h
      · rename_i base n f hm
        obtain ⟨s, x, h1, h2, h3⟩ := run_ro h
        refine ⟨s, h1, fun ρ own C w0 mm a0 hmm hw0 hC hK hl => ?_⟩
        have ha := hl a (by simp [ho, Op.operands])
        rw [hc] at ha
        obtain ⟨g, hg, ha'⟩ := den_ptr ha
        refine ⟨x, h2 ρ, fun w hw => quiet_value ?_⟩
        obtain ⟨g', hg', _, _, hcells⟩ := (hC w hw).obj b _ (hmm b _ hm rfl) rfl
        rw [hg] at hg'; simp at hg'; subst hg'
        simp [execOp, ho, Instr.loadAt, Instr.sureAddr, ha', h3 w g hcells]
      · rename_i c cs e hm
        split at h
        · rename_i s hs
          refine ⟨_, h, fun ρ own C w0 mm a0 hmm hw0 hC hK hl => ?_⟩
          have ha := hl a (by simp [ho, Op.operands])
          rw [hc] at ha
          obtain ⟨g, hg, ha'⟩ := den_ptr ha
          have look : ∀ w, C w → ∃ z, den ρ s = some z ∧ (loadVar T ⟨g, off, none⟩).run P w = .ok z w := fun w hw => by
            obtain ⟨g', hg', _, lc, l2, fr, hlc, _, _, hh⟩ := (hC w hw).obj b _ (hmm b _ hm rfl) rfl
            rw [hg] at hg'; simp at hg'; subst hg'
            exact run_loadVar_buf hlc hs w g hh
          obtain ⟨z, hz, _⟩ := look w0 hw0
          refine ⟨z, hz, fun w hw => quiet_value ?_⟩
          obtain ⟨z', hz', hr⟩ := look w hw
          rw [hz] at hz'; simp at hz'; subst hz'
          simp [execOp, ho, Instr.loadAt, Instr.sureAddr, ha', hr]
        · cases h
      · rename_i z0 c cs e hm
        split at h
        · rename_i s hs
          refine ⟨_, h, fun ρ own C w0 mm a0 hmm hw0 hC hK hl => ?_⟩
          have ha := hl a (by simp [ho, Op.operands])
          rw [hc] at ha
          obtain ⟨g, hg, ha'⟩ := den_ptr ha
          have look : ∀ w, C w → ∃ z, den ρ s = some z ∧ (loadVar T ⟨g, off, none⟩).run P w = .ok z w := fun w hw => by
            obtain ⟨g', hg', _, lc, l2, n0, hlc, _, _, hh⟩ := (hC w hw).obj b _ (hmm b _ hm rfl) rfl
            rw [hg] at hg'; simp at hg'; subst hg'
            exact run_loadVar_buf hlc hs w g hh
          obtain ⟨z, hz, _⟩ := look w0 hw0
          refine ⟨z, hz, fun w hw => quiet_value ?_⟩
          obtain ⟨z', hz', hr⟩ := look w hw
          rw [hz] at hz'; simp at hz'; subst hz'
          simp [execOp, ho, Instr.loadAt, Instr.sureAddr, ha', hr]
        · cases h
      · rename_i q e n F hm
        split at h
        · rename_i hT
          obtain ⟨hb, h⟩ := cond_some' h
          have hb : off < n := by simpa using hb
          refine ⟨_, h, fun ρ own C w0 mm a0 hmm hw0 hC hK hl => ⟨_, rfl, fun w hw => quiet_value ?_⟩⟩
          have ha := hl a (by simp [ho, Op.operands])
          rw [hc] at ha
          obtain ⟨g, hg, ha'⟩ := den_ptr ha
          obtain ⟨g', hg', _, lc, h1, h2, hh⟩ := (hC w hw).obj b _ (hmm b _ hm rfl) rfl
          rw [hg] at hg'; simp at hg'; subst hg'
          have := run_loadVar_int (P := P) hT (w := w) (g := g) (off := off) (v := .int q (F off)) (by rw [cell_of_row w g _ _ e _ hh]; simpa using h2 off hb)
          simp [execOp, ho, Instr.loadAt, Instr.sureAddr, ha', this]
        · cases h
      · cases h
    · rename_i b off len ix hc
      split at h
      · rename_i q e n F hm
        split at h
        · rename_i hT
          obtain ⟨hb, h⟩ := cond_some' h
          have hb := of_decide_eq_true hb
          refine ⟨_, h, fun ρ own C w0 mm a0 hmm hw0 hC hK hl => ⟨_, rfl, fun w hw => quiet_value ?_⟩⟩
          have ha := hl a (by simp [ho, Op.operands])
          rw [hc] at ha
          obtain ⟨hbd, g, hg, ha'⟩ := den_pix ha
          obtain ⟨g', hg', _, lc, h1, h2, hh⟩ := (hC w hw).obj b _ (hmm b _ hm rfl) rfl
          rw [hg] at hg'; simp at hg'; subst hg'
          have eo : offI off ix = ((off + ix.toNat : Nat) : Int) := by cases off <;> simp only [offI] <;> omega
          have := run_loadVar_int (P := P) hT (w := w) (g := g) (off := off + ix.toNat) (v := .int q (F (offI off ix))) (by rw [cell_of_row w g _ _ e _ hh, eo]; simpa using h2 (off + ix.toNat) (by omega))
          simp [execOp, ho, Instr.loadAt, Instr.sureAddr, ha', this]
        · cases h
      · rename_i base n f hm
        split at h
        · rename_i hT
          obtain ⟨hb, h⟩ := cond_some' h
          simp only [Bool.and_eq_true, decide_eq_true_eq] at hb
          refine ⟨_, h, fun ρ own C w0 mm a0 hmm hw0 hC hK hl => ⟨_, rfl, fun w hw => quiet_value ?_⟩⟩
          have ha := hl a (by simp [ho, Op.operands])
          rw [hc] at ha
          obtain ⟨hbd, g, hg, ha'⟩ := den_pix ha
          obtain ⟨g', hg', _, _, hcells⟩ := (hC w hw).obj b _ (hmm b _ hm rfl) rfl
          rw [hg] at hg'; simp at hg'; subst hg'
          have := run_loadVar_int (P := P) hT (w := w) (g := g) (off := off + ix.toNat) (hcells _ hb.1 hb.2)
          simp [execOp, ho, Instr.loadAt, Instr.sureAddr, ha', this]
        · cases h
      · rename_i c cs e hm
        split at h
        · rename_i hT
          split at h
          · rename_i sg hsg
            split at h
            · rename_i q xs hxs
              refine ⟨_, h, fun ρ own C w0 mm a0 hmm hw0 hC hK hl => ?_⟩
              have ha := hl a (by simp [ho, Op.operands])
              rw [hc] at ha
              obtain ⟨hb, g, hg, ha'⟩ := den_pix ha
              refine ⟨_, rfl, fun w hw => quiet_value ?_⟩
              obtain ⟨g', hg', _, lc, l2, fr, hlc, _, _, hh⟩ := (hC w hw).obj b _ (hmm b _ hm rfl) rfl
              rw [hg] at hg'; simp at hg'; subst hg'
              have hcell : w.cell? ⟨g, off + ix.toNat, none⟩ = some (.int q (selL ix 0 xs)) := by
                rw [cell_of_row w g _ _ e _ hh]
                have h1 := seg_den off len hlc hsg
                have h2 := intsOf_map hxs
                have h3 := denL_length h1.1
                rw [h2] at h1 h3
                simp only [List.length_map, List.length_take, List.length_drop] at h3
                have hxl : xs.length = len := by omega
                have h4 := selL_get (xs := xs) (i := ix) (j := 0) (by omega) (by omega)
                rw [Int.sub_zero] at h4
                have h5 : denL ρ (xs.map fun x => Sv.v (.int q x)) = some (xs.map fun x => Value.int q x) := by
                  have := denL_v ρ (xs.map fun x => Value.int q x)
                  rw [List.map_map] at this; exact this
                rw [h5] at h1
                have h6 := Option.some.inj h1.1
                have h7 : (xs.map fun x => Value.int q x)[ix.toNat]? = some (.int q (selL ix 0 xs)) := by rw [List.getElem?_map, h4]; rfl
                rw [h6, List.getElem?_take, List.getElem?_drop] at h7
                split at h7
                · have h8 := (List.getElem?_eq_some_iff.1 h7).1
                  have h9 : (lc ++ l2)[off + ix.toNat]? = lc[off + ix.toNat]? := List.getElem?_append_left h8
                  simp only [List.getElem?_toArray, h9, h7]
                · cases h7
              have hu : ∃ d, P.underlying T = some d ∧ aggD d = false := by
                unfold intT at hT
                split at hT
                · rename_i hu; exact ⟨_, hu, rfl⟩
                · cases hT
              obtain ⟨d, hu, had⟩ := hu
              have : (loadVar T ⟨g, off + ix.toNat, none⟩).run P w = .ok (.int q (selL ix 0 xs)) w := by
                simp [loadVar, Sem.run_bind, run_isAgg w hu, had, hcell]
              simp [execOp, ho, Instr.loadAt, Instr.sureAddr, ha', this]
            · cases h
          · cases h
        · cases h
      · rename_i cs e hm
        split at h
        · rename_i hT
          split at h
          · rename_i sg hsg
            split at h
            · rename_i q xs hxs
              refine ⟨_, h, fun ρ own C w0 mm a0 hmm hw0 hC hK hl => ?_⟩
              have ha := hl a (by simp [ho, Op.operands])
              rw [hc] at ha
              obtain ⟨hb, g, hg, ha'⟩ := den_pix ha
              refine ⟨_, rfl, fun w hw => quiet_value ?_⟩
              obtain ⟨g', hg', _, lc, hlc, hh⟩ := (hC w hw).obj b _ (hmm b _ hm rfl) rfl
              rw [hg] at hg'; simp at hg'; subst hg'
              have hcell : w.cell? ⟨g, off + ix.toNat, none⟩ = some (.int q (selL ix 0 xs)) := by
                rw [cell_of_row w g _ _ e _ hh]
                have h1 := seg_den off len hlc hsg
                have h2 := intsOf_map hxs
                have h3 := denL_length h1.1
                rw [h2] at h1 h3
                simp only [List.length_map, List.length_take, List.length_drop] at h3
                have hxl : xs.length = len := by omega
                have h4 := selL_get (xs := xs) (i := ix) (j := 0) (by omega) (by omega)
                rw [Int.sub_zero] at h4
                have h5 : denL ρ (xs.map fun x => Sv.v (.int q x)) = some (xs.map fun x => Value.int q x) := by
                  have := denL_v ρ (xs.map fun x => Value.int q x)
                  rw [List.map_map] at this; exact this
                rw [h5] at h1
                have h6 := Option.some.inj h1.1
                have h7 : (xs.map fun x => Value.int q x)[ix.toNat]? = some (.int q (selL ix 0 xs)) := by rw [List.getElem?_map, h4]; rfl
                rw [h6, List.getElem?_take, List.getElem?_drop] at h7
                split at h7
                · simpa using h7
                · cases h7
              have hu : ∃ d, P.underlying T = some d ∧ aggD d = false := by
                unfold intT at hT
                split at hT
                · rename_i hu; exact ⟨_, hu, rfl⟩
                · cases hT
              obtain ⟨d, hu, had⟩ := hu
              have : (loadVar T ⟨g, off + ix.toNat, none⟩).run P w = .ok (.int q (selL ix 0 xs)) w := by
                simp [loadVar, Sem.run_bind, run_isAgg w hu, had, hcell]
              simp [execOp, ho, Instr.loadAt, Instr.sureAddr, ha', this]
            · cases h
          · cases h
        · cases h
      · cases h
    · cases h
  · rename_i T x ix ok ho
    split at h
    · cases h
    · split at h
      · rename_i b hc
        split at h
        · rename_i q qe M hm
          split at h
          · rename_i q' a hi
            obtain ⟨hb, h9⟩ := cond_some' h
            clear h
            simp only [Bool.and_eq_true] at hb
            obtain ⟨hk, hq, he⟩ := hb
            have hq := of_decide_eq_true hq
            subst hq
            refine ⟨_, h9, fun ρ own C w0 mm a0 hmm hw0 hC hK hl => ⟨_, rfl, fun w hw => quiet_value ?_⟩⟩
            have hx := hl x (by simp [ho, Op.operands])
            have hix := hl ix (by simp [ho, Op.operands])
            rw [hc] at hx; rw [hi] at hix
            obtain ⟨g, hg, hx'⟩ := den_mp hx
            have hix := den_vv hix
            obtain ⟨g', hg', _, l, clk, h1, h2, h3⟩ := (hC w hw).obj b _ (hmm b _ hm rfl) rfl
            rw [hg] at hg'; simp at hg'; subst hg'
            have hrun := run_lookup_bm (P := P) (a := a) hk he h1 h3
            rw [h2] at hrun
            simp [execOp, ho, hx', hix, hrun]
          · cases h
        · rename_i q a es p nw hm
          split at h
          · rename_i q' a' hi
            obtain ⟨hb, h9⟩ := cond_some' h
            clear h
            simp only [Bool.and_eq_true, beq_iff_eq] at hb
            obtain ⟨hk, hq, ha, he⟩ := hb
            have hq := of_decide_eq_true hq
            subst hq ha
            refine ⟨_, h9, fun ρ own C w0 mm a0 hmm hw0 hC hK hl => ?_⟩
            have hx := hl x (by simp [ho, Op.operands])
            have hix := hl ix (by simp [ho, Op.operands])
            rw [hc] at hx; rw [hi] at hix
            obtain ⟨g, hg, hx'⟩ := den_mp hx
            have hix := den_vv hix
            have look : ∀ w, C w → ∃ v, den ρ (match p with | some s => s | none => Sv.v (.pointer none)) = some v ∧ (Instr.lookup T (.map (some g)) (.int q' a') false).run P w = .ok v w := fun w hw => by
              obtain ⟨g', hg', _, h1⟩ := (hC w hw).obj b _ (hmm b _ hm rfl) rfl
              rw [hg] at hg'; simp at hg'; subst hg'
              exact run_lookup_m1 (P := P) hk he h1
            obtain ⟨v, hv, _⟩ := look w0 hw0
            refine ⟨v, hv, fun w hw => quiet_value ?_⟩
            obtain ⟨v', hv', hrun⟩ := look w hw
            rw [hv] at hv'; simp at hv'; subst hv'
            simp [execOp, ho, hx', hix, hrun]
          · cases h
        · rename_i q es hm
          split at h
          · rename_i q' a' hi
            obtain ⟨hb, h9⟩ := cond_some' h
            clear h
            simp only [Bool.and_eq_true] at hb
            obtain ⟨hk, hq, hd⟩ := hb
            have hq := of_decide_eq_true hq
            subst hq
            obtain ⟨s, hs, h9⟩ := lookP_sound h9
            refine ⟨_, h9, fun ρ own C w0 mm a0 hmm hw0 hC hK hl => ?_⟩
            have hx := hl x (by simp [ho, Op.operands])
            have hix := hl ix (by simp [ho, Op.operands])
            rw [hc] at hx; rw [hi] at hix
            obtain ⟨g, hg, hx'⟩ := den_mp hx
            have hix := den_vv hix
            have look : ∀ w, C w → ∃ v, den ρ s = some v ∧ (Instr.lookup T (.map (some g)) (.int q' a') false).run P w = .ok v w := fun w hw => by
              obtain ⟨g', hg', _, es', l, hp, h1, h2⟩ := (hC w hw).obj b _ (hmm b _ hm rfl) rfl
              rw [hg] at hg'; simp at hg'; subst hg'
              exact run_lookup_pm (P := P) hk hd hs hp h1 h2
            obtain ⟨v, hv, _⟩ := look w0 hw0
            refine ⟨v, hv, fun w hw => quiet_value ?_⟩
            obtain ⟨v', hv', hrun⟩ := look w hw
            rw [hv] at hv'; simp at hv'; subst hv'
            simp [execOp, ho, hx', hix, hrun]
          · cases h
        · cases h
      · cases h
  · rename_i x i ho
    split at h
    · rename_i vs hc
      split at h
      · rename_i s hs
        refine ⟨_, h, fun ρ own C w0 mm a0 hmm hw0 hC hK hl => ?_⟩
        have hx := hl x (by simp [ho, Op.operands])
        rw [hc] at hx
        obtain ⟨lx, hlx, hx'⟩ := den_tup hx
        obtain ⟨z, hz, hden⟩ := denL_get i hlx hs
        exact ⟨z, hden, fun w _ => quiet_value (by simp [execOp, ho, Instr.extract, hx', hz])⟩
      · cases h
    · cases h
  · rename_i T parts ho
    split at h
    · rename_i cs hb
      refine ⟨_, h, fun ρ own C w0 mm a0 hmm hw0 hC hK hl => ?_⟩
      have hp : ∀ (j : Nat) (p : Nat × Sv), (parts.toList.map fun p => (p.1, get t p.2))[j]? = some p → ∃ x, (parts.toList.map fun p => (p.1, Act.eval a0 p.2))[j]? = some (p.1, x) ∧ den ρ p.2 = some x := by
        intro j p hj
        rw [List.getElem?_map] at hj ⊢
        cases hq : parts.toList[j]? with
        | none => simp [hq] at hj
        | some q => simp [hq] at hj; subst hj; exact ⟨_, by simp, hl q.2 (part_mem ho hq)⟩
      obtain ⟨lc, h1, h2⟩ := buildS_sound (ρ := ρ) hb hp (by simp)
      refine ⟨.agg lc.toArray, by simp only [den, h1], fun w _ => quiet_value ?_⟩
      have e : (parts.map fun (x : Nat × Operand) => (x.1, Act.eval a0 x.2)) = (parts.toList.map fun p => (p.1, Act.eval a0 p.2)).toArray := by
        apply Array.ext'; simp
      simp only [execOp, ho]
      rw [e]
      simp [h2 w]
    · cases h
  · rename_i fn first cap ho
    split at h
    · rename_i h1 h2
      refine ⟨_, h, fun ρ own C w0 mm a0 hmm hw0 hC hK hl => ⟨_, rfl, fun w _ => quiet_value ?_⟩⟩
      have e1 : first = #[] := Array.ext' h1
      have e2 : cap = #[] := Array.ext' h2
      subst e1 e2
      simp [execOp, ho, Instr.makeFunc]
    · cases h
  · rename_i c ho
    split at h
    · rename_i b hc
      obtain ⟨sv, x, h1, h2, h3⟩ := builtinS_sound h
      refine ⟨sv, h1, fun ρ own C w0 mm a0 hmm hw0 hC hK hl => ⟨x, h2 ρ, fun w _ => quiet_value ?_⟩⟩
      have e : (c.args.toList.map (Act.eval a0)).toArray = c.args.map (Act.eval a0) := by apply Array.ext'; simp
      have h4 := h3 ρ _ o.type (c.args.map fun | .const _ => true | _ => false) (denL_mapOf c.args.toList fun y hy => hl y (arg_mem ho hy)) w
      rw [e] at h4
      simp only [execOp, ho, resolve, hc, Sem.run_bind, Sem.run_pure, Result.andThen_ok, invoke]
      exact h4
    · rename_i fo hc
      split at h
      · rename_i fid first cap hfo
        rcases hH _ _ _ _ _ h with ⟨s, x, la, h1, h2, h3, hcase⟩ | ⟨sv, h1, hok, hq⟩
        rotate_left
        · refine ⟨sv, h1, fun ρ own C w0 mm a0 hmm hw0 hC hK hl => ?_⟩
          have hf := hl fo (by simp [ho, Op.operands, Call.operands, hc])
          rw [hfo] at hf
          have hf := den_vv hf
          have hargs : denL ρ (first.toList.map .v ++ c.args.toList.map (get t) ++ cap.toList.map .v) = some (first.toList ++ c.args.toList.map (Act.eval a0) ++ cap.toList) :=
            denL_append (denL_append (denL_v ρ _) (denL_mapOf c.args.toList fun y hy => hl y (arg_mem ho hy))) (denL_v ρ _)
          obtain ⟨x, hx, _⟩ := hq ρ own mm w0 _ hmm (hC w0 hw0) hargs
          refine ⟨x, hx, fun w hw => ?_⟩
          unfold Oper.quietAt
          rw [run_call ho hc hf hok w]
          refine ⟨rfl, ?_⟩
          obtain ⟨x', hx', hcalls⟩ := hq ρ own mm w _ hmm (hC w hw) hargs
          rw [hx] at hx'; simp at hx'; subst hx'
          have e : (first.toList ++ c.args.toList.map (Act.eval a0) ++ cap.toList).toArray = first ++ c.args.map (Act.eval a0) ++ cap := by
            apply Array.ext'; simp
          rw [e] at hcalls
          exact hcalls.mono fun e w' ⟨he, hk⟩ => ⟨he, hK w w' hw hk⟩
        refine ⟨s, h1, fun ρ own C w0 mm a0 hmm hw0 hC hK hl => ⟨x, h2 ρ, fun w hw => ?_⟩⟩
        have hf := hl fo (by simp [ho, Op.operands, Call.operands, hc])
        rw [hfo] at hf
        have hf := den_vv hf
        have hla := h3 ρ
        have hargs : denL ρ (first.toList.map .v ++ c.args.toList.map (get t) ++ cap.toList.map .v) = some (first.toList ++ c.args.toList.map (Act.eval a0) ++ cap.toList) :=
          denL_append (denL_append (denL_v ρ _) (denL_mapOf c.args.toList fun y hy => hl y (arg_mem ho hy))) (denL_v ρ _)
        rw [hargs] at hla
        simp at hla
        have e : la.toArray = first ++ c.args.map (Act.eval a0) ++ cap := by
          apply Array.ext'; rw [← hla]; simp
        rcases hcase with ⟨hok, h4⟩ | h4
        · unfold Oper.quietAt
          rw [run_call ho hc hf hok w]
          refine ⟨rfl, ?_⟩
          have h5 := h4 w
          rw [e] at h5
          exact h5.mono fun e w' ⟨he, hk⟩ => ⟨he, hK w w' hw hk⟩
        · have h5 := h4 w
          rw [e] at h5
          exact quiet_value (by rw [run_ext ho hc hf w]; exact h5)
      · cases h
    · cases h
  · cases h
end
end Go.Ev
