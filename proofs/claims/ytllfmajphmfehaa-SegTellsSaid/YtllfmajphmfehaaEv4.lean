/- The soundness of one quiet operation. -/
import Derived.Test.YtllfmajphmfehaaEv3
import Derived.Maps.RangeRun
namespace Go.Ev
set_option linter.unusedVariables false
open Go

section
variable {P : Program} {R : Type} {ρ : List Un}

def CallOk (P : Program) (f : FuncId) : Prop := ∃ fn, P.funcs[f]? = some fn ∧ fn.body.isSome = true ∧ fn.name ≠ "runtime.NumGoroutine"

def PureOk (P : Program) (H : FuncId → List Sv → (Sv → Option R) → Option R) : Prop :=
  ∀ f args kv r, H f args kv = some r → ∃ s x l, kv s = some r ∧ (∀ ρ, den ρ s = some x) ∧ (∀ ρ, denL ρ args = some l) ∧ CallOk P f ∧
    ∀ w, Calls P f l.toArray w fun e w' => e = .returned x ∧ Kept (fun _ => none) w w'

theorem run_call {o : Oper} {ρ : Operand → Value} {c : Call} {fo : Operand} {f : FuncId} {first cap : Array Value} (ho : o.op = .call c) (hc : c.callee = .value fo) (hf : ρ fo = .func (.func f) first cap) (hok : CallOk P f) (w : World) :
    (execOp ρ o).run P w = .ok (.enter f (first ++ c.args.map ρ ++ cap)) w := by
  obtain ⟨fn, hfn, hb, hn⟩ := hok
  have hnb : fn.body.isNone = false := by cases h : fn.body <;> simp_all
  simp only [execOp, ho, resolve, hc, hf, Deferred.ofValue, Sem.run_bind, Sem.run_pure, Result.andThen_ok, invoke, callFunc, run_program, hfn]
  simp [hn, hnb]

theorem quiet_value {o : Oper} {a : Act} {C : World → Prop} {w : World} {x : Value} (h : (execOp a.eval o).run P w = .ok (.value x) w) : o.quietAt P a C w x := by
  unfold Oper.quietAt; rw [h]; exact ⟨rfl, rfl⟩

theorem den_ptr {b off : Nat} {x : Value} (h : den ρ (.ptr b off) = some x) : ∃ g, ρ[b]? = some (.blk g) ∧ x = .pointer (some ⟨g, off, none⟩) := by
  simp only [den] at h
  split at h
  · rename_i g hg; simp at h; exact ⟨g, hg, h.symm⟩
  · cases h

theorem den_sl {b off len cap : Nat} {x : Value} (h : den ρ (.sl b off len cap) = some x) : ∃ g, ρ[b]? = some (.blk g) ∧ x = .slice (some ⟨g, off, none⟩) len cap := by
  simp only [den] at h
  split at h
  · rename_i g hg; simp at h; exact ⟨g, hg, h.symm⟩
  · cases h

theorem den_mp {b : Nat} {x : Value} (h : den ρ (.mp b) = some x) : ∃ g, ρ[b]? = some (.blk g) ∧ x = .map (some g) := by
  simp only [den] at h
  split at h
  · rename_i g hg; simp at h; exact ⟨g, hg, h.symm⟩
  · cases h

theorem den_pix {b off len : Nat} {i : Int} {x : Value} (h : den ρ (.pix b off len i) = some x) : (0 ≤ i ∧ i < (len : Int)) ∧ ∃ g, ρ[b]? = some (.blk g) ∧ x = .pointer (some ⟨g, off + i.toNat, none⟩) := by
  simp only [den] at h
  split at h
  · rename_i g hg
    split at h
    · rename_i hb; simp at h; exact ⟨hb, g, hg, h.symm⟩
    · cases h
  · cases h
theorem intsOf_map : ∀ {l : List Sv} {q : IntKind} {xs : List Int}, intsOf l = some (q, xs) → l = xs.map fun x => .v (.int q x)
  | [], q, xs, h => by simp [intsOf] at h
  | [s], q, xs, h => by
    unfold intsOf at h
    split at h <;> simp_all
    obtain ⟨rfl, rfl⟩ := h; rfl
  | s :: y :: l, q, xs, h => by
    cases s with
    | v z =>
      cases z with
      | int q0 x =>
        simp only [intsOf] at h
        split at h
        · rename_i q' xs' hr
          split at h
          · rename_i hq
            subst hq
            simp at h
            obtain ⟨rfl, rfl⟩ := h
            rw [intsOf_map hr]; rfl
          · cases h
        · cases h
      | _ => simp [intsOf] at h
    | _ => simp [intsOf] at h
theorem selL_get : ∀ {xs : List Int} {i j : Int}, j ≤ i → i < j + (xs.length : Int) → xs[(i - j).toNat]? = some (selL i j xs)
  | [], i, j, h, h' => by simp at h'; omega
  | [x], i, j, h, h' => by
    have : i = j := by simp at h'; omega
    subst this; simp [selL]
  | x :: y :: l, i, j, h, h' => by
    simp only [selL]
    by_cases e : i = j
    · subst e; simp
    · have hb : (i == j) = false := by simpa using e
      rw [hb, cond_false]
      have := selL_get (xs := y :: l) (i := i) (j := j + 1) (by omega) (by simp only [List.length_cons] at h' ⊢; omega)
      rw [show (i - j).toNat = (i - (j + 1)).toNat + 1 by omega]
      simpa using this

theorem den_agg {cs : List Sv} {x : Value} (h : den ρ (.agg cs) = some x) : ∃ l, denL ρ cs = some l ∧ x = .agg l.toArray := by
  simp only [den] at h
  split at h
  · rename_i g hg; simp at h; exact ⟨g, hg, h.symm⟩
  · cases h

theorem den_tup {cs : List Sv} {x : Value} (h : den ρ (.tup cs) = some x) : ∃ l, denL ρ cs = some l ∧ x = .tuple l.toArray := by
  simp only [den] at h
  split at h
  · rename_i g hg; simp at h; exact ⟨g, hg, h.symm⟩
  · cases h

theorem den_vv {x y : Value} (h : den ρ (.v x) = some y) : y = x := by simp [den] at h; exact h.symm

theorem cond_some' {R : Type} {c : Bool} {x : Option R} {r : R} (h : (bif c then x else none) = some r) : c = true ∧ x = some r := by
  cases c <;> simp_all

theorem brIdx_sound {f : Nat → Option R} {r : R} : ∀ {n j : Nat} {i : Int}, brIdx n j i f = some r → ∃ k : Nat, i = (k : Int) ∧ j ≤ k ∧ k < j + n ∧ f k = some r
  | 0, j, i, h => by cases h
  | n + 1, j, i, h => by
    simp only [brIdx] at h
    cases hi : (i == (j : Int)) with
    | true => rw [hi, cond_true] at h; exact ⟨j, by simpa using hi, by omega, by omega, h⟩
    | false =>
      rw [hi, cond_false] at h
      obtain ⟨k, h1, h2, h3, h4⟩ := brIdx_sound h
      exact ⟨k, h1, by omega, by omega, h4⟩

theorem atIdx_sound {f : Nat → Option R} {r : R} {len : Nat} {i : Int} (h : atIdx len i f = some r) : (0 ≤ i ∧ i < (len : Int)) ∧ f i.toNat = some r := by
  unfold atIdx at h
  cases hl : Nat.ble len 128 with
  | true =>
    rw [hl, cond_true] at h
    obtain ⟨k, rfl, h2, h3, h4⟩ := brIdx_sound h
    exact ⟨by omega, by simpa using h4⟩
  | false =>
    rw [hl, cond_false] at h
    by_cases hb : 0 ≤ i ∧ i < (len : Int)
    · rw [decide_eq_true hb, cond_true] at h
      exact ⟨hb, h⟩
    · rw [decide_eq_false hb, cond_false] at h; cases h

theorem indexS_sound {e : TypeId} {len : Nat} {i : Int} {b off : Nat} {kv : Sv → Option R} {r : R} (h : indexS P e len i b off kv = some r) :
    ∃ sv ie, P.info? e = some ie ∧ kv sv = some r ∧ (0 ≤ i ∧ i < (len : Int)) ∧ ∀ ρ (g : Nat), ρ[b]? = some (.blk g) → den ρ sv = some (.pointer (some ((⟨g, off, none⟩ : Addr).add (i.toNat * ie.size)))) := by
  unfold indexS at h
  split at h
  · rename_i ie hie
    split at h
    · rename_i hk
      simp only [Bool.and_eq_true] at hk
      have h1 := Nat.eq_of_beq_eq_true hk.2.1
      obtain ⟨hb, h⟩ := cond_some' h
      simp only [Bool.and_eq_true, decide_eq_true_eq] at hb
      exact ⟨_, ie, hie, h, hb, fun ρ g hg => by simp [den, hg, hb, addr_add, h1]⟩
    · obtain ⟨hb, h⟩ := atIdx_sound h
      exact ⟨_, ie, hie, h, hb, fun ρ g hg => by simp [den, hg, addr_add]⟩
  · cases h

theorem builtinS_sound {b : Builtin} {ts : Array TypeId} {args : List Sv} {kv : Sv → Option R} {r : R} (h : builtinS P b ts args kv = some r) :
    ∃ sv x, kv sv = some r ∧ (∀ ρ, den ρ sv = some x) ∧ ∀ ρ l ty cs, denL ρ args = some l → ∀ w, (builtin b ts ty cs l.toArray).run P w = .ok (.value x) w := by
  unfold builtinS at h
  split at h
  · refine ⟨_, _, h, fun _ => rfl, fun ρ l ty cs hl w => ?_⟩
    obtain ⟨x, xs, hx, hxs, rfl⟩ := denL_cons hl
    obtain ⟨y, ys, hy, hys, rfl⟩ := denL_cons hxs
    simp [denL] at hys; subst hys
    have := den_vv hx; subst this
    have := den_vv hy; subst this
    simp [builtin, Builtin.max_, Builtin.max2]
  · refine ⟨_, _, h, fun _ => rfl, fun ρ l ty cs hl w => ?_⟩
    obtain ⟨x, xs, hx, hxs, rfl⟩ := denL_cons hl
    obtain ⟨y, ys, hy, hys, rfl⟩ := denL_cons hxs
    simp [denL] at hys; subst hys
    have := den_vv hx; subst this
    have := den_vv hy; subst this
    simp [builtin, Builtin.min_, Builtin.min2]
  · split at h
    · rename_i t ht
      split at h
      · rename_i s hu
        refine ⟨_, _, h, fun _ => rfl, fun ρ l ty cs hl w => ?_⟩
        obtain ⟨x, xs, hx, hxs, rfl⟩ := denL_cons hl
        simp [denL] at hxs; subst hxs
        have := den_vv hx; subst this
        simp [builtin, Builtin.len_, ht, run_underlying hu, goInt]
      · rename_i e b' off n cap hu
        refine ⟨_, _, h, fun _ => rfl, fun ρ l ty cs hl w => ?_⟩
        obtain ⟨x, xs, hx, hxs, rfl⟩ := denL_cons hl
        simp [denL] at hxs; subst hxs
        obtain ⟨g, _, rfl⟩ := den_sl hx
        simp [builtin, Builtin.len_, ht, run_underlying hu, goInt]
      · rename_i e a n cap hu
        refine ⟨_, _, h, fun _ => rfl, fun ρ l ty cs hl w => ?_⟩
        obtain ⟨x, xs, hx, hxs, rfl⟩ := denL_cons hl
        simp [denL] at hxs; subst hxs
        have := den_vv hx; subst this
        simp [builtin, Builtin.len_, ht, run_underlying hu, goInt]
      · rename_i n e hu
        refine ⟨_, _, h, fun _ => rfl, fun ρ l ty cs hl w => ?_⟩
        obtain ⟨x, xs, hx, hxs, rfl⟩ := denL_cons hl
        simp [denL] at hxs; subst hxs
        simp [builtin, Builtin.len_, ht, run_underlying hu, goInt]
      · cases h
    · cases h
  · cases h

theorem denL_map {t : List Sv} {l : List Value} {ds : List Deferred} (h : denL ρ t = some l) : ∀ (xs : List Operand), denL ρ (xs.map (get t)) = some (xs.map (Act.eval ⟨l.toArray, ds⟩))
  | [] => rfl
  | x :: xs => denL_mk (get_den h x) (denL_map h xs)
theorem denL_mapOf {t : List Sv} {a : Act} : ∀ (xs : List Operand), (∀ x ∈ xs, den ρ (get t x) = some (a.eval x)) → denL ρ (xs.map (get t)) = some (xs.map a.eval)
  | [], _ => rfl
  | x :: xs, h => denL_mk (h x (by simp)) (denL_mapOf xs fun y hy => h y (by simp [hy]))

/-- One memory is another, but for what is dead there. -/
def Compat (mq m : List SObj) : Prop := ∀ (k : Nat) (o : SObj), mq[k]? = some o → alive o = true → m[k]? = some o
theorem Compat.refl (m : List SObj) : Compat m m := fun _ _ h _ => h

theorem ents_get {ρ : List Un} {q : IntKind} : ∀ {i : Nat} {es : List (Int × Sv)} {l : List MapEntry}, entsAt ρ q i es l → ∀ {j : Nat} {a : Int} {s : Sv}, es[j]? = some (a, s) → ∃ v, den ρ s = some v ∧ l[j]? = some { key := .int q a, val := v, born := i + j }
  | i, [], l, h, j, a, s, hj => by simp at hj
  | i, (b, t) :: es, l, ⟨u, l', h1, h2, h3⟩, j, a, s, hj => by
    subst h1
    cases j with
    | zero => simp at hj; obtain ⟨rfl, rfl⟩ := hj; exact ⟨u, h2, by simp⟩
    | succ j =>
      obtain ⟨v, hv, hl⟩ := ents_get h3 (show es[j]? = some (a, s) by simpa using hj)
      exact ⟨v, hv, by simp [hl, Nat.add_assoc, Nat.add_comm 1 j]⟩
theorem ents_length {ρ : List Un} {q : IntKind} : ∀ {i : Nat} {es : List (Int × Sv)} {l : List MapEntry}, entsAt ρ q i es l → l.length = es.length
  | i, [], l, h => by simp only [entsAt] at h; subst h; rfl
  | i, (b, t) :: es, l, ⟨u, l', h1, h2, h3⟩ => by subst h1; simp [ents_length h3]
theorem ents_born {ρ : List Un} {q : IntKind} : ∀ {i : Nat} {es : List (Int × Sv)} {l : List MapEntry}, entsAt ρ q i es l → ∀ x ∈ l, i ≤ x.born ∧ x.born < i + es.length
  | i, [], l, h, x, hx => by simp only [entsAt] at h; subst h; simp at hx
  | i, (b, t) :: es, l, ⟨u, l', h1, h2, h3⟩, x, hx => by
    subst h1
    rcases List.mem_cons.1 hx with rfl | hx
    · simp
    · have := ents_born h3 x hx; simp only [List.length_cons]; omega
theorem ents_nodup {ρ : List Un} {q : IntKind} : ∀ {i : Nat} {es : List (Int × Sv)} {l : List MapEntry}, entsAt ρ q i es l → (l.map (·.born)).Nodup
  | i, [], l, h => by simp only [entsAt] at h; subst h; simp
  | i, (b, t) :: es, l, ⟨u, l', h1, h2, h3⟩ => by
    subst h1
    rw [List.map_cons, List.nodup_cons]
    refine ⟨fun hm => ?_, ents_nodup h3⟩
    obtain ⟨x, hx, he⟩ := List.mem_map.1 hm
    have := ents_born h3 x hx
    simp at he; omega
/-- In each class of worlds that the memory describes, shut under calls that leave memory alone: the operation yields this. -/
def QopR (P : Program) (o : Oper) (t : List Sv) (m : List SObj) (sv : Sv) : Prop :=
  ∀ (X : Ext) (ρ : List Un) (own : Nat → Option Nat) (C : World → Prop) (w0 : World) (mm : List SObj) (a0 : Act), Compat m mm → C w0 → (∀ w, C w → Rep X ρ own mm w) → (∀ w w', C w → Kept (fun _ => none) w w' → C w') →
    (∀ x ∈ o.op.operands, den ρ (get t x) = some (a0.eval x)) → ∃ x, den ρ sv = some x ∧ ∀ w, C w → o.quietAt P a0 C w x
theorem QopR.all {o : Oper} {t : List Sv} {m : List SObj} {sv : Sv} (h : QopR P o t m sv) (X : Ext) (ρ : List Un) (own : Nat → Option Nat) (C : World → Prop) (w0 : World) (l : List Value) (ds : List Deferred) (h0 : C w0) (hC : ∀ w, C w → Rep X ρ own m w)
    (hK : ∀ w w', C w → Kept (fun _ => none) w w' → C w') (hl : denL ρ t = some l) : ∃ x, den ρ sv = some x ∧ ∀ w, C w → o.quietAt P ⟨l.toArray, ds⟩ C w x :=
  h X ρ own C w0 m ⟨l.toArray, ds⟩ (Compat.refl m) h0 hC hK fun x _ => get_den hl x

theorem arg_mem {o : Oper} {c : Call} (ho : o.op = .call c) {y : Operand} (hy : y ∈ c.args.toList) : y ∈ o.op.operands := by
  have hy' : y ∈ c.args := by simpa using hy
  rw [ho]
  simp [Op.operands, Call.operands, hy']
theorem part_mem {o : Oper} {T : TypeId} {parts : Array (Nat × Operand)} (ho : o.op = .build T parts) {j : Nat} {q : Nat × Operand} (hq : parts.toList[j]? = some q) : q.2 ∈ o.op.operands := by
  have hm := List.mem_of_getElem? hq
  rw [ho]
  simp only [Op.operands, List.mem_toArray]
  exact List.mem_map_of_mem hm

theorem qop_sound {m : List SObj} {H : FuncId → List Sv → (Sv → Option R) → Option R} (hH : PureOk P H) {o : Oper} {t : List Sv} {kv : Sv → Option R} {r : R} (h : qop P H o t m kv = some r) :
    ∃ sv, kv sv = some r ∧ QopR P o t m sv := by
  unfold qop at h
  split at h
  · rename_i x ho
    exact ⟨_, h, fun X ρ own C w0 mm a0 hmm hw0 hC hK hl => ⟨_, hl x (by simp [ho, Op.operands]), fun w _ => quiet_value (by simp [execOp, ho])⟩⟩
  · rename_i x ho
    exact ⟨_, h, fun X ρ own C w0 mm a0 hmm hw0 hC hK hl => ⟨_, hl x (by simp [ho, Op.operands]), fun w _ => quiet_value (by simp [execOp, ho])⟩⟩
  · rename_i c a b ho
    split at h
    · rename_i cb hc
      obtain ⟨sv, h1, h2⟩ := pickS_sound h
      refine ⟨sv, h1, fun X ρ own C w0 mm a0 hmm hw0 hC hK hl => ?_⟩
      have hcv := hl c (by simp [ho, Op.operands])
      rw [hc] at hcv
      have hcv := den_vv hcv
      exact ⟨_, h2 ρ _ _ (hl a (by simp [ho, Op.operands])) (hl b (by simp [ho, Op.operands])), fun w _ => quiet_value (by simp [execOp, ho, hcv, asBool])⟩
    · cases h
  · rename_i x ho
    split at h
    · rename_i b off hc
      refine ⟨_, h, fun X ρ own C w0 mm a0 hmm hw0 hC hK hl => ?_⟩
      have hx := hl x (by simp [ho, Op.operands])
      rw [hc] at hx
      obtain ⟨g, hg, hx'⟩ := den_ptr hx
      exact ⟨_, hx, fun w _ => quiet_value (by simp [execOp, ho, hx'])⟩
    · rename_i b off len i hc
      refine ⟨_, h, fun X ρ own C w0 mm a0 hmm hw0 hC hK hl => ?_⟩
      have hx := hl x (by simp [ho, Op.operands])
      rw [hc] at hx
      obtain ⟨_, g, hg, hx'⟩ := den_pix hx
      exact ⟨_, hx, fun w _ => quiet_value (by simp [execOp, ho, hx'])⟩
    · rename_i f a b hc
      refine ⟨_, h, fun X ρ own C w0 mm a0 hmm hw0 hC hK hl => ?_⟩
      have hx := hl x (by simp [ho, Op.operands])
      rw [hc] at hx
      exact ⟨_, hx, fun w _ => quiet_value (by have := den_vv hx; simp [execOp, ho, this])⟩
    · cases h
  · rename_i op xT x y yT ho
    obtain ⟨sv, z, h1, h2, h3⟩ := binS_sound h
    exact ⟨sv, h1, fun X ρ own C w0 mm a0 hmm hw0 hC hK hl => ⟨z, h2 ρ, fun w _ => quiet_value (by
      have := h3 ρ _ _ (hl x (by simp [ho, Op.operands])) (hl y (by simp [ho, Op.operands])) x y w
      simp only [execOp, ho]
      rw [Sem.run_bind, this]; rfl)⟩⟩
  · rename_i op xT x ho
    obtain ⟨sv, z, h1, h2, h3⟩ := unS_sound (P := P) h
    exact ⟨sv, h1, fun X ρ own C w0 mm a0 hmm hw0 hC hK hl => ⟨z, h2 ρ, fun w _ => quiet_value (by
      have := h3 ρ _ (hl x (by simp [ho, Op.operands])) w
      simp only [execOp, ho]
      rw [Sem.run_bind, this]; rfl)⟩⟩
  · rename_i src dst x ho
    obtain ⟨sv, z, h1, h2, h3⟩ := convS_sound h
    exact ⟨sv, h1, fun X ρ own C w0 mm a0 hmm hw0 hC hK hl => ⟨z, h2 ρ, fun w _ => quiet_value (by
      have := h3 ρ _ (hl x (by simp [ho, Op.operands])) w
      simp only [execOp, ho]
      rw [Sem.run_bind, this]; rfl)⟩⟩
  · rename_i s x f ho
    split at h
    · rename_i fs hu
      split at h
      · rename_i fld b off hf hc
        split at h
        · rename_i i hi
          split at h
          · cases h
          · rename_i hz
            refine ⟨_, h, fun X ρ own C w0 mm a0 hmm hw0 hC hK hl => ?_⟩
            have hx := hl x (by simp [ho, Op.operands])
            rw [hc] at hx
            obtain ⟨g, hg, hx'⟩ := den_ptr hx
            refine ⟨.pointer (some ⟨g, off + fld.offset, none⟩), by simp only [den, hg], fun w _ => quiet_value ?_⟩
            simp [execOp, ho, Instr.fieldAt, run_underlying hu, hf, hx', Instr.sureAddr, fieldPlace, run_sizeOf w hi, hz, addr_add]
        · cases h
      · cases h
    · cases h
  · rename_i xT x f ho
    split at h
    · rename_i fs hu
      split at h
      · rename_i fld cs hf hc
        split at h
        · rename_i s hs
          refine ⟨_, h, fun X ρ own C w0 mm a0 hmm hw0 hC hK hl => ?_⟩
          have hx := hl x (by simp [ho, Op.operands])
          rw [hc] at hx
          obtain ⟨lx, hlx, hx'⟩ := den_agg hx
          have hpart := fun w => run_part (P := P) hlx hs w
          obtain ⟨z, hz, _⟩ := hpart default
          refine ⟨z, hz, fun w _ => quiet_value ?_⟩
          obtain ⟨z', hz', hr⟩ := hpart w
          rw [hz] at hz'; simp at hz'; subst hz'
          simp [execOp, ho, Instr.field, run_underlying hu, hf, hx', asAgg, hr]
        · cases h
      · cases h
    · cases h
  · rename_i T x ix ho
    split at h
    · rename_i len e hu
      split at h
      · rename_i b off k i hc hi
        obtain ⟨sv, ie, hie, h1, h2, h3⟩ := indexS_sound h
        refine ⟨sv, h1, fun X ρ own C w0 mm a0 hmm hw0 hC hK hl => ?_⟩
        have hx := hl x (by simp [ho, Op.operands])
        have hix := hl ix (by simp [ho, Op.operands])
        rw [hc] at hx; rw [hi] at hix
        obtain ⟨g, hg, hx'⟩ := den_ptr hx
        have hix := den_vv hix
        refine ⟨_, h3 ρ g hg, fun w _ => quiet_value ?_⟩
        simp [execOp, ho, Instr.indexAt, run_underlying hu, hx', hix, asIntOf, Instr.sureAddr, h2, run_sizeOf w hie]
      · cases h
    · rename_i e hu
      split at h
      · rename_i b off len cap k i hc hi
        obtain ⟨sv, ie, hie, h1, h2, h3⟩ := indexS_sound h
        refine ⟨sv, h1, fun X ρ own C w0 mm a0 hmm hw0 hC hK hl => ?_⟩
        have hx := hl x (by simp [ho, Op.operands])
        have hix := hl ix (by simp [ho, Op.operands])
        rw [hc] at hx; rw [hi] at hix
        obtain ⟨g, hg, hx'⟩ := den_sl hx
        have hix := den_vv hix
        refine ⟨_, h3 ρ g hg, fun w _ => quiet_value ?_⟩
        simp [execOp, ho, Instr.indexAt, run_underlying hu, hx', hix, asIntOf, h2, run_sizeOf w hie]
      · cases h
    · cases h
  · rename_i T x ix ho
    split at h
    · rename_i len e hu
      split at h
      · rename_i cs k i hc hi
        split at h
        · rename_i ie hie
          obtain ⟨hb, h⟩ := atIdx_sound h
          split at h
          · rename_i s hs
            refine ⟨_, h, fun X ρ own C w0 mm a0 hmm hw0 hC hK hl => ?_⟩
            have hx := hl x (by simp [ho, Op.operands])
            have hix := hl ix (by simp [ho, Op.operands])
            rw [hc] at hx; rw [hi] at hix
            obtain ⟨lx, hlx, hx'⟩ := den_agg hx
            have hix := den_vv hix
            have hpart := fun w => run_part (P := P) hlx hs w
            obtain ⟨z, hz, _⟩ := hpart default
            refine ⟨z, hz, fun w _ => quiet_value ?_⟩
            obtain ⟨z', hz', hr⟩ := hpart w
            rw [hz] at hz'; simp at hz'; subst hz'
            simp [execOp, ho, Instr.index, run_underlying hu, hx', hix, asIntOf, hb, run_sizeOf w hie, hr]
          · cases h
        · cases h
      · cases h
    · rename_i hu
      split at h
      · rename_i s k i hc hi
        obtain ⟨hb, h⟩ := cond_some' h
        have hb := of_decide_eq_true hb
        refine ⟨_, h, fun X ρ own C w0 mm a0 hmm hw0 hC hK hl => ?_⟩
        have hx := hl x (by simp [ho, Op.operands])
        have hix := hl ix (by simp [ho, Op.operands])
        rw [hc] at hx; rw [hi] at hix
        have hx := den_vv hx
        have hix := den_vv hix
        refine ⟨_, rfl, fun w _ => quiet_value ?_⟩
        have hlt : i.toNat < s.size := by omega
        have hs : s[i.toNat]? = some s[i.toNat] := getElem?_pos s i.toNat hlt
        simp [execOp, ho, Instr.index, run_underlying hu, hx, hix, asIntOf, hb.1, hs, byteAt]
      · cases h
    · cases h
  · rename_i T a ho
    split at h
    · rename_i b off hc
      split at h
      · rename_i cs e hm
        split at h
        · rename_i s hs
          refine ⟨_, h, fun X ρ own C w0 mm a0 hmm hw0 hC hK hl => ?_⟩
          have ha := hl a (by simp [ho, Op.operands])
          rw [hc] at ha
          obtain ⟨g, hg, ha'⟩ := den_ptr ha
          have look : ∀ w, C w → ∃ z, den ρ s = some z ∧ (loadVar T ⟨g, off, none⟩).run P w = .ok z w := fun w hw => by
            obtain ⟨g', hg', _, lc, hlc, hh⟩ := (hC w hw).obj b _ (hmm b _ hm rfl) rfl
            rw [hg] at hg'; simp at hg'; subst hg'
            exact run_loadVar hlc hs w g hh
          obtain ⟨z, hz, _⟩ := look w0 hw0
          refine ⟨z, hz, fun w hw => quiet_value ?_⟩
          obtain ⟨z', hz', hr⟩ := look w hw
          rw [hz] at hz'; simp at hz'; subst hz'
          simp [execOp, ho, Instr.loadAt, Instr.sureAddr, ha', hr]
        · cases h
      · rename_i base n f hm
        obtain ⟨s, x, h1, h2, h3⟩ := run_ro h
        refine ⟨s, h1, fun X ρ own C w0 mm a0 hmm hw0 hC hK hl => ?_⟩
        have ha := hl a (by simp [ho, Op.operands])
        rw [hc] at ha
        obtain ⟨g, hg, ha'⟩ := den_ptr ha
        refine ⟨x, h2 ρ, fun w hw => quiet_value ?_⟩
        obtain ⟨g', hg', _, _, hcells⟩ := (hC w hw).obj b _ (hmm b _ hm rfl) rfl
        rw [hg] at hg'; simp at hg'; subst hg'
        simp [execOp, ho, Instr.loadAt, Instr.sureAddr, ha', h3 w g hcells]
      · cases h
    · rename_i b off len ix hc
      split at h
      · rename_i cs e hm
        split at h
        · rename_i hT
          split at h
          · rename_i sg hsg
            split at h
            · rename_i q xs hxs
              refine ⟨_, h, fun X ρ own C w0 mm a0 hmm hw0 hC hK hl => ?_⟩
              have ha := hl a (by simp [ho, Op.operands])
              rw [hc] at ha
              obtain ⟨hb, g, hg, ha'⟩ := den_pix ha
              refine ⟨_, rfl, fun w hw => quiet_value ?_⟩
              obtain ⟨g', hg', _, lc, hlc, hh⟩ := (hC w hw).obj b _ (hmm b _ hm rfl) rfl
              rw [hg] at hg'; simp at hg'; subst hg'
              have hcell : w.cell? ⟨g, off + ix.toNat, none⟩ = some (.int q (selL ix 0 xs)) := by
                rw [cell_of_row w g _ _ e _ hh]
                have h1 := seg_den off len hlc hsg
                have h2 := intsOf_map hxs
                have h3 := denL_length h1.1
                rw [h2] at h1 h3
                simp only [List.length_map, List.length_take, List.length_drop] at h3
                have hxl : xs.length = len := by omega
                have h4 := selL_get (xs := xs) (i := ix) (j := 0) (by omega) (by omega)
                rw [Int.sub_zero] at h4
                have h5 : denL ρ (xs.map fun x => Sv.v (.int q x)) = some (xs.map fun x => Value.int q x) := by
                  have := denL_v ρ (xs.map fun x => Value.int q x)
                  rw [List.map_map] at this; exact this
                rw [h5] at h1
                have h6 := Option.some.inj h1.1
                have h7 : (xs.map fun x => Value.int q x)[ix.toNat]? = some (.int q (selL ix 0 xs)) := by rw [List.getElem?_map, h4]; rfl
                rw [h6, List.getElem?_take, List.getElem?_drop] at h7
                split at h7
                · simpa using h7
                · cases h7
              have hu : ∃ d, P.underlying T = some d ∧ aggD d = false := by
                unfold intT at hT
                split at hT
                · rename_i hu; exact ⟨_, hu, rfl⟩
                · cases hT
              obtain ⟨d, hu, had⟩ := hu
              have : (loadVar T ⟨g, off + ix.toNat, none⟩).run P w = .ok (.int q (selL ix 0 xs)) w := by
                simp [loadVar, Sem.run_bind, run_isAgg w hu, had, hcell]
              simp [execOp, ho, Instr.loadAt, Instr.sureAddr, ha', this]
            · cases h
          · cases h
        · cases h
      · cases h
    · cases h
  · rename_i x i ho
    split at h
    · rename_i vs hc
      split at h
      · rename_i s hs
        refine ⟨_, h, fun X ρ own C w0 mm a0 hmm hw0 hC hK hl => ?_⟩
        have hx := hl x (by simp [ho, Op.operands])
        rw [hc] at hx
        obtain ⟨lx, hlx, hx'⟩ := den_tup hx
        obtain ⟨z, hz, hden⟩ := denL_get i hlx hs
        exact ⟨z, hden, fun w _ => quiet_value (by simp [execOp, ho, Instr.extract, hx', hz])⟩
      · cases h
    · cases h
  · rename_i T parts ho
    split at h
    · rename_i cs hb
      refine ⟨_, h, fun X ρ own C w0 mm a0 hmm hw0 hC hK hl => ?_⟩
      have hp : ∀ (j : Nat) (p : Nat × Sv), (parts.toList.map fun p => (p.1, get t p.2))[j]? = some p → ∃ x, (parts.toList.map fun p => (p.1, Act.eval a0 p.2))[j]? = some (p.1, x) ∧ den ρ p.2 = some x := by
        intro j p hj
        rw [List.getElem?_map] at hj ⊢
        cases hq : parts.toList[j]? with
        | none => simp [hq] at hj
        | some q => simp [hq] at hj; subst hj; exact ⟨_, by simp, hl q.2 (part_mem ho hq)⟩
      obtain ⟨lc, h1, h2⟩ := buildS_sound (ρ := ρ) hb hp (by simp)
      refine ⟨.agg lc.toArray, by simp only [den, h1], fun w _ => quiet_value ?_⟩
      have e : (parts.map fun (x : Nat × Operand) => (x.1, Act.eval a0 x.2)) = (parts.toList.map fun p => (p.1, Act.eval a0 p.2)).toArray := by
        apply Array.ext'; simp
      simp only [execOp, ho]
      rw [e]
      simp [h2 w]
    · cases h
  · rename_i fn first cap ho
    split at h
    · rename_i h1 h2
      refine ⟨_, h, fun X ρ own C w0 mm a0 hmm hw0 hC hK hl => ⟨_, rfl, fun w _ => quiet_value ?_⟩⟩
      have e1 : first = #[] := Array.ext' h1
      have e2 : cap = #[] := Array.ext' h2
      subst e1 e2
      simp [execOp, ho, Instr.makeFunc]
    · cases h
  · rename_i c ho
    split at h
    · rename_i b hc
      obtain ⟨sv, x, h1, h2, h3⟩ := builtinS_sound h
      refine ⟨sv, h1, fun X ρ own C w0 mm a0 hmm hw0 hC hK hl => ⟨x, h2 ρ, fun w _ => quiet_value ?_⟩⟩
      have e : (c.args.toList.map (Act.eval a0)).toArray = c.args.map (Act.eval a0) := by apply Array.ext'; simp
      have h4 := h3 ρ _ o.type (c.args.map fun | .const _ => true | _ => false) (denL_mapOf c.args.toList fun y hy => hl y (arg_mem ho hy)) w
      rw [e] at h4
      simp only [execOp, ho, resolve, hc, Sem.run_bind, Sem.run_pure, Result.andThen_ok, invoke]
      exact h4
    · rename_i fo hc
      split at h
      · rename_i fid first cap hfo
        obtain ⟨s, x, la, h1, h2, h3, hok, h4⟩ := hH _ _ _ _ h
        refine ⟨s, h1, fun X ρ own C w0 mm a0 hmm hw0 hC hK hl => ⟨x, h2 ρ, fun w hw => ?_⟩⟩
        have hf := hl fo (by simp [ho, Op.operands, Call.operands, hc])
        rw [hfo] at hf
        have hf := den_vv hf
        have hla := h3 ρ
        have hargs : denL ρ (first.toList.map .v ++ c.args.toList.map (get t) ++ cap.toList.map .v) = some (first.toList ++ c.args.toList.map (Act.eval a0) ++ cap.toList) :=
          denL_append (denL_append (denL_v ρ _) (denL_mapOf c.args.toList fun y hy => hl y (arg_mem ho hy))) (denL_v ρ _)
        rw [hargs] at hla
        simp at hla
        have e : la.toArray = first ++ c.args.map (Act.eval a0) ++ cap := by
          apply Array.ext'; rw [← hla]; simp
        unfold Oper.quietAt
        rw [run_call ho hc hf hok w]
        refine ⟨rfl, ?_⟩
        have h5 := h4 w
        rw [e] at h5
        exact h5.mono fun e w' ⟨he, hk⟩ => ⟨he, hK w w' hw hk⟩
      · cases h
    · cases h
  · cases h
end
end Go.Ev
