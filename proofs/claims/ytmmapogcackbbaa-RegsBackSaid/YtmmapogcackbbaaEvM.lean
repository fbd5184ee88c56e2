/- A loop that ranges over a map whose keys are told: its rounds come in any order. -/
import Derived.Test.YtmmapogcackbbaaEv9
namespace Go.Ev
set_option linter.unusedVariables false
open Go
section
variable {P : Program} {X : Ext}

/-- One key more is seen. -/
def addK (a : Int) (S : Int → Bool) : Int → Bool := fun x => x == a || S x

/-- From one point on to another; one block may turn. -/
structure ToX (ρ : List Un) (own : Nat → Option Nat) (w : World) (gi : Nat) (ρ' : List Un) (own' : Nat → Option Nat) (w' : World) : Prop where
  ext : ∃ l, ρ' = ρ ++ l
  news : ∀ b, own b = none → own' b = none ∨ w.heap.size ≤ b
  os : w'.os = w.os
  tape : w'.tape = w.tape
  output : w'.output = w.output
  size : w.heap.size ≤ w'.heap.size
  block : ∀ b, b < w.heap.size → own b = none → b ≠ gi → w'.heap[b]? = w.heap[b]?

theorem ToX.of {ρ ρ' : List Un} {own own' : Nat → Option Nat} {w w' : World} (h : To ρ own w ρ' own' w') (gi : Nat) : ToX ρ own w gi ρ' own' w' :=
  ⟨h.ext, h.news, h.kept.os, h.kept.tape, h.kept.output, h.kept.size, fun b hb hn _ => h.kept.block b hb hn⟩
theorem ToX.trans {ρ ρ' ρ'' : List Un} {own own' own'' : Nat → Option Nat} {w w' w'' : World} {gi : Nat} (h : ToX ρ own w gi ρ' own' w') (h' : ToX ρ' own' w' gi ρ'' own'' w'') : ToX ρ own w gi ρ'' own'' w'' := by
  obtain ⟨l, hl⟩ := h.ext
  obtain ⟨l', hl'⟩ := h'.ext
  refine ⟨⟨l ++ l', by rw [hl', hl]; simp⟩, fun b hb => ?_, h'.os.trans h.os, h'.tape.trans h.tape, h'.output.trans h.output, Nat.le_trans h.size h'.size, fun b hlt hb hne => ?_⟩
  · rcases h.news b hb with h1 | h1
    · rcases h'.news b h1 with h2 | h2
      · exact .inl h2
      · exact .inr (Nat.le_trans h.size h2)
    · exact .inr h1
  · have h1 : own' b = none := by rcases h.news b hb with h1 | h1 <;> first | exact h1 | omega
    rw [h'.block b (Nat.lt_of_lt_of_le hlt h.size) h1 hne, h.block b hlt hb hne]

/-- A map's and an iterator's blocks are nobody's; the memory of the rest. -/
structure RangeAt (X : Ext) (ρ : List Un) (own : Nat → Option Nat) (m : List SObj) (w : World) (c gi gm : Nat) (q : IntKind) (es' : List (Int × Sv)) (l0 : List MapEntry) (seen : List Nat) : Prop where
  rep : Rep X ρ own m w
  it : ρ[c]? = some (.blk gi)
  ni : own gi = none
  nm : own gm = none
  ne : gm ≠ gi
  map : w.heap[gm]? = some (.map l0.toArray es'.length)
  iter : w.heap[gi]? = some (.mapIter (some gm) es'.length seen.toArray es'.length)
  ents : entsAt ρ q 0 es' l0

theorem RangeAt.step {ρ ρ' : List Un} {own own' : Nat → Option Nat} {m m' : List SObj} {w w' : World} {c gi gm : Nat} {q : IntKind} {es' : List (Int × Sv)} {l0 : List MapEntry} {seen : List Nat} (h : RangeAt X ρ own m w c gi gm q es' l0 seen)
    (ht : To ρ own w ρ' own' w') (hr : Rep X ρ' own' m' w') : RangeAt X ρ' own' m' w' c gi gm q es' l0 seen := by
  obtain ⟨l, rfl⟩ := ht.ext
  have lt : ∀ g o, w.heap[g]? = some o → g < w.heap.size := fun g o hg => (Array.getElem?_eq_some_iff.1 hg).1
  have h1 := lt _ _ h.map
  have h2 := lt _ _ h.iter
  refine ⟨hr, by rw [List.getElem?_append_left (List.getElem?_eq_some_iff.1 h.it).1]; exact h.it, ?_, ?_, h.ne, by rw [ht.kept.block _ h1 h.nm]; exact h.map, by rw [ht.kept.block _ h2 h.ni]; exact h.iter, h.ents.mono ⟨l, rfl⟩⟩
  · rcases ht.news _ h.ni with h3 | h3 <;> first | exact h3 | omega
  · rcases ht.news _ h.nm with h3 | h3 <;> first | exact h3 | omega

theorem ents_at {ρ : List Un} {q : IntKind} : ∀ {i : Nat} {es : List (Int × Sv)} {l : List MapEntry}, entsAt ρ q i es l → ∀ x ∈ l, ∃ j a s, es[j]? = some (a, s) ∧ x.born = i + j ∧ x.key = .int q a ∧ den ρ s = some x.val
  | i, [], l, h, x, hx => by simp only [entsAt] at h; subst h; simp at hx
  | i, (b, t) :: es, l, ⟨u, l', h1, h2, h3⟩, x, hx => by
    subst h1
    rcases List.mem_cons.1 hx with rfl | hx
    · exact ⟨0, b, t, rfl, rfl, rfl, h2⟩
    · obtain ⟨j, a, s, h4, h5, h6, h7⟩ := ents_at h3 x hx
      exact ⟨j + 1, a, s, by simpa using h4, by omega, h6, h7⟩
/-- The parts of such a loop's round. -/
structure RangeCode where
  it : Nat
  tn : Nat
  x : Nat
  te : Nat
  o1 : Oper
  o2 : Oper
  e1 : Oper
  es4 : List Oper
  R4 : Array Oper
  rest : Code
  id : Nat
  id2 : Nat
  r3 : Nat
  r4 : Nat
def RangeCode.code (L : RangeCode) : Code := .seq (.region L.r3 #[L.o1, L.o2] false) (.seq (.cond (.tmp L.x) .skip (.exit L.id)) (.block L.id2 (.seq (.region L.r4 L.R4 false) L.rest)))
structure RangeCode.Ok (L : RangeCode) : Prop where
  n1 : L.o1.op = .next (.tmp L.it) false
  d1 : L.o1.dst = some L.tn
  g1 : L.o1.guard = none
  n2 : L.o2.op = .extract (.tmp L.tn) 0
  d2 : L.o2.dst = some L.x
  g2 : L.o2.guard = none
  n4 : L.e1.op = .entry (.tmp L.it)
  d4 : L.e1.dst = some L.te
  g4 : L.e1.guard = none
  l4 : L.R4.toList = L.e1 :: L.es4
  ne1 : L.tn ≠ L.it
  ne2 : L.x ≠ L.it
  ne3 : L.x ≠ L.tn
def noRo : SObj → Bool
  | .ro _ _ _ => false
  | _ => true
/-- A block that is nobody's turns, and no row of another's is told. -/
theorem Rep.turn {ρ : List Un} {own : Nat → Option Nat} {m : List SObj} {w w' : World} (h : Rep X ρ own m w) (hro : ∀ o ∈ m, noRo o = true) (hb : ∀ b k, own b = some k → w'.heap[b]? = w.heap[b]?) (hs : w.heap.size ≤ w'.heap.size) : Rep X ρ own m w' :=
  ⟨h.len, fun b k hk => ⟨Nat.lt_of_lt_of_le (h.lt b k hk).1 hs, (h.lt b k hk).2⟩, fun k o ho ha => by
    obtain ⟨g, hg, hob⟩ := h.obj k o ho ha
    refine ⟨g, hg, ?_⟩
    cases o with
    | cells cs e => obtain ⟨h1, l, h2, h3⟩ := hob; exact ⟨h1, l, h2, by rw [hb g k h1]; exact h3⟩
    | ro base n f => have := hro _ (List.mem_of_getElem? ho); cases this
    | ext tag M => obtain ⟨h1, h2⟩ := hob; exact ⟨h1, X.stable tag M g _ w w' (fun b hb' => hb b k hb') h2⟩
    | pm q es => obtain ⟨h1, es', l, hp, h2, h3⟩ := hob; exact ⟨h1, es', l, hp, h2, by rw [hb g k h1]; exact h3⟩
    | it b n => obtain ⟨h1, gm, h2, h3⟩ := hob; exact ⟨h1, gm, h2, by rw [hb g k h1]; exact h3⟩
    | dead => trivial⟩

theorem nodup_lt : ∀ (n : Nat) (l : List Nat), l.Nodup → (∀ i ∈ l, i < n) → l.length ≤ n
  | 0, l, _, h => by cases l with
    | nil => simp
    | cons a l => exact absurd (h a List.mem_cons_self) (by omega)
  | n + 1, l, hn, h => by
    have h1 := nodup_lt n (l.erase n) (hn.erase n) (fun i hi => by
      have h2 := h i (List.mem_of_mem_erase hi)
      have h3 : i ≠ n := fun e => by subst e; exact (List.Nodup.not_mem_erase hn) hi
      omega)
    have h2 : l.length ≤ (l.erase n).length + 1 := by
      rw [List.length_erase]; split <;> omega
    omega

theorem nth_set_live {slots : List Nat} {t : List Sv} {d : Nat} {x : Sv} (h : d ∉ slots) : slots.map (nth (setN t d x)) = slots.map (nth t) :=
  List.map_congr_left fun i hi => nth_setN_ne fun e => h (by rw [e]; exact hi)

theorem range_head {L : RangeCode} (ok : L.Ok) {ρ : List Un} {own : Nat → Option Nat} {m : List SObj} {w : World} {c gi gm : Nat} {q : IntKind} {es' : List (Int × Sv)} {l0 : List MapEntry} {seen : List Nat} {l : List Value} {ds : List Deferred} {Q : Exit → Act → World → Prop}
    (hR : RangeAt X ρ own m w c gi gm q es' l0 seen) (hitv : Act.eval ⟨l.toArray, ds⟩ (.tmp L.it) = .pointer (some ⟨gi, 0, none⟩)) (hx : L.x < l.length) (htn : L.tn < l.length)
    (hA : (∀ j, j < es'.length → j ∈ seen) → Q (.exit L.id) ⟨((l.set L.tn (.tuple #[.bool false])).set L.x (.bool false)).toArray, ds⟩ w)
    (hB : ∀ (j : Nat) a s v w1, es'[j]? = some (a, s) → j ∉ seen → den ρ s = some v → (w1 = w ∨ w1 = w.drew) → (∃ e ∈ l0, e.key = .int q a ∧ e.val = v ∧ e.born = j) →
      (Code.block L.id2 (.seq (.region L.r4 L.R4 false) L.rest)).wp P Q ⟨((l.set L.tn (.tuple #[.bool true, .int q a, v])).set L.x (.bool true)).toArray, ds⟩ (putBlock w1 gi (.mapIter (some gm) es'.length (seen ++ [j]).toArray es'.length))) :
    L.code.wp P Q ⟨l.toArray, ds⟩ w := by
  have hborn := ents_born hR.ents
  have hnext := run_next_at (P := P) w L.o1.type gi gm es'.length es'.length seen.toArray l0.toArray es'.length hR.iter hR.map (fun x hx => by have := hborn x (by simpa using hx); omega) (Nat.le_refl _)
  have wants : ∀ (o : Oper) (y : Nat → Option Bool), o.guard = none → Region.wanted o y = true := fun o y hg => by simp [Region.wanted, hg]
  have hex : execOp (Act.eval ⟨l.toArray, ds⟩) L.o1 = (do pure (.value (← Instr.next (.pointer (some ⟨gi, 0, none⟩)) false L.o1.type))) := by
    simp only [execOp, ok.n1, hitv]
  -- what follows 'next'
  have tail : ∀ (vs : Array Value) (bb : Bool) (w' : World), vs[0]? = some (.bool bb) →
      (Code.seq (.cond (.tmp L.x) .skip (.exit L.id)) (.block L.id2 (.seq (.region L.r4 L.R4 false) L.rest))).wp P Q ⟨((l.set L.tn (.tuple vs)).set L.x (.bool bb)).toArray, ds⟩ w' →
      wpList P #[L.o1, L.o2] (Exit.then ((Code.seq (.cond (.tmp L.x) .skip (.exit L.id)) (.block L.id2 (.seq (.region L.r4 L.R4 false) L.rest))).wp P Q) Q) [L.o2] (Act.put ⟨l.toArray, ds⟩ L.o1.dst (.tuple vs)) w' := by
    intro vs bb w' hv h
    simp only [wpList]
    rw [if_pos (wants _ _ ok.g2)]
    refine .inl ?_
    unfold Oper.wp
    have he : Act.eval (Act.put ⟨l.toArray, ds⟩ L.o1.dst (.tuple vs)) (.tmp L.tn) = .tuple vs := by
      rw [ok.d1]
      simp [Act.put, Act.eval, htn]
    have hr2 : (execOp (Act.eval (Act.put ⟨l.toArray, ds⟩ L.o1.dst (.tuple vs))) L.o2).run P w' = .ok (.value (.bool bb)) w' := by
      simp only [execOp, ok.n2, he]
      simp [Instr.extract, hv]
    rw [hr2]
    have hp : Act.put (Act.put ⟨l.toArray, ds⟩ L.o1.dst (.tuple vs)) L.o2.dst (.bool bb) = ⟨((l.set L.tn (.tuple vs)).set L.x (.bool bb)).toArray, ds⟩ := by
      rw [ok.d1, ok.d2]; simp [Act.put]
    show Exit.then _ Q .normal (Act.put (Act.put ⟨l.toArray, ds⟩ L.o1.dst (.tuple vs)) L.o2.dst (.bool bb)) w'
    rw [hp]
    exact h
  have xval : ∀ (vs : Array Value) (bb : Bool), Act.eval ⟨((l.set L.tn (.tuple vs)).set L.x (.bool bb)).toArray, ds⟩ (.tmp L.x) = .bool bb := fun vs bb => by
    simp [Act.eval, hx]
  unfold RangeCode.code
  refine wp_seq (wp_region_list ?_)
  show wpList P #[L.o1, L.o2] _ [L.o1, L.o2] _ _
  simp only [wpList]
  rw [if_pos (wants _ _ ok.g1)]
  refine .inl ?_
  unfold Oper.wp
  rw [hex]
  rcases hnext with ⟨hz, hrun⟩ | ⟨e, he, w1, hw1, hrun⟩
  · simp only [Sem.run_bind, hrun, Result.andThen_ok, Sem.run_pure]
    refine tail _ false w rfl ?_
    refine wp_seq (wp_cond_false (xval _ _) (wp_exit ?_))
    refine hA fun j hj => ?_
    have hempty : leftOf l0.toArray seen.toArray = #[] := Array.eq_empty_of_size_eq_zero hz
    obtain ⟨v, _, hlj⟩ := ents_get hR.ents (j := j) (a := es'[j].1) (s := es'[j].2) (by simp [hj])
    have hm := List.mem_of_getElem? hlj
    cases hc : seen.contains j with
    | true => simpa using hc
    | false =>
      have : ({ key := .int q es'[j].1, val := v, born := 0 + j } : MapEntry) ∈ leftOf l0.toArray seen.toArray := by
        unfold leftOf
        simp only [Array.mem_filter]
        exact ⟨by simpa using hm, by simpa using hc⟩
      rw [hempty] at this
      simp at this
  · simp only [Sem.run_bind, hrun, Result.andThen_ok, Sem.run_pure]
    refine tail _ true _ rfl ?_
    refine wp_seq (wp_cond_true (xval _ _) (wp_skip ?_))
    have he' : e ∈ l0 ∧ e.born ∉ seen := by
      unfold leftOf at he
      simp at he
      exact he
    obtain ⟨j, a, s, h1, h2, h3, h4⟩ := ents_at hR.ents e he'.1
    have hb : e.born = j := by omega
    have e1 : (seen ++ [j]).toArray = seen.toArray.push e.born := by rw [hb]; simp
    have := hB j a s e.val w1 h1 (by rw [← hb]; exact he'.2) h4 hw1 ⟨e, he'.1, h3, rfl, hb⟩
    rw [e1] at this
    rw [h3]
    exact this

theorem range_rounds {Γ : Env} (hΓ : EnvOk P X Γ) {n len : Nat} {slots : List Nat} {L : RangeCode} (ok : L.Ok) {vals : (Int → Bool) → List Sv} {ms : (Int → Bool) → List SObj} {c : Nat} {q : IntKind} {es : List (Int × Sv)}
    (hit : ∀ S (t : List Sv), slots.map (nth t) = vals S → nth t L.it = .ptr c 0) (hs1 : L.tn ∉ slots) (hs2 : L.x ∉ slots) (hro : ∀ S, ∀ o ∈ ms S, noRo o = true) (hnd : (es.map (·.1)).Nodup) (hx : L.x < len) (htn : L.tn < len)
    (hround : ∀ S (t : List Sv) a s, t.length = len → slots.map (nth t) = vals S → (a, s) ∈ es → S a = false →
      evOps P Γ.wide (callE P Γ (ev P Γ n)) L.R4.toList L.es4 (setN t L.te (.tup [.v (.int q a), s])) (ms S) (fun t' m' => ev P Γ n (fun _ => none) L.rest t' m' (liveK slots)) (fun _ _ _ => none) = some (0, len, vals (addK a S), ms (addK a S))) :
    ∀ (u : Nat) (seen : List Nat) (S : Int → Bool) (ρ : List Un) (own : Nat → Option Nat) (w : World) (t : List Sv) (l : List Value) (ds : List Deferred) (Q : Exit → Act → World → Prop) (gi gm : Nat) (es' : List (Int × Sv)) (l0 : List MapEntry), es'.Perm es →
      RangeAt X ρ own (ms S) w c gi gm q es' l0 seen → seen.length + u = es'.length → seen.Nodup → (∀ i ∈ seen, i < es'.length) → (∀ (i : Nat) a s, es'[i]? = some (a, s) → (S a = true ↔ i ∈ seen)) →
      t.length = len → slots.map (nth t) = vals S → denL ρ t = some l →
      (∀ ρ' own' w' t' l' S', ToX ρ own w gi ρ' own' w' → (∀ p ∈ es, S' p.1 = true) → t'.length = len → slots.map (nth t') = vals S' → denL ρ' t' = some l' → Rep X ρ' own' (ms S') w' → Q (.exit L.id) ⟨l'.toArray, ds⟩ w') →
      Code.rounds P L.code Q (u + 1) ⟨l.toArray, ds⟩ w := by
  have core : ∀ (u : Nat), (∀ (seen : List Nat) (S : Int → Bool) (ρ : List Un) (own : Nat → Option Nat) (w : World) (t : List Sv) (l : List Value) (ds : List Deferred) (Q : Exit → Act → World → Prop) (gi gm : Nat) (es' : List (Int × Sv)) (l0 : List MapEntry) (R : Act → World → Prop), es'.Perm es →
      RangeAt X ρ own (ms S) w c gi gm q es' l0 seen → seen.length + u = es'.length → seen.Nodup → (∀ i ∈ seen, i < es'.length) → (∀ (i : Nat) a s, es'[i]? = some (a, s) → (S a = true ↔ i ∈ seen)) →
      t.length = len → slots.map (nth t) = vals S → denL ρ t = some l →
      (∀ ρ' own' w' t' l' S', ToX ρ own w gi ρ' own' w' → (∀ p ∈ es, S' p.1 = true) → t'.length = len → slots.map (nth t') = vals S' → denL ρ' t' = some l' → Rep X ρ' own' (ms S') w' → Q (.exit L.id) ⟨l'.toArray, ds⟩ w') →
      (∀ (seen' : List Nat) S' ρ' own' w' t' l', u = (u - 1) + 1 → ToX ρ own w gi ρ' own' w' → RangeAt X ρ' own' (ms S') w' c gi gm q es' l0 seen' → seen'.length + (u - 1) = es'.length → seen'.Nodup → (∀ i ∈ seen', i < es'.length) → (∀ (i : Nat) a s, es'[i]? = some (a, s) → (S' a = true ↔ i ∈ seen')) →
        t'.length = len → slots.map (nth t') = vals S' → denL ρ' t' = some l' → R ⟨l'.toArray, ds⟩ w') →
      L.code.wp P (Exit.then R Q) ⟨l.toArray, ds⟩ w) := by
    intro u seen S ρ own w t l ds Q gi gm es' l0 R hp hR hu hnds hlt hS htl htv hl hQ hnextR
    have hll : l.length = len := by rw [denL_length hl]; exact htl
    have hitv : Act.eval ⟨l.toArray, ds⟩ (.tmp L.it) = .pointer (some ⟨gi, 0, none⟩) := by
      have h1 := get_den (ds := ds) hl (.tmp L.it)
      simp only [get, hit S t htv] at h1
      obtain ⟨g, hg, h2⟩ := den_ptr h1
      have h3 : g = gi := by rw [hR.it] at hg; simpa using hg.symm
      rw [h2, h3]
    have live2 : ∀ y z, slots.map (nth (setN (setN t L.tn y) L.x z)) = vals S := fun y z => by rw [nth_set_live hs2, nth_set_live hs1]; exact htv
    have hes : ∀ p ∈ es, ∃ i : Nat, es'[i]? = some p := fun p hp' => List.getElem?_of_mem (hp.mem_iff.2 hp')
    refine range_head ok hR hitv (by omega) (by omega) (fun hall => ?_) fun j a s v w1 hj hjs hv hw1 hent => ?_
    · refine hQ ρ own w (setN (setN t L.tn (.v (.tuple #[.bool false]))) L.x (.v (.bool false))) _ S (ToX.of (To.refl _ _ _) gi) (fun p hp' => ?_) (by simp [setN_length, htl]) (live2 _ _) (setN_den L.x (setN_den L.tn hl rfl) rfl) hR.rep
      obtain ⟨i, hi⟩ := hes p hp'
      exact (hS i p.1 p.2 hi).2 (hall i (List.getElem?_eq_some_iff.1 hi).1)
    · have hjn : j < es'.length := (List.getElem?_eq_some_iff.1 hj).1
      have hcnt : seen.length + 1 ≤ es'.length := by
        have := nodup_lt es'.length (j :: seen) (List.nodup_cons.2 ⟨hjs, hnds⟩) (fun i hi => by rcases List.mem_cons.1 hi with rfl | hi; exact hjn; exact hlt i hi)
        simpa using this
      have hSa : S a = false := by
        cases h : S a with
        | false => rfl
        | true => exact absurd ((hS j a s hj).1 h) hjs
      have hmem : (a, s) ∈ es := hp.mem_iff.1 (List.mem_of_getElem? hj)
      have hig : gi < w.heap.size := (Array.getElem?_eq_some_iff.1 hR.iter).1
      -- the world behind the step
      have hsz : (putBlock w1 gi (.mapIter (some gm) es'.length (seen ++ [j]).toArray es'.length)).heap.size = w.heap.size := by rcases hw1 with rfl | rfl <;> simp [putBlock]
      have hoth : ∀ b, b ≠ gi → (putBlock w1 gi (.mapIter (some gm) es'.length (seen ++ [j]).toArray es'.length)).heap[b]? = w.heap[b]? := fun b hb => by
        rw [putBlock_other _ _ _ _ hb]; rcases hw1 with rfl | rfl <;> rfl
      have hgi : (putBlock w1 gi (.mapIter (some gm) es'.length (seen ++ [j]).toArray es'.length)).heap[gi]? = some (.mapIter (some gm) es'.length (seen ++ [j]).toArray es'.length) :=
        putBlock_same _ _ _ (by rcases hw1 with rfl | rfl <;> exact hig)
      have hos : (putBlock w1 gi (.mapIter (some gm) es'.length (seen ++ [j]).toArray es'.length)).os = w.os ∧ (putBlock w1 gi (.mapIter (some gm) es'.length (seen ++ [j]).toArray es'.length)).tape = w.tape ∧ (putBlock w1 gi (.mapIter (some gm) es'.length (seen ++ [j]).toArray es'.length)).output = w.output := by
        rcases hw1 with rfl | rfl <;> exact ⟨rfl, rfl, rfl⟩
      generalize putBlock w1 gi (.mapIter (some gm) es'.length (seen ++ [j]).toArray es'.length) = w2 at hsz hoth hgi hos ⊢
      have hrep2 : Rep X ρ own (ms S) w2 := hR.rep.turn (hro S) (fun b k hb => hoth b fun e => by subst e; rw [hR.ni] at hb; cases hb) (by omega)
      have hR2 : RangeAt X ρ own (ms S) w2 c gi gm q es' l0 (seen ++ [j]) := ⟨hrep2, hR.it, hR.ni, hR.nm, hR.ne, by rw [hoth gm hR.ne]; exact hR.map, hgi, hR.ents⟩
      have ht2 : ToX ρ own w gi ρ own w2 := ⟨⟨[], by simp⟩, fun _ h => .inl h, hos.1, hos.2.1, hos.2.2, by omega, fun b _ _ hb => hoth b hb⟩
      -- the frame
      obtain ⟨t1, ht1⟩ : ∃ t1, t1 = setN (setN t L.tn (.tup [.v (.bool true), .v (.int q a), s])) L.x (.v (.bool true)) := ⟨_, rfl⟩
      obtain ⟨l1, hl1⟩ : ∃ l1, l1 = (l.set L.tn (.tuple #[.bool true, .int q a, v])).set L.x (.bool true) := ⟨_, rfl⟩
      have hd1 : denL ρ t1 = some l1 := by
        rw [ht1, hl1]
        exact setN_den L.x (setN_den L.tn hl (by simp [den, denL, hv])) rfl
      have hlive1 : slots.map (nth t1) = vals S := by rw [ht1]; exact live2 _ _
      have hlen1 : t1.length = len := by rw [ht1]; simp [setN_length, htl]
      rw [← hl1]
      refine wp_block (wp_seq (wp_region_list ?_))
      rw [ok.l4]
      have hit1 : Act.eval ⟨l1.toArray, ds⟩ (.tmp L.it) = .pointer (some ⟨gi, 0, none⟩) := by
        have h1 := get_den (ds := ds) hd1 (.tmp L.it)
        simp only [get, hit S t1 hlive1] at h1
        obtain ⟨g, hg, h2⟩ := den_ptr h1
        have h3 : g = gi := by rw [hR.it] at hg; simpa using hg.symm
        rw [h2, h3]
      obtain ⟨e, hel, hek, hev, heb⟩ := hent
      have hentry : (Instr.entry (.pointer (some ⟨gi, 0, none⟩))).run P w2 = .ok (.tuple #[.int q a, v]) w2 := by
        have h1 : w2.heap[gi]? = some (.mapIter (some gm) es'.length (seen.toArray.push e.born) es'.length) := by rw [hgi, heb]; simp
        have := run_entry_at (P := P) w2 gi gm es'.length seen.toArray l0.toArray es'.length e h1 (by rw [hoth gm hR.ne]; exact hR.map) (by simpa using hel) (by simpa using ents_nodup hR.ents)
        rw [hek, hev] at this
        exact this
      simp only [wpList]
      rw [if_pos (by simp [Region.wanted, ok.g4])]
      refine .inl ?_
      unfold Oper.wp
      have hex : (execOp (Act.eval ⟨l1.toArray, ds⟩) L.e1).run P w2 = .ok (.value (.tuple #[.int q a, v])) w2 := by
        simp only [execOp, ok.n4, hit1, Sem.run_bind, hentry, Result.andThen_ok, Sem.run_pure]
      rw [hex]
      obtain ⟨l2, hd2, hput⟩ := put_den (ds := ds) hd1 L.e1.dst (x := .tup [.v (.int q a), s]) (v := .tuple #[.int q a, v]) (by simp [den, denL, hv])
      show wpList P L.R4 _ L.es4 (Act.put ⟨l1.toArray, ds⟩ L.e1.dst (.tuple #[.int q a, v])) w2
      rw [hput]
      have hev2 := hround S t1 a s hlen1 hlive1 hmem hSa
      have hcall := callE_sound hΓ (ev_sound hΓ (R := Nat × Nat × List Sv × List SObj) n)
      have hdst : put t1 L.e1.dst (.tup [.v (.int q a), s]) = setN t1 L.te (.tup [.v (.int q a), s]) := by rw [ok.d4]; rfl
      rw [hdst] at hd2
      rcases evOps_sound hcall hev2 with ⟨t3, m3, h5, h6⟩ | ⟨_, _, _, h5, _⟩
      · obtain ⟨t4, h7, h8, h9⟩ := evR_of_form hΓ h5
        refine h6 ρ own w2 l2 ds _ hd2 hrep2 fun ρ3 own3 w3 l3 ht3 hl3 hr3 => ?_
        refine h7 ρ3 own3 w3 l3 ds _ hl3 hr3 fun ρ4 own4 w4 l4 ht4 hl4 hr4 => ?_
        have htt := ht3.trans ht4
        cases u with
        | zero => omega
        | succ u' =>
          refine hnextR (seen ++ [j]) (addK a S) ρ4 own4 w4 t4 l4 rfl (ht2.trans (ToX.of htt gi)) (hR2.step htt hr4) (by simp; omega) ?_ ?_ ?_ h8 h9 hl4
          · rw [List.nodup_append]
            exact ⟨hnds, by simp, fun x hx y hy => by simp at hy; subst hy; intro e; subst e; exact hjs hx⟩
          · intro i hi
            rcases List.mem_append.1 hi with h | h
            · exact hlt i h
            · simp at h; subst h; exact hjn
          · intro i a' s' hi
            have hkey : ∀ a', a' = a → es'[i]? = some (a', s') → i = j := fun a' he hi' => by
              subst he
              have hnd' : (es'.map (·.1)).Nodup := (hp.map (·.1)).nodup_iff.2 hnd
              have hlen : i < (es'.map (·.1)).length := by simpa using (List.getElem?_eq_some_iff.1 hi').1
              exact (List.getElem?_inj hlen hnd').1 (by simp [List.getElem?_map, hi', hj])
            unfold addK
            rw [Bool.or_eq_true, beq_iff_eq, List.mem_append, List.mem_singleton, hS i a' s' hi]
            constructor
            · rintro (h | h)
              · exact .inr (hkey a' h hi)
              · exact .inl h
            · rintro (h | h)
              · exact .inr h
              · subst h
                rw [hj] at hi; simp at hi; exact .inl hi.1.symm
      · cases h5
  intro u
  induction u with
  | zero =>
    intro seen S ρ own w t l ds Q gi gm es' l0 hp hR hu hnds hlt hS htl htv hl hQ
    rw [rounds_succ]
    exact core 0 seen S ρ own w t l ds Q gi gm es' l0 _ hp hR hu hnds hlt hS htl htv hl hQ fun _ _ _ _ _ _ _ h => by omega
  | succ u ih =>
    intro seen S ρ own w t l ds Q gi gm es' l0 hp hR hu hnds hlt hS htl htv hl hQ
    rw [rounds_succ]
    refine core (u + 1) seen S ρ own w t l ds Q gi gm es' l0 _ hp hR hu hnds hlt hS htl htv hl hQ fun seen' S' ρ' own' w' t' l' _ hto hR' hu' hn' hlt' hS' htl' htv' hl' => ?_
    exact ih seen' S' ρ' own' w' t' l' ds Q gi gm es' l0 hp hR' hu' hn' hlt' hS' htl' htv' hl' fun ρ2 own2 w2 t2 l2 S2 hto2 => hQ ρ2 own2 w2 t2 l2 S2 (hto.trans hto2)
/-- Two objects are given up. -/
theorem Rep.mask2 {ρ : List Un} {own : Nat → Option Nat} {m : List SObj} {w : World} (h : Rep X ρ own m w) {b c : Nat} (hro : ∀ o ∈ (m.set b .dead).set c .dead, noRo o = true) :
    Rep X ρ (fun x => if own x = some b ∨ own x = some c then none else own x) ((m.set b .dead).set c .dead) w :=
  ⟨by simp [h.len], fun g k hk => by
    skip
    split at hk
    · cases hk
    · simpa using h.lt g k hk, fun k o ho ha => by
    have hkc : k ≠ c := fun e => by
      subst e
      have hlt := (List.getElem?_eq_some_iff.1 ho).1
      rw [List.getElem?_set_self (by simpa using hlt)] at ho
      simp at ho; subst ho; cases ha
    have hkb : k ≠ b := fun e => by
      subst e
      rw [List.getElem?_set_ne (Ne.symm hkc)] at ho
      have hlt := (List.getElem?_eq_some_iff.1 ho).1
      rw [List.getElem?_set_self (by simpa using hlt)] at ho
      simp at ho; subst ho; cases ha
    have hn := hro o (List.mem_of_getElem? ho)
    rw [List.getElem?_set_ne (Ne.symm hkc), List.getElem?_set_ne (Ne.symm hkb)] at ho
    obtain ⟨g, hg, hob⟩ := h.obj k o ho ha
    have hown : own g = some k → (fun x => if own x = some b ∨ own x = some c then none else own x) g = some k := fun h1 => by simp [h1, hkb, hkc]
    refine ⟨g, hg, ?_⟩
    cases o with
    | cells cs e => obtain ⟨h1, l, h2, h3⟩ := hob; exact ⟨hown h1, l, h2, h3⟩
    | ro base n f => cases hn
    | ext tag M =>
      obtain ⟨h1, h2⟩ := hob
      refine ⟨hown h1, ?_⟩
      have : (fun x => (if own x = some b ∨ own x = some c then none else own x) = some k) = fun x => own x = some k := by
        funext x
        apply propext
        constructor
        · intro h'; split at h'
          · cases h'
          · exact h'
        · intro h'; rw [if_neg (by rw [h']; simp [hkb, hkc])]; exact h'
      rw [this]; exact h2
    | pm q es => obtain ⟨h1, es', l, hp, h2, h3⟩ := hob; exact ⟨hown h1, es', l, hp, h2, h3⟩
    | it b n => obtain ⟨h1, gm, h2, h3⟩ := hob; exact ⟨hown h1, gm, h2, h3⟩
    | dead => trivial⟩

/-- What is told of such a loop. -/
structure RangeSpec (σ : Type) where
  len : Nat
  slots : List Nat
  q : IntKind
  b : Nat
  c : Nat
  es : σ → List (Int × Sv)
  vals : σ → (Int → Bool) → List Sv
  ms : σ → (Int → Bool) → List SObj
  m0 : σ → List SObj
  valsF : σ → List Sv
  msF : σ → List SObj

structure RangeSpec.Ok {σ : Type} (A : RangeSpec σ) (P : Program) (Γ : Env) (n : Nat) (L : RangeCode) : Prop where
  code : L.Ok
  it : ∀ s S (t : List Sv), A.slots.map (nth t) = A.vals s S → nth t L.it = .ptr A.c 0
  s1 : L.tn ∉ A.slots
  s2 : L.x ∉ A.slots
  lx : L.x < A.len
  ltn : L.tn < A.len
  ro : ∀ s S, ∀ o ∈ A.ms s S, noRo o = true
  nd : ∀ s, ((A.es s).map (·.1)).Nodup
  bc : A.b ≠ A.c
  mb : ∀ s, (A.m0 s)[A.b]? = some (.pm A.q (A.es s))
  mc : ∀ s, (A.m0 s)[A.c]? = some (.it A.b (A.es s).length)
  start : ∀ s, A.ms s (fun _ => false) = ((A.m0 s).set A.b .dead).set A.c .dead
  fin : ∀ s S, (∀ p ∈ A.es s, S p.1 = true) → A.vals s S = A.valsF s ∧ A.ms s S = A.msF s
  round : ∀ s S (t : List Sv) a v, t.length = A.len → A.slots.map (nth t) = A.vals s S → (a, v) ∈ A.es s → S a = false →
      evOps P Γ.wide (callE P Γ (ev P Γ n)) L.R4.toList L.es4 (setN t L.te (.tup [.v (.int A.q a), v])) (A.ms s S) (fun t' m' => ev P Γ n (fun _ => none) L.rest t' m' (liveK A.slots)) (fun _ _ _ => none) = some (0, A.len, A.vals s (addK a S), A.ms s (addK a S))

theorem RangeSpec.run {σ : Type} {A : RangeSpec σ} {Γ : Env} (hΓ : EnvOk P X Γ) {n : Nat} {L : RangeCode} (h : A.Ok P Γ n L) (s : σ) {t : List Sv} (hlen : t.length = A.len) (ht : A.slots.map (nth t) = A.vals s (fun _ => false)) :
    EvR P X (.block L.id (.loop L.code)) t (A.m0 s) .normal (fr A.len A.slots (A.valsF s) (unkL (A.msF s).length A.len 0)) (A.msF s ++ [.dead]) := by
  intro ρ own w l ds Q hl hr hK
  obtain ⟨gm, hgm, hom, es', l0, hp, he, hhm⟩ := hr.obj A.b _ (h.mb s) rfl
  obtain ⟨gi, hgi, hoi, gm', hgm', hhi⟩ := hr.obj A.c _ (h.mc s) rfl
  have : gm' = gm := by rw [hgm] at hgm'; simpa using hgm'.symm
  subst this
  have hms := h.start s
  have hro := h.ro s (fun _ => false)
  rw [hms] at hro
  have hrep := hr.mask2 hro
  rw [← hms] at hrep
  have hne : gm' ≠ gi := fun e => by subst e; rw [hom] at hoi; simp at hoi; exact h.bc hoi
  have hR : RangeAt X ρ (fun x => if own x = some A.b ∨ own x = some A.c then none else own x) (A.ms s (fun _ => false)) w A.c gi gm' A.q es' l0 [] :=
    ⟨hrep, hgi, by simp [hoi], by simp [hom], hne, by rw [hp.length_eq]; exact hhm, by rw [hp.length_eq]; exact hhi, he⟩
  refine wp_block (wp_loop_rounds (es'.length + 1) ?_)
  refine range_rounds hΓ h.code (h.it s) h.s1 h.s2 (h.ro s) (h.nd s) h.lx h.ltn (h.round s) es'.length [] _ ρ _ w t l ds _ gi gm' es' l0 hp hR (by simp) (by simp) (by simp) (by simp) hlen ht hl ?_
  intro ρ' own' w' t' l' S' hto hall htl htv hl' hr'
  obtain ⟨f1, f2⟩ := h.fin s S' hall
  rw [f2] at hr'
  have hTo : To ρ own w ρ' own' w' := by
    refine ⟨hto.ext, fun b hb => hto.news b (by simp [hb]), ⟨hto.os, hto.tape, hto.output, hto.size, fun b hlt hb => hto.block b hlt (by simp [hb]) fun e => by subst e; rw [hoi] at hb; cases hb⟩⟩
  have hfin := hK (ρ' ++ [.vals l']) own' w' l' (hTo.vals l') (by
    rw [← f1, ← htv, ← hr'.len]
    exact forget_den A.slots htl hl') (hr'.vals l')
  simpa [SEx.toExit, Exit.inBlock] using hfin

def rangeHook {σ : Type} (A : RangeSpec σ) (dec : (R : Type) → List Sv → List SObj → (σ → Option R) → Option R) : Hook := fun R t m k =>
  match Nat.beq t.length A.len with
  | true => dec R (A.slots.map (nth t)) m fun s => k .normal (fr A.len A.slots (A.valsF s) (unkL (A.msF s).length A.len 0)) (A.msF s ++ [.dead])
  | false => none
theorem rangeHook_ok {σ : Type} {A : RangeSpec σ} {Γ : Env} (hΓ : EnvOk P X Γ) {n : Nat} {L : RangeCode} (h : A.Ok P Γ n L) {dec : (R : Type) → List Sv → List SObj → (σ → Option R) → Option R}
    (hdec : ∀ R l m k r, dec R l m k = some r → ∃ s, k s = some r ∧ l = A.vals s (fun _ => false) ∧ m = A.m0 s) : HookOk P X (.block L.id (.loop L.code)) (rangeHook A dec) := by
  intro R t m k r hr
  unfold rangeHook at hr
  split at hr
  · rename_i hlen
    have hlen := Nat.eq_of_beq_eq_true hlen
    obtain ⟨s, hs, h1, rfl⟩ := hdec _ _ _ _ _ hr
    exact ⟨_, _, _, hs, RangeSpec.run hΓ h s hlen h1⟩
  · cases hr
def noRange : RangeCode := ⟨0, 0, 0, 0, default, default, default, [], #[], .skip, 0, 0, 0, 0⟩
def dstN (o : Oper) : Nat := match o.dst with
  | some d => d
  | none => 0
def itN (o : Oper) : Nat := match o.op with
  | .next (.tmp d) _ => d
  | _ => 0
/-- The parts of a round, out of its text. -/
def rangeOf (c : Code) : RangeCode := match c with
  | .seq (.region r3 ops3 _) (.seq (.cond (.tmp x) _ (.exit id)) (.block id2 (.seq (.region r4 R4 _) rest))) => (match ops3.toList with
    | [o1, o2] => (match R4.toList with
      | e1 :: es4 => ⟨itN o1, dstN o1, x, dstN e1, o1, o2, e1, es4, R4, rest, id, id2, r3, r4⟩
      | [] => noRange)
    | _ => noRange)
  | _ => noRange
end
end Go.Ev
