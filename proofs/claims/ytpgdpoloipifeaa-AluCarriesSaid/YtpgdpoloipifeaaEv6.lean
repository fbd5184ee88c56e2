/- The soundness of the reckoning: what it answers is what each run of the code comes to. -/
import Derived.Test.YtpgdpoloipifeaaEvC
import Derived.Test.YtpgdpoloipifeaaEvR
import Derived.LoopN
namespace Go.Ev
set_option linter.unusedVariables false
set_option linter.unusedSimpArgs false
open Go

section
variable {P : Program} {X : Ext}

theorem setSel_set : ∀ {xs : List Int} {i j v : Int}, j ≤ i → i < j + (xs.length : Int) → setSel i v j xs = xs.set (i - j).toNat v
  | [], i, j, v, h, h' => by simp at h'; omega
  | x :: l, i, j, v, h, h' => by
    simp only [setSel]
    by_cases e : i = j
    · subst e
      have rest : ∀ (l : List Int) (j' : Int), i < j' → setSel i v j' l = l := by
        intro l
        induction l with
        | nil => intro j' _; rfl
        | cons y l ih =>
          intro j' hj
          have hb : (i == j') = false := by simpa using (show i ≠ j' by omega)
          simp only [setSel, hb, cond_false]
          rw [ih (j' + 1) (by omega)]
      rw [rest l (i + 1) (by omega)]
      simp
    · have hb : (i == j) = false := by simpa using e
      rw [hb, cond_false, setSel_set (i := i) (j := j + 1) (by omega) (by simp only [List.length_cons] at h'; omega)]
      rw [show (i - j).toNat = (i - (j + 1)).toNat + 1 by omega]
      simp

theorem storePix_sound {R : Type} {T : TypeId} {b off len : Nat} {i : Int} {xv : Sv} {m : List SObj} {k : List SObj → Option R} {r : R} (h : storePix P T b off len i xv m k = some r) : ∃ o, k (m.set b o) = some r ∧
    ∀ ρ own w va vx, den ρ (.pix b off len i) = some va → den ρ xv = some vx → Rep X ρ own m w → ∃ w', (Instr.storeAt T va vx).run P w = .ok () w' ∧ To ρ own w ρ own w' ∧ Rep X ρ own (m.set b o) w' := by
  unfold storePix at h
  split at h
  · rename_i cs e hm
    split at h
    · rename_i q v
      split at h
      · rename_i sg hsg
        split at h
        · rename_i q' xs hxs
          obtain ⟨hb, h9⟩ := cond_some h
          clear h
          simp only [Bool.and_eq_true] at hb
          have hq := of_decide_eq_true hb.2
          subst hq
          split at h9
          · rename_i cs' hcs
            refine ⟨_, h9, fun ρ own w va vx hva hvx hr => ?_⟩
            obtain ⟨hbd, g, hg, rfl⟩ := den_pix hva
            have := den_vv hvx; subst this
            obtain ⟨g', hg', hown, lc, hlc, hh⟩ := hr.obj b _ hm rfl
            rw [hg] at hg'; simp at hg'; subst hg'
            have h1 := seg_den off len hlc hsg
            have h2 := intsOf_map hxs
            have h3 := denL_length h1.1
            rw [h2] at h1 h3
            simp only [List.length_map, List.length_take, List.length_drop] at h3
            have hxl : xs.length = len := by omega
            have dm : ∀ zs : List Int, denL ρ (zs.map fun x => Sv.v (.int q x)) = some (zs.map fun x => Value.int q x) := fun zs => by
              have := denL_v ρ (zs.map fun x => Value.int q x)
              rw [List.map_map] at this; exact this
            obtain ⟨h4, h5⟩ := setSeg_den off hlc (dm _) hcs
            rw [dm xs] at h1
            have h6 := Option.some.inj h1.1
            have hs := setSel_set (xs := xs) (i := i) (j := 0) (v := v) (by omega) (by omega)
            rw [Int.sub_zero] at hs
            -- the new row is the old one with one cell turned
            have hrow : lc.take off ++ (setSel i v 0 xs).map (fun x => Value.int q x) ++ lc.drop (off + ((setSel i v 0 xs).map (fun x => Value.int q x)).length) = lc.take (off + i.toNat) ++ [.int q v] ++ lc.drop (off + i.toNat + 1) := by
              rw [hs, List.map_set, h6, List.length_set, ← h6, List.length_map, hxl, h6]
              apply List.ext_getElem?
              intro j
              have hlen : off + len ≤ lc.length := h1.2
              simp only [List.getElem?_append, List.length_take, List.length_append, List.length_set, List.length_drop, List.length_cons, List.length_nil, List.getElem?_take, List.getElem?_drop, List.getElem?_set]
              rcases Nat.lt_trichotomy j (off + i.toNat) with hj | hj | hj
              · by_cases hj1 : j < off
                · simp [show j < min off lc.length by omega, show j < min (off + i.toNat) lc.length by omega, hj1, hj, show j < min off lc.length + min len (lc.length - off) by omega, show j < min (off + i.toNat) lc.length + (0 + 1) by omega]
                · simp [show ¬ j < min off lc.length by omega, show j < min (off + i.toNat) lc.length by omega, hj, show j < min off lc.length + min len (lc.length - off) by omega, show j < min (off + i.toNat) lc.length + (0 + 1) by omega, show ¬ i.toNat = j - min off lc.length by omega, show j - min off lc.length < len by omega, show off + (j - min off lc.length) = j by omega]
              · subst hj
                simp [show ¬ off + i.toNat < min off lc.length by omega, show ¬ off + i.toNat < min (off + i.toNat) lc.length by omega, show off + i.toNat < min off lc.length + min len (lc.length - off) by omega, show off + i.toNat < min (off + i.toNat) lc.length + (0 + 1) by omega, (eq_true (show i.toNat = off + i.toNat - min off lc.length by omega)), show off + i.toNat - min (off + i.toNat) lc.length = 0 by omega, show i.toNat < len by omega, show i.toNat < lc.length - off by omega]
                omega
              · by_cases hj1 : j < off + len
                · simp [show ¬ j < min off lc.length by omega, show ¬ j < min (off + i.toNat) lc.length by omega, show j < min off lc.length + min len (lc.length - off) by omega, show ¬ j < min (off + i.toNat) lc.length + (0 + 1) by omega, show ¬ i.toNat = j - min off lc.length by omega, show j - min off lc.length < len by omega, show off + (j - min off lc.length) = j by omega, show off + i.toNat + 1 + (j - (min (off + i.toNat) lc.length + (0 + 1))) = j by omega]
                · simp [show ¬ j < min (off + i.toNat) lc.length by omega, show ¬ j < min off lc.length + min len (lc.length - off) by omega, show ¬ j < min (off + i.toNat) lc.length + (0 + 1) by omega, show off + len + (j - (min off lc.length + min len (lc.length - off))) = j by omega, show off + i.toNat + 1 + (j - (min (off + i.toNat) lc.length + (0 + 1))) = j by omega]
            obtain ⟨ht, hr'⟩ := hr.setRow hm hg h4
            rw [hrow] at ht hr'
            have hi : ∃ ii, P.info? T = some ii ∧ ii.size = 1 := by
              have hb := hb.1
              unfold sizeS at hb
              split at hb
              · rename_i ii hi; exact ⟨ii, hi, by have := Nat.eq_of_beq_eq_true hb; omega⟩
              · cases hb
            obtain ⟨ii, hi, his⟩ := hi
            have hst := setRow_seg (P := P) hh (off + i.toNat) (xs := [.int q v]) (by simp; omega) (by intro v hv; simp at hv; subst hv; rfl)
            refine ⟨_, ?_, ht, hr'⟩
            simp [Instr.storeAt, Instr.sureAddr, storeVar, run_sizeOf w hi, his, Value.cells, hst]
          · cases h9
        · cases h
      · cases h
    · cases h
  · rename_i q e n F hm
    obtain ⟨o, h1, h2⟩ := storeArr_sound (X := X) h hm
    refine ⟨o, h1, fun ρ own w va vx hva hvx hr => ?_⟩
    obtain ⟨hbd, g, hg, rfl⟩ := den_pix hva
    exact h2 ρ own w g (off + i.toNat) vx (offI_cast off hbd.1) hg hvx hr
  · rename_i c cs e hm
    split at h
    · rename_i q v
      split at h
      · rename_i sg hsg
        split at h
        · rename_i q' xs hxs
          obtain ⟨hb, h9⟩ := cond_some h
          clear h
          simp only [Bool.and_eq_true] at hb
          have hq := of_decide_eq_true hb.2
          subst hq
          split at h9
          · rename_i cs' hcs
            refine ⟨_, h9, fun ρ own w va vx hva hvx hr => ?_⟩
            obtain ⟨hbd, g, hg, rfl⟩ := den_pix hva
            have := den_vv hvx; subst this
            obtain ⟨g', hg', hown, lc, l2, fr, hlc, hcap, hfr, hh⟩ := hr.obj b _ hm rfl
            rw [hg] at hg'; simp at hg'; subst hg'
            have h1 := seg_den off len hlc hsg
            have h2 := intsOf_map hxs
            have h3 := denL_length h1.1
            rw [h2] at h1 h3
            simp only [List.length_map, List.length_take, List.length_drop] at h3
            have hxl : xs.length = len := by omega
            have dm : ∀ zs : List Int, denL ρ (zs.map fun x => Sv.v (.int q x)) = some (zs.map fun x => Value.int q x) := fun zs => by
              have := denL_v ρ (zs.map fun x => Value.int q x)
              rw [List.map_map] at this; exact this
            obtain ⟨h4, h5⟩ := setSeg_den off hlc (dm _) hcs
            rw [dm xs] at h1
            have h6 := Option.some.inj h1.1
            have hs := setSel_set (xs := xs) (i := i) (j := 0) (v := v) (by omega) (by omega)
            rw [Int.sub_zero] at hs
            have hil : i.toNat < len := by omega
            have hrow : lc.take off ++ (setSel i v 0 xs).map (fun x => Value.int q x) ++ lc.drop (off + ((setSel i v 0 xs).map (fun x => Value.int q x)).length) = lc.set (off + i.toNat) (.int q v) := by
              have e1 : (setSel i v 0 xs).map (fun x => Value.int q x) = ((lc.drop off).take len).set i.toNat (.int q v) := by rw [hs, List.map_set, h6]
              have e2 : (((lc.drop off).take len).set i.toNat (Value.int q v)).length = len := by simp; omega
              rw [e1, e2]
              apply List.ext_getElem?
              intro j
              have hlen : off + len ≤ lc.length := h1.2
              have hto : min off lc.length = off := by omega
              have htl : min len (lc.length - off) = len := by omega
              rw [List.append_assoc, List.getElem?_append, List.length_take, hto, List.getElem?_append, List.length_set, List.length_take, List.length_drop, htl, List.getElem?_set, List.getElem?_set]
              by_cases hj1 : j < off
              · rw [if_pos hj1, List.getElem?_take, if_pos hj1, if_neg (by omega)]
              · rw [if_neg hj1]
                by_cases hj2 : j - off < len
                · rw [if_pos hj2, List.length_take, List.length_drop, htl]
                  by_cases hj3 : off + i.toNat = j
                  · have : i.toNat = j - off := by omega
                    rw [if_pos this, if_pos hj3]; simp [hil]; omega
                  · have : ¬ i.toNat = j - off := by omega
                    rw [if_neg this, if_neg hj3, List.getElem?_take, if_pos hj2, List.getElem?_drop]
                    congr 1; omega
                · rw [if_neg hj2, if_neg (by omega), List.getElem?_drop]
                  congr 1; omega
            rw [hrow] at h4
            obtain ⟨ii, hi, his⟩ := sizeS_info hb.1
            have hlt : off + i.toNat < lc.length := by have := h1.2; omega
            have hst := run_storeCells_fr (P := P) g (off + i.toNat) e fr [.int q v] 0 (lc ++ l2).toArray w hh (by simpa using hfr) (by simp; omega) (by intro v hv; simp at hv; subst hv; rfl)
            have hset : ((lc ++ l2).toArray.toList.take (off + i.toNat + 0) ++ [Value.int q v] ++ (lc ++ l2).toArray.toList.drop (off + i.toNat + 0 + [Value.int q v].length)) = lc.set (off + i.toNat) (.int q v) ++ l2 := by
              simp only [Nat.add_zero, List.length_cons, List.length_nil, Nat.zero_add]
              rw [← List.set_append_left _ _ hlt, List.set_eq_take_append_cons_drop, if_pos (by simp; omega)]
              simp
            rw [hset] at hst
            obtain ⟨ht, hr'⟩ := hr.setRow' (cs := (lc.set (off + i.toNat) (.int q v) ++ l2).toArray) hg hown (.buf c cs' e)
              ⟨hown, lc.set (off + i.toNat) (.int q v), l2, fr, h4, by simpa using hcap, by simpa using hfr, setRow_heap w g _ _ e _ hh⟩
            exact ⟨_, by simp [Instr.storeAt, Instr.sureAddr, storeVar, run_sizeOf w hi, his, Value.cells, hst], ht, hr'⟩
          · cases h9
        · cases h
      · cases h
    · cases h
  · cases h

theorem fresh_find {ρ : List Un} {q : IntKind} {a : Int} : ∀ {i : Nat} {es : List (Int × Sv)} {l : List MapEntry} (j : Nat), entsAt ρ q i es l → fresh a es = true → Instr.findNow (.int q) (.int q a) l j = some none
  | i, [], l, j, h, _ => by simp only [entsAt] at h; subst h; rfl
  | i, (b, t) :: es, l, j, ⟨u, l', h1, h2, h3⟩, hf => by
    subst h1
    simp only [fresh, Bool.and_eq_true, Bool.not_eq_true'] at hf
    simp only [Instr.findNow, Instr.sameNow, if_true, hf.1]
    exact fresh_find (j + 1) h3 hf.2
theorem insS_perm (x : Int × Sv) : ∀ es : List (Int × Sv), (insS x es).Perm (es ++ [x])
  | [] => by simp [insS]
  | y :: es => by
    simp only [insS]
    cases decide (x.1 < y.1)
    · simp only [cond_false, List.cons_append]; exact (insS_perm x es).cons y
    · simp only [cond_true]
      exact (List.perm_append_comm (l₁ := [x]) (l₂ := y :: es))
theorem fresh_mem {a : Int} : ∀ {es : List (Int × Sv)}, fresh a es = true ↔ ∀ p ∈ es, (a == p.1) = false
  | [] => by simp [fresh]
  | (b, s) :: es => by simp [fresh, fresh_mem (es := es)]
theorem fresh_perm {a : Int} {es es' : List (Int × Sv)} (hp : es'.Perm es) (h : fresh a es = true) : fresh a es' = true :=
  fresh_mem.2 fun p hm => fresh_mem.1 h p (hp.mem_iff.1 hm)

theorem run_insert {T : TypeId} {q : IntKind} {a : Int} {b : Nat} {m : List SObj} {es : List (Int × Sv)} (hk : keyKind P T q = true) (hm : m[b]? = some (.pm q es)) (hf : fresh a es = true) {xv : Sv} {ρ : List Un} {own : Nat → Option Nat} {w : World} {vm vx : Value}
    (hvm : den ρ (.mp b) = some vm) (hvx : den ρ xv = some vx) (hr : Rep X ρ own m w) :
    ∃ w', (Instr.mapUpdate T vm (.int q a) vx).run P w = .ok () w' ∧ To ρ own w ρ own w' ∧ Rep X ρ own (m.set b (.pm q (insS (a, xv) es))) w' := by
  obtain ⟨kt, et, hu, huk⟩ := keyKind_spec hk
  obtain ⟨g, hg, rfl⟩ := den_mp hvm
  obtain ⟨g', hg', hown, es', l, hp, hl, hh⟩ := hr.obj b _ hm rfl
  rw [hg] at hg'; simp at hg'; subst hg'
  have hlt : g < w.heap.size := (hr.lt g b hown).1
  have hfind := fresh_find 0 hl (fresh_perm hp hf)
  have hrun : (Instr.mapUpdate T (.map (some g)) (.int q a) vx).run P w = .ok () (putBlock w g (.map (l.toArray.push { key := .int q a, val := vx, born := es.length }) (es.length + 1))) := by
    have hset : ∀ o, (setObj g o).run P w = .ok () (putBlock w g o) := fun o => by simp [setObj, Sem.run, hh, putBlock]
    have hget : (getObj g).run P w = .ok (.map l.toArray es.length) w := MapKept.run_getObj_map hh
    have hck : (Instr.checkKey false 10000 kt (.int q a)).run P w = .ok () w := MapKept.run_checkKey huk (by simp [MapKept.IsKey]) false 9999
    have hfk : (Instr.findKey kt (.int q a) l).run P w = .ok none w := MapKept.run_findKey huk hfind
    simp only [Instr.mapUpdate, Sem.run_bind, run_underlying hu, Result.andThen_ok, hget, hck, hfk, hset]
  refine ⟨_, hrun, ?_⟩
  have hlen := hp.length_eq
  refine hr.putObj hg hown _ _ ⟨hown, es' ++ [(a, xv)], l ++ [{ key := .int q a, val := vx, born := es.length }], ?_, ?_, ?_⟩
  · exact (hp.append_right _).trans (insS_perm (a, xv) es).symm
  · have := hl.snoc (a := a) hvx
    rw [Nat.zero_add, hlen] at this
    exact this
  · rw [putBlock_same _ _ _ hlt]
    have : (insS (a, xv) es).length = es.length + 1 := by rw [(insS_perm (a, xv) es).length_eq]; simp
    rw [this]; simp

theorem updS_sound {R : Type} {T : TypeId} {mv kv xv : Sv} {m : List SObj} {k : Nat → List SObj → Option R} {r : R} (h : updS P T mv kv xv m k = some r) : ∃ b q a es, mv = .mp b ∧ kv = .v (.int q a) ∧ m[b]? = some (.pm q es) ∧ keyKind P T q = true ∧ fresh a es = true ∧
    k b (m.set b (.pm q (insS (a, xv) es))) = some r := by
  unfold updS at h
  split at h
  · rename_i b
    split at h
    · rename_i q a
      split at h
      · rename_i q' es hm
        obtain ⟨hb, h9⟩ := cond_some h
        clear h
        simp only [Bool.and_eq_true] at hb
        obtain ⟨hk, hq, hf⟩ := hb
        have hq := of_decide_eq_true hq
        subst hq
        exact ⟨b, _, a, es, rfl, rfl, hm, hk, hf, h9⟩
      · cases h
    · cases h
  · cases h

theorem mkS_sound {R : Type} {T : TypeId} {m : List SObj} {k : Sv → List SObj → Option R} {r : R} (h : mkS P T m k = some r) : ∃ o, k (.mp m.length) (m ++ [o]) = some r ∧
    ∀ ρ own w, Rep X ρ own m w → ∃ own', (Instr.makeMap T none).run P w = .ok (.map (some w.heap.size)) (w.alloc (.map #[] 0)) ∧ To ρ own w (ρ ++ [.blk w.heap.size]) own' (w.alloc (.map #[] 0)) ∧ Rep X (ρ ++ [.blk w.heap.size]) own' (m ++ [o]) (w.alloc (.map #[] 0)) := by
  unfold mkS at h
  split at h
  · rename_i kt et hu
    split at h
    · rename_i q hk
      split at h
      · rename_i he
        refine ⟨_, h, fun ρ own w hr => ?_⟩
        obtain ⟨own', ht, hr'⟩ := hr.allocObj (.map #[] 0) (.bm q .u8 (fun _ => 0)) fun own' ho => ⟨ho, [], 0, fun e he => by simp at he, fun a => rfl, heap_alloc_new w _⟩
        exact ⟨own', rfl, ht, hr'⟩
      · refine ⟨_, h, fun ρ own w hr => ?_⟩
        obtain ⟨own', ht, hr'⟩ := hr.allocObj (.map #[] 0) (.pm q []) fun own' ho => ⟨ho, [], [], List.Perm.refl _, rfl, heap_alloc_new w _⟩
        exact ⟨own', rfl, ht, hr'⟩
    · cases h
  · cases h

theorem updB_sound {R : Type} {T : TypeId} {mv kv xv : Sv} {m : List SObj} {k : List SObj → Option R} {r : R} (h : updB P T mv kv xv m k = some r) : ∃ m', k m' = some r ∧
    ∀ ρ own w vm vk vx, den ρ mv = some vm → den ρ kv = some vk → den ρ xv = some vx → Rep X ρ own m w → ∃ w', (Instr.mapUpdate T vm vk vx).run P w = .ok () w' ∧ To ρ own w ρ own w' ∧ Rep X ρ own m' w' := by
  unfold updB at h
  split at h
  · rename_i b
    split at h
    · rename_i q qe M hm
      split at h
      · rename_i q' a qe' v
        obtain ⟨hb, h9⟩ := cond_some h
        clear h
        simp only [Bool.and_eq_true] at hb
        obtain ⟨hk, hq, hqe⟩ := hb
        have hq := of_decide_eq_true hq
        have hqe := of_decide_eq_true hqe
        subst hq hqe
        obtain ⟨kt, et, hu, huk⟩ := keyKind_spec hk
        refine ⟨_, h9, fun ρ own w vm vk vx hvm hvk hvx hr => ?_⟩
        obtain ⟨g, hg, rfl⟩ := den_mp hvm
        have := den_vv hvk; subst this
        have := den_vv hvx; subst this
        obtain ⟨g', hg', hown, l, clk, h1, h2, h3⟩ := hr.obj b _ hm rfl
        rw [hg] at hg'; simp at hg'; subst hg'
        have hlt : g < w.heap.size := (hr.lt g b hown).1
        have hset : ∀ o, (setObj g o).run P w = .ok () (putBlock w g o) := fun o => by simp [setObj, Sem.run, h3, putBlock]
        have hget : (getObj g).run P w = .ok (.map l.toArray clk) w := MapKept.run_getObj_map h3
        have hck : (Instr.checkKey false 10000 kt (.int q' a)).run P w = .ok () w := MapKept.run_checkKey huk (by simp [MapKept.IsKey]) false 9999
        have hfind := find_upd (v := v) (nw := ⟨.int q' a, .int qe' v, clk⟩) ⟨rfl, rfl⟩ (fun e => { e with key := .int q' a, val := .int qe' v }) (fun _ => ⟨rfl, rfl⟩) 0 h1 (a := a)
        rcases hfind with ⟨f1, _, f3⟩ | ⟨j, e, f1, f2, f3, _, f5⟩
        · have hfk : (Instr.findKey kt (.int q' a) l).run P w = .ok none w := MapKept.run_findKey huk f1
          refine ⟨putBlock w g (.map (l.toArray.push { key := .int q' a, val := .int qe' v, born := clk }) (clk + 1)), by simp only [Instr.mapUpdate, Sem.run_bind, run_underlying hu, Result.andThen_ok, hget, hck, hfk, hset], ?_⟩
          refine hr.putObj hg hown _ _ ⟨hown, l ++ [⟨.int q' a, .int qe' v, clk⟩], clk + 1, ?_, ?_, ?_⟩
          · intro e he
            rcases List.mem_append.1 he with he | he
            · exact h1 e he
            · simp at he; subst he; exact ⟨a, v, rfl, rfl⟩
          · intro x; rw [f3 x, h2 x]; rfl
          · rw [putBlock_same _ _ _ hlt]; simp
        · have hfk : (Instr.findKey kt (.int q' a) l).run P w = .ok (some (0 + j, e.val)) w := MapKept.run_findKey huk f1
          have hks : (Instr.keyThatStays (.int q' a) (.int q' a)).run P w = .ok (.int q' a) w := by simp [Instr.keyThatStays, Instr.sameBits]
          refine ⟨putBlock w g (.map (l.toArray.modify j fun e => { e with key := .int q' a, val := .int qe' v }) clk), ?_, ?_⟩
          · simp only [Instr.mapUpdate, Sem.run_bind, run_underlying hu, Result.andThen_ok, hget, hck, hfk]
            have hkey : ((l.toArray[0 + j]?.map (·.key)).getD (.int q' a)) = .int q' a := by simp [f2, f3]
            rw [hkey]
            simp only [hks, Result.andThen_ok, hset, Nat.zero_add]
          · refine hr.putObj hg hown _ _ ⟨hown, l.modify j fun e => { e with key := .int q' a, val := .int qe' v }, clk, ?_, ?_, ?_⟩
            · intro e' he'
              obtain ⟨i, hi⟩ := List.getElem?_of_mem he'
              rw [List.getElem?_modify] at hi
              by_cases hij : j = i
              · subst hij
                simp [f2] at hi
                subst hi; exact ⟨a, v, rfl, rfl⟩
              · simp [hij] at hi
                exact h1 e' (List.mem_of_getElem? hi)
            · intro x; rw [f5 x, h2 x]; rfl
            · rw [putBlock_same _ _ _ hlt]; simp
      · cases h
    · rename_i q a es clk p nw hm
      split at h
      · rename_i q' a'
        split at h
        · obtain ⟨hb, h9⟩ := cond_some h
          clear h
          simp only [Bool.and_eq_true, beq_iff_eq] at hb
          obtain ⟨hk, hq, ha⟩ := hb
          have hq := of_decide_eq_true hq
          subst hq ha
          obtain ⟨kt, et, hu, huk⟩ := keyKind_spec hk
          refine ⟨_, h9, fun ρ own w vm vk vx hvm hvk hvx hr => ?_⟩
          obtain ⟨g, hg, rfl⟩ := den_mp hvm
          have := den_vv hvk; subst this
          obtain ⟨g', hg', hown, h1⟩ := hr.obj b _ hm rfl
          rw [hg] at hg'; simp at hg'; subst hg'
          unfold m1At at h1
          obtain ⟨_, hf, hh⟩ := h1
          have hlt : g < w.heap.size := (hr.lt g b hown).1
          have hset : ∀ o, (setObj g o).run P w = .ok () (putBlock w g o) := fun o => by simp [setObj, Sem.run, hh, putBlock]
          have hget : (getObj g).run P w = .ok (.map es.toArray clk) w := MapKept.run_getObj_map hh
          have hck : (Instr.checkKey false 10000 kt (.int q' a')).run P w = .ok () w := MapKept.run_checkKey huk (by simp [MapKept.IsKey]) false 9999
          have hfk : (Instr.findKey kt (.int q' a') es).run P w = .ok none w := MapKept.run_findKey huk hf
          refine ⟨putBlock w g (.map (es.toArray.push { key := .int q' a', val := vx, born := clk }) (clk + 1)), by simp only [Instr.mapUpdate, Sem.run_bind, run_underlying hu, Result.andThen_ok, hget, hck, hfk, hset], ?_⟩
          refine hr.putObj hg hown _ _ ⟨hown, ?_⟩
          rw [putBlock_same _ _ _ hlt]
          unfold m1At
          exact ⟨vx, hvx, .inr ⟨rfl, hf, clk + 1, clk, by simp⟩⟩
        · cases h
      · cases h
    · obtain ⟨b', q, a, es, e1, e2, hm, hk, hf, h9⟩ := updS_sound h
      refine ⟨_, h9, fun ρ own w vm vk vx hvm hvk hvx hr => ?_⟩
      rw [e1] at hvm
      rw [e2] at hvk
      have := den_vv hvk; subst this
      exact run_insert hk hm hf hvm hvx hr
  · cases h

/-! ### Floats -/
theorem fopS_spec {op : BinOp} {x y : Sv} {a b : Nat} (h : fopS op x y = some (a, b)) : x = .v (.float .f64 a) ∧ y = .v (.float .f64 b) ∧ ∀ xT, binOp op xT (.float .f64 a) (.float .f64 b) = Op.floatArith op .f64 a b := by
  unfold fopS at h
  split at h
  · split at h <;> first
      | (cases h; done)
      | (simp at h; obtain ⟨rfl, rfl⟩ := h; exact ⟨rfl, rfl, fun _ => rfl⟩)
  · cases h
theorem floatArith_ok {op : BinOp} {a b : Nat} (h : fok op a b = true) (w : World) : (Op.floatArith op .f64 a b).run P w = .ok (.float .f64 (fval op a b)) w := by
  unfold fok floatBits at h
  unfold fval floatBits
  cases op <;> simp only [Option.isSome_none, Bool.false_eq_true] at h <;>
    (obtain ⟨r, hr⟩ := Option.isSome_iff_exists.1 h; simp [Op.floatArith, hr])
theorem nan_bits (t : Nat) (x y : Nat) : (Ieee.double.read (Question.cut (.nanBits .f64 x y) t)).isNaN = true := by
  have h1 : t % 2 < 2 := Nat.mod_lt _ (by omega)
  have h2 : (t / 2) % (2 ^ 52 - 1) < 2 ^ 52 - 1 := Nat.mod_lt _ (by decide)
  simp only [Question.cut]
  generalize t % 2 = s at h1
  generalize (t / 2) % (2 ^ 52 - 1) = f at h2
  have hs : s = 0 ∨ s = 1 := by omega
  have e0 : Ieee.double.signWeight = 9223372036854775808 := by decide
  have e1 : Ieee.double.binade = 4503599627370496 := by decide
  have e2 : Ieee.double.infRung = 9218868437227405312 := by decide
  have h3 : (s * 2 ^ 63 + 0x7ff0000000000000 + 1 + f) % Ieee.double.signWeight = 9218868437227405313 + f := by rw [e0]; omega
  unfold Ieee.Format.read
  simp only [h3, e1, e2]
  rw [if_neg (by omega), if_neg (by omega), if_neg (by omega)]
  rfl
theorem floatArith_nan {op : BinOp} {x y : Sv} {a b : Nat} (hf : fopS op x y = some (a, b)) (h : fok op a b = false) (w : World) :
    ∃ z, (Ieee.double.read z).isNaN = true ∧ (Op.floatArith op .f64 a b).run P w = .ok (.float .f64 z) { w with drawn := w.drawn + 1 } := by
  refine ⟨_, nan_bits (w.tape w.drawn (.nanBits .f64 a b)) a b, ?_⟩
  have hop : op = .add ∨ op = .sub ∨ op = .mul ∨ op = .quo := by
    unfold fopS at hf
    split at hf
    · split at hf <;> first | (cases hf; done) | simp
    · cases hf
  unfold fok floatBits at h
  rcases hop with rfl | rfl | rfl | rfl <;> simp only [Option.isSome_eq_false_iff, Option.isNone_iff_eq_none] at h <;>
    simp [Op.floatArith, h, choose, Sem.run, Question.forced]

theorem eop_sound {R : Type} {E : CallE R} (hE : EOk P X E) {wide : FuncId → Bool} {o : Oper} {t : List Sv} {m : List SObj} {k : Sv → List SObj → Option R} {kp : List PanicEntry → List SObj → Option R} {r : R}
    (h : eop P wide E o t m k kp = some r) : (∃ x m', k x m' = some r ∧ OpR P X o t m x m') ∨ (∃ ch m', kp ch m' = some r ∧ OpP P X o t m ch m') := by
  have G : ∀ {ρ : List Un} {l : List Value} {ds : List Deferred}, denL ρ t = some l → ∀ x, den ρ (get t x) = some (Act.eval ⟨l.toArray, ds⟩ x) := fun hl x => get_den hl x
  unfold eop at h
  split at h
  · rename_i e ho
    split at h
    · rename_i z hz
      split at h
      · rename_i q n hbz
        refine .inl ⟨_, _, h, fun ρ own w l ds K Q hl hr hK => ?_⟩
        obtain ⟨i, zv, hi, hzv, hden⟩ := zeroS_sound hz ρ
        obtain ⟨hz1, hz2⟩ := zerosGo_spec (bigZ_spec hbz) hden
        obtain ⟨own', ht, hr'⟩ := hr.allocObj (.cells zv.cells e) (.arr q e n fun _ => 0) fun own' ho => ⟨ho, zv.cells.toList, by omega, hz2, by rw [heap_alloc_new]⟩
        unfold Oper.wp
        have : (execOp (Act.eval ⟨l.toArray, ds⟩) o).run P w = .ok (.value (.pointer (some ⟨w.heap.size, 0, none⟩))) (w.alloc (.cells zv.cells e)) := by
          simp [execOp, ho, Instr.alloc, zeroValue, typeInfo, hi, hzv, newVar, newRow]
        rw [this]
        refine hK _ own' _ _ ht ?_ hr'
        simp only [den, ← hr.len]
        simp
      refine .inl ⟨_, _, h, fun ρ own w l ds K Q hl hr hK => ?_⟩
      obtain ⟨i, zv, hi, hzv, hden⟩ := zeroS_sound hz ρ
      obtain ⟨own', ht, hr'⟩ := hr.alloc (e := e) hden
      have e1 : zv.cells.toList.toArray = zv.cells := by simp
      rw [e1] at ht hr'
      unfold Oper.wp
      have : (execOp (Act.eval ⟨l.toArray, ds⟩) o).run P w = .ok (.value (.pointer (some ⟨w.heap.size, 0, none⟩))) (w.alloc (.cells zv.cells e)) := by
        simp [execOp, ho, Instr.alloc, zeroValue, typeInfo, hi, hzv, newVar, newRow]
      rw [this]
      refine hK _ own' _ _ ht ?_ hr'
      simp only [den, ← hr.len]
      simp
    · cases h
  · rename_i e x ho
    split at h
    · rename_i q n hbb
      refine .inl ⟨_, _, h, fun ρ own w l ds K Q hl hr hK => ?_⟩
      unfold bigB at hbb
      split at hbb
      · rename_i cs hc
        have hx := G (ds := ds) hl x
        rw [hc] at hx
        obtain ⟨lx, hlx, hx⟩ := den_agg hx
        obtain ⟨hz1, hz2⟩ := zerosGo_spec (bigZ_spec hbb) hlx
        obtain ⟨own', ht, hr'⟩ := hr.allocObj (.cells lx.toArray e) (.arr q e n fun _ => 0) fun own' ho => ⟨ho, lx, by omega, hz2, by rw [heap_alloc_new]⟩
        unfold Oper.wp
        have : (execOp (Act.eval ⟨l.toArray, ds⟩) o).run P w = .ok (.value (.pointer (some ⟨w.heap.size, 0, none⟩))) (w.alloc (.cells lx.toArray e)) := by
          simp [execOp, ho, Instr.box, newVar, newRow, hx, Value.cells]
        rw [this]
        refine hK _ own' _ _ ht ?_ hr'
        simp only [den, ← hr.len]
        simp
      · cases hbb
    split at h
    · rename_i cs hc
      refine .inl ⟨_, _, h, fun ρ own w l ds K Q hl hr hK => ?_⟩
      obtain ⟨lc, h1, h2, h3⟩ := cellsS_sound hc (G (ds := ds) hl x)
      obtain ⟨own', ht, hr'⟩ := hr.alloc (e := e) h1
      unfold Oper.wp
      have : (execOp (Act.eval ⟨l.toArray, ds⟩) o).run P w = .ok (.value (.pointer (some ⟨w.heap.size, 0, none⟩))) (w.alloc (.cells lc.toArray e)) := by
        simp [execOp, ho, Instr.box, newVar, newRow, h2]
      rw [this]
      refine hK _ own' _ _ ht ?_ hr'
      simp only [den, ← hr.len]
      simp
    · cases h
  · rename_i T vl vc ho
    obtain ⟨x, ob, h1, h2⟩ := mkRow_sound (X := X) h
    refine .inl ⟨_, _, h1, fun ρ own w l ds K Q hl hr hK => ?_⟩
    obtain ⟨ρ', own', w', v, hrun, ht, hd, hr'⟩ := h2 ρ own w _ _ (G (ds := ds) hl vl) (G (ds := ds) hl vc) hr
    unfold Oper.wp
    have : (execOp (Act.eval ⟨l.toArray, ds⟩) o).run P w = .ok (.value v) w' := by
      simp only [execOp, ho, Sem.run_bind, hrun, Result.andThen_ok, Sem.run_pure]
    rw [this]
    exact hK _ own' _ _ ht hd hr'
  · rename_i src dst x ho
    split at h
    · split at h
      · rename_i s hc
        obtain ⟨x', m', h1, h2⟩ := toBytes_sound (X := X) h
        refine .inl ⟨_, _, h1, fun ρ own w l ds K Q hl hr hK => ?_⟩
        obtain ⟨ρ', own', w', v, hrun, ht, hd, hr'⟩ := h2 ρ own w hr
        have hx := G (ds := ds) hl x
        rw [hc] at hx
        have hx := den_vv hx
        unfold Oper.wp
        have : (execOp (Act.eval ⟨l.toArray, ds⟩) o).run P w = .ok (.value v) w' := by
          simp only [execOp, ho, Sem.run_bind, hx, hrun, Result.andThen_ok, Sem.run_pure]
        rw [this]
        exact hK _ own' _ _ ht hd hr'
      · cases h
    · obtain ⟨x, h1, h2⟩ := opR_of_qop hE h
      exact .inl ⟨x, m, h1, h2⟩
  · rename_i T len parts ho
    split at h
    · rename_i e hu
      split at h
      · rename_i ie hie
        split at h
        · rename_i z hz
          obtain ⟨hb, h⟩ := cond_some h
          split at h
          · rename_i cs hf
            refine .inl ⟨_, _, h, fun ρ own w l ds K Q hl hr hK => ?_⟩
            obtain ⟨i, zv, hi, hzv, hden⟩ := zeroS_sound hz ρ
            rw [hie] at hi; simp at hi; subst hi
            simp only [Bool.and_eq_true, Bool.not_eq_true'] at hb
            have hle := Nat.le_of_ble_eq_true hb.1
            have hsz : ie.size ≠ 0 := fun e => by have h2 := hb.2.1; rw [e] at h2; cases h2
            have hzl := Nat.eq_of_beq_eq_true hb.2.2
            have hzl' : zv.cells.toList.length = ie.size := by rw [denL_length hden]; exact hzl
            have hp : ∀ (j : Nat) (p : Nat × Sv), (parts.toList.map fun p => (p.1, get t p.2))[j]? = some p → ∃ x, (parts.toList.map fun p => (p.1, Act.eval ⟨l.toArray, ds⟩ p.2))[j]? = some (p.1, x) ∧ den ρ p.2 = some x := by
              intro j p hj
              rw [List.getElem?_map] at hj ⊢
              cases hq : parts.toList[j]? with
              | none => simp [hq] at hj
              | some q => simp [hq] at hj; subst hj; exact ⟨_, by simp, G (ds := ds) hl q.2⟩
            obtain ⟨lo, h1, h2⟩ := fillS_sound (repl_den hden len) hp (by simp) hf
            obtain ⟨own', ht, hr'⟩ := hr.alloc (e := e) h1
            unfold Oper.wp
            have e0 : (parts.map fun (x : Nat × Operand) => (x.1, Act.eval ⟨l.toArray, ds⟩ x.2)).toList = parts.toList.map fun p => (p.1, Act.eval ⟨l.toArray, ds⟩ p.2) := by simp
            have e1 := repl_range zv.cells (by simpa using hzl') len
            have : (execOp (Act.eval ⟨l.toArray, ds⟩) o).run P w = .ok (.value (.slice (some ⟨w.heap.size, 0, none⟩) len len)) (w.alloc (.cells lo.toArray e)) := by
              have hbig : ¬ (len * ie.size > 2 ^ 24) := by omega
              by_cases h0 : len * ie.size = 0
              · have hlen0 : len = 0 := by rcases Nat.mul_eq_zero.1 h0 with h | h <;> omega
                subst hlen0
                simp only [replV] at h2
                simp [execOp, ho, Instr.buildSlice, run_underlying hu, run_sizeOf w hie, newRow]
                have e9 : Array.map (fun (x : Nat) => (default : Value)) (Array.range 0) = #[] := by simp
                rw [e9, h2]
                simp
              · simp only [execOp, ho, Instr.buildSlice, Sem.run_bind, run_underlying hu, Result.andThen_ok, run_sizeOf w hie, Sem.run_ite]
                rw [if_neg hbig, if_neg h0]
                simp only [Sem.run_bind, Sem.run_pure, Result.andThen_ok, zeroValue, typeInfo, run_program, hie, hzv]
                rw [e0, e1, h2]
                simp [newRow]
            rw [this]
            refine hK _ own' _ _ ht ?_ hr'
            simp only [den, ← hr.len]
            simp
          · cases h
        · cases h
      · cases h
    · cases h
  · rename_i T a x ho
    split at h
    · rename_i b off hc
      split at h
      · rename_i cs e hm
        split at h
        · rename_i xs hxs
          obtain ⟨hb, h⟩ := cond_some h
          split at h
          · rename_i cs' hcs
            refine .inl ⟨_, _, h, fun ρ own w l ds K Q hl hr hK => ?_⟩
            have ha := G (ds := ds) hl a
            rw [hc] at ha
            obtain ⟨g, hg, ha'⟩ := den_ptr ha
            obtain ⟨lx, h1, h2, h3⟩ := cellsS_sound hxs (G (ds := ds) hl x)
            obtain ⟨g', hg', hown, lc, hlc, hh⟩ := hr.obj b _ hm rfl
            rw [hg] at hg'; simp at hg'; subst hg'
            obtain ⟨h4, h5⟩ := setSeg_den off hlc h1 hcs
            obtain ⟨ht, hr'⟩ := hr.setRow hm hg h4
            have hlen := denL_length h1
            have hi : ∃ i, P.info? T = some i ∧ i.size = lx.length := by
              unfold sizeS at hb
              split at hb
              · rename_i i hi; exact ⟨i, hi, by have := Nat.eq_of_beq_eq_true hb; omega⟩
              · cases hb
            obtain ⟨i, hi, his⟩ := hi
            unfold Oper.wp
            have hst := setRow_seg (P := P) hh off h5 h3
            have : (execOp (Act.eval ⟨l.toArray, ds⟩) o).run P w = .ok .skip (w.setRow g (lc.take off ++ lx ++ lc.drop (off + lx.length)).toArray) := by
              simp [execOp, ho, Instr.storeAt, Instr.sureAddr, ha', storeVar, run_sizeOf w hi, h2, his, hst]
            rw [this]
            exact hK _ own _ _ ht rfl hr'
          · cases h
        · cases h
      · rename_i q e n F hm
        obtain ⟨ob, h1, h2⟩ := storeArr_sound (X := X) h hm
        refine .inl ⟨_, _, h1, fun ρ own w l ds K Q hl hr hK => ?_⟩
        have ha := G (ds := ds) hl a
        rw [hc] at ha
        obtain ⟨g, hg, ha'⟩ := den_ptr ha
        obtain ⟨w', hrun, ht, hr'⟩ := h2 ρ own w g off _ rfl hg (G (ds := ds) hl x) hr
        unfold Oper.wp
        have : (execOp (Act.eval ⟨l.toArray, ds⟩) o).run P w = .ok .skip w' := by
          simp only [execOp, ho, Sem.run_bind, ha', hrun, Result.andThen_ok, Sem.run_pure]
        rw [this]
        exact hK _ own _ _ ht rfl hr'
      · rename_i c cs e hm
        split at h
        · rename_i xs hxs
          obtain ⟨hb, h⟩ := cond_some h
          split at h
          · rename_i cs' hcs
            refine .inl ⟨_, _, h, fun ρ own w l ds K Q hl hr hK => ?_⟩
            have ha := G (ds := ds) hl a
            rw [hc] at ha
            obtain ⟨g, hg, ha'⟩ := den_ptr ha
            obtain ⟨lx, h1, h2, h3⟩ := cellsS_sound hxs (G (ds := ds) hl x)
            obtain ⟨g', hg', hown, lc, l2, fr, hlc, hcap, hfr, hh⟩ := hr.obj b _ hm rfl
            rw [hg] at hg'; simp at hg'; subst hg'
            obtain ⟨h4, h5⟩ := setSeg_den off hlc h1 hcs
            have hlen := denL_length h1
            obtain ⟨i, hi, his⟩ := sizeS_info hb
            have hst := run_storeCells_fr (P := P) g off e fr lx 0 (lc ++ l2).toArray w hh (by simpa using hfr) (by simp; omega) h3
            have hset : ((lc ++ l2).toArray.toList.take (off + 0) ++ lx ++ (lc ++ l2).toArray.toList.drop (off + 0 + lx.length)) = (lc.take off ++ lx ++ lc.drop (off + lx.length)) ++ l2 := by
              simp only [Nat.add_zero]
              rw [List.take_append_of_le_length (by omega), List.drop_append_of_le_length h5]
              simp
            rw [hset] at hst
            have hll : (lc.take off ++ lx ++ lc.drop (off + lx.length)).length = lc.length := by simp; omega
            obtain ⟨ht, hr'⟩ := hr.setRow' (cs := ((lc.take off ++ lx ++ lc.drop (off + lx.length)) ++ l2).toArray) hg hown (.buf c cs' e)
              ⟨hown, _, l2, fr, h4, by rw [hll]; exact hcap, by rw [hll]; exact hfr, setRow_heap w g _ _ e _ hh⟩
            unfold Oper.wp
            have : (execOp (Act.eval ⟨l.toArray, ds⟩) o).run P w = .ok .skip (w.setRow g ((lc.take off ++ lx ++ lc.drop (off + lx.length)) ++ l2).toArray) := by
              have e9 : i.size = lx.length := by omega
              have hst' : (storeCells ⟨g, off, none⟩ lx).run P w = .ok () (w.setRow g ((lc.take off ++ lx ++ lc.drop (off + lx.length)) ++ l2).toArray) := hst
              simp only [execOp, ho, Instr.storeAt, Instr.sureAddr, ha', storeVar, Sem.run_bind, Sem.run_pure, Result.andThen_ok, run_sizeOf w hi, h2, e9, List.size_toArray, ne_eq, not_true_eq_false, if_false, hst']
            rw [this]
            exact hK _ own _ _ ht rfl hr'
          · cases h
        · cases h
      · cases h
    · rename_i b off len ix hc
      obtain ⟨ob, h1, h2⟩ := storePix_sound (X := X) h
      refine .inl ⟨_, _, h1, fun ρ own w l ds K Q hl hr hK => ?_⟩
      have ha := G (ds := ds) hl a
      rw [hc] at ha
      obtain ⟨w', hrun, ht, hr'⟩ := h2 ρ own w _ _ ha (G (ds := ds) hl x) hr
      unfold Oper.wp
      have : (execOp (Act.eval ⟨l.toArray, ds⟩) o).run P w = .ok .skip w' := by
        simp only [execOp, ho, Sem.run_bind, hrun, Result.andThen_ok, Sem.run_pure]
      rw [this]
      exact hK _ own _ _ ht rfl hr'
    · cases h
  · rename_i T r0 ho
    split at h
    · obtain ⟨ob, h1, h2⟩ := mkS_sound (X := X) h
      refine .inl ⟨_, _, h1, fun ρ own w l ds K Q hl hr hK => ?_⟩
      obtain ⟨own', hrun, ht, hr'⟩ := h2 ρ own w hr
      unfold Oper.wp
      have : (execOp (Act.eval ⟨l.toArray, ds⟩) o).run P w = .ok (.value (.map (some w.heap.size))) (w.alloc (.map #[] 0)) := by
        simp only [execOp, ho, Sem.run_bind, Option.map_none, hrun, Result.andThen_ok, Sem.run_pure]
      rw [this]
      refine hK _ own' _ _ ht ?_ hr'
      simp only [den, ← hr.len]
      simp
    · cases h
  · rename_i T a i x ho
    obtain ⟨b, q, ka, es, e1, e2, hm, hk, hf, h1⟩ := updS_sound h
    refine .inl ⟨_, _, h1, fun ρ own w l ds K Q hl hr hK => ?_⟩
    have g1 := G (ds := ds) hl a
    have g2 := G (ds := ds) hl i
    rw [e1] at g1; rw [e2] at g2
    have g2 := den_vv g2
    obtain ⟨w', hrun, ht, hr'⟩ := run_insert (P := P) (T := T) hk hm hf g1 (G (ds := ds) hl x) hr
    rw [← g2] at hrun
    unfold Oper.wp
    have : (execOp (Act.eval ⟨l.toArray, ds⟩) o).run P w = .ok .skip w' := by
      simp only [execOp, ho, Sem.run_bind, hrun, Result.andThen_ok, Sem.run_pure]
    rw [this]
    exact hK _ own _ _ ht rfl hr'
  · rename_i T a i x ho
    obtain ⟨m', h1, h2⟩ := updB_sound (X := X) h
    refine .inl ⟨_, _, h1, fun ρ own w l ds K Q hl hr hK => ?_⟩
    obtain ⟨w', hrun, ht, hr'⟩ := h2 ρ own w _ _ _ (G (ds := ds) hl a) (G (ds := ds) hl i) (G (ds := ds) hl x) hr
    unfold Oper.wp
    have : (execOp (Act.eval ⟨l.toArray, ds⟩) o).run P w = .ok .skip w' := by
      simp only [execOp, ho, Sem.run_bind, hrun, Result.andThen_ok, Sem.run_pure]
    rw [this]
    exact hK _ own _ _ ht rfl hr'
  · rename_i T x ho
    split at h
    · rename_i b hc
      split at h
      · rename_i q es hm
        obtain ⟨hk, h⟩ := cond_some h
        obtain ⟨kt, et, hu, _⟩ := keyKind_spec hk
        refine .inl ⟨_, _, h, fun ρ own w l ds K Q hl hr hK => ?_⟩
        have hx := G (ds := ds) hl x
        rw [hc] at hx
        obtain ⟨g, hg, hx'⟩ := den_mp hx
        obtain ⟨g', hg', hown, es', lm, hp, hlm, hh⟩ := hr.obj b _ hm rfl
        rw [hg] at hg'; simp at hg'; subst hg'
        obtain ⟨own', ht, hr'⟩ := hr.allocObj (.mapIter (some g) es.length #[] es.length) (.it b es.length) fun own' ho =>
          ⟨ho, g, by rw [List.getElem?_append_left (List.getElem?_eq_some_iff.1 hg).1]; exact hg, heap_alloc_new w _⟩
        unfold Oper.wp
        have : (execOp (Act.eval ⟨l.toArray, ds⟩) o).run P w = .ok (.value (.pointer (some ⟨w.heap.size, 0, none⟩))) (w.alloc (.mapIter (some g) es.length #[] es.length)) := by
          simp only [execOp, ho, Sem.run_bind, hx', run_range_map w T kt et g _ _ hu hh, Result.andThen_ok, Sem.run_pure]
        rw [this]
        refine hK _ own' _ _ ht ?_ hr'
        simp only [den, ← hr.len]
        simp
      · cases h
    · cases h
  · rename_i x ho
    split at h
    · rename_i T v hc
      refine .inr ⟨_, _, h, fun ρ own w l ds K Q hl hr hK => ?_⟩
      have hx := G (ds := ds) hl x
      rw [hc] at hx
      have hx := den_vv hx
      unfold Oper.wp
      have : (execOp (Act.eval ⟨l.toArray, ds⟩) o).run P w = .halt (.panic (.iface T v)) w := by
        simp [execOp, ho, hx, Instr.panic]
      rw [this]
      exact hK ρ own w (To.refl _ _ _) hr
    · cases h
  · rename_i op xT x y yT ho
    split at h
    · rename_i a b hf
      obtain ⟨hx, hy, hop⟩ := fopS_spec hf
      have run : ∀ {ρ : List Un} {l : List Value} {ds : List Deferred}, denL ρ t = some l → ∀ w v w', (Op.floatArith op .f64 a b).run P w = .ok v w' → (execOp (Act.eval ⟨l.toArray, ds⟩) o).run P w = .ok (.value v) w' := fun {ρ l ds} hl w v w' hv => by
        have h1 := G (ds := ds) hl x
        have h2 := G (ds := ds) hl y
        rw [hx] at h1; rw [hy] at h2
        have h1 := den_vv h1
        have h2 := den_vv h2
        simp only [execOp, ho, h1, h2]
        rw [Sem.run_bind, eqGuard_at_float]
        simp only [hop]
        simp [hv]
      cases hok : fok op a b with
      | true =>
        rw [hok, cond_true] at h
        refine .inl ⟨_, _, h, fun ρ own w l ds K Q hl hr hK => ?_⟩
        unfold Oper.wp
        rw [run hl w _ _ (floatArith_ok hok w)]
        exact hK ρ own w _ (To.refl _ _ _) rfl hr
      | false =>
        rw [hok, cond_false] at h
        refine .inl ⟨_, _, h, fun ρ own w l ds K Q hl hr hK => ?_⟩
        unfold Oper.wp
        obtain ⟨z, hz, hrun⟩ := floatArith_nan (P := P) hf hok w
        rw [run hl w _ _ hrun]
        obtain ⟨ht, hr'⟩ := hr.drew.note (.nan z hz)
        have t0 : To ρ own w ρ own { w with drawn := w.drawn + 1 } := ⟨⟨[], by simp⟩, fun _ hb => .inl hb, ⟨rfl, rfl, rfl, Nat.le_refl _, fun _ _ _ => rfl⟩⟩
        refine hK _ own _ _ (t0.trans ht) ?_ hr'
        simp only [den, ← hr.len]
        simp
    · obtain ⟨x, h1, h2⟩ := opR_of_qop hE h
      exact .inl ⟨x, m, h1, h2⟩
  · rename_i c ho
    split at h
    · rename_i fo hc
      split at h
      · rename_i fid first cap hfo
        dsimp only at h
        have hargs : ∀ {ρ : List Un} {l : List Value} {ds : List Deferred}, denL ρ t = some l →
            denL ρ (first.toList.map .v ++ c.args.toList.map (get t) ++ cap.toList.map .v) = some (first.toList ++ c.args.toList.map (Act.eval ⟨l.toArray, ds⟩) ++ cap.toList) := fun {ρ l ds} hl =>
          denL_append (denL_append (denL_v ρ _) (denL_map hl _)) (denL_v ρ _)
        have earr : ∀ {l : List Value} {ds : List Deferred}, (first.toList ++ c.args.toList.map (Act.eval ⟨l.toArray, ds⟩) ++ cap.toList).toArray = first ++ c.args.map (Act.eval ⟨l.toArray, ds⟩) ++ cap := fun {l ds} => by
          apply Array.ext'; simp
        have run : ∀ {ρ : List Un} {l : List Value} {ds : List Deferred}, CallOk P fid → denL ρ t = some l → ∀ w, (execOp (Act.eval ⟨l.toArray, ds⟩) o).run P w = .ok (.enter fid (first ++ c.args.map (Act.eval ⟨l.toArray, ds⟩) ++ cap)) w := fun {ρ l ds} hok hl w => by
          have hf := G (ds := ds) hl fo
          rw [hfo] at hf
          exact run_call ho hc (den_vv hf) hok w
        have runx : ∀ {ρ : List Un} {l : List Value} {ds : List Deferred}, denL ρ t = some l → ∀ w, (execOp (Act.eval ⟨l.toArray, ds⟩) o).run P w = (callFunc fid (first ++ c.args.map (Act.eval ⟨l.toArray, ds⟩) ++ cap)).run P w := fun {ρ l ds} hl w => by
          have hf := G (ds := ds) hl fo
          rw [hfo] at hf
          exact run_ext ho hc (den_vv hf) w
        cases hp : (grL (first.toList.map .v ++ c.args.toList.map (get t) ++ cap.toList.map .v) && !wide fid) with
        | true =>
          rw [hp, cond_true] at h
          rcases hE.call _ _ _ _ _ _ h with ⟨hok, h | h⟩ | h
          · obtain ⟨sv, m', h1, h2⟩ := h
            obtain ⟨hs, h1⟩ := cond_some h1
            obtain ⟨x, hx⟩ := den_gr hs
            refine .inl ⟨sv, m, h1, fun ρ own w l ds K Q hl hr hK => ?_⟩
            unfold Oper.wp
            rw [run hok hl w]
            obtain ⟨la, hla⟩ := denL_gr (Bool.and_eq_true_iff.1 hp).1
            have e1 : la = _ := Option.some.inj ((hla ρ).symm.trans (hargs (ds := ds) hl))
            have h3 := h2 [] (fun _ => none) w la (hla []) (Rep.nil X w)
            rw [e1, earr] at h3
            refine h3.mono fun e w' ⟨ρ', own', x', ht, hx', _, he⟩ => ?_
            subst he
            rw [hx] at hx'; simp at hx'; subst hx'
            have hk := ht.kept
            exact hK ρ own w' x ⟨⟨[], by simp⟩, fun _ hb => .inl hb, ⟨hk.os, hk.tape, hk.output, hk.size, fun b hlt _ => hk.block b hlt rfl⟩⟩ (hx ρ) (hr.same (fun b hb => hk.block b hb rfl) hk.size)
          · obtain ⟨ch, m', h1, h2⟩ := h
            refine .inr ⟨ch, m, h1, fun ρ own w l ds K Q hl hr hK => ?_⟩
            unfold Oper.wp
            rw [run hok hl w]
            obtain ⟨la, hla⟩ := denL_gr (Bool.and_eq_true_iff.1 hp).1
            have e1 : la = _ := Option.some.inj ((hla ρ).symm.trans (hargs (ds := ds) hl))
            have h3 := h2 [] (fun _ => none) w la (hla []) (Rep.nil X w)
            rw [e1, earr] at h3
            refine h3.mono fun e w' ⟨ρ', own', ht, _, he⟩ => ?_
            subst he
            have hk := ht.kept
            exact hK ρ own w' ⟨⟨[], by simp⟩, fun _ hb => .inl hb, ⟨hk.os, hk.tape, hk.output, hk.size, fun b hlt _ => hk.block b hlt rfl⟩⟩ (hr.same (fun b hb => hk.block b hb rfl) hk.size)
          · obtain ⟨sv, m', h1, h2⟩ := h
            obtain ⟨hs, h1⟩ := cond_some h1
            obtain ⟨x, hx⟩ := den_gr hs
            refine .inl ⟨sv, m, h1, fun ρ own w l ds K Q hl hr hK => ?_⟩
            unfold Oper.wp
            obtain ⟨la, hla⟩ := denL_gr (Bool.and_eq_true_iff.1 hp).1
            have e1 : la = _ := Option.some.inj ((hla ρ).symm.trans (hargs (ds := ds) hl))
            obtain ⟨ρ', own', x', w', h3, ht, h4, _, _⟩ := h2 [] (fun _ => none) w la (hla []) (Rep.nil X w)
            rw [e1, earr] at h3
            rw [runx hl w, h3]
            rw [hx] at h4; simp at h4; subst h4
            exact hK ρ own w' x ht.same (hx ρ) (hr.behind ht)
        | false =>
          rw [hp, cond_false] at h
          rcases hE.call _ _ _ _ _ _ h with ⟨hok, h | h⟩ | h
          · obtain ⟨sv, m', h1, h2⟩ := h
            refine .inl ⟨sv, m', h1, fun ρ own w l ds K Q hl hr hK => ?_⟩
            unfold Oper.wp
            rw [run hok hl w]
            have h3 := h2 ρ own w _ (hargs (ds := ds) hl) hr
            rw [earr] at h3
            refine h3.mono fun e w' ⟨ρ', own', x', ht, hx', hr', he⟩ => ?_
            subst he
            exact hK ρ' own' w' x' ht hx' hr'
          · obtain ⟨ch, m', h1, h2⟩ := h
            refine .inr ⟨ch, m', h1, fun ρ own w l ds K Q hl hr hK => ?_⟩
            unfold Oper.wp
            rw [run hok hl w]
            have h3 := h2 ρ own w _ (hargs (ds := ds) hl) hr
            rw [earr] at h3
            refine h3.mono fun e w' ⟨ρ', own', ht, hr', he⟩ => ?_
            subst he
            exact hK ρ' own' w' ht hr'
          · obtain ⟨sv, m', h1, h2⟩ := h
            refine .inl ⟨sv, m', h1, fun ρ own w l ds K Q hl hr hK => ?_⟩
            unfold Oper.wp
            obtain ⟨ρ', own', x', w', h3, ht, h4, hr', _⟩ := h2 ρ own w _ (hargs (ds := ds) hl) hr
            rw [earr] at h3
            rw [runx hl w, h3]
            exact hK ρ' own' w' x' ht h4 hr'
      · cases h
    · rename_i hc
      obtain ⟨x, m', h1, h2⟩ := appS_sound (X := X) h
      refine .inl ⟨x, m', h1, fun ρ own w l ds K Q hl hr hK => ?_⟩
      have e : (c.args.toList.map (Act.eval ⟨l.toArray, ds⟩)).toArray = c.args.map (Act.eval ⟨l.toArray, ds⟩) := by apply Array.ext'; simp
      obtain ⟨ρ', own', w', v, hrun, ht, hd, hr'⟩ := h2 ρ own w _ o.type (denL_map (ds := ds) hl _) hr
      rw [e] at hrun
      unfold Oper.wp
      have : (execOp (Act.eval ⟨l.toArray, ds⟩) o).run P w = .ok (.value v) w' := by
        simp only [execOp, ho, resolve, hc, Sem.run_bind, Sem.run_pure, Result.andThen_ok, invoke, builtin, hrun]
      rw [this]
      exact hK ρ' own' w' v ht hd hr'
    · obtain ⟨x, h1, h2⟩ := opR_of_qop hE h
      exact .inl ⟨x, m, h1, h2⟩
  · obtain ⟨x, h1, h2⟩ := opR_of_qop hE h
    exact .inl ⟨x, m, h1, h2⟩

theorem gbit_sound {ops : List Oper} {j : Nat} {t : List Sv} {d : Nat} {b : Bool} (h : gbit ops j t = some (d, b)) : t[d]? = some (.v (.bool b)) ∧ ∃ g, ops[j]? = some g ∧ g.dst = some d := by
  unfold gbit at h
  split at h
  · rename_i g hg
    split at h
    · rename_i d' hd
      split at h
      · rename_i b' ht
        simp at h
        obtain ⟨rfl, rfl⟩ := h
        exact ⟨ht, g, hg, hd⟩
      · cases h
    · cases h
  · cases h

theorem setN_same {ρ : List Un} : ∀ {t : List Sv} {l : List Value} {d : Nat} {b : Bool}, denL ρ t = some l → t[d]? = some (.v (.bool b)) → denL ρ (setN t d (.v (.bool b))) = some l ∧ l[d]? = some (.bool b)
  | [], l, d, b, h, hd => by simp at hd
  | c :: cs, l, 0, b, h, hd => by
    obtain ⟨x, xs, hx, hxs, rfl⟩ := denL_cons h
    simp at hd; subst hd
    have := den_vv hx; subst this
    exact ⟨denL_mk rfl hxs, by simp⟩
  | c :: cs, l, d + 1, b, h, hd => by
    obtain ⟨x, xs, hx, hxs, rfl⟩ := denL_cons h
    have := setN_same hxs (show cs[d]? = some (.v (.bool b)) by simpa using hd)
    exact ⟨denL_mk hx this.1, by simpa using this.2⟩

theorem yielded_some {ops : Array Oper} {j : Nat} {t : List Sv} {ρ : List Un} {l : List Value} {d : Nat} {b : Bool} (hl : denL ρ t = some l) (h : gbit ops.toList j t = some (d, b)) : yielded ops l.toArray j = some b := by
  obtain ⟨h1, g, h2, h3⟩ := gbit_sound h
  have h4 := (setN_same hl h1).2
  have h2' : ops[j]? = some g := by simpa using h2
  simp [yielded, h2', h3, h4]

theorem yielded_none {ops : Array Oper} {j : Nat} {t : List Sv} {ρ : List Un} {l : List Value} (hl : denL ρ t = some l) (h : gbit ops.toList j t = none) (hno : gno ops.toList j t = true) : yielded ops l.toArray j = none := by
  unfold gno at hno
  unfold gbit at h
  unfold yielded
  have e : ops[j]? = ops.toList[j]? := by simp
  rw [e]
  split at h
  · rename_i g hg
    rw [hg]
    split at h
    · rename_i d hd
      split at h
      · cases h
      · rename_i hn
        simp only [hd, Option.bind_some, List.getElem?_toArray]
        cases ht : t[d]? with
        | none =>
          have : l[d]? = none := by
            rw [List.getElem?_eq_none_iff] at ht ⊢
            rw [denL_length hl]; exact ht
          rw [this]
        | some s =>
          obtain ⟨x, hx, hden⟩ := denL_get d hl ht
          rw [hx]
          cases s with
          | v y =>
            have := den_vv hden; subst this
            cases x <;> first | rfl | (exact absurd ht (hn _))
          | ptr b off => obtain ⟨g, _, rfl⟩ := den_ptr hden; rfl
          | sl b off n cap => obtain ⟨g, _, rfl⟩ := den_sl hden; rfl
          | mp b => obtain ⟨g, _, rfl⟩ := den_mp hden; rfl
          | sa b c off len => obtain ⟨g, n, _, _, _, rfl⟩ := den_sa hden; rfl
          | unk b i => simp [hg, hd, ht] at hno
          | pix b off len i => obtain ⟨_, g, _, rfl⟩ := den_pix hden; rfl
          | nan b => obtain ⟨_, _, rfl⟩ := den_nan hden; rfl
          | agg cs => obtain ⟨g, _, rfl⟩ := den_agg hden; rfl
          | tup cs => obtain ⟨g, _, rfl⟩ := den_tup hden; rfl
    · rename_i hd
      simp [hd]
  · rename_i hg
    rw [hg]; rfl

def OpsR (P : Program) (X : Ext) (ops : Array Oper) (rest : List Oper) (t : List Sv) (m : List SObj) (t' : List Sv) (m' : List SObj) : Prop :=
  ∀ ρ own w l ds (Q : Exit → Act → World → Prop), denL ρ t = some l → Rep X ρ own m w →
    (∀ ρ' own' w' l', To ρ own w ρ' own' w' → denL ρ' t' = some l' → Rep X ρ' own' m' w' → Q .normal ⟨l'.toArray, ds⟩ w') → wpList P ops Q rest ⟨l.toArray, ds⟩ w

def OpsP (P : Program) (X : Ext) (ops : Array Oper) (rest : List Oper) (t : List Sv) (m : List SObj) (ch : List PanicEntry) (t' : List Sv) (m' : List SObj) : Prop :=
  ∀ ρ own w l ds (Q : Exit → Act → World → Prop), denL ρ t = some l → Rep X ρ own m w →
    (∀ ρ' own' w' l', To ρ own w ρ' own' w' → denL ρ' t' = some l' → Rep X ρ' own' m' w' → Q (.panic ch) ⟨l'.toArray, ds⟩ w') → wpList P ops Q rest ⟨l.toArray, ds⟩ w

theorem gbr_cases {R : Type} {b want : Bool} {x y : Option R} {r : R} (h : gbr b want x y = some r) : (b = want ∧ x = some r) ∨ (b = !want ∧ y = some r) := by
  cases b <;> cases want <;> simp [gbr] at h <;> first | exact .inl ⟨rfl, h⟩ | exact .inr ⟨rfl, h⟩

theorem evOps_sound {R : Type} {E : CallE R} (hE : EOk P X E) {wide : FuncId → Bool} {ops : Array Oper} {k : List Sv → List SObj → Option R} {kp : List PanicEntry → List Sv → List SObj → Option R} {r : R} :
    ∀ {rest : List Oper} {t : List Sv} {m : List SObj}, evOps P wide E ops.toList rest t m k kp = some r →
      (∃ t' m', k t' m' = some r ∧ OpsR P X ops rest t m t' m') ∨ (∃ ch t' m', kp ch t' m' = some r ∧ OpsP P X ops rest t m ch t' m')
  | [], t, m, h => by
    refine .inl ⟨t, m, h, fun ρ own w l ds Q hl hr hK => ?_⟩
    exact hK ρ own w l (To.refl _ _ _) hl hr
  | o :: rest, t, m, h => by
    -- the operation is carried out, in a frame that reads as 't'
    have run : ∀ {t0 : List Sv}, (∀ ρ l, denL ρ t = some l → denL ρ t0 = some l ∧ Region.wanted o (yielded ops l.toArray) = true) →
        eop P wide E o t0 m (fun x m' => evOps P wide E ops.toList rest (put t0 o.dst x) m' k kp) (fun ch m' => kp ch t0 m') = some r →
        (∃ t' m', k t' m' = some r ∧ OpsR P X ops (o :: rest) t m t' m') ∨ (∃ ch t' m', kp ch t' m' = some r ∧ OpsP P X ops (o :: rest) t m ch t' m') := by
      intro t0 ht0 h
      rcases eop_sound hE h with ⟨x, m', h1, h2⟩ | ⟨ch, m', h1, h2⟩
      · rcases evOps_sound hE h1 with ⟨t', m'', h3, h4⟩ | ⟨ch, t', m'', h3, h4⟩
        · refine .inl ⟨t', m'', h3, fun ρ own w l ds Q hl hr hK => ?_⟩
          obtain ⟨hl0, hw⟩ := ht0 ρ l hl
          simp only [wpList]
          rw [if_pos hw]
          refine .inl (h2 ρ own w l ds _ Q hl0 hr fun ρ' own' w' vx ht hx hr' => ?_)
          obtain ⟨l', h5, h6⟩ := put_den (ds := ds) (denL_mono ht.ext hl0) o.dst hx
          rw [h6]
          exact h4 ρ' own' w' l' ds Q h5 hr' fun ρ'' own'' w'' l'' ht' hl'' hr'' => hK ρ'' own'' w'' l'' (ht.trans ht') hl'' hr''
        · refine .inr ⟨ch, t', m'', h3, fun ρ own w l ds Q hl hr hK => ?_⟩
          obtain ⟨hl0, hw⟩ := ht0 ρ l hl
          simp only [wpList]
          rw [if_pos hw]
          refine .inl (h2 ρ own w l ds _ Q hl0 hr fun ρ' own' w' vx ht hx hr' => ?_)
          obtain ⟨l', h5, h6⟩ := put_den (ds := ds) (denL_mono ht.ext hl0) o.dst hx
          rw [h6]
          exact h4 ρ' own' w' l' ds Q h5 hr' fun ρ'' own'' w'' l'' ht' hl'' hr'' => hK ρ'' own'' w'' l'' (ht.trans ht') hl'' hr''
      · refine .inr ⟨ch, t0, m', h1, fun ρ own w l ds Q hl hr hK => ?_⟩
        obtain ⟨hl0, hw⟩ := ht0 ρ l hl
        simp only [wpList]
        rw [if_pos hw]
        exact .inl (h2 ρ own w l ds _ Q hl0 hr fun ρ' own' w' ht hr' => hK ρ' own' w' l ht (denL_mono ht.ext hl0) hr')
    -- it is passed over
    have skip : ∀ {t0 : List Sv}, (∀ ρ l, denL ρ t = some l → denL ρ t0 = some l ∧ Region.wanted o (yielded ops l.toArray) = false) →
        evOps P wide E ops.toList rest (put t0 o.dst (.v undef)) m k kp = some r →
        (∃ t' m', k t' m' = some r ∧ OpsR P X ops (o :: rest) t m t' m') ∨ (∃ ch t' m', kp ch t' m' = some r ∧ OpsP P X ops (o :: rest) t m ch t' m') := by
      intro t0 ht0 h
      rcases evOps_sound hE h with ⟨t', m'', h3, h4⟩ | ⟨ch, t', m'', h3, h4⟩
      · refine .inl ⟨t', m'', h3, fun ρ own w l ds Q hl hr hK => ?_⟩
        obtain ⟨hl0, hw⟩ := ht0 ρ l hl
        simp only [wpList]
        rw [if_neg (by simp [hw])]
        obtain ⟨l', h5, h6⟩ := put_den (ds := ds) hl0 o.dst (x := .v undef) rfl
        rw [h6]
        exact h4 ρ own w l' ds Q h5 hr hK
      · refine .inr ⟨ch, t', m'', h3, fun ρ own w l ds Q hl hr hK => ?_⟩
        obtain ⟨hl0, hw⟩ := ht0 ρ l hl
        simp only [wpList]
        rw [if_neg (by simp [hw])]
        obtain ⟨l', h5, h6⟩ := put_den (ds := ds) hl0 o.dst (x := .v undef) rfl
        rw [h6]
        exact h4 ρ own w l' ds Q h5 hr hK
    simp only [evOps, forceL_eq] at h
    split at h
    · rename_i hg
      exact run (fun ρ l hl => ⟨hl, by simp [Region.wanted, hg]⟩) h
    · rename_i j want hg
      split at h
      · rename_i d b hb
        rcases gbr_cases h with ⟨rfl, h9⟩ | ⟨rfl, h9⟩
        · exact run (fun ρ l hl => ⟨(setN_same hl (gbit_sound hb).1).1, by simp [Region.wanted, hg, yielded_some hl hb]⟩) h9
        · exact skip (fun ρ l hl => ⟨(setN_same hl (gbit_sound hb).1).1, by have := yielded_some hl hb; cases want <;> simp [Region.wanted, hg, this]⟩) h9
      · rename_i hb
        obtain ⟨hno, h⟩ := cond_some h
        exact skip (fun ρ l hl => ⟨hl, by simp [Region.wanted, hg, yielded_none hl hb hno]⟩) h

def QsR (P : Program) (X : Ext) (ops : Array Oper) (rest : List Oper) (t : List Sv) (m : List SObj) (t' : List Sv) : Prop :=
  ∀ (ρ : List Un) (own : Nat → Option Nat) (C : World → Prop) (w0 : World) (l : List Value) (ds : List Deferred) (K : Act → Prop), C w0 → (∀ w, C w → Rep X ρ own m w) → (∀ w w', C w → Kept (fun _ => none) w w' → C w') →
    denL ρ t = some l → (∀ l', denL ρ t' = some l' → K ⟨l'.toArray, ds⟩) → wpQuiet P ops C K rest ⟨l.toArray, ds⟩

theorem evQ_sound {R : Type} {E : CallE R} (hE : EOk P X E) {ops : Array Oper} {m : List SObj} {k : List Sv → Option R} {r : R} :
    ∀ {rest : List Oper} {t : List Sv}, evQ P E ops.toList m rest t k = some r → ∃ t', k t' = some r ∧ QsR P X ops rest t m t'
  | [], t, h => ⟨t, h, fun ρ own C w0 l ds K hw0 hC hK hl hk => hk l hl⟩
  | o :: rest, t, h => by
    have run : ∀ {t0 : List Sv}, (∀ ρ l, denL ρ t = some l → denL ρ t0 = some l ∧ Region.wanted o (yielded ops l.toArray) = true) →
        qop P (pureE E) o t0 m (fun x => evQ P E ops.toList m rest (put t0 o.dst x) k) = some r → ∃ t', k t' = some r ∧ QsR P X ops (o :: rest) t m t' := by
      intro t0 ht0 h
      obtain ⟨x, h1, h2⟩ := qop_sound (pureOk_of hE) h
      obtain ⟨t', h3, h4⟩ := evQ_sound hE h1
      refine ⟨t', h3, fun ρ own C w0 l ds K hw0 hC hK hl hk => ?_⟩
      obtain ⟨hl0, hw⟩ := ht0 ρ l hl
      simp only [wpQuiet]
      rw [if_pos hw]
      obtain ⟨v, hv, hq⟩ := h2.all ρ own C w0 l ds hw0 hC hK hl0
      refine ⟨v, hq, ?_⟩
      obtain ⟨l', h5, h6⟩ := put_den (ds := ds) hl0 o.dst hv
      rw [h6]
      exact h4 ρ own C w0 l' ds K hw0 hC hK h5 hk
    have skip : ∀ {t0 : List Sv}, (∀ ρ l, denL ρ t = some l → denL ρ t0 = some l ∧ Region.wanted o (yielded ops l.toArray) = false) →
        evQ P E ops.toList m rest (put t0 o.dst (.v undef)) k = some r → ∃ t', k t' = some r ∧ QsR P X ops (o :: rest) t m t' := by
      intro t0 ht0 h
      obtain ⟨t', h3, h4⟩ := evQ_sound hE h
      refine ⟨t', h3, fun ρ own C w0 l ds K hw0 hC hK hl hk => ?_⟩
      obtain ⟨hl0, hw⟩ := ht0 ρ l hl
      simp only [wpQuiet]
      rw [if_neg (by simp [hw])]
      obtain ⟨l', h5, h6⟩ := put_den (ds := ds) hl0 o.dst (x := .v undef) rfl
      rw [h6]
      exact h4 ρ own C w0 l' ds K hw0 hC hK h5 hk
    simp only [evQ, forceL_eq] at h
    split at h
    · rename_i hg
      exact run (fun ρ l hl => ⟨hl, by simp [Region.wanted, hg]⟩) h
    · rename_i j want hg
      split at h
      · rename_i d b hb
        rcases gbr_cases h with ⟨rfl, h9⟩ | ⟨rfl, h9⟩
        · exact run (fun ρ l hl => ⟨(setN_same hl (gbit_sound hb).1).1, by simp [Region.wanted, hg, yielded_some hl hb]⟩) h9
        · exact skip (fun ρ l hl => ⟨(setN_same hl (gbit_sound hb).1).1, by have := yielded_some hl hb; cases want <;> simp [Region.wanted, hg, this]⟩) h9
      · rename_i hb
        obtain ⟨hno, h⟩ := cond_some h
        exact skip (fun ρ l hl => ⟨hl, by simp [Region.wanted, hg, yielded_none hl hb hno]⟩) h

/-! ### Where the order is open and there are effects -/
theorem maskD_get {D : List Nat} : ∀ {m : List SObj} {k i : Nat} {o : SObj}, (maskD D k m)[i]? = some o → alive o = true → m[i]? = some o ∧ memN D (k + i) = false
  | [], k, i, o, h, _ => by simp [maskD] at h
  | c :: m, k, 0, o, h, ha => by
    simp only [maskD, List.getElem?_cons_zero, Option.some.injEq] at h
    split at h
    · split at h <;> (subst h; cases ha)
    · rename_i hm; subst h; exact ⟨rfl, hm⟩
  | c :: m, k, i + 1, o, h, ha => by
    simp only [maskD, List.getElem?_cons_succ] at h
    have := maskD_get h ha
    exact ⟨by simpa using this.1, by rw [show k + (i + 1) = k + 1 + i by omega]; exact this.2⟩

theorem maskD_at {D : List Nat} : ∀ {m : List SObj} {k i : Nat} {o : SObj}, m[i]? = some o → memN D (k + i) = false → (maskD D k m)[i]? = some o
  | [], k, i, o, h, _ => by simp at h
  | x :: m, k, 0, o, h, hd => by
    simp at h; subst h
    rw [Nat.add_zero] at hd
    simp [maskD, hd]
  | x :: m, k, i + 1, o, h, hd => by
    simp only [maskD, List.getElem?_cons_succ]
    exact maskD_at (by simpa using h) (by rw [← hd]; congr 1; omega)
theorem compat_mask (D : List Nat) (m : List SObj) : Compat (maskD D 0 m) m := fun k o h ha => (maskD_get h ha).1
theorem Compat.snoc {mq m : List SObj} (h : Compat mq m) (o : SObj) : Compat mq (m ++ [o]) := fun k o' hk ha => by
  have := h k o' hk ha
  rw [List.getElem?_append_left (List.getElem?_eq_some_iff.1 this).1]; exact this
theorem Compat.setD {D : List Nat} {m0 m : List SObj} (h : Compat (maskD D 0 m0) m) {b : Nat} (hb : (memN D b || Nat.ble (maskD D 0 m0).length b) = true) (o : SObj) : Compat (maskD D 0 m0) (m.set b o) := fun k o' hk ha => by
  have h1 := h k o' hk ha
  have h2 := (maskD_get hk ha).2
  have h3 := (List.getElem?_eq_some_iff.1 hk).1
  have hne : b ≠ k := fun e => by
    subst e; rw [Nat.zero_add] at h2; rw [h2, Bool.false_or] at hb
    have := Nat.le_of_ble_eq_true hb
    omega
  rw [List.getElem?_set_ne hne]; exact h1

theorem eopO_sound {R : Type} {D : List Nat} {m0 : List SObj} {ops : Array Oper} {o : Oper} {t : List Sv} {m : List SObj} {k : Sv → List SObj → Option R} {r : R} (hg : o.guard = none) (hm : Compat (maskD D 0 m0) m)
    (h : eopO P D (maskD D 0 m0).length o t m k = some r) : ∃ x m', k x m' = some r ∧ OStep P X ops (maskD D 0 m0) o false true (insOp o) t m x m' := by
  have hw : ∀ f, Region.wanted o f = true := fun f => by simp [Region.wanted, hg]
  have noIns : ∀ {x : Sv} {m' : List SObj}, insOp o = false → Compat (maskD D 0 m0) m' → EStep P X ops o t m x m' → OStep P X ops (maskD D 0 m0) o false true (insOp o) t m x m' := fun {x m'} hi h1 h2 => by rw [hi]; exact ⟨h1, h2⟩
  unfold eopO at h
  split at h
  · rename_i e ho
    split at h
    · rename_i z hz
      refine ⟨_, _, h, noIns (by simp [insOp, ho]) (hm.snoc _) fun ρ own a0 w hr hl => ⟨hw _, ?_⟩⟩
      obtain ⟨i, zv, hi, hzv, hden⟩ := zeroS_sound hz ρ
      obtain ⟨own', ht, hr'⟩ := hr.alloc (e := e) hden
      have e1 : zv.cells.toList.toArray = zv.cells := by simp
      rw [e1] at ht hr'
      refine ⟨_, own', _, .pointer (some ⟨w.heap.size, 0, none⟩), .inl ?_, ht, ?_, hr'⟩
      · simp [execOp, ho, Instr.alloc, zeroValue, typeInfo, hi, hzv, newVar, newRow]
      · simp only [den, ← hr.len]
        simp
    · cases h
  · rename_i e x ho
    split at h
    · rename_i cs hc
      refine ⟨_, _, h, noIns (by simp [insOp, ho]) (hm.snoc _) fun ρ own a0 w hr hl => ⟨hw _, ?_⟩⟩
      obtain ⟨lc, h1, h2, h3⟩ := cellsS_sound hc (looks_get hl x (by simp [ho, Op.operands]))
      obtain ⟨own', ht, hr'⟩ := hr.alloc (e := e) h1
      refine ⟨_, own', _, .pointer (some ⟨w.heap.size, 0, none⟩), .inl ?_, ht, ?_, hr'⟩
      · simp [execOp, ho, Instr.box, newVar, newRow, h2]
      · simp only [den, ← hr.len]
        simp
    · cases h
  · rename_i T len parts ho
    split at h
    · rename_i e hu
      split at h
      · rename_i ie hie
        split at h
        · rename_i z hz
          obtain ⟨hb, h⟩ := cond_some h
          split at h
          · rename_i cs hf
            refine ⟨_, _, h, noIns (by simp [insOp, ho]) (hm.snoc _) fun ρ own a0 w hr hl => ⟨hw _, ?_⟩⟩
            obtain ⟨i, zv, hi, hzv, hden⟩ := zeroS_sound hz ρ
            rw [hie] at hi; simp at hi; subst hi
            simp only [Bool.and_eq_true, Bool.not_eq_true'] at hb
            have hle := Nat.le_of_ble_eq_true hb.1
            have hsz : ie.size ≠ 0 := fun e => by have h2 := hb.2.1; rw [e] at h2; cases h2
            have hzl := Nat.eq_of_beq_eq_true hb.2.2
            have hzl' : zv.cells.toList.length = ie.size := by rw [denL_length hden]; exact hzl
            have hp : ∀ (j : Nat) (p : Nat × Sv), (parts.toList.map fun p => (p.1, get t p.2))[j]? = some p → ∃ x, (parts.toList.map fun p => (p.1, Act.eval a0 p.2))[j]? = some (p.1, x) ∧ den ρ p.2 = some x := by
              intro j p hj
              rw [List.getElem?_map] at hj ⊢
              cases hq : parts.toList[j]? with
              | none => simp [hq] at hj
              | some q =>
                simp [hq] at hj; subst hj
                have hmem : q ∈ parts := Array.mem_toList_iff.1 (List.mem_of_getElem? hq)
                exact ⟨_, by simp, looks_get hl q.2 (by simp only [ho, Op.operands]; simp; exact ⟨q.1, hmem⟩)⟩
            obtain ⟨lo, h1, h2⟩ := fillS_sound (repl_den hden len) hp (by simp) hf
            obtain ⟨own', ht, hr'⟩ := hr.alloc (e := e) h1
            have e0 : (parts.map fun (x : Nat × Operand) => (x.1, Act.eval a0 x.2)).toList = parts.toList.map fun p => (p.1, Act.eval a0 p.2) := by simp
            have e1 := repl_range zv.cells (by simpa using hzl') len
            refine ⟨_, own', _, .slice (some ⟨w.heap.size, 0, none⟩) len len, .inl ?_, ht, ?_, hr'⟩
            · have hbig : ¬ (len * ie.size > 2 ^ 24) := by omega
              by_cases h0 : len * ie.size = 0
              · have hlen0 : len = 0 := by rcases Nat.mul_eq_zero.1 h0 with h | h <;> omega
                subst hlen0
                simp only [replV] at h2
                simp [execOp, ho, Instr.buildSlice, run_underlying hu, run_sizeOf w hie, newRow]
                have e9 : Array.map (fun (x : Nat) => (default : Value)) (Array.range 0) = #[] := by simp
                rw [e9, h2]
                simp
              · simp only [execOp, ho, Instr.buildSlice, Sem.run_bind, run_underlying hu, Result.andThen_ok, run_sizeOf w hie, Sem.run_ite]
                rw [if_neg hbig, if_neg h0]
                simp only [Sem.run_bind, Sem.run_pure, Result.andThen_ok, zeroValue, typeInfo, run_program, hie, hzv]
                rw [e0, e1, h2]
                simp [newRow]
            · simp only [den, ← hr.len]
              simp
          · cases h
        · cases h
      · cases h
    · cases h
  · rename_i T a x ho
    split at h
    · rename_i b off hc
      split at h
      · rename_i cs e hmb
        split at h
        · rename_i xs hxs
          obtain ⟨hb, h⟩ := cond_some h
          simp only [Bool.and_eq_true] at hb
          split at h
          · rename_i cs' hcs
            refine ⟨_, _, h, noIns (by simp [insOp, ho]) (hm.setD hb.1 _) fun ρ own a0 w hr hl => ⟨hw _, ?_⟩⟩
            have ha := looks_get hl a (by simp [ho, Op.operands])
            rw [hc] at ha
            obtain ⟨g, hg, ha'⟩ := den_ptr ha
            obtain ⟨lx, h1, h2, h3⟩ := cellsS_sound hxs (looks_get hl x (by simp [ho, Op.operands]))
            obtain ⟨g', hg', hown, lc, hlc, hh⟩ := hr.obj b _ hmb rfl
            rw [hg] at hg'; simp at hg'; subst hg'
            obtain ⟨h4, h5⟩ := setSeg_den off hlc h1 hcs
            obtain ⟨ht, hr'⟩ := hr.setRow hmb hg h4
            have hlen := denL_length h1
            have hi : ∃ i, P.info? T = some i ∧ i.size = lx.length := by
              have hb := hb.2
              unfold sizeS at hb
              split at hb
              · rename_i i hi; exact ⟨i, hi, by have := Nat.eq_of_beq_eq_true hb; omega⟩
              · cases hb
            obtain ⟨i, hi, his⟩ := hi
            have hst := setRow_seg (P := P) hh off h5 h3
            refine ⟨_, own, _, undef, .inr ⟨?_, rfl⟩, ht, rfl, hr'⟩
            simp [execOp, ho, Instr.storeAt, Instr.sureAddr, ha', storeVar, run_sizeOf w hi, h2, his, hst]
          · cases h
        · cases h
      · cases h
    · rename_i b off len ix hc
      obtain ⟨ob, h1, h2⟩ := storePix_sound (X := X) h
      obtain ⟨hb, h1⟩ := cond_some h1
      refine ⟨_, _, h1, noIns (by simp [insOp, ho]) (hm.setD hb _) fun ρ own a0 w hr hl => ⟨hw _, ?_⟩⟩
      have ha := looks_get hl a (by simp [ho, Op.operands])
      rw [hc] at ha
      obtain ⟨w', hrun, ht, hr'⟩ := h2 ρ own w _ _ ha (looks_get hl x (by simp [ho, Op.operands])) hr
      refine ⟨_, own, _, undef, .inr ⟨?_, rfl⟩, ht, rfl, hr'⟩
      simp only [execOp, ho, Sem.run_bind, hrun, Result.andThen_ok, Sem.run_pure]
    · cases h
  · rename_i T r0 ho
    split at h
    · obtain ⟨ob, h1, h2⟩ := mkS_sound (X := X) h
      refine ⟨_, _, h1, noIns (by simp [insOp, ho]) (hm.snoc _) fun ρ own a0 w hr hl => ⟨hw _, ?_⟩⟩
      obtain ⟨own', hrun, ht, hr'⟩ := h2 ρ own w hr
      refine ⟨_, own', _, .map (some w.heap.size), .inl ?_, ht, ?_, hr'⟩
      · simp only [execOp, ho, Sem.run_bind, Option.map_none, hrun, Result.andThen_ok, Sem.run_pure]
      · simp only [den, ← hr.len]
        simp
    · cases h
  · rename_i T a i x ho
    obtain ⟨b, q, ka, es, e1, e2, hmb, hk, hf, h1⟩ := updS_sound h
    obtain ⟨hb, h1⟩ := cond_some h1
    have hio : insOp o = true := by simp [insOp, ho]
    refine ⟨_, _, h1, ?_⟩
    rw [hio]
    refine ⟨rfl, b, q, ka, get t x, es, fun m es hm2 hf2 ρ own a0 w hr hl => ⟨hw _, ?_⟩, fun o' ho' => ?_, hmb, hf, rfl⟩
    · have g1 := looks_get hl a (by simp [ho, Op.operands])
      have g2 := looks_get hl i (by simp [ho, Op.operands])
      rw [e1] at g1; rw [e2] at g2
      have g2 := den_vv g2
      obtain ⟨w', hrun, ht, hr'⟩ := run_insert (P := P) (T := T) hk hm2 hf2 g1 (looks_get hl x (by simp [ho, Op.operands])) hr
      rw [← g2] at hrun
      refine ⟨_, own, _, undef, .inr ⟨?_, rfl⟩, ht, rfl, hr'⟩
      simp only [execOp, ho, Sem.run_bind, hrun, Result.andThen_ok, Sem.run_pure]
    · cases ha : alive o' with
      | false => rfl
      | true =>
        have h2 := (maskD_get ho' ha).2
        have h3 := (List.getElem?_eq_some_iff.1 ho').1
        rw [Nat.zero_add] at h2
        rw [h2, Bool.false_or] at hb
        have := Nat.le_of_ble_eq_true hb
        omega
  · cases h

theorem qstep_of {ops : Array Oper} {mq : List SObj} {o : Oper} {t : List Sv} {sv : Sv} (h : QopR P X o t mq sv) (hw : ∀ ρ a, looks ops o ρ t a → Region.wanted o (yielded ops a.tmps) = true) : QStep P X ops mq o t sv :=
  .inl fun ρ own m a w0 hc hr hl => ⟨hw ρ a hl, h ρ own (fun w' => To ρ own w0 ρ own w' ∧ Rep X ρ own m w') w0 m a hc ⟨To.refl _ _ _, hr⟩ (fun _ hw => hw.2)
    (fun w1 w2 ⟨ht, hrep⟩ hk => ⟨ht.trans ⟨⟨[], by simp⟩, fun _ hb => .inl hb, ⟨hk.os, hk.tape, hk.output, hk.size, fun b hlt _ => hk.block b hlt rfl⟩⟩, hrep.same (fun b hb => hk.block b hb rfl) hk.size⟩) (looks_get hl)⟩

theorem looks_guard {ops : Array Oper} {o : Oper} {ρ : List Un} {t : List Sv} {a : Act} {j : Nat} {want : Bool} (hg : o.guard = some (j, want)) {g : Oper} {d : Nat} (hj : ops[j]? = some g) (hd : g.dst = some d) (h : looks ops o ρ t a) :
    den ρ (nth t d) = some (a.eval (.tmp d)) := h d (by
  unfold Oper.looksAt
  simp [hg, hj, hd])

theorem nth_of_get? : ∀ {t : List Sv} {d : Nat} {x : Sv}, t[d]? = some x → nth t d = x
  | [], d, x, h => by simp at h
  | c :: t, 0, x, h => by simpa [nth] using h
  | c :: t, d + 1, x, h => by simp only [nth]; exact nth_of_get? (by simpa using h)
theorem nth_of_none : ∀ {t : List Sv} {d : Nat}, t[d]? = none → nth t d = .v undef
  | [], d, h => rfl
  | c :: t, 0, h => by simp at h
  | c :: t, d + 1, h => by simp only [nth]; exact nth_of_none (by simpa using h)

theorem yielded_looks {ops : Array Oper} {o : Oper} {ρ : List Un} {t : List Sv} {a : Act} {j : Nat} {want : Bool} (hg : o.guard = some (j, want)) {d : Nat} {b : Bool} (hb : gbit ops.toList j t = some (d, b)) (h : looks ops o ρ t a) :
    yielded ops a.tmps j = some b := by
  obtain ⟨h1, g, h2, h3⟩ := gbit_sound hb
  have h2' : ops[j]? = some g := by simpa using h2
  have h4 := looks_guard hg h2' h3 h
  rw [nth_of_get? h1] at h4
  have h5 := den_vv h4
  simp only [Act.eval, Array.getD_eq_getD_getElem?] at h5
  unfold yielded
  simp only [h2', Option.bind_some, h3]
  cases ht : a.tmps[d]? with
  | none => rw [ht] at h5; simp [undef] at h5
  | some v => rw [ht] at h5; simp at h5; subst h5; rfl

theorem yielded_looks_none {ops : Array Oper} {o : Oper} {ρ : List Un} {t : List Sv} {a : Act} {j : Nat} {want : Bool} (hg : o.guard = some (j, want)) (hb : gbit ops.toList j t = none) (hno : gno ops.toList j t = true) (h : looks ops o ρ t a) :
    yielded ops a.tmps j = none := by
  unfold yielded
  cases hj : ops[j]? with
  | none => rfl
  | some g =>
    cases hd : g.dst with
    | none => simp [hd]
    | some d =>
      have h4 := looks_guard hg hj hd h
      simp only [Option.bind_some, hd]
      simp only [Act.eval, Array.getD_eq_getD_getElem?] at h4
      have hj' : ops.toList[j]? = some g := by simpa using hj
      unfold gbit at hb
      rw [hj'] at hb
      simp only [hd] at hb
      cases hv : a.tmps[d]? with
      | none => rfl
      | some v =>
        rw [hv] at h4
        simp only [Option.getD_some] at h4
        cases v with
        | bool b =>
          exfalso
          cases ht : t[d]? with
          | none => rw [nth_of_none ht] at h4; simp [den, undef] at h4
          | some s =>
            rw [nth_of_get? ht] at h4
            rw [ht] at hb
            cases s with
            | v y => simp only [den, Option.some.injEq] at h4; subst h4; cases hb
            | ptr b off => obtain ⟨g, _, h6⟩ := den_ptr h4; cases h6
            | sl b off n cap => obtain ⟨g, _, h6⟩ := den_sl h4; cases h6
            | mp b => obtain ⟨g, _, h6⟩ := den_mp h4; cases h6
            | sa b c off len => obtain ⟨g, n, _, _, _, h6⟩ := den_sa h4; cases h6
            | unk b i => simp [gno, hj', hd, ht] at hno
            | pix b off len i => obtain ⟨_, g, _, h6⟩ := den_pix h4; cases h6
            | nan b => obtain ⟨_, _, h6⟩ := den_nan h4; cases h6
            | agg cs => obtain ⟨g, _, h6⟩ := den_agg h4; cases h6
            | tup cs => obtain ⟨g, _, h6⟩ := den_tup h4; cases h6
        | _ => rfl

theorem qopN_sound {R : Type} {E : CallE R} (hE : EOk P X E) {N : FuncId → Option NW} (hN : ∀ f s, N f = some s → CallOk P f ∧ NWOk P X f s) {ops : Array Oper} {o : Oper} {t : List Sv} {mq : List SObj} {k : Sv → Option R} {kp : List PanicEntry → Option R} {r : R}
    (hw : ∀ ρ a, looks ops o ρ t a → Region.wanted o (yielded ops a.tmps) = true) (h : qopN P E N o t mq k kp = some r) : (∃ sv, k sv = some r ∧ QStep P X ops mq o t sv) ∨ (∃ ch, kp ch = some r ∧ PQ P X ops mq o t ch) := by
  unfold qopN at h
  split at h
  · rename_i s args hq
    unfold qN at hq
    split at hq
    · rename_i c ho
      split at hq
      · rename_i fo hc
        split at hq
        · rename_i fid first cap hfo
          split at hq
          · rename_i s' hs
            simp only [Option.some.injEq, Prod.mk.injEq] at hq
            obtain ⟨rfl, rfl⟩ := hq
            obtain ⟨hok, hsp⟩ := hN fid _ hs
            have run : ∀ {ρ : List Un} {a : Act} (w : World), looks ops o ρ t a → denL ρ (first.toList.map .v ++ c.args.toList.map (get t) ++ cap.toList.map .v) = some (first.toList ++ c.args.toList.map (Act.eval a) ++ cap.toList) ∧
                (execOp a.eval o).run P w = .ok (.enter fid (first ++ c.args.map (Act.eval a) ++ cap)) w ∧ (first.toList ++ c.args.toList.map (Act.eval a) ++ cap.toList).toArray = first ++ c.args.map (Act.eval a) ++ cap := fun {ρ a} w hl => by
              have hf := looks_get hl fo (by simp [ho, Op.operands, Call.operands, hc])
              rw [hfo] at hf
              exact ⟨denL_append (denL_append (denL_v ρ _) (denL_mapOf c.args.toList fun y hy => looks_get hl y (arg_mem ho hy))) (denL_v ρ _), run_call ho hc (den_vv hf) hok w, by apply Array.ext'; simp⟩
            rcases hsp R _ _ _ _ _ h with ⟨sv, h1, h2⟩ | ⟨ch, h1, h2⟩
            · refine .inl ⟨sv, h1, .inr (.inr fun m hm ρ own a w hr hl => ⟨hw ρ a hl, fun K Q hK => ?_⟩)⟩
              obtain ⟨hargs, hrun, earr⟩ := run w hl
              unfold Oper.wp
              rw [hrun]
              have h3 := h2 m hm ρ own w _ hargs hr
              rw [earr] at h3
              refine h3.mono fun e w' ⟨ρ', own', x, ht, hx, hr', he⟩ => ?_
              subst he
              exact hK ρ' own' w' x ht hx hr'
            · refine .inr ⟨ch, h1, fun m hm ρ own a w hr hl => ⟨hw ρ a hl, fun K Q hK => ?_⟩⟩
              obtain ⟨hargs, hrun, earr⟩ := run w hl
              unfold Oper.wp
              rw [hrun]
              have h3 := h2 m hm ρ own w _ hargs hr
              rw [earr] at h3
              refine h3.mono fun e w' ⟨ρ', own', ht, hr', he⟩ => ?_
              subst he
              exact hK ρ' own' w' ht hr'
          · cases hq
        · cases hq
      · cases hq
    · cases hq
  · obtain ⟨sv, h1, h2⟩ := qop_sound (pureOk_of hE) h
    exact .inl ⟨sv, h1, qstep_of h2 hw⟩

theorem ostep_v {ops : Array Oper} {mq : List SObj} {o : Oper} {v v' c : Bool} {t : List Sv} {m m' : List SObj} {sv : Sv} (h : OStep P X ops mq o v true c t m sv m') : OStep P X ops mq o v' true c t m sv m' := by
  cases c <;> exact h
theorem waits_no {ops : Array Oper} (H : LexOk ops 0) {e p : Nat} (h : e < p) : waitsS .any ops ops.size e p = false := by
  cases hw : waitsS .any ops ops.size e p with
  | false => rfl
  | true => have := waits_lt H _ _ _ hw; omega
theorem okZ_vis {ops : Array Oper} {eff : Nat → Bool} {p i : Nat} {o : Oper} (ho : ops[i]? = some o) (h : okZ P ops eff p = true) : visB .any ops eff i o = false := by
  unfold okZ at h
  simp only [Bool.and_eq_true] at h
  have h1 := List.all_eq_true.1 h.2.2 i (List.mem_range.2 (Array.getElem?_eq_some_iff.1 ho).1)
  simpa [ho] using h1
theorem evZ_sound {R : Type} {E : CallE R} (hE : EOk P X E) {wide : FuncId → Bool} {N : FuncId → Option NW} (hN : ∀ f s, N f = some s → CallOk P f ∧ NWOk P X f s) {ops : Array Oper} {p : Nat} (hz : okZ P ops (effN wide ops) p = true) {mq : List SObj} {x : Option R} {r : R} :
    ∀ {rest : List Oper} {k0 : Nat} {t : List Sv}, (∀ j, rest[j]? = ops[k0 + j]?) → evZ P wide N E ops p mq k0 rest t x = some r → x = some r ∧ LexZQ P X ops mq (floatS P ops (effN wide ops) p) p k0 rest t
  | [], k0, t, _, h => ⟨h, trivial⟩
  | o :: rest, k0, t, hl, h => by
    have hk0 : ops[k0]? = some o := by simpa using (hl 0).symm
    have hl' : ∀ j, rest[j]? = ops[k0 + 1 + j]? := fun j => by have := hl (j + 1); simpa [Nat.add_assoc, Nat.add_comm 1 j] using this
    have he : effN wide ops k0 = effOp wide o := by simp [effN, hk0]
    simp only [evZ, forceL_eq] at h
    split at h
    · rename_i hw
      obtain ⟨h1, h2⟩ := evZ_sound hE hN hz hl' h
      exact ⟨h1, .inl ⟨hw, h2⟩⟩
    · rename_i hw
      split at h
      · rename_i hef
        obtain ⟨h1, h2⟩ := evZ_sound hE hN hz hl' h
        refine ⟨h1, .inr ⟨hw, nth t (o.dst.getD 0), .inl (okZ_flo hk0 hz (by rw [he, hef]) hw), ?_⟩⟩
        have : put t o.dst (nth t (o.dst.getD 0)) = t := by
          cases hd : o.dst with
          | none => rfl
          | some d => exact setN_nthC
        rw [this]; exact h2
      · rename_i hef
        have fin : ∀ {sv : Sv}, QStep P X ops mq o t sv → evZ P wide N E ops p mq (k0 + 1) rest (put t o.dst sv) x = some r → x = some r ∧ LexZQ P X ops mq (floatS P ops (effN wide ops) p) p k0 (o :: rest) t := fun {sv} hq h => by
          obtain ⟨h1, h2⟩ := evZ_sound hE hN hz hl' h
          exact ⟨h1, .inr ⟨hw, sv, .inr ⟨floatS_looks hk0 hw, hq⟩, h2⟩⟩
        split at h
        · rename_i hg
          rcases qopN_sound (X := X) hE hN (ops := ops) (fun ρ a _ => by simp [Region.wanted, hg]) h with ⟨sv, h1, h2⟩ | ⟨ch, h1, _⟩
          · exact fin h2 h1
          · cases h1
        · rename_i j want hg
          split at h
          · rename_i d b hb
            have hid : ∀ c, b = c → setN t d (.v (.bool c)) = t := fun c hc => by subst hc; exact setN_id (gbit_sound hb).1
            rcases gbr_cases h with ⟨rfl, h9⟩ | ⟨rfl, h9⟩
            · rw [hid _ rfl] at h9
              rcases qopN_sound (X := X) hE hN (ops := ops) (fun ρ a hlk => by simp [Region.wanted, hg, yielded_looks hg hb hlk]) h9 with ⟨sv, h1, h2⟩ | ⟨ch, h1, _⟩
              · exact fin h2 h1
              · cases h1
            · rw [hid _ rfl] at h9
              exact fin (.inr (.inl ⟨rfl, fun ρ a hlk => by have := yielded_looks hg hb hlk; cases want <;> simp [Region.wanted, hg, this]⟩)) h9
          · rename_i hb
            obtain ⟨hno, h⟩ := cond_some h
            exact fin (.inr (.inl ⟨rfl, fun ρ a hlk => by simp [Region.wanted, hg, yielded_looks_none hg hb hno hlk]⟩)) h

theorem evO_sound {ops : Array Oper} (H : LexOk ops 0) {R : Type} {E : CallE R} (hE : EOk P X E) {wide : FuncId → Bool} {N : FuncId → Option NW} (hN : ∀ f s, N f = some s → CallOk P f ∧ NWOk P X f s) {D : List Nat} {m0 : List SObj} {k : List Sv → List SObj → Option R} {kp : List PanicEntry → List Sv → List SObj → Option R} {r : R} :
    ∀ {rest : List Oper} {k0 : Nat} {t : List Sv} {m : List SObj}, (∀ j, rest[j]? = ops[k0 + j]?) → Compat (maskD D 0 m0) m → evO P wide N E ops D m0 (maskD D 0 m0) k0 rest t m k kp = some r →
      (∃ t2 m2, k t2 m2 = some r ∧ LexS P X .any ops (effN wide ops) (insN ops) (maskD D 0 m0) t2 m2 k0 rest t m) ∨
      (∃ p ch, kp ch (unkL m0.length t.length 0) (m0 ++ [.dead]) = some r ∧ LexZ P X ops (maskD D 0 m0) (floatS P ops (effN wide ops) p) p ch k0 rest t ∧ okZ P ops (effN wide ops) p = true)
  | [], k0, t, m, _, _, h => .inl ⟨t, m, h, rfl, rfl⟩
  | o :: rest, k0, t, m, hl, hm, h => by
    have h0 : ops[k0]? = some o := by simpa using (hl 0).symm
    have hl' : ∀ j, rest[j]? = ops[k0 + 1 + j]? := fun j => by have := hl (j + 1); simpa [Nat.add_assoc, Nat.add_comm 1 j] using this
    have he : effN wide ops k0 = effOp wide o := by simp [effN, h0]
    have hin : insN ops k0 = insOp o := by simp [insN, h0]
    simp only [evO, forceL_eq] at h
    split at h
    · rename_i hef
      split at h
      · rename_i hg
        obtain ⟨x, m', h1, h2⟩ := eopO_sound (X := X) (ops := ops) hg hm h
        rcases evO_sound H hE hN hl' (h2.compat hm) h1 with ⟨t2, m2, h4, h5⟩ | ⟨p, ch, h4, h5, h6⟩
        · exact .inl ⟨t2, m2, h4, x, m', by rw [he, hef, hin]; exact ostep_v h2, h5⟩
        · rw [put_length] at h4
          exact .inr ⟨p, ch, h4, .inl ⟨(lexZ_lt h5).1, x, .inl (okZ_flo h0 h6 (by rw [he, hef]) (waits_no H (lexZ_lt h5).1)), h5⟩, h6⟩
      · cases h
    · rename_i hef
      have fin : ∀ {sv : Sv}, QStep P X ops (visE (visB .any ops (effN wide ops) k0 o) m (maskD D 0 m0)) o t sv → evO P wide N E ops D m0 (maskD D 0 m0) (k0 + 1) rest (put t o.dst sv) m k kp = some r →
          (∃ t2 m2, k t2 m2 = some r ∧ LexS P X .any ops (effN wide ops) (insN ops) (maskD D 0 m0) t2 m2 k0 (o :: rest) t m) ∨ (∃ p ch, kp ch (unkL m0.length t.length 0) (m0 ++ [.dead]) = some r ∧ LexZ P X ops (maskD D 0 m0) (floatS P ops (effN wide ops) p) p ch k0 (o :: rest) t ∧ okZ P ops (effN wide ops) p = true) := fun {sv} hq h => by
        rcases evO_sound H hE hN hl' hm h with ⟨t2, m2, h4, h5⟩ | ⟨p, ch, h4, h5, h6⟩
        · exact .inl ⟨t2, m2, h4, sv, m, by rw [he, hef]; exact ⟨rfl, hq⟩, h5⟩
        · rw [put_length] at h4
          refine .inr ⟨p, ch, h4, .inl ⟨(lexZ_lt h5).1, sv, .inr ⟨floatS_looks h0 (waits_no H (lexZ_lt h5).1), ?_⟩, h5⟩, h6⟩
          rw [okZ_vis h0 h6] at hq
          exact hq
      have pan : ∀ {ch : List PanicEntry}, PQ P X ops (visE (visB .any ops (effN wide ops) k0 o) m (maskD D 0 m0)) o t ch → (bif okZ P ops (effN wide ops) k0 then evZ P wide N E ops k0 (maskD D 0 m0) (k0 + 1) rest t (kp ch (unkL m0.length t.length 0) (m0 ++ [.dead])) else none) = some r →
          (∃ t2 m2, k t2 m2 = some r ∧ LexS P X .any ops (effN wide ops) (insN ops) (maskD D 0 m0) t2 m2 k0 (o :: rest) t m) ∨ (∃ p ch, kp ch (unkL m0.length t.length 0) (m0 ++ [.dead]) = some r ∧ LexZ P X ops (maskD D 0 m0) (floatS P ops (effN wide ops) p) p ch k0 (o :: rest) t ∧ okZ P ops (effN wide ops) p = true) := fun {ch} hq h => by
        obtain ⟨hz, h⟩ := cond_some h
        obtain ⟨h3, h4⟩ := evZ_sound hE hN hz hl' h
        rw [okZ_vis h0 hz] at hq
        exact .inr ⟨k0, ch, h3, .inr ⟨rfl, floatS_looks h0 (waits_irr H k0), hq, h4⟩, hz⟩
      split at h
      · rename_i hg
        rcases qopN_sound (X := X) hE hN (ops := ops) (fun ρ a _ => by simp [Region.wanted, hg]) h with ⟨sv, h1, h2⟩ | ⟨ch, h1, h2⟩
        · exact fin h2 h1
        · exact pan h2 h1
      · rename_i j want hg
        split at h
        · rename_i d b hb
          have hid : ∀ c, b = c → setN t d (.v (.bool c)) = t := fun c hc => by subst hc; exact setN_id (gbit_sound hb).1
          rcases gbr_cases h with ⟨rfl, h9⟩ | ⟨rfl, h9⟩
          · rw [hid _ rfl] at h9
            rcases qopN_sound (X := X) hE hN (ops := ops) (fun ρ a hlk => by simp [Region.wanted, hg, yielded_looks hg hb hlk]) h9 with ⟨sv, h1, h2⟩ | ⟨ch, h1, h2⟩
            · exact fin h2 h1
            · exact pan h2 h1
          · rw [hid _ rfl] at h9
            exact fin (.inr (.inl ⟨rfl, fun ρ a hlk => by have := yielded_looks hg hb hlk; cases want <;> simp [Region.wanted, hg, this]⟩)) h9
        · rename_i hb
          obtain ⟨hno, h⟩ := cond_some h
          exact fin (.inr (.inl ⟨rfl, fun ρ a hlk => by simp [Region.wanted, hg, yielded_looks_none hg hb hno hlk]⟩)) h

theorem pres_of {D : List Nat} {m m' : List SObj} (h : Compat (maskD D 0 m) m') : Pres D m m' := fun mx hx k o hk ha => by
  have h1 := hx k o hk ha
  have h2 := (maskD_get hk ha).2
  exact h k o (maskD_at h1 h2) ha

theorem compat_upds {D : List Nat} {m0 : List SObj} : ∀ {u : List (Nat × SObj)} {m : List SObj}, inD D u = true → Compat (maskD D 0 m0) m → Compat (maskD D 0 m0) (upds m u)
  | [], m, _, h => h
  | (g, o) :: u, m, hd, h => by
    simp only [inD, Bool.and_eq_true] at hd
    show Compat _ (upds (m.set g o) u)
    exact compat_upds hd.2 (h.setD (by rw [hd.1]; rfl) o)
theorem callN_sound {R : Type} {N : FuncId → Option NW} (hN : ∀ f s, N f = some s → CallOk P f ∧ NWOk P X f s) {D : List Nat} {ops : Array Oper} {o : Oper} {t : List Sv} {m : List SObj} {k : Sv → List SObj → Option R} {r : R}
    (hw : ∀ ρ a, looks ops o ρ t a → Region.wanted o (yielded ops a.tmps) = true) {kp : List PanicEntry → Option R} (h : callN N D o t m k kp = some r) : (∃ sv m', k sv m' = some r ∧ Compat (maskD D 0 m) m' ∧ EStepW P X ops o t m sv m') ∨ (∃ ch, kp ch = some r ∧ PStep P X ops o t m ch) := by
  unfold callN at h
  split at h
  · rename_i c ho
    split at h
    · rename_i fo hc
      split at h
      · rename_i fid first cap hfo
        have fin : ∀ {sv : Sv} {m' : List SObj}, CallOk P fid → CallR P X fid (first.toList.map .v ++ c.args.toList.map (get t) ++ cap.toList.map .v) m sv m' → EStepW P X ops o t m sv m' := fun {sv m'} hok h2 => by
          refine fun ρ own a w hr hl => ⟨hw ρ a hl, fun K Q hK => ?_⟩
          have hf := looks_get hl fo (by simp [ho, Op.operands, Call.operands, hc])
          rw [hfo] at hf
          have hf := den_vv hf
          have hargs : denL ρ (first.toList.map .v ++ c.args.toList.map (get t) ++ cap.toList.map .v) = some (first.toList ++ c.args.toList.map (Act.eval a) ++ cap.toList) :=
            denL_append (denL_append (denL_v ρ _) (denL_mapOf c.args.toList fun y hy => looks_get hl y (arg_mem ho hy))) (denL_v ρ _)
          have earr : (first.toList ++ c.args.toList.map (Act.eval a) ++ cap.toList).toArray = first ++ c.args.map (Act.eval a) ++ cap := by
            apply Array.ext'; simp
          unfold Oper.wp
          rw [run_call ho hc hf hok w]
          have h3 := h2 ρ own w _ hargs hr
          rw [earr] at h3
          refine h3.mono fun e w' ⟨ρ', own', x, ht, hx, hr', he⟩ => ?_
          subst he
          exact hK ρ' own' w' x ht hx hr'
        split at h
        · rename_i s hs
          obtain ⟨hok, hsp⟩ := hN fid _ hs
          obtain ⟨sv, ex, h1, h2⟩ := hsp R _ _ _ _ h
          refine .inl ⟨sv, _, h1, fun j o' hj ha => ?_, fin hok h2⟩
          have h3 := compat_mask D m j o' hj ha
          rw [List.getElem?_append_left (List.getElem?_eq_some_iff.1 h3).1]; exact h3
        · rename_i s hs
          obtain ⟨hok, hsp⟩ := hN fid _ hs
          obtain ⟨sv, g, o', h1, h2⟩ := hsp R _ _ _ _ h
          obtain ⟨hg, h1⟩ := cond_some h1
          exact .inl ⟨sv, _, h1, (compat_mask D m).setD (by rw [hg]; rfl) o', fin hok h2⟩
        · rename_i s hs
          obtain ⟨hok, hsp⟩ := hN fid _ hs
          rcases hsp R _ _ _ _ _ h with ⟨sv, u, h1, h2⟩ | ⟨ch, h1, h2⟩
          · obtain ⟨hg, h1⟩ := cond_some h1
            exact .inl ⟨sv, _, h1, compat_upds hg (compat_mask D m), fin hok h2⟩
          · refine .inr ⟨ch, h1, fun ρ own a w hr hl => ⟨hw ρ a hl, fun K Q hK => ?_⟩⟩
            have hf := looks_get hl fo (by simp [ho, Op.operands, Call.operands, hc])
            rw [hfo] at hf
            have hf := den_vv hf
            have hargs : denL ρ (first.toList.map .v ++ c.args.toList.map (get t) ++ cap.toList.map .v) = some (first.toList ++ c.args.toList.map (Act.eval a) ++ cap.toList) :=
              denL_append (denL_append (denL_v ρ _) (denL_mapOf c.args.toList fun y hy => looks_get hl y (arg_mem ho hy))) (denL_v ρ _)
            have earr : (first.toList ++ c.args.toList.map (Act.eval a) ++ cap.toList).toArray = first ++ c.args.map (Act.eval a) ++ cap := by
              apply Array.ext'; simp
            unfold Oper.wp
            rw [run_call ho hc hf hok w]
            have h3 := h2 ρ own w _ hargs hr
            rw [earr] at h3
            refine h3.mono fun e w' ⟨ρ', own', ht, hr', he⟩ => ?_
            subst he
            exact hK ρ' own' w' ht hr'
        · cases h
      · cases h
    · cases h
  · cases h

theorem evCp_sound {R : Type} {E : CallE R} (hE : EOk P X E) {wide : FuncId → Bool} {N : FuncId → Option NW} (hN : ∀ f s, N f = some s → CallOk P f ∧ NWOk P X f s) {ops : Array Oper} {p : Nat} {mq0 : List SObj} {h0 : List (Nat × List SObj)} {m : List SObj} {x : Option R} {r : R} :
    ∀ {rest : List Oper} {k0 : Nat} {t : List Sv}, (∀ j, rest[j]? = ops[k0 + j]?) → evCp P wide N E ops p mq0 h0 m k0 rest t x = some r → x = some r ∧ LexQ P X ops (effN wide ops) mq0 p h0 m k0 rest t
  | [], k0, t, _, h => ⟨h, trivial⟩
  | o :: rest, k0, t, hl, h => by
    have hk0 : ops[k0]? = some o := by simpa using (hl 0).symm
    have hl' : ∀ j, rest[j]? = ops[k0 + 1 + j]? := fun j => by have := hl (j + 1); simpa [Nat.add_assoc, Nat.add_comm 1 j] using this
    have he : effN wide ops k0 = effOp wide o := by simp [effN, hk0]
    simp only [evCp, forceL_eq] at h
    split at h
    · rename_i hw
      obtain ⟨h1, h2⟩ := evCp_sound hE hN hl' h
      exact ⟨h1, .inl ⟨hw, h2⟩⟩
    · rename_i hw
      split at h
      · cases h
      · rename_i hef
        have fin : ∀ {sv : Sv}, QStep P X ops (visM ops (effN wide ops) k0 m (visC ops mq0 k0 h0)) o t sv → evCp P wide N E ops p mq0 h0 m (k0 + 1) rest (put t o.dst sv) x = some r → x = some r ∧ LexQ P X ops (effN wide ops) mq0 p h0 m k0 (o :: rest) t := fun {sv} hq h => by
          obtain ⟨h1, h2⟩ := evCp_sound hE hN hl' h
          exact ⟨h1, .inr ⟨hw, by rw [he, hef], sv, hq, h2⟩⟩
        split at h
        · rename_i hg
          rcases qopN_sound (X := X) hE hN (ops := ops) (fun ρ a _ => by simp [Region.wanted, hg]) h with ⟨sv, h1, h2⟩ | ⟨ch, h1, _⟩
          · exact fin h2 h1
          · cases h1
        · rename_i j want hg
          split at h
          · rename_i d b hb
            have hid : ∀ c, b = c → setN t d (.v (.bool c)) = t := fun c hc => by subst hc; exact setN_id (gbit_sound hb).1
            rcases gbr_cases h with ⟨rfl, h9⟩ | ⟨rfl, h9⟩
            · rw [hid _ rfl] at h9
              rcases qopN_sound (X := X) hE hN (ops := ops) (fun ρ a hlk => by simp [Region.wanted, hg, yielded_looks hg hb hlk]) h9 with ⟨sv, h1, h2⟩ | ⟨ch, h1, _⟩
              · exact fin h2 h1
              · cases h1
            · rw [hid _ rfl] at h9
              exact fin (.inr (.inl ⟨rfl, fun ρ a hlk => by have := yielded_looks hg hb hlk; cases want <;> simp [Region.wanted, hg, this]⟩)) h9
          · rename_i hb
            obtain ⟨hno, h⟩ := cond_some h
            exact fin (.inr (.inl ⟨rfl, fun ρ a hlk => by simp [Region.wanted, hg, yielded_looks_none hg hb hno hlk]⟩)) h
theorem lexP_lt {eff : Nat → Bool} {D : List Nat} {mq0 : List SObj} {p : Nat} {ch : List PanicEntry} {m2 : List SObj} {ops : Array Oper} {l : List Oper} {k : Nat} {h : List (Nat × List SObj)} {t : List Sv} {m : List SObj} (H : LexP P X ops eff D mq0 p ch m2 (k + 1) l h t m) : k < p := by
  cases l with
  | nil => exact H.elim
  | cons o l =>
    rcases H with ⟨h, _⟩ | ⟨h, _⟩
    · omega
    · omega

theorem okC_spec {ops : Array Oper} {eff : Nat → Bool} {p e : Nat} (h : okC P ops eff p = true) (he : eff e = true) (hs : e < ops.size) : p < e := by
  unfold okC at h
  have h1 := List.all_eq_true.1 (Bool.and_eq_true_iff.1 h).2 e (List.mem_range.2 hs)
  simp only [he, Bool.not_true, Bool.false_or] at h1
  simpa using h1
theorem QStep.mono {ops : Array Oper} {mq mq' : List SObj} {o : Oper} {t : List Sv} {sv : Sv} (h : QStep P X ops mq o t sv) (hc : Compat mq mq') : QStep P X ops mq' o t sv := by
  have tr : ∀ {m : List SObj}, Compat mq' m → Compat mq m := fun hm k o ho ha => hm k o (hc k o ho ha) ha
  rcases h with h | h | h
  · exact .inl fun ρ own m a w0 hm => h ρ own m a w0 (tr hm)
  · exact .inr (.inl h)
  · exact .inr (.inr fun m hm => h m (tr hm))
theorem evC_sound {ops : Array Oper} (H : LexOk ops 0) {R : Type} {E : CallE R} (hE : EOk P X E) {wide : FuncId → Bool} {N : FuncId → Option NW} (hN : ∀ f s, N f = some s → CallOk P f ∧ NWOk P X f s) {D : List Nat} {m0 : List SObj} {k : List Sv → List SObj → Option R} {kp : List PanicEntry → List Sv → List SObj → Option R} {r : R} :
    ∀ {rest : List Oper} {k0 : Nat} {h0 : List (Nat × List SObj)} {t : List Sv} {m : List SObj}, (∀ j, rest[j]? = ops[k0 + j]?) → evC P wide N E ops D m0 (maskD D 0 m0) k0 rest h0 t m k kp = some r →
      (∃ t2 m2, k t2 m2 = some r ∧ LexC P X ops (effN wide ops) D (maskD D 0 m0) t2 m2 k0 rest h0 t m) ∨ (∃ p ch m2, kp ch (unkL m2.length t.length 0) (m2 ++ [.dead]) = some r ∧ LexP P X ops (effN wide ops) D (maskD D 0 m0) p ch m2 k0 rest h0 t m) ∨ (∃ p ch, kp ch (unkL m0.length t.length 0) (m0 ++ [.dead]) = some r ∧ k0 ≤ p ∧ okC P ops (effN wide ops) p = true ∧ (m = m0 → h0 = [] → LexZ P X ops m0 (floatS P ops (effN wide ops) p) p ch k0 rest t))
  | [], k0, h0, t, m, _, h => .inl ⟨t, m, h, rfl, rfl⟩
  | o :: rest, k0, h0, t, m, hl, h => by
    have hk0 : ops[k0]? = some o := by simpa using (hl 0).symm
    have hl' : ∀ j, rest[j]? = ops[k0 + 1 + j]? := fun j => by have := hl (j + 1); simpa [Nat.add_assoc, Nat.add_comm 1 j] using this
    have he : effN wide ops k0 = effOp wide o := by simp [effN, hk0]
    have hks := (Array.getElem?_eq_some_iff.1 hk0).1
    simp only [evC, forceL_eq] at h
    split at h
    · rename_i hef
      have fin : ∀ {sv : Sv} {m' : List SObj}, Compat (maskD D 0 m) m' → EffW P X ops o t m sv m' → evC P wide N E ops D m0 (maskD D 0 m0) (k0 + 1) rest ((k0, maskD D 0 m') :: h0) (put t o.dst sv) m' k kp = some r →
          (∃ t2 m2, k t2 m2 = some r ∧ LexC P X ops (effN wide ops) D (maskD D 0 m0) t2 m2 k0 (o :: rest) h0 t m) ∨ (∃ p ch m2, kp ch (unkL m2.length t.length 0) (m2 ++ [.dead]) = some r ∧ LexP P X ops (effN wide ops) D (maskD D 0 m0) p ch m2 k0 (o :: rest) h0 t m) ∨ (∃ p ch, kp ch (unkL m0.length t.length 0) (m0 ++ [.dead]) = some r ∧ k0 ≤ p ∧ okC P ops (effN wide ops) p = true ∧ (m = m0 → h0 = [] → LexZ P X ops m0 (floatS P ops (effN wide ops) p) p ch k0 (o :: rest) t)) := fun {sv m'} hc hq h => by
        rcases evC_sound H hE hN hl' h with ⟨t2, m2, h4, h5⟩ | ⟨p, ch, m2, h4, h5⟩ | ⟨p, ch, h4, h5, h6, h7⟩
        · exact .inl ⟨t2, m2, h4, sv, _, m', by rw [he, hef]; exact ⟨rfl, pres_of hc, hq⟩, h5⟩
        · rw [put_length] at h4
          exact .inr (.inl ⟨p, ch, m2, h4, .inl ⟨lexP_lt h5, sv, _, m', by rw [he, hef]; exact ⟨rfl, pres_of hc, hq⟩, h5⟩⟩)
        · exfalso; have := okC_spec h6 (by rw [he, hef]) hks; omega
      split at h
      · split at h
        · rename_i hg
          rcases callN_sound (X := X) hN (ops := ops) (fun ρ a _ => by simp [Region.wanted, hg]) h with ⟨sv, m', h1, hcm, h2⟩ | ⟨ch, h1, h2⟩
          · exact fin hcm (.inl h2) h1
          · obtain ⟨h3, h4⟩ := evCp_sound hE hN hl' h1
            exact .inr (.inl ⟨k0, ch, m, h3, .inr ⟨rfl, rfl, by rw [he, hef], h2, h4⟩⟩)
        · rename_i j want hg
          split at h
          · rename_i d b hb
            have hid : ∀ c, b = c → setN t d (.v (.bool c)) = t := fun c hc => by subst hc; exact setN_id (gbit_sound hb).1
            rcases gbr_cases h with ⟨rfl, h9⟩ | ⟨rfl, h9⟩
            · rw [hid _ rfl] at h9
              rcases callN_sound (X := X) hN (ops := ops) (fun ρ a hlk => by simp [Region.wanted, hg, yielded_looks hg hb hlk]) h9 with ⟨sv, m', h1, hcm, h2⟩ | ⟨ch, h1, h2⟩
              · exact fin hcm (.inl h2) h1
              · obtain ⟨h3, h4⟩ := evCp_sound hE hN hl' h1
                exact .inr (.inl ⟨k0, ch, m, h3, .inr ⟨rfl, rfl, by rw [he, hef], h2, h4⟩⟩)
            · rw [hid _ rfl] at h9
              exact fin (compat_mask D m) (.inr ⟨rfl, rfl, fun ρ a hlk => by have := yielded_looks hg hb hlk; cases want <;> simp [Region.wanted, hg, this]⟩) h9
          · rename_i hb
            obtain ⟨hno, h⟩ := cond_some h
            exact fin (compat_mask D m) (.inr ⟨rfl, rfl, fun ρ a hlk => by simp [Region.wanted, hg, yielded_looks_none hg hb hno hlk]⟩) h
      · split at h
        · rename_i hg
          split at h
          · cases h
          · rename_i hin
            obtain ⟨x, m', h1, h2⟩ := eopO_sound (X := X) (ops := ops) hg (compat_mask D m) h
            have hc := h2.compat (compat_mask D m)
            exact fin hc (.inl h2.estep.wp) h1
        · cases h
    · rename_i hef
      have fin : ∀ {sv : Sv}, QStep P X ops (visM ops (effN wide ops) k0 m (visC ops (maskD D 0 m0) k0 h0)) o t sv → evC P wide N E ops D m0 (maskD D 0 m0) (k0 + 1) rest h0 (put t o.dst sv) m k kp = some r →
          (∃ t2 m2, k t2 m2 = some r ∧ LexC P X ops (effN wide ops) D (maskD D 0 m0) t2 m2 k0 (o :: rest) h0 t m) ∨ (∃ p ch m2, kp ch (unkL m2.length t.length 0) (m2 ++ [.dead]) = some r ∧ LexP P X ops (effN wide ops) D (maskD D 0 m0) p ch m2 k0 (o :: rest) h0 t m) ∨ (∃ p ch, kp ch (unkL m0.length t.length 0) (m0 ++ [.dead]) = some r ∧ k0 ≤ p ∧ okC P ops (effN wide ops) p = true ∧ (m = m0 → h0 = [] → LexZ P X ops m0 (floatS P ops (effN wide ops) p) p ch k0 (o :: rest) t)) := fun {sv} hq h => by
        rcases evC_sound H hE hN hl' h with ⟨t2, m2, h4, h5⟩ | ⟨p, ch, m2, h4, h5⟩ | ⟨p, ch, h4, h5, h6, h7⟩
        · exact .inl ⟨t2, m2, h4, sv, h0, m, by rw [he, hef]; exact ⟨rfl, rfl, hq⟩, h5⟩
        · rw [put_length] at h4
          exact .inr (.inl ⟨p, ch, m2, h4, .inl ⟨lexP_lt h5, sv, h0, m, by rw [he, hef]; exact ⟨rfl, rfl, hq⟩, h5⟩⟩)
        · rw [put_length] at h4
          refine .inr (.inr ⟨p, ch, h4, by omega, h6, fun e1 e2 => ?_⟩)
          subst e1 e2
          refine .inl ⟨by omega, sv, .inr ⟨floatS_looks hk0 (waits_no H (by omega)), hq.mono ?_⟩, h7 rfl rfl⟩
          exact visM_compat (compat_mask D m)
      have pan : ∀ {ch : List PanicEntry}, PQ P X ops (visM ops (effN wide ops) k0 m (visC ops (maskD D 0 m0) k0 h0)) o t ch → (bif okC P ops (effN wide ops) k0 then evZ P wide N E ops k0 m0 (k0 + 1) rest t (kp ch (unkL m0.length t.length 0) (m0 ++ [.dead])) else none) = some r →
          (∃ t2 m2, k t2 m2 = some r ∧ LexC P X ops (effN wide ops) D (maskD D 0 m0) t2 m2 k0 (o :: rest) h0 t m) ∨ (∃ p ch m2, kp ch (unkL m2.length t.length 0) (m2 ++ [.dead]) = some r ∧ LexP P X ops (effN wide ops) D (maskD D 0 m0) p ch m2 k0 (o :: rest) h0 t m) ∨ (∃ p ch, kp ch (unkL m0.length t.length 0) (m0 ++ [.dead]) = some r ∧ k0 ≤ p ∧ okC P ops (effN wide ops) p = true ∧ (m = m0 → h0 = [] → LexZ P X ops m0 (floatS P ops (effN wide ops) p) p ch k0 (o :: rest) t)) := fun {ch} hq h => by
        obtain ⟨hz, h⟩ := cond_some h
        obtain ⟨h3, h4⟩ := evZ_sound hE hN (Bool.and_eq_true_iff.1 hz).1 hl' h
        refine .inr (.inr ⟨k0, ch, h3, Nat.le_refl _, hz, fun e1 e2 => ?_⟩)
        subst e1 e2
        exact .inr ⟨rfl, floatS_looks hk0 (waits_irr H k0), fun mm hm => hq mm (fun k o ho ha => hm k o (visM_compat (compat_mask D m) k o ho ha) ha), h4⟩
      split at h
      · rename_i hg
        rcases qopN_sound (X := X) hE hN (ops := ops) (fun ρ a _ => by simp [Region.wanted, hg]) h with ⟨sv, h1, h2⟩ | ⟨ch, h1, h2⟩
        · exact fin h2 h1
        · exact pan h2 h1
      · rename_i j want hg
        split at h
        · rename_i d b hb
          have hid : ∀ c, b = c → setN t d (.v (.bool c)) = t := fun c hc => by subst hc; exact setN_id (gbit_sound hb).1
          rcases gbr_cases h with ⟨rfl, h9⟩ | ⟨rfl, h9⟩
          · rw [hid _ rfl] at h9
            rcases qopN_sound (X := X) hE hN (ops := ops) (fun ρ a hlk => by simp [Region.wanted, hg, yielded_looks hg hb hlk]) h9 with ⟨sv, h1, h2⟩ | ⟨ch, h1, h2⟩
            · exact fin h2 h1
            · exact pan h2 h1
          · rw [hid _ rfl] at h9
            exact fin (.inr (.inl ⟨rfl, fun ρ a hlk => by have := yielded_looks hg hb hlk; cases want <;> simp [Region.wanted, hg, this]⟩)) h9
        · rename_i hb
          obtain ⟨hno, h⟩ := cond_some h
          exact fin (.inr (.inl ⟨rfl, fun ρ a hlk => by simp [Region.wanted, hg, yielded_looks_none hg hb hno hlk]⟩)) h

theorem notU_v {x : Value} : ∀ U : List Nat, notU U (.v x) = true
  | [] => rfl
  | k :: U => by simp only [notU, notS, notU_v U, Bool.and_self]
theorem creB_guard {ops : Array Oper} {i : Nat} {o : Oper} (ho : ops[i]? = some o) (h : creB ops i = true) : o.guard = none := by
  unfold creB at h
  rw [ho] at h
  dsimp only at h
  cases hg : o.guard with
  | none => rfl
  | some g => rw [hg] at h; cases h
theorem creV_sound {ops : Array Oper} {o : Oper} {t cs : List Sv} {T : TypeId} {L : Option Nat} (h : creV P o t = some (cs, T, L)) (hg : o.guard = none) : CreR P ops o t cs T L := by
  intro ρ a w hl
  refine ⟨by simp [Region.wanted, hg], ?_⟩
  unfold creV at h
  split at h
  · rename_i e ho
    split at h
    · rename_i z hz
      simp only [Option.some.injEq, Prod.mk.injEq] at h
      obtain ⟨rfl, rfl, rfl⟩ := h
      obtain ⟨i, zv, hi, hzv, hden⟩ := zeroS_sound hz ρ
      refine ⟨_, hden, ?_⟩
      simp [execOp, ho, Instr.alloc, zeroValue, typeInfo, hi, hzv, newVar, newRow, mkVal]
    · cases h
  · rename_i e x ho
    split at h
    · rename_i cs' hc
      simp only [Option.some.injEq, Prod.mk.injEq] at h
      obtain ⟨rfl, rfl, rfl⟩ := h
      obtain ⟨lc, h1, h2, h3⟩ := cellsS_sound hc (looks_get hl x (by simp [ho, Op.operands]))
      refine ⟨lc, h1, ?_⟩
      simp [execOp, ho, Instr.box, newVar, newRow, h2, mkVal]
    · cases h
  · rename_i T' len parts ho
    split at h
    · rename_i e hu
      split at h
      · rename_i ie hie
        split at h
        · rename_i z hz
          obtain ⟨hb, h⟩ := cond_some h
          split at h
          · rename_i cs' hf
            simp only [Option.some.injEq, Prod.mk.injEq] at h
            obtain ⟨rfl, rfl, rfl⟩ := h
            obtain ⟨i, zv, hi, hzv, hden⟩ := zeroS_sound hz ρ
            rw [hie] at hi; simp at hi; subst hi
            simp only [Bool.and_eq_true, Bool.not_eq_true'] at hb
            have hle := Nat.le_of_ble_eq_true hb.1
            have hsz : ie.size ≠ 0 := fun e => by have h2 := hb.2.1; rw [e] at h2; cases h2
            have hzl := Nat.eq_of_beq_eq_true hb.2.2
            have hzl' : zv.cells.toList.length = ie.size := by rw [denL_length hden]; exact hzl
            have hp : ∀ (j : Nat) (p : Nat × Sv), (parts.toList.map fun p => (p.1, get t p.2))[j]? = some p → ∃ x, (parts.toList.map fun p => (p.1, Act.eval a p.2))[j]? = some (p.1, x) ∧ den ρ p.2 = some x := by
              intro j p hj
              rw [List.getElem?_map] at hj ⊢
              cases hq : parts.toList[j]? with
              | none => simp [hq] at hj
              | some q =>
                simp [hq] at hj; subst hj
                have hmem : q ∈ parts := Array.mem_toList_iff.1 (List.mem_of_getElem? hq)
                exact ⟨_, by simp, looks_get hl q.2 (by simp only [ho, Op.operands]; simp; exact ⟨q.1, hmem⟩)⟩
            obtain ⟨lo, h1, h2⟩ := fillS_sound (repl_den hden len) hp (by simp) hf
            have e0 : (parts.map fun (x : Nat × Operand) => (x.1, Act.eval a x.2)).toList = parts.toList.map fun p => (p.1, Act.eval a p.2) := by simp
            have e1 := repl_range zv.cells (by simpa using hzl') len
            refine ⟨lo, h1, ?_⟩
            show (execOp a.eval o).run P w = .ok (.value (.slice (some ⟨w.heap.size, 0, none⟩) len len)) (w.alloc (.cells lo.toArray e))
            have hbig : ¬ (len * ie.size > 2 ^ 24) := by omega
            by_cases h0 : len * ie.size = 0
            · have hlen0 : len = 0 := by rcases Nat.mul_eq_zero.1 h0 with h | h <;> omega
              subst hlen0
              simp only [replV] at h2
              simp [execOp, ho, Instr.buildSlice, run_underlying hu, run_sizeOf w hie, newRow]
              have e9 : Array.map (fun (x : Nat) => (default : Value)) (Array.range 0) = #[] := by simp
              rw [e9, h2]
              simp
            · simp only [execOp, ho, Instr.buildSlice, Sem.run_bind, run_underlying hu, Result.andThen_ok, run_sizeOf w hie, Sem.run_ite]
              rw [if_neg hbig, if_neg h0]
              simp only [Sem.run_bind, Sem.run_pure, Result.andThen_ok, zeroValue, typeInfo, run_program, hie, hzv]
              rw [e0, e1, h2]
              simp [newRow]
          · cases h
        · cases h
      · cases h
    · cases h
  · cases h
theorem maskD_len {D : List Nat} : ∀ {m : List SObj} {k : Nat}, (maskD D k m).length = m.length
  | [], k => rfl
  | o :: m, k => by simp [maskD, maskD_len (m := m)]
theorem visR_ok {ops : Array Oper} (H : LexOk ops 0) {D : List Nat} {n0 k0 : Nat} {mq0 m : List SObj} {ob : Nat → SObj} (hmq : mq0.length = n0) (hcel : ∀ k, k ∈ celL ops n0 → k ∈ D) (hlen : m.length = n0 + crank ops ops.size) (hrow : ∀ e, e < k0 → creB ops e = true → rowB ops e = true → m[n0 + crank ops e]? = some (ob e)) : VisOk ops n0 mq0 ob k0 (visR ops D n0 k0 mq0 m) := by
  intro k o hk ha
  unfold visR at hk
  rcases Nat.lt_or_ge k n0 with h | h
  · rw [List.getElem?_append_left (by omega)] at hk
    exact .inl hk
  · rw [List.getElem?_append_right (by omega), List.getElem?_drop, show n0 + (k - mq0.length) = k by omega] at hk
    have hkl : k < m.length := by have := (List.getElem?_eq_some_iff.1 hk).1; rwa [deadU_len] at this
    by_cases hu : k ∈ unwL ops n0 k0 ++ D
    · rw [deadU_in (by simpa using hu) hkl] at hk
      simp at hk; subst hk; cases ha
    · rw [deadU_out (by simpa using hu)] at hk
      obtain ⟨e, h1, h2, h3⟩ := crank_surj (ops := ops) (n := ops.size) (q := k - n0) (by omega)
      have hke : k = n0 + crank ops e := by omega
      simp only [List.mem_append, not_or] at hu
      have hw := unwL_out (n0 := n0) (i := k0) h2 (by rw [← hke]; exact hu.1)
      have hr : rowB ops e = true := by
        cases hr : rowB ops e with
        | true => rfl
        | false => exact absurd (hcel k (celL_mem.2 ⟨e, h2, hr, hke⟩)) hu.2
      have h4 := hrow e (waits_lt H _ _ _ hw) h2 hr
      rw [← hke, hk] at h4
      exact .inr ⟨e, h2, hr, hw, hke, (Option.some.inj h4).symm⟩
theorem evR_sound {ops : Array Oper} (H : LexOk ops 0) {R : Type} {E : CallE R} (hE : EOk P X E) {wide : FuncId → Bool} {N : FuncId → Option NW} (hN : ∀ f s, N f = some s → CallOk P f ∧ NWOk P X f s) {D : List Nat} {n0 : Nat} {mq0 : List SObj} {k : List Sv → List SObj → Option R} {r : R}
    (hmq : mq0.length = n0) (hD : ∀ e, creB ops e = true → rowB ops e = true → n0 + crank ops e ∉ D) (hcel : ∀ k, k ∈ celL ops n0 → k ∈ D) :
    ∀ {rest : List Oper} {k0 : Nat} {t : List Sv} {m : List SObj} (ob0 : Nat → SObj), (∀ j, rest[j]? = ops[k0 + j]?) → m.length = n0 + crank ops ops.size → (∀ e, e < k0 → creB ops e = true → rowB ops e = true → m[n0 + crank ops e]? = some (ob0 e) ∧ alive (ob0 e) = true) → evR P wide N E ops D n0 mq0 k0 rest t m k = some r →
      ∃ t2 m2 V ob, k t2 m2 = some r ∧ LexR P X ops n0 (effN wide ops) D V ob t2 m2 k0 rest t m ∧ (∀ i, VisOk ops n0 mq0 ob i (V i)) ∧ ∀ e, e < k0 → ob e = ob0 e
  | [], k0, t, m, ob0, _, _, _, h => ⟨t, m, fun _ => [], ob0, h, ⟨rfl, rfl⟩, fun i k o hk => by simp at hk, fun _ _ => rfl⟩
  | o :: rest, k0, t, m, ob0, hl, hlen, hrow, h => by
    have hk0 : ops[k0]? = some o := by simpa using (hl 0).symm
    have hl' : ∀ j, rest[j]? = ops[k0 + 1 + j]? := fun j => by have := hl (j + 1); simpa [Nat.add_assoc, Nat.add_comm 1 j] using this
    have he : effN wide ops k0 = effOp wide o := by simp [effN, hk0]
    simp only [evR, forceL_eq] at h
    split at h
    · rename_i hc
      split at h
      · rename_i cs T L hcv
        obtain ⟨hlt, h⟩ := cond_some h
        obtain ⟨t2, m2, V, ob, h1, h2, h3, h4⟩ := evR_sound H hE hN hmq hD hcel (fun e => if e = k0 then .cells cs T else ob0 e) hl' (by rw [List.length_set]; exact hlen) (fun e he' hce hre => by
          by_cases e0 : e = k0
          · subst e0
            simp only [if_true]
            exact ⟨List.getElem?_set_self (place_lt hce hlen), rfl⟩
          · simp only [e0, if_false]
            rw [List.getElem?_set_ne (place_ne hc hce (fun h => e0 h.symm))]
            exact hrow e (by omega) hce hre) h
        have hob : ob k0 = .cells cs T := by rw [h4 k0 (by omega)]; simp
        refine ⟨t2, m2, V, ob, h1, ⟨mkO (n0 + crank ops k0) L, _, ?_, h2⟩, h3, fun e he' => ?_⟩
        · unfold RStep
          rw [hc]
          exact ⟨cs, T, L, creV_sound hcv (creB_guard hk0 hc), hlt, rfl, hob, rfl⟩
        · rw [h4 e (by omega)]
          have : e ≠ k0 := by omega
          simp [this]
      · cases h
    · rename_i hc
      -- an effect's end
      have fin : ∀ {sv : Sv} {mh : List SObj}, effOp wide o = true → Compat (maskD D 0 (deadU (unwL ops n0 k0) 0 m)) mh → EStepW P X ops o t (deadU (unwL ops n0 k0) 0 m) sv mh →
          (bif (Nat.beq mh.length m.length && deadAt (unwL ops n0 k0) 0 mh) && (roB D 0 (deadU (unwL ops n0 k0) 0 m) mh && (ltM n0 mh && notU (unwL ops n0 k0) sv)) then evR P wide N E ops D n0 mq0 (k0 + 1) rest (put t o.dst sv) (restU (unwL ops n0 k0) 0 m mh) k else none) = some r →
          ∃ t2 m2 V ob, k t2 m2 = some r ∧ LexR P X ops n0 (effN wide ops) D V ob t2 m2 k0 (o :: rest) t m ∧ (∀ i, VisOk ops n0 mq0 ob i (V i)) ∧ ∀ e, e < k0 → ob e = ob0 e := fun {sv mh} hef hcm hes h => by
        obtain ⟨hg, h⟩ := cond_some h
        simp only [Bool.and_eq_true] at hg
        obtain ⟨⟨g1, g2⟩, g3, g4, g5⟩ := hg
        have g1 := Nat.eq_of_beq_eq_true g1
        have hne : ∀ e, creB ops e = true → e ≠ k0 := fun e hce h => by rw [h, hc] at hce; cases hce
        obtain ⟨t2, m2, V, ob, h1, h2, h3, h4⟩ := evR_sound H hE hN hmq hD hcel ob0 hl' (by rw [restU_len g1]; exact hlen) (fun e he' hce hre => by
          obtain ⟨q1, q2⟩ := hrow e (by have := hne e hce; omega) hce hre
          refine ⟨?_, q2⟩
          by_cases hu : n0 + crank ops e ∈ unwL ops n0 k0
          · rw [restU_in g1 (by simpa using hu)]; exact q1
          · rw [restU_out g1 (by simpa using hu)]
            refine hcm _ _ ?_ q2
            have hm : memN D (0 + (n0 + crank ops e)) = false := by
              cases h : memN D (0 + (n0 + crank ops e)) with
              | false => rfl
              | true => exact absurd (memN_iff.1 (by simpa using h)) (hD e hce hre)
            rw [maskD_atC (by rw [deadU_out (by simpa using hu)]; exact q1) hm]) h
        refine ⟨t2, m2, V, ob, h1, ⟨sv, _, ?_, h2⟩, h3, fun e he' => h4 e (by omega)⟩
        unfold RStep
        rw [hc, he, hef]
        exact ⟨g5, mh, hes, g1, g2, g3, g4, hcm, rfl⟩
      split at h
      · rename_i hef
        split at h
        · rename_i hg
          split at h
          · rcases callN_sound (X := X) hN (ops := ops) (fun ρ a _ => by simp [Region.wanted, hg]) h with ⟨sv, m', h1, hcm, h2⟩ | ⟨ch, h1, _⟩
            · exact fin hef hcm h2 h1
            · cases h1
          · split at h
            · cases h
            · rename_i hin
              obtain ⟨x, m', h1, h2⟩ := eopO_sound (X := X) (ops := ops) hg (compat_mask D _) h
              exact fin hef (h2.compat (compat_mask D _)) h2.estep.wp h1
        · cases h
      · rename_i hef
        have finq : ∀ {sv : Sv}, QStep P X ops (visR ops D n0 k0 mq0 m) o t sv → notU (unwL ops n0 k0) sv = true → evR P wide N E ops D n0 mq0 (k0 + 1) rest (put t o.dst sv) m k = some r →
            ∃ t2 m2 V ob, k t2 m2 = some r ∧ LexR P X ops n0 (effN wide ops) D V ob t2 m2 k0 (o :: rest) t m ∧ (∀ i, VisOk ops n0 mq0 ob i (V i)) ∧ ∀ e, e < k0 → ob e = ob0 e := fun {sv} hq hn h => by
          have hne : ∀ e, creB ops e = true → e ≠ k0 := fun e hce h => by rw [h, hc] at hce; cases hce
          obtain ⟨t2, m2, V, ob, h1, h2, h3, h4⟩ := evR_sound H hE hN hmq hD hcel ob0 hl' hlen (fun e he' hce hre => hrow e (by have := hne e hce; omega) hce hre) h
          refine ⟨t2, m2, fun i => if i = k0 then visR ops D n0 k0 mq0 m else V i, ob, h1, ⟨sv, m, ?_, LexR.congr (fun i hi => if_neg (show ¬ i = k0 by omega)) h2⟩, fun i => ?_, fun e he' => h4 e (by omega)⟩
          · unfold RStep
            rw [hc, he, hef]
            exact ⟨hn, rfl, by simpa using hq⟩
          · by_cases e0 : i = k0
            · subst e0
              simp only [if_true]
              exact visR_ok H hmq hcel hlen fun e he' hce hre => by rw [h4 e (by omega)]; exact (hrow e he' hce hre).1
            · simp only [e0, if_false]; exact h3 i
        split at h
        · rename_i hg
          rcases qopN_sound (X := X) hE hN (ops := ops) (fun ρ a _ => by simp [Region.wanted, hg]) h with ⟨sv, h1, h2⟩ | ⟨ch, h1, _⟩
          · obtain ⟨hn, h1⟩ := cond_some h1
            exact finq h2 hn h1
          · cases h1
        · rename_i j want hg
          split at h
          · rename_i d b hb
            have hid : ∀ c, b = c → setN t d (.v (.bool c)) = t := fun c hc => by subst hc; exact setN_id (gbit_sound hb).1
            rcases gbr_cases h with ⟨rfl, h9⟩ | ⟨rfl, h9⟩
            · rw [hid _ rfl] at h9
              rcases qopN_sound (X := X) hE hN (ops := ops) (fun ρ a hlk => by simp [Region.wanted, hg, yielded_looks hg hb hlk]) h9 with ⟨sv, h1, h2⟩ | ⟨ch, h1, _⟩
              · obtain ⟨hn, h1⟩ := cond_some h1
                exact finq h2 hn h1
              · cases h1
            · rw [hid _ rfl] at h9
              exact finq (.inr (.inl ⟨rfl, fun ρ a hlk => by have := yielded_looks hg hb hlk; cases want <;> simp [Region.wanted, hg, this]⟩)) (notU_v _) h9
          · rename_i hb
            obtain ⟨hno, h⟩ := cond_some h
            exact finq (.inr (.inl ⟨rfl, fun ρ a hlk => by simp [Region.wanted, hg, yielded_looks_none hg hb hno hlk]⟩)) (notU_v _) h

/-! ### Results, calls, code -/
def resRun (l : List Value) (rv : ResultVar) : Sem Value :=
  match rv with
  | .tmp t => pure (l.toArray.getD t undef)
  | .cell a t => do loadVar t (← asAddr (l.toArray.getD a undef))

theorem resS_sound {t : List Sv} {m : List SObj} {ls : List Sv} : ∀ {rs : List ResultVar}, resS P t m rs = some ls → ∀ ρ own w l, denL ρ t = some l → Rep X ρ own m w →
    ∃ lv, denL ρ ls = some lv ∧ (rs.mapM (resRun l)).run P w = .ok lv w := by
  intro rs
  induction rs generalizing ls with
  | nil => intro h ρ own w l hl hr; simp [resS] at h; subst h; exact ⟨[], rfl, by simp⟩
  | cons rv rs ih =>
    intro h ρ own w l hl hr
    cases rv with
    | tmp i =>
      simp only [resS] at h
      split at h
      · rename_i l' hl'
        simp at h; subst h
        obtain ⟨lv, h1, h2⟩ := ih hl' ρ own w l hl hr
        refine ⟨_, denL_mk (nth_den i hl) h1, ?_⟩
        simp only [List.mapM_cons, Sem.run_bind, Sem.run_pure, Result.andThen_ok, h2, resRun]
        simp
      · cases h
    | cell a T =>
      simp only [resS] at h
      split at h
      · rename_i b off hc
        split at h
        · rename_i cs e hm
          split at h
          · rename_i s l' hs hl'
            simp at h; subst h
            obtain ⟨lv, h1, h2⟩ := ih hl' ρ own w l hl hr
            have ha := nth_den a hl
            rw [hc] at ha
            obtain ⟨g, hg, ha'⟩ := den_ptr ha
            obtain ⟨g', hg', _, lc, hlc, hh⟩ := hr.obj b _ hm rfl
            rw [hg] at hg'; simp at hg'; subst hg'
            obtain ⟨x, hx, hload⟩ := run_loadVar (P := P) hlc hs w g hh
            refine ⟨x :: lv, denL_mk hx h1, ?_⟩
            have ha2 : l.toArray.getD a undef = .pointer (some ⟨g, off, none⟩) := by simpa using ha'
            have hasA : (asAddr (l.toArray.getD a undef)).run P w = .ok ⟨g, off, none⟩ w := by rw [ha2]; rfl
            simp only [List.mapM_cons, Sem.run_bind, resRun, hasA, Sem.run_pure, Result.andThen_ok, hload, h2]
          · cases h
        · cases h
      · cases h

theorem results_sound {fn : Func} {t : List Sv} {m : List SObj} {ls : List Sv} (h : resS P t m fn.results.toList = some ls) {ρ : List Un} {own : Nat → Option Nat} {w : World} {l : List Value} (hl : denL ρ t = some l) (hr : Rep X ρ own m w) :
    ∃ x, den ρ (tupS ls) = some x ∧ (results fn l.toArray).run P w = .ok x w := by
  obtain ⟨lv, h1, h2⟩ := resS_sound h ρ own w l hl hr
  have key : (results fn l.toArray).run P w = .ok (if h : lv.toArray.size = 1 then lv.toArray[0] else .tuple lv.toArray) w := by
    have e : results fn l.toArray = (do
      let vs ← fn.results.mapM (resRun l)
      pure (if h : vs.size = 1 then vs[0] else .tuple vs)) := by
      unfold results
      congr 1
    rw [e, Array.mapM_eq_mapM_toList]
    simp only [Sem.run_bind, Sem.run_map, h2, Result.andThen_ok, Sem.run_pure]
  refine ⟨_, ?_, key⟩
  have hlen := denL_length h1
  match ls, lv, h1, hlen with
  | [], [], _, _ => simp [tupS, den, denL]
  | [s], [v], h1, _ =>
    obtain ⟨x, xs, hx, _, he⟩ := denL_cons h1
    simp at he
    simp [tupS, hx, he.1]
  | s :: s' :: ls, v :: v' :: lv, h1, _ => simp [tupS, den, h1]

def EvOk (P : Program) (X : Ext) {R : Type} (E : (Nat → Option Hook) → Code → List Sv → List SObj → (SEx → List Sv → List SObj → Option R) → Option R) : Prop :=
  ∀ B c t m k r, BlkIn P X B c → E B c t m k = some r → ∃ e t' m', k e t' m' = some r ∧ EvR P X c t m e t' m'

theorem setN_nth : ∀ {t : List Sv} {d : Nat} {x : Sv}, nth t d = x → d < t.length → setN t d x = t
  | [], d, x, h, hd => by cases hd
  | a :: t, 0, x, h, hd => by simp only [nth] at h; simp only [setN]; rw [h]
  | a :: t, d + 1, x, h, hd => by simp only [nth] at h; simp only [setN]; rw [setN_nth h (by simpa using hd)]
theorem nth_out : ∀ {t : List Sv} {d : Nat}, t.length ≤ d → nth t d = .v undef
  | [], d, h => by cases d <;> rfl
  | a :: t, 0, h => by simp at h
  | a :: t, d + 1, h => by simp only [nth]; exact nth_out (by simpa using h)
theorem splitT_sound {R : Type} {r : R} : ∀ {l : List (Nat × Nat × Nat)} {t : List Sv} {k : List Sv → Option R}, splitT l t k = some r → k t = some r
  | [], t, k, h => h
  | (n, d, b) :: l, t, k, h => by
    simp only [splitT] at h
    split at h
    · split at h
      · rename_i q a hq
        obtain ⟨j, h1, h2, h3, h4⟩ := brIdx_sound h
        have hd : d < t.length := Nat.lt_of_not_le fun hle => by rw [nth_out hle] at hq; cases hq
        rw [← h1, setN_nth hq hd] at h4
        exact splitT_sound h4
      · exact splitT_sound h
    · exact splitT_sound h

theorem callE_sound {Γ : Env} (hΓ : EnvOk P X Γ) {R : Type} {E : (Nat → Option Hook) → Code → List Sv → List SObj → (SEx → List Sv → List SObj → Option R) → Option R} (hE : EvOk P X E) : EOk P X (callE P Γ E) := by
  refine ⟨?_, fun f args m k kp r h => ?_⟩
  rotate_left
  · unfold callE at h
    dsimp only at h
    split at h
    · rename_i s hs
      obtain ⟨h1, h2⟩ := hΓ.quiets f s hs
      obtain ⟨sv, h3, h4⟩ := h2 R args m k kp r h
      exact ⟨sv, h3, h1, h4⟩
    · cases h
  intro f args m k kp r h
  unfold callE at h
  dsimp only at h
  split at h
  · rename_i s hs
    rcases hΓ.specs f s hs with ⟨h1, h2⟩ | h2
    · rcases h2 R args m k kp r h with h3 | h3 | h3
      · exact .inl ⟨h1, .inl h3⟩
      · exact .inl ⟨h1, .inr h3⟩
      · exact .inr h3
    · exact .inr (h2 R args m k kp r h)
  · split at h
    · rename_i fn hfn
      split at h
      · rename_i c hb
        refine .inl ⟨⟨fn, hfn, by simp [hb], hΓ.names f fn hfn⟩, ?_⟩
        obtain ⟨e, t', m', h1, h2⟩ := hE _ _ _ _ _ _ (hΓ.hooks f fn c hfn hb) h
        have enter : ∀ {l : List Value} {w : World} {Rr : Ending → World → Prop}, c.wp P (bodyPost P fn Rr) ⟨(l ++ List.replicate (fn.ntmps - l.length) undef).toArray, []⟩ w → Calls P f l.toArray w Rr := fun {l w Rr} hwp => by
          refine calls_of_wp hfn hb ?_
          have e : l.toArray ++ Array.replicate (fn.ntmps - l.toArray.size) undef = (l ++ List.replicate (fn.ntmps - l.length) undef).toArray := by simp
          rw [e]; exact hwp
        have frame : ∀ {ρ : List Un} {l : List Value}, denL ρ args = some l → denL ρ (args ++ List.replicate (fn.ntmps - args.length) (.v undef)) = some (l ++ List.replicate (fn.ntmps - l.length) undef) := fun {ρ l} hl => by
          rw [← denL_length hl]
          exact denL_append hl (denL_replicate ρ undef _)
        have ret : e.toExit = .normal ∨ e.toExit = .ret → (match resS P t' m' fn.results.toList with | some l => k (tupS l) m' | none => none) = some r →
            ∃ sv m', k sv m' = some r ∧ CallR P X f args m sv m' := by
          intro he h1
          split at h1
          · rename_i ls hls
            refine ⟨_, m', h1, fun ρ own w l hl hr => enter ?_⟩
            refine h2 ρ own w _ [] _ (frame hl) hr fun ρ' own' w' l' ht hl' hr' => ?_
            obtain ⟨x, hx, hres⟩ := results_sound hls hl' hr'
            rcases he with he | he <;> rw [he] <;> exact ⟨rfl, x, hres, ρ', own', x, ht, hx, hr', rfl⟩
          · cases h1
        cases e with
        | normal => exact .inl (ret (.inl rfl) h1)
        | ret => exact .inl (ret (.inr rfl) h1)
        | panic ch =>
          refine .inr ⟨ch, m', h1, fun ρ own w l hl hr => enter ?_⟩
          exact h2 ρ own w _ [] _ (frame hl) hr fun ρ' own' w' l' ht hl' hr' => ⟨rfl, ρ', own', ht, hr', rfl⟩
        | exit id => cases h1
      · cases h
    · cases h

theorem tailOf_spec {wide : FuncId → Bool} {ops : Array Oper} {h : Nat} : ∀ {g n : Nat}, tailOf wide ops g n = some h → Region.lexTailB .any ops h = true
  | 0, n, he => by cases he
  | g + 1, n, he => by
    simp only [tailOf] at he
    split at he
    · rename_i hb; simp only [Option.some.injEq] at he; subst he; exact (Bool.and_eq_true_iff.1 hb).2
    · exact tailOf_spec he

/-- A loop's rounds, so many of them. -/
def LoopOk (P : Program) (X : Ext) {R : Type} (E : (Nat → Option Hook) → Code → List Sv → List SObj → (SEx → List Sv → List SObj → Option R) → Option R) : Prop :=
  ∀ B a t m k r, BlkIn P X B a → E B (.loop a) t m k = some r → ∃ e t' m' j, k e t' m' = some r ∧
    ∀ ρ own w l ds (Q : Exit → Act → World → Prop), denL ρ t = some l → Rep X ρ own m w →
      (∀ ρ' own' w' l', To ρ own w ρ' own' w' → denL ρ' t' = some l' → Rep X ρ' own' m' w' → Q e.toExit ⟨l'.toArray, ds⟩ w') → Code.rounds P a Q j ⟨l.toArray, ds⟩ w

theorem loop_step {Γ : Env} {R : Type} {n : Nat} (ih : EvOk P X (R := R) (ev P Γ n)) (il : LoopOk P X (R := R) (ev P Γ n)) : LoopOk P X (R := R) (ev P Γ (n + 1)) := by
  intro B a t m k r hB h
  simp only [ev] at h
  obtain ⟨e, t', m', h1, h2⟩ := ih _ _ _ _ _ _ hB h
  cases e with
  | normal =>
    obtain ⟨e2, t2, m2, j, h3, h4⟩ := il _ _ _ _ _ _ hB h1
    refine ⟨e2, t2, m2, j + 1, h3, fun ρ own w l ds Q hl hr hK => ?_⟩
    rw [rounds_succ]
    refine h2 ρ own w l ds _ hl hr fun ρ' own' w' l' ht hl' hr' => ?_
    exact h4 ρ' own' w' l' ds Q hl' hr' fun ρ'' own'' w'' l'' ht' hl'' hr'' => hK ρ'' own'' w'' l'' (ht.trans ht') hl'' hr''
  | exit id => exact ⟨_, _, _, 1, h1, fun ρ own w l ds Q hl hr hK => by rw [rounds_succ]; exact h2 ρ own w l ds _ hl hr fun ρ' own' w' l' ht hl' hr' => hK ρ' own' w' l' ht hl' hr'⟩
  | ret => exact ⟨_, _, _, 1, h1, fun ρ own w l ds Q hl hr hK => by rw [rounds_succ]; exact h2 ρ own w l ds _ hl hr fun ρ' own' w' l' ht hl' hr' => hK ρ' own' w' l' ht hl' hr'⟩
  | panic ch => exact ⟨_, _, _, 1, h1, fun ρ own w l ds Q hl hr hK => by rw [rounds_succ]; exact h2 ρ own w l ds _ hl hr fun ρ' own' w' l' ht hl' hr' => hK ρ' own' w' l' ht hl' hr'⟩

theorem rep_replicate {ρ : List Un} {own : Nat → Option Nat} {m : List SObj} {w : World} (r : Nat) (h : Rep X ρ own m w) : ∃ ρ1, (∃ l, ρ1 = ρ ++ l) ∧ Rep X ρ1 own (m ++ List.replicate r .dead) w := by
  induction r with
  | zero => exact ⟨ρ, ⟨[], by simp⟩, by simpa using h⟩
  | succ r ih =>
    obtain ⟨ρ1, ⟨l, rfl⟩, h1⟩ := ih
    refine ⟨(ρ ++ l) ++ [.vals []], ⟨l ++ [.vals []], by rw [List.append_assoc]⟩, ?_⟩
    rw [List.replicate_succ', ← List.append_assoc]
    exact h1.vals []
theorem ev_step {Γ : Env} (hΓ : EnvOk P X Γ) {R : Type} {n : Nat} (ih : EvOk P X (R := R) (ev P Γ n)) (il : LoopOk P X (R := R) (ev P Γ (n + 1))) : EvOk P X (R := R) (ev P Γ (n + 1)) := by
    intro B c t m k r hB h
    have hcall := callE_sound hΓ ih
    have h0 := h
    simp only [ev] at h
    split at h
    · exact ⟨_, _, _, h, fun ρ own w l ds Q hl hr hK => wp_skip (hK ρ own w l (To.refl _ _ _) hl hr)⟩
    · exact ⟨_, _, _, h, fun ρ own w l ds Q hl hr hK => wp_label (hK ρ own w l (To.refl _ _ _) hl hr)⟩
    · rename_i id ops draw
      split at h
      · rcases evOps_sound hcall h with ⟨t', m', h1, h2⟩ | ⟨ch, t', m', h1, h2⟩
        · exact ⟨_, _, _, splitT_sound h1, fun ρ own w l ds Q hl hr hK => wp_region_list (h2 ρ own w l ds Q hl hr hK)⟩
        · exact ⟨_, _, _, h1, fun ρ own w l ds Q hl hr hK => wp_region_list (h2 ρ own w l ds Q hl hr hK)⟩
      · split at h
        · rename_i hlex
          obtain ⟨t', h1, h2⟩ := evQ_sound hcall h
          refine ⟨_, _, _, splitT_sound h1, fun ρ own w l ds Q hl hr hK => ?_⟩
          have hlex := (Bool.and_eq_true_iff.1 hlex).1
          have hC0 : To ρ own w ρ own { w with drawn := w.drawn + 1 } := ⟨⟨[], by simp⟩, fun _ hb => .inl hb, ⟨rfl, rfl, rfl, Nat.le_refl _, fun _ _ _ => rfl⟩⟩
          refine wp_region_quiet (C := fun w' => To ρ own w ρ own w' ∧ Rep X ρ own m w') hΓ.mixed hlex ⟨hC0, hr.drew⟩ ?_
          refine h2 ρ own _ _ l ds _ ⟨hC0, hr.drew⟩ (fun _ hw => hw.2) (fun w1 w2 ⟨ht, hrep⟩ hk => ⟨ht.trans ⟨⟨[], by simp⟩, fun _ hb => .inl hb, ⟨hk.os, hk.tape, hk.output, hk.size, fun b hlt _ => hk.block b hlt rfl⟩⟩,
            hrep.same (fun b hb => hk.block b hb rfl) hk.size⟩) hl ?_
          exact fun l' hl' w' hw' => hK ρ own w' l' hw'.1 hl' hw'.2
        · split at h
          · rename_i hd htail
            have hlex := tailOf_spec htail
            obtain ⟨t', h1, h2⟩ := evQ_sound hcall h
            have fin : ∀ (e : SEx) (t2 : List Sv) (m2 : List SObj), (∀ ρ own w l ds (Q : Exit → Act → World → Prop), denL ρ t' = some l → Rep X ρ own m w →
                (∀ ρ' own' w' l', To ρ own w ρ' own' w' → denL ρ' t2 = some l' → Rep X ρ' own' m2 w' → Q e.toExit ⟨l'.toArray, ds⟩ w') → wpList P ops Q (ops.toList.drop hd) ⟨l.toArray, ds⟩ w) →
                EvR P X (Code.region id ops true) t m e t2 m2 := by
              intro e t2 m2 h4 ρ own w l ds Q hl hr hK
              have hC0 : To ρ own w ρ own { w with drawn := w.drawn + 1 } := ⟨⟨[], by simp⟩, fun _ hb => .inl hb, ⟨rfl, rfl, rfl, Nat.le_refl _, fun _ _ _ => rfl⟩⟩
              refine wp_region_quiet_tail (C := fun w' => To ρ own w ρ own w' ∧ Rep X ρ own m w') hd hΓ.mixed hlex ⟨hC0, hr.drew⟩ ?_
              refine h2 ρ own _ _ l ds _ ⟨hC0, hr.drew⟩ (fun _ hw => hw.2) (fun w1 w2 ⟨ht, hrep⟩ hk => ⟨ht.trans ⟨⟨[], by simp⟩, fun _ hb => .inl hb, ⟨hk.os, hk.tape, hk.output, hk.size, fun b hlt _ => hk.block b hlt rfl⟩⟩,
                hrep.same (fun b hb => hk.block b hb rfl) hk.size⟩) hl ?_
              intro l' hl' w' hw'
              exact h4 ρ own w' l' ds Q hl' hw'.2 fun ρ'' own'' w'' l'' ht' hl'' hr'' => hK ρ'' own'' w'' l'' (hw'.1.trans ht') hl'' hr''
            rcases evOps_sound hcall h1 with ⟨t2, m2, h3, h4⟩ | ⟨ch, t2, m2, h3, h4⟩
            · exact ⟨_, _, _, splitT_sound h3, fin .normal t2 m2 h4⟩
            · exact ⟨_, _, _, h3, fin (.panic ch) t2 m2 h4⟩
          · split at h
            · rename_i hlx
              simp only [Bool.and_eq_true] at hlx
              cases hcc : (callsIn Γ.wide ops || hasBS ops) && chainS .any ops (effN Γ.wide ops) (fun _ => false) with
              | true =>
                rw [hcc, cond_true] at h
                have hch := (Bool.and_eq_true_iff.1 hcc).2
                have hlex := hlx.1
                simp only [Region.lexB, Bool.and_eq_true] at hlex
                have H : LexOk ops 0 := lexOk_of ops.size 0 (Array.replicate ops.size false) (by simp) (by simp) (fun j => by
                    by_cases hj : j < ops.size
                    · simp [hj]
                    · simp [hj]; omega) (by simpa using hlex.2)
                rcases evC_sound (X := X) H hcall hΓ.news (k0 := 0) (by simp) h with ⟨t2, m2, h1, h2⟩ | ⟨p, ch, m2, h1, h2⟩ | ⟨p, ch, h1, _, _, h2⟩
                · refine ⟨_, _, _, splitT_sound h1, fun ρ own w l ds Q hl hr hK => wp_region_any hΓ.mixed ?_⟩
                  have hC0 : To ρ own w ρ own { w with drawn := w.drawn + 1 } := ⟨⟨[], by simp⟩, fun _ hb => .inl hb, ⟨rfl, rfl, rfl, Nat.le_refl _, fun _ _ _ => rfl⟩⟩
                  have hA := anyC_lex hch ops.toList 0 (Array.replicate ops.size false) [] t m (by simp) (by simp) (fun j oj _ hl => by rw [getD_replicate_false] at hl; cases hl) (fun j hj => by omega) (by simpa using hlex.2) h2
                  have := anyC_sound (Q := Q) (ds := ds) (compat_mask _) _ _ _ _ _ hA ⟨compat_mask _ _, fun e he => by simp at he⟩ ρ own l _ hl hr.drew fun ρ' own' w' l' ht hl' hr' => hK ρ' own' w' l' (hC0.trans ht) hl' hr'
                  simpa using this
                · refine ⟨_, _, _, h1, fun ρ own w l ds Q hl hr hK => wp_region_any hΓ.mixed ?_⟩
                  have hC0 : To ρ own w ρ own { w with drawn := w.drawn + 1 } := ⟨⟨[], by simp⟩, fun _ hb => .inl hb, ⟨rfl, rfl, rfl, Nat.le_refl _, fun _ _ _ => rfl⟩⟩
                  have hA := anyP_lex H hch ops.toList 0 (Array.replicate ops.size false) [] t m (by simp) (by simp) (fun j hj => by simp [hj]) h2
                  have := anyP_sound (Q := Q) (ds := ds) (compat_mask _) (n := t.length) _ _ _ _ _ hA rfl ⟨compat_mask _ _, fun e he => by simp at he⟩ ρ own l _ hl hr.drew fun ρ' own' w' l' ht hl' hr' => by
                    obtain ⟨⟨lx, hx⟩, ht2, ht3⟩ := hC0.trans ht
                    refine hK (ρ' ++ [.vals l']) own' w' l' ⟨⟨lx ++ [.vals l'], by rw [hx, List.append_assoc]⟩, ht2, ht3⟩ ?_ (hr'.vals l')
                    rw [← hr'.len]
                    have := unkL_den (ρ := ρ' ++ [.vals l']) (b := ρ'.length) (l := l') (by simp) t.length 0 (by omega)
                    simpa using this
                  simpa using this
                · have h2 := h2 rfl rfl
                  refine ⟨_, _, _, h1, fun ρ own w l ds Q hl hr hK => wp_region_any hΓ.mixed ?_⟩
                  have hC0 : To ρ own w ρ own { w with drawn := w.drawn + 1 } := ⟨⟨[], by simp⟩, fun _ hb => .inl hb, ⟨rfl, rfl, rfl, Nat.le_refl _, fun _ _ _ => rfl⟩⟩
                  have hA := anyZ_lex H ops.toList 0 (Array.replicate ops.size false) t (by simp) (by simp) (fun j hj => by simp [hj]) h2
                  have := anyZ_sound (Q := Q) (ds := ds) (Compat.refl m) (n := t.length) _ _ _ hA rfl ρ own l _ (denX_of hl) hr.drew fun ρ' own' w' l' ht hl' hr' => by
                    obtain ⟨⟨lx, hx⟩, ht2, ht3⟩ := hC0.trans ht
                    refine hK (ρ' ++ [.vals l']) own' w' l' ⟨⟨lx ++ [.vals l'], by rw [hx, List.append_assoc]⟩, ht2, ht3⟩ ?_ (hr'.vals l')
                    rw [← hr'.len]
                    have := unkL_den (ρ := ρ' ++ [.vals l']) (b := ρ'.length) (l := l') (by simp) t.length 0 (by omega)
                    simpa using this
                  simpa using this
              | false =>
              rw [hcc, cond_false] at h
              have hlex := hlx.1
              simp only [Region.lexB, Bool.and_eq_true] at hlex
              have H : LexOk ops 0 := lexOk_of ops.size 0 (Array.replicate ops.size false) (by simp) (by simp) (fun j => by
                by_cases hj : j < ops.size
                · simp [hj]
                · simp [hj]; omega) (by simpa using hlex.2)
              rcases evO_sound (X := X) H hcall hΓ.news (k0 := 0) (by simp) (compat_mask _ _) h with ⟨t2, m2, h1, h2⟩ | ⟨p, ch, h1, h2, _⟩
              · refine ⟨_, _, _, splitT_sound h1, fun ρ own w l ds Q hl hr hK => wp_region_any hΓ.mixed ?_⟩
                have hC0 : To ρ own w ρ own { w with drawn := w.drawn + 1 } := ⟨⟨[], by simp⟩, fun _ hb => .inl hb, ⟨rfl, rfl, rfl, Nat.le_refl _, fun _ _ _ => rfl⟩⟩
                have hA := anyS_lex hlx.2 ops.toList 0 (Array.replicate ops.size false) t m (by simp) (by simp) (fun j oj _ hl => by rw [getD_replicate_false] at hl; cases hl) (fun j hj => by omega) (by simpa using hlex.2) h2
                have := anyS_sound (Q := Q) (ds := ds) _ _ _ _ hA (compat_mask _ _) ρ own l _ hl hr.drew fun ρ' own' w' l' ht hl' hr' => hK ρ' own' w' l' (hC0.trans ht) hl' hr'
                simpa using this
              · refine ⟨_, _, _, h1, fun ρ own w l ds Q hl hr hK => wp_region_any hΓ.mixed ?_⟩
                have hC0 : To ρ own w ρ own { w with drawn := w.drawn + 1 } := ⟨⟨[], by simp⟩, fun _ hb => .inl hb, ⟨rfl, rfl, rfl, Nat.le_refl _, fun _ _ _ => rfl⟩⟩
                have hA := anyZ_lex H ops.toList 0 (Array.replicate ops.size false) t (by simp) (by simp) (fun j hj => by simp [hj]) h2
                have := anyZ_sound (Q := Q) (ds := ds) (compat_mask _ m) (n := t.length) _ _ _ hA rfl ρ own l _ (denX_of hl) hr.drew fun ρ' own' w' l' ht hl' hr' => by
                  obtain ⟨⟨lx, hx⟩, ht2, ht3⟩ := hC0.trans ht
                  refine hK (ρ' ++ [.vals l']) own' w' l' ⟨⟨lx ++ [.vals l'], by rw [hx, List.append_assoc]⟩, ht2, ht3⟩ ?_ (hr'.vals l')
                  rw [← hr'.len]
                  have := unkL_den (ρ := ρ' ++ [.vals l']) (b := ρ'.length) (l := l') (by simp) t.length 0 (by omega)
                  simpa using this
                simpa using this
            · split at h
              · rename_i hlx
                simp only [Bool.and_eq_true] at hlx
                obtain ⟨hlex, hch, hlt, hlm⟩ := hlx
                simp only [Region.lexB, Bool.and_eq_true] at hlex
                have H : LexOk ops 0 := lexOk_of ops.size 0 (Array.replicate ops.size false) (by simp) (by simp) (fun j => by
                  by_cases hj : j < ops.size
                  · simp [hj]
                  · simp [hj]; omega) (by simpa using hlex.2)
                obtain ⟨D, hDdef⟩ : ∃ D, D = ((callsAt P Γ.news ops.toList m t ops.toList ++ storesAt P ops.toList m t ops.toList).filter fun b => Nat.blt b m.length) ++ celL ops m.length := ⟨_, rfl⟩
                rw [← hDdef] at h
                have hD : ∀ e, creB ops e = true → rowB ops e = true → m.length + crank ops e ∉ D := fun e hce hre hm => by
                  rw [hDdef] at hm
                  rcases List.mem_append.1 hm with hm | hm
                  · have := (List.mem_filter.1 hm).2
                    have : m.length + crank ops e < m.length := by simpa using this
                    omega
                  · obtain ⟨e', h1, h2, h3⟩ := celL_mem.1 hm
                    have := crank_inj hce h1 (by omega)
                    subst this
                    rw [hre] at h2; cases h2
                have hcel : ∀ k, k ∈ celL ops m.length → k ∈ D := fun k hk => by rw [hDdef]; exact List.mem_append_right _ hk
                have hq : ∀ k o, (maskD D 0 m)[k]? = some o → alive o = true → k < m.length ∧ k ∉ D := fun k o hk ha => by
                  refine ⟨by have := (List.getElem?_eq_some_iff.1 hk).1; rwa [maskD_len] at this, fun hd => ?_⟩
                  have h1 := (maskD_get hk ha).2
                  rw [Nat.zero_add, memN_iff.2 hd] at h1; cases h1
                obtain ⟨t2, m2, V, ob, h1, h2, h3, _⟩ := evR_sound (X := X) H hcall hΓ.news (maskD_len (D := D)) hD hcel (fun _ => .dead) (by simp) (by simp) (fun e he => by omega) h
                refine ⟨_, _, _, splitT_sound h1, fun ρ own w l ds Q hl hr hK => wp_region_any hΓ.mixed ?_⟩
                have hA := anyR_lex hch ops.toList 0 (Array.replicate ops.size false) t _ (by simp) (by simp) (fun j oj _ hl => by rw [getD_replicate_false] at hl; cases hl) (fun j hj => by omega) (by simpa using hlex.2) h2
                obtain ⟨ρ1, hρ1, hr1⟩ := rep_replicate (crank ops ops.size) hr.drew
                have hI : InvR ops m.length (maskD D 0 m) ob (Array.replicate ops.size false) t (m ++ List.replicate (crank ops ops.size) .dead) := by
                  refine ⟨by simp, fun k o hk ha => ?_, fun e _ _ h => ?_, fun e _ _ => ltL_not (by omega) hlt, ltM_of fun i o ho => ?_⟩
                  · have h1 := (maskD_get hk ha).1
                    rw [List.getElem?_append_left (List.getElem?_eq_some_iff.1 h1).1]; exact h1
                  · by_cases he : e < ops.size
                    · simp [he] at h
                    · exact absurd (creB_size (by assumption)) he
                  · rcases Nat.lt_or_ge i m.length with hi | hi
                    · rw [List.getElem?_append_left hi] at ho; exact ltM_get hlm ho
                    · rw [List.getElem?_append_right hi] at ho
                      have := List.eq_of_mem_replicate (List.mem_of_getElem? ho)
                      subst this; rfl
                have := anyR_sound (Q := Q) (ds := ds) (ρ0 := ρ) (own0 := own) (w0 := w) hr.len hq hD h3 hK _ _ _ _ hA hI (by simp) (fun j oj _ hl => by rw [getD_replicate_false] at hl; cases hl) ρ1 own l w.drew ⟨hρ1, fun _ hb => .inl hb, ⟨rfl, rfl, rfl, Nat.le_refl _, fun _ _ _ => rfl⟩⟩ (denL_mono hρ1 hl) hr1
                simpa using this
              · cases h
    · rename_i a b
      obtain ⟨e, t', m', h1, h2⟩ := ih _ _ _ _ _ _ hB.left h
      cases e with
      | normal =>
        obtain ⟨e2, t2, m2, h3, h4⟩ := ih _ _ _ _ _ _ hB.right h1
        refine ⟨e2, t2, m2, h3, fun ρ own w l ds Q hl hr hK => wp_seq ?_⟩
        refine h2 ρ own w l ds _ hl hr fun ρ' own' w' l' ht hl' hr' => ?_
        exact h4 ρ' own' w' l' ds Q hl' hr' fun ρ'' own'' w'' l'' ht' hl'' hr'' => hK ρ'' own'' w'' l'' (ht.trans ht') hl'' hr''
      | exit id => exact ⟨_, _, _, h1, fun ρ own w l ds Q hl hr hK => wp_seq (h2 ρ own w l ds _ hl hr fun ρ' own' w' l' ht hl' hr' => hK ρ' own' w' l' ht hl' hr')⟩
      | ret => exact ⟨_, _, _, h1, fun ρ own w l ds Q hl hr hK => wp_seq (h2 ρ own w l ds _ hl hr fun ρ' own' w' l' ht hl' hr' => hK ρ' own' w' l' ht hl' hr')⟩
      | panic ch => exact ⟨_, _, _, h1, fun ρ own w l ds Q hl hr hK => wp_seq (h2 ρ own w l ds _ hl hr fun ρ' own' w' l' ht hl' hr' => hK ρ' own' w' l' ht hl' hr')⟩
    · rename_i x a b
      split at h
      · rename_i c hc
        cases c with
        | true =>
          obtain ⟨e, t', m', h1, h2⟩ := ih _ _ _ _ _ _ hB.yes h
          refine ⟨e, t', m', h1, fun ρ own w l ds Q hl hr hK => ?_⟩
          have hx := get_den (ds := ds) hl x
          rw [hc] at hx
          exact wp_cond_true (den_vv hx) (h2 ρ own w l ds Q hl hr hK)
        | false =>
          obtain ⟨e, t', m', h1, h2⟩ := ih _ _ _ _ _ _ hB.no h
          refine ⟨e, t', m', h1, fun ρ own w l ds Q hl hr hK => ?_⟩
          have hx := get_den (ds := ds) hl x
          rw [hc] at hx
          exact wp_cond_false (den_vv hx) (h2 ρ own w l ds Q hl hr hK)
      · cases h
    · rename_i id a
      split at h
      · rename_i g hg
        exact hB id a g (by simp [blocksOf]) hg R t m k r h
      · obtain ⟨e, t', m', h1, h2⟩ := ih _ _ _ _ _ _ hB.inner h
        cases e with
        | exit id' =>
          dsimp only at h1
          cases hid : Nat.beq id' id with
          | true =>
            rw [hid, cond_true] at h1
            have := Nat.eq_of_beq_eq_true hid
            subst this
            exact ⟨_, _, _, h1, fun ρ own w l ds Q hl hr hK => wp_block (h2 ρ own w l ds _ hl hr fun ρ' own' w' l' ht hl' hr' => by simpa [SEx.toExit, Exit.inBlock] using hK ρ' own' w' l' ht hl' hr')⟩
          | false =>
            rw [hid, cond_false] at h1
            have hne : id' ≠ id := fun e => by subst e; simp at hid
            exact ⟨_, _, _, h1, fun ρ own w l ds Q hl hr hK => wp_block (h2 ρ own w l ds _ hl hr fun ρ' own' w' l' ht hl' hr' => by simpa [SEx.toExit, Exit.inBlock, hne] using hK ρ' own' w' l' ht hl' hr')⟩
        | normal => exact ⟨_, _, _, h1, fun ρ own w l ds Q hl hr hK => wp_block (h2 ρ own w l ds _ hl hr fun ρ' own' w' l' ht hl' hr' => hK ρ' own' w' l' ht hl' hr')⟩
        | ret => exact ⟨_, _, _, h1, fun ρ own w l ds Q hl hr hK => wp_block (h2 ρ own w l ds _ hl hr fun ρ' own' w' l' ht hl' hr' => hK ρ' own' w' l' ht hl' hr')⟩
        | panic ch => exact ⟨_, _, _, h1, fun ρ own w l ds Q hl hr hK => wp_block (h2 ρ own w l ds _ hl hr fun ρ' own' w' l' ht hl' hr' => hK ρ' own' w' l' ht hl' hr')⟩
    · obtain ⟨e, t', m', j, h1, h2⟩ := il _ _ _ _ _ _ hB.round h0
      exact ⟨e, t', m', h1, fun ρ own w l ds Q hl hr hK => wp_loop_rounds j (h2 ρ own w l ds Q hl hr hK)⟩
    · exact ⟨_, _, _, h, fun ρ own w l ds Q hl hr hK => wp_exit (hK ρ own w l (To.refl _ _ _) hl hr)⟩
    · exact ⟨_, _, _, h, fun ρ own w l ds Q hl hr hK => wp_ret (hK ρ own w l (To.refl _ _ _) hl hr)⟩
    · cases h

theorem ev_both {Γ : Env} (hΓ : EnvOk P X Γ) {R : Type} : ∀ n, EvOk P X (R := R) (ev P Γ n) ∧ LoopOk P X (R := R) (ev P Γ n)
  | 0 => ⟨fun B c t m k r _ h => by simp [ev] at h, fun B a t m k r _ h => by simp [ev] at h⟩
  | n + 1 =>
    have ih := ev_both hΓ (R := R) n
    have il := loop_step ih.1 ih.2
    ⟨ev_step hΓ ih.1 il, il⟩

theorem ev_sound {Γ : Env} (hΓ : EnvOk P X Γ) {R : Type} (n : Nat) : EvOk P X (R := R) (ev P Γ n) := (ev_both hΓ n).1

/-- A function's reckoning is what each call of it comes to. -/
theorem evF_sound {Γ : Env} (hΓ : EnvOk P X Γ) {R : Type} (n : Nat) (f : FuncId) (args : List Sv) (m : List SObj) (k : Sv → List SObj → Option R) (kp : List PanicEntry → List SObj → Option R) (r : R) (h : evF P Γ n f args m k kp = some r) :
    (CallOk P f ∧ ((∃ sv m', k sv m' = some r ∧ CallR P X f args m sv m') ∨ (∃ ch m', kp ch m' = some r ∧ CallP P X f args m ch m'))) ∨ (∃ sv m', k sv m' = some r ∧ ExtR P X f args m sv m') := by
  exact (callE_sound hΓ (ev_sound hΓ n)).call _ _ _ _ _ _ h
end
end Go.Ev
