/- The answers of a round do not hang on the type that a bus bears. -/
import Derived.Test.YtjcbgjakomalaaaCSp
namespace Go.Proofs.Ytjcbgjakomalaaa
open Go Go.Ev
set_option linter.unusedVariables false
set_option linter.unusedSimpArgs false
set_option maxRecDepth 100000
theorem ansM_bus (T : Option (Sv × List SObj)) : ansM T 1 = ansM (T.map fun p => (p.1, p.2.drop 1)) 0 := by
  cases T with
  | none => rfl
  | some p => obtain ⟨s, m⟩ := p; cases m <;> rfl
/-- The answers, and memory. -/
def sansT (T : Option (Sv × List SObj)) : Option (Sv × List SObj) := T.map fun p => (p.1, p.2.drop 1)
theorem sansT_cond (c : Bool) (A B : Option (Sv × List SObj)) : sansT (bif c then A else B) = bif c then sansT A else sansT B := by cases c <;> rfl
theorem ansI_sans {T T' : Option (Sv × List SObj)} (h : sansT T = sansT T') (j : Nat) : ansI T j = ansI T' j := by
  unfold sansT at h
  cases T <;> cases T' <;> simp_all [ansI]
theorem ansB_sans {T T' : Option (Sv × List SObj)} (h : sansT T = sansT T') (j : Nat) : ansB T j = ansB T' j := by
  unfold sansT at h
  cases T <;> cases T' <;> simp_all [ansB]
theorem ansM_sans {T T' : Option (Sv × List SObj)} (h : sansT T = sansT T') : ansM T 1 = ansM T' 1 := by
  rw [ansM_bus T, ansM_bus T']
  exact congrArg (fun x => ansM x 0) h
theorem strsP46b_T (cb cs : Int) (cr cw cx : Bool) (db ds : Int) (dr dw dx : Bool) (T T2 : TypeId) (M : Int → Int) (r0 r1 r2 r3 r4 r5 r6 r7 ip : Int) (fc fp fz fs fo fd : Bool) (x0 x1 x2 x3 x4 x5 x6 x7 : Int) (cond : Int) (ak ar ab ai aq ad bk br bb bi bq bd c : Int) (len : Int) : sansT (strsP46bT cb cs cr cw cx db ds dr dw dx T M r0 r1 r2 r3 r4 r5 r6 r7 ip fc fp fz fs fo fd x0 x1 x2 x3 x4 x5 x6 x7 cond ak ar ab ai aq ad bk br bb bi bq bd c len) = sansT (strsP46bT cb cs cr cw cx db ds dr dw dx T2 M r0 r1 r2 r3 r4 r5 r6 r7 ip fc fp fz fs fo fd x0 x1 x2 x3 x4 x5 x6 x7 cond ak ar ab ai aq ad bk br bb bi bq bd c len) := by
  rw [strsP46b_tree, strsP46b_tree]
  simp only [sansT_cond]
  rfl
theorem strsP46w_T (cb cs : Int) (cr cw cx : Bool) (db ds : Int) (dr dw dx : Bool) (T T2 : TypeId) (M : Int → Int) (r0 r1 r2 r3 r4 r5 r6 r7 ip : Int) (fc fp fz fs fo fd : Bool) (x0 x1 x2 x3 x4 x5 x6 x7 : Int) (cond : Int) (ak ar ab ai aq ad bk br bb bi bq bd c : Int) (len : Int) : sansT (strsP46wT cb cs cr cw cx db ds dr dw dx T M r0 r1 r2 r3 r4 r5 r6 r7 ip fc fp fz fs fo fd x0 x1 x2 x3 x4 x5 x6 x7 cond ak ar ab ai aq ad bk br bb bi bq bd c len) = sansT (strsP46wT cb cs cr cw cx db ds dr dw dx T2 M r0 r1 r2 r3 r4 r5 r6 r7 ip fc fp fz fs fo fd x0 x1 x2 x3 x4 x5 x6 x7 cond ak ar ab ai aq ad bk br bb bi bq bd c len) := by
  rw [strsP46w_tree, strsP46w_tree]
  simp only [sansT_cond]
  rfl
theorem strsP47b_T (cb cs : Int) (cr cw cx : Bool) (db ds : Int) (dr dw dx : Bool) (T T2 : TypeId) (M : Int → Int) (r0 r1 r2 r3 r4 r5 r6 r7 ip : Int) (fc fp fz fs fo fd : Bool) (x0 x1 x2 x3 x4 x5 x6 x7 : Int) (cond : Int) (ak ar ab ai aq ad bk br bb bi bq bd c : Int) (len : Int) : sansT (strsP47bT cb cs cr cw cx db ds dr dw dx T M r0 r1 r2 r3 r4 r5 r6 r7 ip fc fp fz fs fo fd x0 x1 x2 x3 x4 x5 x6 x7 cond ak ar ab ai aq ad bk br bb bi bq bd c len) = sansT (strsP47bT cb cs cr cw cx db ds dr dw dx T2 M r0 r1 r2 r3 r4 r5 r6 r7 ip fc fp fz fs fo fd x0 x1 x2 x3 x4 x5 x6 x7 cond ak ar ab ai aq ad bk br bb bi bq bd c len) := by
  rw [strsP47b_tree, strsP47b_tree]
  simp only [sansT_cond]
  rfl
theorem strsP47w_T (cb cs : Int) (cr cw cx : Bool) (db ds : Int) (dr dw dx : Bool) (T T2 : TypeId) (M : Int → Int) (r0 r1 r2 r3 r4 r5 r6 r7 ip : Int) (fc fp fz fs fo fd : Bool) (x0 x1 x2 x3 x4 x5 x6 x7 : Int) (cond : Int) (ak ar ab ai aq ad bk br bb bi bq bd c : Int) (len : Int) : sansT (strsP47wT cb cs cr cw cx db ds dr dw dx T M r0 r1 r2 r3 r4 r5 r6 r7 ip fc fp fz fs fo fd x0 x1 x2 x3 x4 x5 x6 x7 cond ak ar ab ai aq ad bk br bb bi bq bd c len) = sansT (strsP47wT cb cs cr cw cx db ds dr dw dx T2 M r0 r1 r2 r3 r4 r5 r6 r7 ip fc fp fz fs fo fd x0 x1 x2 x3 x4 x5 x6 x7 cond ak ar ab ai aq ad bk br bb bi bq bd c len) := by
  rw [strsP47w_tree, strsP47w_tree]
  simp only [sansT_cond]
  rfl
theorem strsP48b_T (cb cs : Int) (cr cw cx : Bool) (db ds : Int) (dr dw dx : Bool) (T T2 : TypeId) (M : Int → Int) (r0 r1 r2 r3 r4 r5 r6 r7 ip : Int) (fc fp fz fs fo fd : Bool) (x0 x1 x2 x3 x4 x5 x6 x7 : Int) (cond : Int) (ak ar ab ai aq ad bk br bb bi bq bd c : Int) (len : Int) : sansT (strsP48bT cb cs cr cw cx db ds dr dw dx T M r0 r1 r2 r3 r4 r5 r6 r7 ip fc fp fz fs fo fd x0 x1 x2 x3 x4 x5 x6 x7 cond ak ar ab ai aq ad bk br bb bi bq bd c len) = sansT (strsP48bT cb cs cr cw cx db ds dr dw dx T2 M r0 r1 r2 r3 r4 r5 r6 r7 ip fc fp fz fs fo fd x0 x1 x2 x3 x4 x5 x6 x7 cond ak ar ab ai aq ad bk br bb bi bq bd c len) := by
  rw [strsP48b_tree, strsP48b_tree]
  simp only [sansT_cond]
  rfl
theorem strsP48w_T (cb cs : Int) (cr cw cx : Bool) (db ds : Int) (dr dw dx : Bool) (T T2 : TypeId) (M : Int → Int) (r0 r1 r2 r3 r4 r5 r6 r7 ip : Int) (fc fp fz fs fo fd : Bool) (x0 x1 x2 x3 x4 x5 x6 x7 : Int) (cond : Int) (ak ar ab ai aq ad bk br bb bi bq bd c : Int) (len : Int) : sansT (strsP48wT cb cs cr cw cx db ds dr dw dx T M r0 r1 r2 r3 r4 r5 r6 r7 ip fc fp fz fs fo fd x0 x1 x2 x3 x4 x5 x6 x7 cond ak ar ab ai aq ad bk br bb bi bq bd c len) = sansT (strsP48wT cb cs cr cw cx db ds dr dw dx T2 M r0 r1 r2 r3 r4 r5 r6 r7 ip fc fp fz fs fo fd x0 x1 x2 x3 x4 x5 x6 x7 cond ak ar ab ai aq ad bk br bb bi bq bd c len) := by
  rw [strsP48w_tree, strsP48w_tree]
  simp only [sansT_cond]
  rfl
theorem strsP46rb_T (cb cs : Int) (cr cw cx : Bool) (db ds : Int) (dr dw dx : Bool) (T T2 : TypeId) (M : Int → Int) (r0 r1 r2 r3 r4 r5 r6 r7 ip : Int) (fc fp fz fs fo fd : Bool) (x0 x1 x2 x3 x4 x5 x6 x7 : Int) (cond : Int) (ak ar ab ai aq ad bk br bb bi bq bd c : Int) (len : Int) : sansT (strsP46rbT cb cs cr cw cx db ds dr dw dx T M r0 r1 r2 r3 r4 r5 r6 r7 ip fc fp fz fs fo fd x0 x1 x2 x3 x4 x5 x6 x7 cond ak ar ab ai aq ad bk br bb bi bq bd c len) = sansT (strsP46rbT cb cs cr cw cx db ds dr dw dx T2 M r0 r1 r2 r3 r4 r5 r6 r7 ip fc fp fz fs fo fd x0 x1 x2 x3 x4 x5 x6 x7 cond ak ar ab ai aq ad bk br bb bi bq bd c len) := by
  rw [strsP46rb_tree, strsP46rb_tree]
  simp only [sansT_cond]
  rfl
theorem strsP46rw_T (cb cs : Int) (cr cw cx : Bool) (db ds : Int) (dr dw dx : Bool) (T T2 : TypeId) (M : Int → Int) (r0 r1 r2 r3 r4 r5 r6 r7 ip : Int) (fc fp fz fs fo fd : Bool) (x0 x1 x2 x3 x4 x5 x6 x7 : Int) (cond : Int) (ak ar ab ai aq ad bk br bb bi bq bd c : Int) (len : Int) : sansT (strsP46rwT cb cs cr cw cx db ds dr dw dx T M r0 r1 r2 r3 r4 r5 r6 r7 ip fc fp fz fs fo fd x0 x1 x2 x3 x4 x5 x6 x7 cond ak ar ab ai aq ad bk br bb bi bq bd c len) = sansT (strsP46rwT cb cs cr cw cx db ds dr dw dx T2 M r0 r1 r2 r3 r4 r5 r6 r7 ip fc fp fz fs fo fd x0 x1 x2 x3 x4 x5 x6 x7 cond ak ar ab ai aq ad bk br bb bi bq bd c len) := by
  rw [strsP46rw_tree, strsP46rw_tree]
  simp only [sansT_cond]
  rfl
theorem strsP47rb_T (cb cs : Int) (cr cw cx : Bool) (db ds : Int) (dr dw dx : Bool) (T T2 : TypeId) (M : Int → Int) (r0 r1 r2 r3 r4 r5 r6 r7 ip : Int) (fc fp fz fs fo fd : Bool) (x0 x1 x2 x3 x4 x5 x6 x7 : Int) (cond : Int) (ak ar ab ai aq ad bk br bb bi bq bd c : Int) (len : Int) : sansT (strsP47rbT cb cs cr cw cx db ds dr dw dx T M r0 r1 r2 r3 r4 r5 r6 r7 ip fc fp fz fs fo fd x0 x1 x2 x3 x4 x5 x6 x7 cond ak ar ab ai aq ad bk br bb bi bq bd c len) = sansT (strsP47rbT cb cs cr cw cx db ds dr dw dx T2 M r0 r1 r2 r3 r4 r5 r6 r7 ip fc fp fz fs fo fd x0 x1 x2 x3 x4 x5 x6 x7 cond ak ar ab ai aq ad bk br bb bi bq bd c len) := by
  rw [strsP47rb_tree, strsP47rb_tree]
  simp only [sansT_cond]
  rfl
theorem strsP47rw_T (cb cs : Int) (cr cw cx : Bool) (db ds : Int) (dr dw dx : Bool) (T T2 : TypeId) (M : Int → Int) (r0 r1 r2 r3 r4 r5 r6 r7 ip : Int) (fc fp fz fs fo fd : Bool) (x0 x1 x2 x3 x4 x5 x6 x7 : Int) (cond : Int) (ak ar ab ai aq ad bk br bb bi bq bd c : Int) (len : Int) : sansT (strsP47rwT cb cs cr cw cx db ds dr dw dx T M r0 r1 r2 r3 r4 r5 r6 r7 ip fc fp fz fs fo fd x0 x1 x2 x3 x4 x5 x6 x7 cond ak ar ab ai aq ad bk br bb bi bq bd c len) = sansT (strsP47rwT cb cs cr cw cx db ds dr dw dx T2 M r0 r1 r2 r3 r4 r5 r6 r7 ip fc fp fz fs fo fd x0 x1 x2 x3 x4 x5 x6 x7 cond ak ar ab ai aq ad bk br bb bi bq bd c len) := by
  rw [strsP47rw_tree, strsP47rw_tree]
  simp only [sansT_cond]
  rfl
end Go.Proofs.Ytjcbgjakomalaaa
