/- The closure that stack.Do defers. -/
import Derived.Test.YtjcbgjakomalaaaCSk0
import Derived.Test.YtjcbgjakomalaaaEvD
import Derived.Tactics
import Derived.Tactics2
namespace Go.Proofs.Ytjcbgjakomalaaa
open Go Go.Ev
set_option linter.unusedVariables false
set_option linter.unusedSimpArgs false
set_option maxRecDepth 100000
theorem eq_nil (w : World) : Sem.run Try.prog (binOp .eql 20 .nilIface (.iface 139 (.agg #[]))) w = .ok (.bool false) w := by kernel_rfl
theorem eq_gone (w : World) : Sem.run Try.prog (binOp .eql 20 (.iface 139 (.agg #[])) (.iface 139 (.agg #[]))) w = .ok (.bool true) w := by kernel_rfl
theorem ne_nil (w : World) : Sem.run Try.prog (binOp .neq 20 .nilIface .nilIface) w = .ok (.bool false) w := by kernel_rfl
theorem idle82 (a b c : Sv) (m : List SObj) : CallDR Try.prog XM 82 [a, b, c] .returning m .returning m := by
  intro ρ own w lc hlc hr
  obtain ⟨x1, l1, h1, hl1, rfl⟩ := denL_cons hlc
  obtain ⟨x2, l2, h2, hl2, rfl⟩ := denL_cons hl1
  obtain ⟨x3, l3, h3, hl3, rfl⟩ := denL_cons hl2
  obtain rfl : l3 = [] := by simpa [denL] using hl3.symm
  refine callsD_of_wpS Try.func82 rfl fun c₀ cs hu => ?_
  apply wpS_seq
  apply wpS_region
  simp [wpOpsS, go_sem, recoverD, hu, Try.ntmps82, Exit.thenS]
  apply wpS_seq
  apply wpS_region
  simp [wpOpsS, go_sem, Exit.thenS, eq_nil]
  refine wpS_cond (t := false) (by simp [Act.eval, Array.replicate]) ?_
  simp only [Bool.false_eq_true, if_false]
  apply wpS_seq
  apply wpS_region
  simp [wpOpsS, go_sem, Exit.thenS, ne_nil]
  refine wpS_cond (t := false) (by simp [Act.eval, Array.replicate]) ?_
  simp only [Bool.false_eq_true, if_false]
  refine wpS_of_wp (wp_skip ?_)
  refine ⟨rfl, .returning, by cases c₀; simp_all, ?_⟩
  exact ⟨.tuple #[], by simp [results, Try.results82], ⟨_, rfl⟩, rfl, ρ, own, To.refl _ _ _, hr⟩
noncomputable def bodyC : Code := match Try.f82.body with
  | some c => c
  | none => .skip
def pickC : Code → Code
  | .seq _ (.seq _ (.cond _ a _)) => a
  | c => c
noncomputable def tC (a b c : Nat) : List Sv := [.ptr a 0, .ptr b 0, .ptr c 0, .v (.iface 139 (.agg #[])), .v (.iface 139 (.agg #[])), .v (.iface 139 (.agg #[])), .v (.agg #[]), .v (.iface 139 (.agg #[])), .v (.bool true), .v undef, .v undef, .v undef, .v undef]
theorem caught82 {a b c : Nat} {m m' : List SObj} {t' : List Sv} (h : EvR Try.prog XM (pickC bodyC) (tC a b c) m .normal t' m') :
    CallDR Try.prog XM 82 [.ptr a 0, .ptr b 0, .ptr c 0] (.panicking [{ v := .iface 139 (.agg #[]), recovered := false }]) m (.panicking [{ v := .iface 139 (.agg #[]), recovered := true }]) m' := by
  intro ρ own w lc hlc hr
  obtain ⟨x1, l1, h1, hl1, rfl⟩ := denL_cons hlc
  obtain ⟨x2, l2, h2, hl2, rfl⟩ := denL_cons hl1
  obtain ⟨x3, l3, h3, hl3, rfl⟩ := denL_cons hl2
  obtain rfl : l3 = [] := by simpa [denL] using hl3.symm
  refine callsD_of_wpS Try.func82 rfl fun c₀ cs hu => ?_
  apply wpS_seq
  apply wpS_region
  simp [wpOpsS, go_sem, recoverD, hu, Try.ntmps82, Exit.thenS]
  apply wpS_seq
  apply wpS_region
  simp [wpOpsS, go_sem, Exit.thenS, eq_gone]
  refine wpS_cond (t := true) (by simp [Act.eval, Array.replicate]) ?_
  simp only [if_true]
  have hd : denL ρ (tC a b c) = some [x1, x2, x3, .iface 139 (.agg #[]), .iface 139 (.agg #[]), .iface 139 (.agg #[]), .agg #[], .iface 139 (.agg #[]), .bool true, undef, undef, undef, undef] :=
    denL_mk h1 (denL_mk h2 (denL_mk h3 rfl))
  refine wpS_of_wp ?_
  refine h ρ own w _ [] _ hd hr fun ρ' own' w' l' ht hl' hr' => ?_
  refine ⟨rfl, _, rfl, ?_⟩
  exact ⟨.tuple #[], by simp [results, Try.results82], ⟨_, rfl⟩, rfl, ρ', own', ht, hr'⟩

noncomputable def skA : Code := match Try.f49.body with
  | some (.seq a _) => a
  | _ => .skip
noncomputable def skB : Code := match Try.f49.body with
  | some (.seq _ (.seq b _)) => b
  | _ => .skip
noncomputable def skC : Code := match Try.f49.body with
  | some (.seq _ (.seq _ c)) => c
  | _ => .skip
theorem sk_body : Try.f49.body = some (.seq skA (.seq skB skC)) := by kernel_rfl
def isGone : Value → Bool := fun v => match v with
  | .iface t (.agg l) => Nat.beq t 139 && Nat.beq l.size 0
  | _ => false
theorem isGone_eq {v : Value} (h : isGone v = true) : v = .iface 139 (.agg #[]) := by
  unfold isGone at h
  split at h
  · rw [Bool.and_eq_true] at h
    have h1 := Nat.eq_of_beq_eq_true h.1
    have h2 := Nat.eq_of_beq_eq_true h.2
    subst h1
    rename_i l
    have : l = #[] := Array.eq_empty_of_size_eq_zero h2
    rw [this]
  · cases h
noncomputable def skCatch : List Sv → List PanicEntry → List SObj → Option (List SObj) := fun t1 ch m => match ch with
  | [e] => bif isGone e.v && (!e.recovered && !e.goexit) then (match nth t1 4, nth t1 6, nth t1 7 with
    | .ptr a i, .ptr b j, .ptr c k => bif Nat.beq i 0 && (Nat.beq j 0 && Nat.beq k 0) then ev Try.prog Γ0 20 (fun _ => none) (pickC bodyC) (tC a b c) m (fun e _ m' => match e with
      | .normal => some m'
      | _ => none) else none
    | _, _, _ => none) else none
  | _ => none
def skCap (t1 : List Sv) : List Sv := [nth t1 4, nth t1 6, nth t1 7]
theorem skCatch_ok (t1 : List Sv) (ch : List PanicEntry) (m m4 : List SObj) (h : skCatch t1 ch m = some m4) : ∃ u, settle u = .returning ∧ CallDR Try.prog XM 82 (skCap t1) (.panicking ch) m u m4 := by
  unfold skCatch at h
  split at h
  · rename_i e
    obtain ⟨hg, h⟩ := cond_some h
    rw [Bool.and_eq_true] at hg
    split at h
    · rename_i a i b j c k h1 h2 h3
      obtain ⟨hz, h⟩ := cond_some h
      simp only [Bool.and_eq_true] at hz
      have z1 := Nat.eq_of_beq_eq_true hz.1
      have z2 := Nat.eq_of_beq_eq_true hz.2.1
      have z3 := Nat.eq_of_beq_eq_true hz.2.2
      subst z1 z2 z3
      obtain ⟨e', t', m1, h4, h5⟩ := ev_sound Γ0_ok _ _ _ _ _ _ _ (blkIn_none Try.prog XM (pickC bodyC)) h
      cases e' <;> simp at h4
      subst h4
      have hv := isGone_eq hg.1
      have hg2 := hg.2
      simp only [Bool.and_eq_true, Bool.not_eq_true'] at hg2
      obtain ⟨hr, hx⟩ := hg2
      obtain ⟨v, r, ge⟩ := e
      simp only at hv hr hx
      subst hv hr hx
      refine ⟨_, ?_, by unfold skCap; rw [h1, h2, h3]; exact caught82 h5⟩
      rfl
    · cases h
  · cases h
theorem skB_ok (t1 : List Sv) (hl : t1.length = 13) (ρ : List Un) (l : List Value) (hd : denL ρ t1 = some l) : ∃ lc : List Value, denL ρ (skCap t1) = some lc ∧ ∀ (w : World) (Q : Exit → Act → World → Prop), Q .normal ⟨(l.set 8 (.func (.func 82) #[] lc.toArray)).toArray, [{ target := .fn (.func 82) lc.toArray, args := #[] }]⟩ w → skB.wp Try.prog Q ⟨l.toArray, []⟩ w := by
  have hll : l.length = 13 := by rw [denL_length hd]; exact hl
  refine ⟨[l.getD 4 undef, l.getD 6 undef, l.getD 7 undef], denL_mk (nth_den 4 hd) (denL_mk (nth_den 6 hd) (denL_mk (nth_den 7 hd) rfl)), fun w Q hQ => ?_⟩
  match l, hll with
  | [y0, y1, y2, y3, y4, y5, y6, y7, y8, y9, y10, y11, y12], _ =>
    apply wp_region
    simp [wpOps, go_sem]
    exact .inl (.inl hQ)
theorem stackDoR {args : List Sv} {m0 M : List SObj} {S : Sv} {j : Nat} (h : guardE Try.prog ΓSk0 400 skA skC Try.f49.results.toList 8 13 j skCatch (args ++ List.replicate (Try.f49.ntmps - args.length) (.v undef)) m0 = some (S, M))
    (hj : Nat.beq m0.length j = true) (hl : Nat.beq M.length j = true) (hc : clM j M = true) (hs : clS j S = true) : CallR Try.prog XM 49 args m0 S M :=
  callR_guardE ΓSk0_ok (B := skB) (g := 82) (capOf := skCap) h (by kernel_rfl) sk_body (fun t1 h1 ρ l => skB_ok t1 h1 ρ l) (fun lc w => by simp [invoke, go_sem])
    (fun t1 m _ => idle82 _ _ _ m) (fun t1 ch m m4 _ => skCatch_ok t1 ch m m4) hj hl hc hs
end Go.Proofs.Ytjcbgjakomalaaa
