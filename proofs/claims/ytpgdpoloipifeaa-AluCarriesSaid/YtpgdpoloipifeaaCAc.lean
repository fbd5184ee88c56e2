/- The closure that alu.Do defers. -/
import Derived.Test.YtpgdpoloipifeaaCAd4
import Derived.Test.YtpgdpoloipifeaaEvD
import Derived.Tactics
import Derived.Tactics2
namespace Go.Proofs.Ytpgdpoloipifeaa
open Go Go.Ev
set_option linter.unusedVariables false
set_option linter.unusedSimpArgs false
set_option maxRecDepth 100000
theorem ta_nil (w : World) : Sem.run Try.prog (Instr.typeAssert Value.nilIface 20 121 true) w = .ok (.tuple #[.int .i64 0, .bool false]) w := by kernel_rfl
theorem ta_fault (n : Int) (w : World) : Sem.run Try.prog (Instr.typeAssert (.iface 121 (.int .i64 n)) 20 121 true) w = .ok (.tuple #[.int .i64 n, .bool true]) w := by kernel_rfl
theorem ne_nil (w : World) : Sem.run Try.prog (binOp .neq 20 .nilIface .nilIface) w = .ok (.bool false) w := by kernel_rfl
set_option maxHeartbeats 4000000 in
theorem idle81 (a b c : Sv) (m : List SObj) : CallDR Try.prog XM 81 [a, b, c] .returning m .returning m := by
  intro ρ own w lc hlc hr
  obtain ⟨x1, l1, h1, hl1, rfl⟩ := denL_cons hlc
  obtain ⟨x2, l2, h2, hl2, rfl⟩ := denL_cons hl1
  obtain ⟨x3, l3, h3, hl3, rfl⟩ := denL_cons hl2
  obtain rfl : l3 = [] := by simpa [denL] using hl3.symm
  refine callsD_of_wpS Try.func81 rfl fun c₀ cs hu => ?_
  apply wpS_seq
  apply wpS_region
  simp [wpOpsS, go_sem, recoverD, hu, Try.ntmps81, Exit.thenS]
  apply wpS_seq
  apply wpS_region
  simp [wpOpsS, go_sem, Exit.thenS, ta_nil]
  apply wpS_seq
  apply wpS_region
  simp [wpOpsS, go_sem, Exit.thenS]
  refine wpS_cond (t := false) (by simp [Act.eval, Array.replicate]) ?_
  simp only [Bool.false_eq_true, if_false]
  apply wpS_seq
  apply wpS_region
  simp [wpOpsS, go_sem, Exit.thenS, ne_nil]
  refine wpS_cond (t := false) (by simp [Act.eval, Array.replicate]) ?_
  simp only [Bool.false_eq_true, if_false]
  refine wpS_of_wp (wp_skip ?_)
  refine ⟨rfl, .returning, by cases c₀; simp_all, ?_⟩
  exact ⟨.tuple #[], by simp [results, Try.results81], ⟨_, rfl⟩, rfl, ρ, own, To.refl _ _ _, hr⟩
noncomputable def bodyA : Code := match Try.f81.body with
  | some c => c
  | none => .skip
def pickA : Code → Code
  | .seq _ (.seq _ (.seq _ (.cond _ a _))) => a
  | c => c
noncomputable def tA (a b c : Nat) (n : Int) : List Sv := [.ptr a 0, .ptr b 0, .ptr c 0, .v (.iface 121 (.int .i64 n)), .v (.int .i64 n), .v (.bool true), .v (.iface 121 (.int .i64 n)), .v (.tuple #[.int .i64 n, .bool true]), .v (.iface 121 (.int .i64 n)), .v (.tuple #[.int .i64 n, .bool true]), .v (.int .i64 n), .v (.bool true), .v (.bool true), .v undef, .v undef, .v undef, .v undef, .v undef]
set_option maxHeartbeats 4000000 in
theorem caught81 {a b c : Nat} {n : Int} {m m' : List SObj} {t' : List Sv} (h : EvR Try.prog XM (pickA bodyA) (tA a b c n) m .normal t' m') :
    CallDR Try.prog XM 81 [.ptr a 0, .ptr b 0, .ptr c 0] (.panicking [{ v := .iface 121 (.int .i64 n), recovered := false }]) m (.panicking [{ v := .iface 121 (.int .i64 n), recovered := true }]) m' := by
  intro ρ own w lc hlc hr
  obtain ⟨x1, l1, h1, hl1, rfl⟩ := denL_cons hlc
  obtain ⟨x2, l2, h2, hl2, rfl⟩ := denL_cons hl1
  obtain ⟨x3, l3, h3, hl3, rfl⟩ := denL_cons hl2
  obtain rfl : l3 = [] := by simpa [denL] using hl3.symm
  refine callsD_of_wpS Try.func81 rfl fun c₀ cs hu => ?_
  apply wpS_seq
  apply wpS_region
  simp [wpOpsS, go_sem, recoverD, hu, Try.ntmps81, Exit.thenS]
  apply wpS_seq
  apply wpS_region
  simp [wpOpsS, go_sem, Exit.thenS, ta_fault]
  apply wpS_seq
  apply wpS_region
  simp [wpOpsS, go_sem, Exit.thenS]
  refine wpS_cond (t := true) (by simp [Act.eval, Array.replicate]) ?_
  simp only [if_true]
  have hd : denL ρ (tA a b c n) = some [x1, x2, x3, .iface 121 (.int .i64 n), .int .i64 n, .bool true, .iface 121 (.int .i64 n), .tuple #[.int .i64 n, .bool true], .iface 121 (.int .i64 n), .tuple #[.int .i64 n, .bool true], .int .i64 n, .bool true, .bool true, undef, undef, undef, undef, undef] :=
    denL_mk h1 (denL_mk h2 (denL_mk h3 rfl))
  refine wpS_of_wp ?_
  refine Eq.mp (congrArg (fun t : Array Value => Code.wp Try.prog _ _ (⟨t, []⟩ : Act) _) (?e : (#[x1, x2, x3, .iface 121 (.int .i64 n), .int .i64 n, .bool true, .iface 121 (.int .i64 n), .tuple #[.int .i64 n, .bool true], .iface 121 (.int .i64 n), .tuple #[.int .i64 n, .bool true], .int .i64 n, .bool true, .bool true, undef, undef, undef, undef, undef] : Array Value) = _)) ?_
  case e => kernel_rfl
  refine h ρ own w _ [] _ hd hr fun ρ' own' w' l' ht hl' hr' => ?_
  refine ⟨rfl, _, rfl, ?_⟩
  exact ⟨.tuple #[], by simp [results, Try.results81], ⟨_, rfl⟩, rfl, ρ', own', ht, hr'⟩
noncomputable def alA : Code := match Try.f34.body with
  | some (.seq a _) => a
  | _ => .skip
noncomputable def alB : Code := match Try.f34.body with
  | some (.seq _ (.seq b _)) => b
  | _ => .skip
noncomputable def alC : Code := match Try.f34.body with
  | some (.seq _ (.seq _ c)) => c
  | _ => .skip
theorem al_body : Try.f34.body = some (.seq alA (.seq alB alC)) := by kernel_rfl
def isFault : Value → Option Int := fun v => match v with
  | .iface t (.int .i64 n) => bif Nat.beq t 121 then some n else none
  | _ => none
theorem isFault_eq {v : Value} {n : Int} (h : isFault v = some n) : v = .iface 121 (.int .i64 n) := by
  unfold isFault at h
  split at h
  · rename_i t k
    cases hb : Nat.beq t 121
    · rw [hb] at h; cases h
    · rw [hb] at h
      have := Nat.eq_of_beq_eq_true hb
      subst this
      simp at h; rw [h]
  · cases h
noncomputable def alCatch : List Sv → List PanicEntry → List SObj → Option (List SObj) := fun t1 ch m => match ch with
  | [e] => (match isFault e.v with
    | some n => bif !e.recovered && !e.goexit then (match nth t1 4, nth t1 6, nth t1 7 with
      | .ptr a i, .ptr b j, .ptr c k => bif Nat.beq i 0 && (Nat.beq j 0 && Nat.beq k 0) then ev Try.prog Γ0 20 (fun _ => none) (pickA bodyA) (tA a b c n) m (fun e _ m' => match e with
        | .normal => some m'
        | _ => none) else none
      | _, _, _ => none) else none
    | none => none)
  | _ => none
def alCap (t1 : List Sv) : List Sv := [nth t1 4, nth t1 6, nth t1 7]
theorem alCatch_ok (t1 : List Sv) (ch : List PanicEntry) (m m4 : List SObj) (h : alCatch t1 ch m = some m4) : ∃ u, settle u = .returning ∧ CallDR Try.prog XM 81 (alCap t1) (.panicking ch) m u m4 := by
  unfold alCatch at h
  split at h
  · rename_i e
    split at h
    · rename_i n hn
      obtain ⟨hg, h⟩ := cond_some h
      split at h
      · rename_i a i b j c k h1 h2 h3
        obtain ⟨hz, h7⟩ := cond_some h
        clear h
        simp only [Bool.and_eq_true] at hz
        have z1 := Nat.eq_of_beq_eq_true hz.1
        have z2 := Nat.eq_of_beq_eq_true hz.2.1
        have z3 := Nat.eq_of_beq_eq_true hz.2.2
        subst z1 z2 z3
        obtain ⟨e', t', m1, h4, h5⟩ := ev_sound Γ0_ok _ _ _ _ _ _ _ (blkIn_none Try.prog XM (pickA bodyA)) h7
        cases e' <;> simp at h4
        subst h4
        have hv := isFault_eq hn
        simp only [Bool.and_eq_true, Bool.not_eq_true'] at hg
        obtain ⟨hr, hx⟩ := hg
        obtain ⟨v, r, ge⟩ := e
        simp only at hv hr hx
        subst hv hr hx
        refine ⟨_, ?_, by unfold alCap; rw [h1, h2, h3]; exact caught81 h5⟩
        rfl
      · cases h
    · cases h
  · cases h
theorem alB_ok (t1 : List Sv) (hl : t1.length = 22) (ρ : List Un) (l : List Value) (hd : denL ρ t1 = some l) : ∃ lc : List Value, denL ρ (alCap t1) = some lc ∧ ∀ (w : World) (Q : Exit → Act → World → Prop), Q .normal ⟨(l.set 9 (.func (.func 81) #[] lc.toArray)).toArray, [{ target := .fn (.func 81) lc.toArray, args := #[] }]⟩ w → alB.wp Try.prog Q ⟨l.toArray, []⟩ w := by
  have hll : l.length = 22 := by rw [denL_length hd]; exact hl
  refine ⟨[l.getD 4 undef, l.getD 6 undef, l.getD 7 undef], denL_mk (nth_den 4 hd) (denL_mk (nth_den 6 hd) (denL_mk (nth_den 7 hd) rfl)), fun w Q hQ => ?_⟩
  match l, hll with
  | [y0, y1, y2, y3, y4, y5, y6, y7, y8, y9, y10, y11, y12, y13, y14, y15, y16, y17, y18, y19, y20, y21], _ =>
    apply wp_region
    simp [wpOps, go_sem]
    exact .inl (.inl hQ)
theorem aluDoR {Γ : Env} (hΓ : EnvOk Try.prog XM Γ) {args : List Sv} {m0 M : List SObj} {S : Sv} {j : Nat} (h : guardE Try.prog Γ 400 alA alC Try.f34.results.toList 9 22 j alCatch (args ++ List.replicate (Try.f34.ntmps - args.length) (.v undef)) m0 = some (S, M))
    (hj : Nat.beq m0.length j = true) (hl : Nat.beq M.length j = true) (hc : clM j M = true) (hs : clS j S = true) : CallR Try.prog XM 34 args m0 S M :=
  callR_guardE hΓ (B := alB) (g := 81) (capOf := alCap) h (by kernel_rfl) al_body (fun t1 h1 ρ l => alB_ok t1 h1 ρ l) (fun lc w => by simp [invoke, go_sem])
    (fun t1 m _ => idle81 _ _ _ m) (fun t1 ch m m4 _ => alCatch_ok t1 ch m m4) hj hl hc hs
end Go.Proofs.Ytpgdpoloipifeaa
