/- What StackRows comes to. -/
import Derived.Test.YtjcbgjakomalaaaCSr
namespace Go.Proofs.Ytjcbgjakomalaaa.stackRows
open Go Go.Ev Go.ChangeShapes Go.WideShapes Go.ChangeAt Go.RowKit
set_option linter.unusedVariables false
set_option linter.unusedSimpArgs false
set_option maxRecDepth 100000
theorem upd_ne {M : Int → Int} {a v x : Int} (h : x ≠ a) : updM M a v x = M x := by
  unfold updM
  rw [show (x == a) = false by simpa using h]; rfl
theorem upd_eq {M : Int → Int} {a v x : Int} (h : x = a) : updM M a v x = v := by
  unfold updM
  rw [show (x == a) = true by simpa using h]; rfl
theorem ld4g {M : Int → Int} {p v : Int} (h0 : 0 ≤ p) (h1 : p + 4 ≤ 256) (hv0 : 0 ≤ v) (hv1 : v < 4294967296) (hk : ∀ k : Nat, k < 4 → M (36864 + p + (k : Int)) = v / 2 ^ (8 * k) % 256) : ldV M 36864 256 p 4 true = v := by
  unfold ldV
  rw [seg4 h0 h1]
  have e0 : IntKind.wrap .u32 (36864 + p) = 36864 + p := wr_u32_id (by omega) (by omega)
  rw [e0]
  have hk' : ∀ k : Nat, k < 4 → M (IntKind.wrap .u32 (36864 + p + (k : Int))) = v / 2 ^ (8 * k) % 256 := fun k h => by rw [wr_u32_id (by omega) (by omega)]; exact hk k h
  have := ldGo_eq M (36864 + p) 4 0 v (by omega) hk' hv0 (by omega) (by show (0 : Int) * 2 ^ (8 * 4) + v % 4294967296 < _; omega)
  show ldGo M (36864 + p) 4 0 = v
  rw [this]
  show (0 : Int) * 2 ^ (8 * 4) + v % 4294967296 = v
  omega
theorem push_at {f : Nat → Value} {off N : Nat} {e : Int} {M : Int → Int} (h0 : 0 ≤ e - 4 * (N : Int)) (h1 : e ≤ 256) (hv : ∀ j, j < N → 0 ≤ toI (f (off + j)) ∧ toI (f (off + j)) < 4294967296) :
    ∀ n, n ≤ N → ∀ j, j < n → ∀ k : Nat, k < 4 → pushM f off e M n (36864 + dnV e (j + 1) + (k : Int)) = toI (f (off + j)) / 2 ^ (8 * k) % 256
  | 0, _, j, hj, _, _ => by omega
  | n + 1, hn, j, hj, k, hk => by
    have hvn := hv n (by omega)
    show stV (pushM f off e M n) 36864 256 (dnV e (n + 1)) 4 (IntKind.wrap .u64 (toI (f (off + n)))) true (36864 + dnV e (j + 1) + (k : Int)) = _
    rw [wr_u64_id (by omega) (by omega), st4 (by unfold dnV; omega) (by unfold dnV; omega) hvn.1]
    by_cases hjn : j = n
    · subst hjn
      match k, hk with
      | 0, _ => rw [upd_ne (by omega), upd_ne (by omega), upd_ne (by omega), upd_eq (by omega)]; simp
      | 1, _ => rw [upd_ne (by omega), upd_ne (by omega), upd_eq (by omega)]; rfl
      | 2, _ => rw [upd_ne (by omega), upd_eq (by omega)]; rfl
      | 3, _ => rw [upd_eq (by omega)]; rfl
    · have hd : dnV e (j + 1) ≥ dnV e (n + 1) + 4 := by unfold dnV; omega
      rw [upd_ne (by omega), upd_ne (by omega), upd_ne (by omega), upd_ne (by omega)]
      exact push_at h0 h1 hv n (by omega) j (by omega) k hk
theorem allK_of {f : Nat → Value} {off : Nat} : ∀ {n : Nat}, (∀ i, i < n → ∃ z, f (off + i) = .int .u32 z ∧ in32 z = true) → allK f off n = true
  | 0, _ => rfl
  | n + 1, h => by
    obtain ⟨z, h1, h2⟩ := h n (by omega)
    simp only [allK, h1, h2, Bool.true_and]
    exact allK_of fun i hi => h i (by omega)
theorem popOk_of {f : Nat → Value} {off len : Nat} {e : Int} {M : Int → Int} : ∀ {n : Nat}, (∀ i, i < n → IntKind.wrap .u32 (ldV M 36864 256 (upV e i) 4 true) = toI (f (off + (len - 1 - i)))) → popOk f off len e M n = true
  | 0, _ => rfl
  | n + 1, h => by
    simp only [popOk, h n (by omega), beq_self_eq_true, Bool.true_and]
    exact popOk_of fun i hi => h i (by omega)
theorem form1 (off len cap : Nat) (f : Nat → Value) (a1 : Int) : evF Try.prog ΓSr 400 4 [.sl 0 off len cap, .v (.int .u8 a1)] [.ro off len f] isT (fun _ _ => none) =
    (bif decide ((len : Int) > 60) then some true
else
bif
true &&
(true &&
(true &&
(true &&
(true &&
(true &&
(true &&
(true &&
(true &&
(true &&
(true &&
(true &&
(true &&
(true &&
(true &&
(true &&
(true &&
(true &&
(true &&
(true &&
(true &&
(true &&
(true &&
(true &&
(true &&
(decide (off = off) &&
(decide (len = len) &&
(true &&
(allK f off len &&
(decide (len ≤ 60) &&
roomV
(IntKind.wrap IntKind.u32
(IntKind.wrap IntKind.u32 (Int.tmod a1 16) + IntKind.wrap IntKind.u32 (4 * IntKind.wrap IntKind.u32 ↑len)))
len))))))))))))))))))))))))))))) then
bif
true &&
(true &&
(true &&
(true &&
(true &&
(true &&
(true &&
(true &&
(true &&
(true &&
(true &&
(true &&
(true &&
(true &&
(true &&
(true &&
(true &&
(true &&
(true &&
(true &&
(true &&
(true &&
(true &&
(true &&
(true &&
(decide (off = off) &&
(decide (len = len) &&
(IntKind.wrap IntKind.i64 ((len : Int) - 1) == (len : Int) - 1 &&
(allK (roF f) off len &&
(decide (len ≤ 60) &&
(roomV
(dnV
(IntKind.wrap IntKind.u32
(IntKind.wrap IntKind.u32 (Int.tmod a1 16) + IntKind.wrap IntKind.u32 (4 * IntKind.wrap IntKind.u32 ↑len)))
len)
0 &&
popOk (roF f) off len
(dnV
(IntKind.wrap IntKind.u32
(IntKind.wrap IntKind.u32 (Int.tmod a1 16) + IntKind.wrap IntKind.u32 (4 * IntKind.wrap IntKind.u32 ↑len)))
len)
(pushM f off
(IntKind.wrap IntKind.u32
(IntKind.wrap IntKind.u32 (Int.tmod a1 16) + IntKind.wrap IntKind.u32 (4 * IntKind.wrap IntKind.u32 ↑len)))
(wrM (fun x => 0) 36864 (rowF (fun x => 0) (fillB 1) 256) 256) len)
len)))))))))))))))))))))))))))))) then
bif
true &&
(true &&
(true &&
(true &&
(upV
(dnV
(IntKind.wrap IntKind.u32
(IntKind.wrap IntKind.u32 (Int.tmod a1 16) + IntKind.wrap IntKind.u32 (4 * IntKind.wrap IntKind.u32 ↑len)))
len)
len ==
IntKind.wrap IntKind.u32
(IntKind.wrap IntKind.u32 (Int.tmod a1 16) + IntKind.wrap IntKind.u32 (4 * IntKind.wrap IntKind.u32 ↑len)) &&
true)))) &&
true then
some true
else some false
else none
else none) := by kernel_rfl
theorem form0 (a0 : Option Addr) (a1 : Int) : evF Try.prog ΓSr0 400 4 [.v (.slice a0 0 0), .v (.int .u8 a1)] [] isT (fun _ _ => none) =
    (bif
0 == 0 &&
(0 == 0 &&
(0 == 0 &&
(0 == 0 &&
(IntKind.wrap IntKind.u32 (IntKind.wrap IntKind.u32 (Int.tmod a1 16) + 0) ==
IntKind.wrap IntKind.u32 (IntKind.wrap IntKind.u32 (Int.tmod a1 16) + 0) &&
(0 == 0 && (0 == 0 && (0 == 0 && true))))))) &&
true then
some true
else some false) := by kernel_rfl
theorem pure0 (a0 : Option Addr) (a1 : Int) : evF Try.prog ΓSr0 400 4 [.v (.slice a0 0 0), .v (.int .u8 a1)] [] isT (fun _ _ => none) = some true := by
  rw [form0]
  simp only [beq_self_eq_true, Bool.and_self, cond_true]
theorem pure1 (off len cap : Nat) (f : Nat → Value) (a1 : Int) (w1 : (Lit.int .u8 a1).wf = true) (hz : ∀ i, i < len → ∃ z, f (off + i) = .int .u32 z ∧ (Lit.int .u32 z).wf = true) : evF Try.prog ΓSr 400 4 [.sl 0 off len cap, .v (.int .u8 a1)] [.ro off len f] isT (fun _ _ => none) = some true := by
  rw [form1]
  by_cases hl : (len : Int) > 60
  · rw [decide_eq_true hl]; rfl
  · rw [decide_eq_false hl]
    have b1 := wf_u8 w1
    have hl' : len ≤ 60 := by omega
    obtain ⟨E, hE⟩ : ∃ E, E = IntKind.wrap .u32 (IntKind.wrap .u32 (Int.tmod a1 16) + IntKind.wrap .u32 (4 * IntKind.wrap .u32 (len : Int))) := ⟨_, rfl⟩
    rw [← hE]
    have hE2 : E = a1 % 16 + 4 * (len : Int) := by
      rw [hE, Int.tmod_eq_emod_of_nonneg b1.1, wr_u32, wr_u32, wr_u32, wr_u32]; omega
    have hz' : ∀ i, i < len → ∃ z, f (off + i) = .int .u32 z ∧ in32 z = true := fun i hi => by
      obtain ⟨z, h1, h2⟩ := hz i hi
      exact ⟨z, h1, in32_iff.2 (wf_u32 h2)⟩
    have ha := allK_of hz'
    have hr : allK (roF f) off len = true := allK_of fun i hi => ⟨_, rfl, (allK_get ha hi).2⟩
    have hv : ∀ j, j < len → 0 ≤ toI (f (off + j)) ∧ toI (f (off + j)) < 4294967296 := fun j hj => in32_iff.1 (allK_get ha hj).2
    have r1 : roomV E len = true := roomV_iff.2 (by omega)
    have r2 : roomV (dnV E len) 0 = true := roomV_iff.2 (by unfold dnV; omega)
    have hw : IntKind.wrap .i64 ((len : Int) - 1) = (len : Int) - 1 := wr_i64_id (by omega) (by omega)
    have hp : popOk (roF f) off len (dnV E len) (pushM f off E (wrM (fun x => 0) 36864 (rowF (fun x => 0) (fillB 1) 256) 256) len) len = true := popOk_of fun i hi => by
      have hvi := hv (len - 1 - i) (by omega)
      have ed : upV (dnV E len) i = dnV E (len - 1 - i + 1) := by unfold upV dnV; omega
      have hb : 0 ≤ dnV E (len - 1 - i + 1) ∧ dnV E (len - 1 - i + 1) + 4 ≤ 256 := by unfold dnV; omega
      rw [ed, ld4g hb.1 hb.2 hvi.1 hvi.2 (push_at (by omega) (by omega) hv len (Nat.le_refl _) (len - 1 - i) (by omega)), wr_u32_id hvi.1 hvi.2]
      rfl
    have hu : upV (dnV E len) len = E := by unfold upV dnV; omega
    have h60 : decide (len ≤ 60) = true := decide_eq_true hl'
    simp only [ha, hr, r1, r2, hw, hp, hu, h60, decide_true, beq_self_eq_true, Bool.and_self, Bool.and_true, Bool.true_and, cond_true, cond_false]
theorem law_callsR {P : Program} {X : Ext} {Γ : Env} (hΓ : EnvOk P X Γ) {n : Nat} {fn : FuncId} {args : List Sv} {off len g : Nat} {f : Nat → Value} (h : evF P Γ n fn args [.ro off len f] isT (fun _ _ => none) = some true) {l : List Value} (hl : denL [.blk g] args = some l) (hb : callOkB P fn = true) (w : World) (hg : g < w.heap.size) (hc : ∀ i, off ≤ i → i < off + len → w.cell? ⟨g, i, none⟩ = some (f i)) :
    Calls P fn l.toArray w fun e w' => e = .returned (.bool true) ∧ Below w.heap.size w w' := by
  have hr : Rep X [.blk g] (fun _ => none) [.ro off len f] w := by
    refine ⟨rfl, fun b k h => (by cases h), fun k o hk ha => ?_⟩
    cases k with
    | succ k => cases hk
    | zero =>
      obtain rfl : SObj.ro off len f = o := by simpa using hk
      exact ⟨g, rfl, rfl, hg, hc⟩
  rcases evF_sound hΓ n _ _ _ _ _ _ h with ⟨_, h | h⟩ | h
  · obtain ⟨sv, m', h1, h2⟩ := h
    have hs : sv = .v (.bool true) := by
      unfold isT at h1
      split at h1
      · simp at h1; rw [h1]
      · cases h1
    subst hs
    refine (h2 _ (fun _ => none) w l hl hr).mono fun e w' ⟨ρ', own', x, ht, hx, _, he⟩ => ?_
    have := den_vv hx
    subst this
    exact ⟨he, ht.kept.os, ht.kept.tape, ht.kept.output, ht.kept.size, fun k hk => ht.kept.block k hk rfl⟩
  · obtain ⟨_, _, h, _⟩ := h; cases h
  · obtain ⟨sv, m', _, h2⟩ := h
    obtain ⟨_, _, x, w', h3, _⟩ := h2 _ (fun _ => none) w l hl hr
    obtain ⟨fn, hfn, hbd, hn⟩ := callOk_of hΓ hb
    have : fn.body.isNone = false := by cases h : fn.body <;> simp_all
    simp only [callFunc, Sem.run_bind, run_program, Result.andThen_ok, hfn] at h3
    simp [hn, this] at h3
end Go.Proofs.Ytjcbgjakomalaaa.stackRows
