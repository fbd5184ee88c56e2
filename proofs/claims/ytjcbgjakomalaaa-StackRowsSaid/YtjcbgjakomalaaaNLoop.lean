/- Loops that count, whose rounds lay objects anew; rows of bytes, one round at a time. -/
import Derived.Test.YtjcbgjakomalaaaEvL
import Derived.Test.YtjcbgjakomalaaaNRow
import Derived.Test.YtjcbgjakomalaaaNStr
import Derived.Test.YtjcbgjakomalaaaNSeat
namespace Go.Ev
open Go
set_option linter.unusedVariables false
set_option linter.unusedSimpArgs false
/-- Two hooks of one block. -/
def orHook (sel : List Sv → List SObj → Bool) (h1 h2 : Hook) : Hook := fun R t m k => bif sel t m then h1 R t m k else h2 R t m k
theorem orHook_ok {P : Program} {X : Ext} {c : Code} {sel : List Sv → List SObj → Bool} {h1 h2 : Hook} (a : HookOk P X c h1) (b : HookOk P X c h2) : HookOk P X c (orHook sel h1 h2) := by
  intro R t m k r hr
  unfold orHook at hr
  cases h : sel t m
  · rw [h] at hr; exact b R t m k r hr
  · rw [h] at hr; exact a R t m k r hr
section
variable {P : Program} {X : Ext} {Γ : Env} {σ : Type} {len : Nat} {slots : List Nat} {n : σ → Nat} {vals : σ → Nat → List Sv} {ms : σ → Nat → List SObj} {Inv : σ → Prop}
theorem cntL_okD {fuel j : Nat} {a : Code} (hm : ∀ s g i, Inv s → i < n s → ev P Γ fuel (fun _ => none) a (fr len slots (vals s i) g) (ms s i) (liveD slots j) = some (0, len, vals s (i + 1), ms s (i + 1)))
    (hd : ∀ s g, Inv s → ev P Γ fuel (fun _ => none) a (fr len slots (vals s (n s)) g) (ms s (n s)) (liveD slots j) = some (2, len, vals s (n s), ms s (n s)))
    (hc : ∀ s i, Inv s → i ≤ n s → (ms s i).length = j ∧ clM j (ms s i) = true ∧ clL j (vals s i) = true) : (cntL len slots n vals ms Inv).OkD P Γ fuel a j where
  more := fun c g hi hc => hm c.s g c.i hi.1 (of_decide_eq_true hc)
  done := fun c g hi hc => by
    have h1 : ¬ c.i < n c.s := of_decide_eq_false hc
    have h2 : c.i = n c.s := Nat.le_antisymm hi.2 (Nat.le_of_not_lt h1)
    have := hd c.s g hi.1
    rw [← h2] at this
    exact this
  inv := fun c hi hc => by
    have h1 : c.i < n c.s := of_decide_eq_true hc
    exact ⟨⟨hi.1, h1⟩, by show n c.s - (c.i + 1) < n c.s - c.i; omega⟩
  cl := fun c hi => hc c.s c.i hi.1 hi.2
  cl2 := fun c hi _ => hc c.s c.i hi.1 hi.2
theorem cntHookD_ok (hΓ : EnvOk P X Γ) {fuel j : Nat} {a : Code} (h : (cntL len slots n vals ms Inv).OkD P Γ fuel a j) {id : Nat} {dec : (R : Type) → List Sv → List SObj → (σ → Option R) → Option R}
    (hdec : ∀ R l m (k : σ → Option R) r, dec R l m k = some r → ∃ s, k s = some r ∧ l = vals s 0 ∧ m = ms s 0 ∧ Inv s) : HookOk P X (.block id (.loop a)) (cntHook P X (cntL len slots n vals ms Inv) n id a dec) :=
  loopHookD_ok hΓ h (fun R l m k r hr => by
    obtain ⟨s, h1, h2, h3, h4⟩ := hdec R l m _ r hr
    exact ⟨⟨s, 0⟩, h1, h2, h3, h4, Nat.zero_le _⟩) fun c hi => cnt_iter _ c rfl hi.2
/-- Loops that count and leave by 'ex'. -/
def cntE (len : Nat) (slots : List Nat) (n : σ → Nat) (vals : σ → Nat → List Sv) (ms : σ → Nat → List SObj) (Inv : σ → Prop) (ex : Nat) : Rounds (CntS σ) (CntS σ) := { cntL len slots n vals ms Inv with ex := fun _ => ex }
theorem cntE_okD {fuel j ex : Nat} {a : Code} (hm : ∀ s g i, Inv s → i < n s → ev P Γ fuel (fun _ => none) a (fr len slots (vals s i) g) (ms s i) (liveD slots j) = some (0, len, vals s (i + 1), ms s (i + 1)))
    (hd : ∀ s g, Inv s → ev P Γ fuel (fun _ => none) a (fr len slots (vals s (n s)) g) (ms s (n s)) (liveD slots j) = some (ex + 1, len, vals s (n s), ms s (n s)))
    (hc : ∀ s i, Inv s → i ≤ n s → (ms s i).length = j ∧ clM j (ms s i) = true ∧ clL j (vals s i) = true) : (cntE len slots n vals ms Inv ex).OkD P Γ fuel a j where
  more := fun c g hi hc => hm c.s g c.i hi.1 (of_decide_eq_true hc)
  done := fun c g hi hc => by
    have h1 : ¬ c.i < n c.s := of_decide_eq_false hc
    have h2 : c.i = n c.s := Nat.le_antisymm hi.2 (Nat.le_of_not_lt h1)
    have := hd c.s g hi.1
    rw [← h2] at this
    exact this
  inv := fun c hi hc => by
    have h1 : c.i < n c.s := of_decide_eq_true hc
    exact ⟨⟨hi.1, h1⟩, by show n c.s - (c.i + 1) < n c.s - c.i; omega⟩
  cl := fun c hi => hc c.s c.i hi.1 hi.2
  cl2 := fun c hi _ => hc c.s c.i hi.1 hi.2
theorem cntEHook_ok (hΓ : EnvOk P X Γ) {fuel j ex : Nat} {a : Code} (h : (cntE len slots n vals ms Inv ex).OkD P Γ fuel a j) {id : Nat} {dec : (R : Type) → List Sv → List SObj → (σ → Option R) → Option R}
    (hdec : ∀ R l m (k : σ → Option R) r, dec R l m k = some r → ∃ s, k s = some r ∧ l = vals s 0 ∧ m = ms s 0 ∧ Inv s) : HookOk P X (.block id (.loop a)) (cntHook P X (cntE len slots n vals ms Inv ex) n id a dec) :=
  loopHookD_ok hΓ h (fun R l m k r hr => by
    obtain ⟨s, h1, h2, h3, h4⟩ := hdec R l m _ r hr
    exact ⟨⟨s, 0⟩, h1, h2, h3, h4, Nat.zero_le _⟩) fun c hi => cnt_iter (len := len) (slots := slots) (vals := vals) (ms := ms) (Inv := Inv) _ c rfl hi.2
/-- Rounds of which the last one works, too, and then leaves by 'ex'. -/
def lastL (len : Nat) (slots : List Nat) (n : σ → Nat) (vals : σ → Nat → List Sv) (ms : σ → Nat → List SObj) (Inv : σ → Prop) (ex : Nat) : Rounds (CntS σ) (CntS σ) where
  len := len
  slots := slots
  vals := fun c => vals c.s c.i
  ms := fun c => ms c.s c.i
  Inv := fun c => Inv c.s ∧ (c.i = 0 ∨ c.i < n c.s)
  cond := fun c => decide (c.i + 1 < n c.s)
  next := fun c => ⟨c.s, c.i + 1⟩
  μ := fun c => n c.s - c.i
  out := fun c => c
  ex := fun _ => ex
  vals2 := fun c => vals c.s c.i
  ms2 := fun c => ms c.s (n c.s)
theorem lastL_okD {fuel j ex : Nat} {a : Code} (hm : ∀ s g i, Inv s → i + 1 < n s → ev P Γ fuel (fun _ => none) a (fr len slots (vals s i) g) (ms s i) (liveD slots j) = some (0, len, vals s (i + 1), ms s (i + 1)))
    (hd : ∀ s g i, Inv s → i = n s - 1 → ev P Γ fuel (fun _ => none) a (fr len slots (vals s i) g) (ms s i) (liveD slots j) = some (ex + 1, len, vals s i, ms s (n s)))
    (hc : ∀ s i, Inv s → (ms s i).length = j ∧ clM j (ms s i) = true ∧ clL j (vals s i) = true) : (lastL len slots n vals ms Inv ex).OkD P Γ fuel a j where
  more := fun c g hi hc => hm c.s g c.i hi.1 (of_decide_eq_true hc)
  done := fun c g hi hc => by
    have h1 : ¬ c.i + 1 < n c.s := of_decide_eq_false hc
    refine hd c.s g c.i hi.1 ?_
    rcases hi.2 with h | h <;> omega
  inv := fun c hi hc => by
    have h1 : c.i + 1 < n c.s := of_decide_eq_true hc
    exact ⟨⟨hi.1, .inr h1⟩, by show n c.s - (c.i + 1) < n c.s - c.i; omega⟩
  cl := fun c hi => hc c.s c.i hi.1
  cl2 := fun c hi _ => ⟨(hc c.s (n c.s) hi.1).1, (hc c.s (n c.s) hi.1).2.1, (hc c.s c.i hi.1).2.2⟩
theorem last_iter {ex : Nat} : ∀ (k : Nat) (c : CntS σ), n c.s - c.i = k → (c.i = 0 ∨ c.i < n c.s) → iterN (lastL len slots n vals ms Inv ex).cond (lastL len slots n vals ms Inv ex).next k c = ⟨c.s, n c.s - 1⟩
  | 0, c, hk, hi => by
    have e : c.i = n c.s - 1 := by rcases hi with h | h <;> omega
    show c = _
    rw [← e]
  | k + 1, c, hk, hi => by
    by_cases hn : c.i + 1 < n c.s
    · have hc : (lastL len slots n vals ms Inv ex).cond c = true := decide_eq_true hn
      simp only [iterN, hc, cond_true]
      rw [last_iter k ((lastL len slots n vals ms Inv ex).next c) (by show n c.s - (c.i + 1) = k; omega) (.inr hn)]
      rfl
    · have hc : (lastL len slots n vals ms Inv ex).cond c = false := decide_eq_false hn
      simp only [iterN, hc, cond_false]
      have e : c.i = n c.s - 1 := by rcases hi with h | h <;> omega
      rw [← e]
def lastHook (P : Program) (X : Ext) (L : Rounds (CntS σ) (CntS σ)) (n : σ → Nat) (id : Nat) (a : Code) (dec : (R : Type) → List Sv → List SObj → (σ → Option R) → Option R) : Hook :=
  loopHook P X L id a (fun R l m k => dec R l m fun s => k ⟨s, 0⟩) (fun c => ⟨c.s, n c.s - 1⟩)
theorem lastHook_ok (hΓ : EnvOk P X Γ) {fuel j ex : Nat} {a : Code} (h : (lastL len slots n vals ms Inv ex).OkD P Γ fuel a j) {id : Nat} {dec : (R : Type) → List Sv → List SObj → (σ → Option R) → Option R}
    (hdec : ∀ R l m (k : σ → Option R) r, dec R l m k = some r → ∃ s, k s = some r ∧ l = vals s 0 ∧ m = ms s 0 ∧ Inv s) : HookOk P X (.block id (.loop a)) (lastHook P X (lastL len slots n vals ms Inv ex) n id a dec) :=
  loopHookD_ok hΓ h (fun R l m k r hr => by
    obtain ⟨s, h1, h2, h3, h4⟩ := hdec R l m _ r hr
    exact ⟨⟨s, 0⟩, h1, h2, h3, h4, .inl rfl⟩) fun c hi => last_iter _ c rfl hi.2
end
theorem natB {a b : Nat} : (Nat.beq a b = true) ↔ a = b := ⟨Nat.eq_of_beq_eq_true, fun h => by subst h; simp⟩
theorem clO_arr (n : Nat) (k : IntKind) (e : TypeId) (l : Nat) (F : Int → Int) : clO n (.arr k e l F) = true := rfl
theorem clO_dead (n : Nat) : clO n .dead = true := rfl
theorem clO_ext (n t : Nat) (M : Int → Int) : clO n (.ext t M) = true := rfl
theorem clO_cells (n : Nat) (cs : List Sv) (e : TypeId) : clO n (.cells cs e) = clL n cs := rfl
theorem clS_v (n : Nat) (x : Value) : clS n (.v x) = true := rfl
theorem clS_ptr (n b o : Nat) : clS n (.ptr b o) = Nat.blt b n := rfl
theorem clS_sl (n b o l c : Nat) : clS n (.sl b o l c) = Nat.blt b n := rfl
theorem clL_nil (n : Nat) : clL n [] = true := rfl
theorem clL_cons (n : Nat) (c : Sv) (cs : List Sv) : clL n (c :: cs) = (clS n c && clL n cs) := rfl
theorem clM_nil (n : Nat) : clM n [] = true := rfl
theorem clM_cons (n : Nat) (o : SObj) (m : List SObj) : clM n (o :: m) = (clO n o && clM n m) := rfl
/-- Counts, told by numbers. -/
def toN (x : Int) : Nat := x.toNat
def modN (x k : Int) : Nat := (x % k).toNat
/-- A place that goes up or down. -/
def aI (bk : Bool) (a : Int) (i : Nat) : Int := bif bk then a - (i : Int) else a + (i : Int)
theorem aI_zero (bk : Bool) (a : Int) : aI bk a 0 = a := by cases bk <;> simp [aI]
theorem aI_in {bk : Bool} {a : Int} {i : Nat} (h0 : 50 ≤ a) (h1 : a < 150) (hi : i ≤ 40) : 0 < aI bk a i ∧ aI bk a i < 200 := by
  unfold aI; cases bk <;> simp only [cond_true, cond_false] <;> omega
theorem onV_aI {bk : Bool} {a : Int} {i : Nat} (h0 : 50 ≤ a) (h1 : a < 150) (hi : i < 40) : onV bk (aI bk a i) 1 = aI bk a (i + 1) := by
  unfold onV aI
  cases bk <;> simp only [cond_true, cond_false, wr_u32] <;> omega
/-- A row filled in memory. -/
def rowMem (M : Int → Int) (p sz v : Int) : Nat → Int → Int
  | 0 => M
  | i + 1 => stV (rowMem M p sz v i) 36864 256 (p + sz * (i : Int)) sz (IntKind.wrap .u64 v) true
/-- The bytes of a row that is filled. -/
def fillF (F : Int → Int) (p : Int) (sz : Nat) (v : Int) : Nat → Int → Int
  | 0 => F
  | j + 1 => updM (fillF F p sz v j) (p + (j : Int)) (IntKind.wrap .u8 (Int.fdiv v (2 ^ (8 * (j % sz)))))
theorem updM_shift {F G : Int → Int} {p q v : Int} (h : F q = G (36864 + q)) : updM F p v q = updM G (36864 + p) v (36864 + q) := by
  unfold updM
  by_cases e : q = p
  · subst e; simp
  · have e1 : (q == p) = false := by simpa using e
    have e2 : (36864 + q == 36864 + p) = false := by simp only [beq_eq_false_iff_ne]; omega
    rw [e1, e2]; exact h
theorem fill1_eq {M F : Int → Int} {p v : Int} (hp : 0 ≤ p) (hv : 0 ≤ v) (hv2 : v < 4294967296) (hF : ∀ q : Int, 0 ≤ q → q < 256 → F q = M (36864 + q)) : ∀ n : Nat, p + (n : Int) ≤ 256 → ∀ q : Int, 0 ≤ q → q < 256 → fillF F p 1 v n q = rowMem M p 1 v n (36864 + q)
  | 0, _, q, h0, h1 => hF q h0 h1
  | n + 1, hn, q, h0, h1 => by
    have ih := fill1_eq hp hv hv2 hF n (by omega) q h0 h1
    have e1 : rowMem M p 1 v (n + 1) = updM (rowMem M p 1 v n) (36864 + (p + (n : Int))) (IntKind.wrap .u8 v) := by
      show stV (rowMem M p 1 v n) 36864 256 (p + 1 * (n : Int)) 1 (IntKind.wrap .u64 v) true = _
      rw [st1 (by omega) (by omega), wr_u64_id (by omega) (by omega), Int.one_mul]
    have e2 : fillF F p 1 v (n + 1) = updM (fillF F p 1 v n) (p + (n : Int)) (IntKind.wrap .u8 v) := by
      show updM (fillF F p 1 v n) (p + (n : Int)) (IntKind.wrap .u8 (Int.fdiv v (2 ^ (8 * (n % 1))))) = _
      rw [Nat.mod_one]; simp
    rw [e1, e2]
    exact updM_shift ih
theorem fill4_eq {M F : Int → Int} {p v : Int} (hp : 0 ≤ p) (hv : 0 ≤ v) (hv2 : v < 4294967296) (hF : ∀ q : Int, 0 ≤ q → q < 256 → F q = M (36864 + q)) : ∀ n : Nat, p + 4 * (n : Int) ≤ 256 → ∀ q : Int, 0 ≤ q → q < 256 → fillF F p 4 v (4 * n) q = rowMem M p 4 v n (36864 + q)
  | 0, _, q, h0, h1 => hF q h0 h1
  | n + 1, hn, q, h0, h1 => by
    have ih := fill4_eq hp hv hv2 hF n (by omega) q h0 h1
    have e1 : rowMem M p 4 v (n + 1) = updM (updM (updM (updM (rowMem M p 4 v n) (36864 + (p + 4 * (n : Int))) (v % 256)) (36864 + (p + 4 * (n : Int) + 1)) (v / 256 % 256)) (36864 + (p + 4 * (n : Int) + 2)) (v / 65536 % 256)) (36864 + (p + 4 * (n : Int) + 3)) (v / 16777216 % 256) := by
      show stV (rowMem M p 4 v n) 36864 256 (p + 4 * (n : Int)) 4 (IntKind.wrap .u64 v) true = _
      rw [wr_u64_id (by omega) (by omega), st4 (by omega) (by omega) hv]
      have c1 : 36864 + (p + 4 * (n : Int)) + 1 = 36864 + (p + 4 * (n : Int) + 1) := by omega
      have c2 : 36864 + (p + 4 * (n : Int)) + 2 = 36864 + (p + 4 * (n : Int) + 2) := by omega
      have c3 : 36864 + (p + 4 * (n : Int)) + 3 = 36864 + (p + 4 * (n : Int) + 3) := by omega
      rw [c1, c2, c3]
    have e2 : fillF F p 4 v (4 * (n + 1)) = updM (updM (updM (updM (fillF F p 4 v (4 * n)) (p + 4 * (n : Int)) (v % 256)) (p + 4 * (n : Int) + 1) (v / 256 % 256)) (p + 4 * (n : Int) + 2) (v / 65536 % 256)) (p + 4 * (n : Int) + 3) (v / 16777216 % 256) := by
      show updM (updM (updM (updM (fillF F p 4 v (4 * n)) (p + ((4 * n : Nat) : Int)) (IntKind.wrap .u8 (Int.fdiv v (2 ^ (8 * (4 * n % 4)))))) (p + ((4 * n + 1 : Nat) : Int)) (IntKind.wrap .u8 (Int.fdiv v (2 ^ (8 * ((4 * n + 1) % 4)))))) (p + ((4 * n + 2 : Nat) : Int)) (IntKind.wrap .u8 (Int.fdiv v (2 ^ (8 * ((4 * n + 2) % 4)))))) (p + ((4 * n + 3 : Nat) : Int)) (IntKind.wrap .u8 (Int.fdiv v (2 ^ (8 * ((4 * n + 3) % 4))))) = _
      have m0 : 4 * n % 4 = 0 := by omega
      have m1 : (4 * n + 1) % 4 = 1 := by omega
      have m2 : (4 * n + 2) % 4 = 2 := by omega
      have m3 : (4 * n + 3) % 4 = 3 := by omega
      rw [m0, m1, m2, m3, fdiv_byte hv 0, fdiv_byte hv 1, fdiv_byte hv 2, fdiv_byte hv 3]
      have c0 : p + ((4 * n : Nat) : Int) = p + 4 * (n : Int) := by omega
      have c1 : p + ((4 * n + 1 : Nat) : Int) = p + 4 * (n : Int) + 1 := by omega
      have c2 : p + ((4 * n + 2 : Nat) : Int) = p + 4 * (n : Int) + 2 := by omega
      have c3 : p + ((4 * n + 3 : Nat) : Int) = p + 4 * (n : Int) + 3 := by omega
      rw [c0, c1, c2, c3]
      simp
    rw [e1, e2]
    exact updM_shift (updM_shift (updM_shift (updM_shift ih)))
theorem isBy_rowsM {M : Int → Int} (h : isBy M) (a c : Nat → Int) : ∀ i, isBy (rowsM M a c i)
  | 0 => h
  | i + 1 => by
    show isBy (stV _ _ _ _ _ _ _)
    unfold stV
    cases segE 36864 256 (c i) ((bytesN 1 : Nat) : Int) true == 0
    · exact isBy_rowsM h a c i
    · exact isBy_stB (isBy_rowsM h a c i) _ _ _
end Go.Ev
