/- Doubles by their bits: plain lemmas. -/
import Derived.Test.YtpgdpoloipifeaaEv8
namespace Go.Ev
open Go
set_option linter.unusedVariables false
set_option linter.unusedSimpArgs false

abbrev dbl : Ieee.Format := Ieee.double
theorem sw_eq : Ieee.double.signWeight = 9223372036854775808 := by decide
theorem bin_eq : Ieee.double.binade = 4503599627370496 := by decide
theorem inf_eq : Ieee.double.infRung = 9218868437227405312 := by decide
theorem lp_eq : Ieee.double.leastPlace = -1074 := by decide
theorem fb_eq : Ieee.double.fractionBits = 52 := rfl

/-- Is it none, by its bits? -/
def nanI (a : Int) : Bool := decide (a % 9223372036854775808 > 9218868437227405312)

theorem read_cases (x : Nat) : (x % 9223372036854775808 < 4503599627370496 ∧ Ieee.double.read x = .number (x / 9223372036854775808 % 2 == 1) (x % 9223372036854775808) (-1074)) ∨
    (4503599627370496 ≤ x % 9223372036854775808 ∧ x % 9223372036854775808 < 9218868437227405312 ∧ Ieee.double.read x = .number (x / 9223372036854775808 % 2 == 1) (4503599627370496 + x % 9223372036854775808 % 4503599627370496) (-1074 + ((x % 9223372036854775808 / 4503599627370496 - 1 : Nat) : Int))) ∨
    (x % 9223372036854775808 = 9218868437227405312 ∧ Ieee.double.read x = .infinity (x / 9223372036854775808 % 2 == 1)) ∨
    (9218868437227405312 < x % 9223372036854775808 ∧ Ieee.double.read x = .nan (x / 9223372036854775808 % 2 == 1) (x % 9223372036854775808 - 9218868437227405312)) := by
  unfold Ieee.Format.read
  simp only [sw_eq, bin_eq, inf_eq, lp_eq]
  by_cases h1 : x % 9223372036854775808 < 4503599627370496
  · exact .inl ⟨h1, by rw [if_pos h1]⟩
  · rw [if_neg h1]
    by_cases h2 : x % 9223372036854775808 < 9218868437227405312
    · exact .inr (.inl ⟨by omega, h2, by rw [if_pos h2]⟩)
    · rw [if_neg h2]
      by_cases h3 : x % 9223372036854775808 = 9218868437227405312
      · exact .inr (.inr (.inl ⟨h3, by rw [if_pos h3]⟩))
      · exact .inr (.inr (.inr ⟨by omega, by rw [if_neg h3]⟩))

theorem fnan_iff (x : Nat) : fnan x = true ↔ 9218868437227405312 < x % 9223372036854775808 := by
  unfold fnan
  rcases read_cases x with ⟨h, e⟩ | ⟨h, h', e⟩ | ⟨h, e⟩ | ⟨h, e⟩ <;> rw [e] <;> simp [Ieee.Datum.isNaN] <;> omega
theorem fnan_nanI {a : Int} (h : 0 ≤ a) : fnan a.toNat = nanI a := by
  obtain ⟨n, rfl⟩ := Int.eq_ofNat_of_zero_le h
  rw [Bool.eq_iff_iff, fnan_iff]
  simp [nanI]
  omega

/-- A number is read. -/
theorem read_fin {x : Nat} (h : x % 9223372036854775808 < 9218868437227405312) : ∃ s m i, Ieee.double.read x = .number s m i ∧ -1074 ≤ i ∧ i ≤ 971 ∧ m < 9007199254740992 ∧ (i = -1074 ∨ 4503599627370496 ≤ m) ∧ s = (x / 9223372036854775808 % 2 == 1) := by
  rcases read_cases x with ⟨h1, e⟩ | ⟨h1, h', e⟩ | ⟨h1, e⟩ | ⟨h1, e⟩
  · exact ⟨_, _, _, e, by omega, by omega, by omega, .inl rfl, rfl⟩
  · have h2 : x % 9223372036854775808 / 4503599627370496 < 2047 := by omega
    have h3 : 1 ≤ x % 9223372036854775808 / 4503599627370496 := by omega
    refine ⟨_, _, _, e, by omega, by omega, ?_, .inr (by omega), rfl⟩
    have := Nat.mod_lt (x % 9223372036854775808) (show 0 < 4503599627370496 by omega)
    omega
  · omega
  · omega

theorem order_none {x y : Nat} (h : fnan x = true ∨ fnan y = true) : Ieee.double.order x y = none := order_nan h
theorem order_some {x y : Nat} (hx : fnan x = false) (hy : fnan y = false) : ∃ c, Ieee.double.order x y = some c := by
  unfold fnan at hx hy
  unfold Ieee.Format.order
  cases h1 : Ieee.double.read x <;> rw [h1] at hx <;> cases h2 : Ieee.double.read y <;> rw [h2] at hy <;> simp_all [Ieee.Datum.isNaN, Ieee.Datum.order]
theorem order_self {x : Nat} (hx : fnan x = false) : Ieee.double.order x x = some .eq := by
  unfold fnan at hx
  unfold Ieee.Format.order
  cases h1 : Ieee.double.read x <;> rw [h1] at hx <;> simp_all [Ieee.Datum.isNaN, Ieee.Datum.order]
theorem feq_self {x : Nat} (hx : fnan x = false) : feq x x = true := by unfold feq; rw [order_self hx]; rfl

/-- How two stand to each other: one of four. -/
theorem cmp_cases (x y : Nat) : ((fnan x = true ∨ fnan y = true) ∧ flt x y = false ∧ feq x y = false ∧ fgt x y = false) ∨
    (fnan x = false ∧ fnan y = false ∧ ((flt x y = true ∧ feq x y = false ∧ fgt x y = false) ∨ (flt x y = false ∧ feq x y = true ∧ fgt x y = false) ∨ (flt x y = false ∧ feq x y = false ∧ fgt x y = true))) := by
  unfold flt feq fgt
  cases hx : fnan x
  · cases hy : fnan y
    · obtain ⟨c, hc⟩ := order_some hx hy
      rw [hc]
      cases c <;> simp
    · rw [order_none (.inr hy)]; simp
  · rw [order_none (.inl hx)]; simp

/-- What is written is no NaN, unless it was one. -/
theorem word_rung {s : Bool} {r : Nat} (h : r < 9223372036854775808) : Ieee.double.word s r % 9223372036854775808 = r ∧ (Ieee.double.word s r / 9223372036854775808 % 2 == 1) = s ∧ Ieee.double.word s r < 18446744073709551616 := by
  unfold Ieee.Format.word
  rw [sw_eq]
  cases s
  · simp only [Bool.false_eq_true, if_false]
    exact ⟨by omega, by simp; omega, by omega⟩
  · simp only [if_true]
    exact ⟨by omega, by simp; omega, by omega⟩
theorem nearest_word (s : Bool) (m : Nat) (p : Int) : ∃ r, r ≤ 9218868437227405312 ∧ Ieee.double.nearest s m p = Ieee.double.word s r := by
  unfold Ieee.Format.nearest
  split
  · exact ⟨0, by omega, rfl⟩
  · exact ⟨_, by rw [← inf_eq]; exact Nat.min_le_right _ _, rfl⟩
theorem write_ok {d : Ieee.Datum} (h : d.isNaN = false) : fnan (Ieee.double.write d) = false := by
  have key : ∀ s r, r ≤ 9218868437227405312 → fnan (Ieee.double.word s r) = false := fun s r hr => by
    cases hn : fnan (Ieee.double.word s r)
    · rfl
    · rw [fnan_iff, (word_rung (by omega)).1] at hn; omega
  cases d with
  | number s m p => obtain ⟨r, hr, e⟩ := nearest_word s m p; simp only [Ieee.Format.write, e]; exact key s r hr
  | infinity s => simp only [Ieee.Format.write]; exact key s _ (by rw [inf_eq]; omega)
  | nan s t => cases h
theorem write_lt (d : Ieee.Datum) : Ieee.double.write d < 18446744073709551616 := Ieee.double.write_lt d

theorem sum_notnan {a b d : Ieee.Datum} (h : a.sum b = some d) : d.isNaN = false := by
  cases a <;> cases b <;> simp only [Ieee.Datum.sum] at h <;> first
    | (cases h; done)
    | (simp at h; subst h; rfl)
    | (split at h <;> simp at h; subst h; rfl)
theorem prod_notnan {a b d : Ieee.Datum} (h : a.product b = some d) : d.isNaN = false := by
  cases a <;> cases b <;> simp only [Ieee.Datum.product] at h <;> first
    | (cases h; done)
    | (simp at h; subst h; rfl)
    | (split at h <;> simp at h; subst h; rfl)
theorem quot_notnan {n : Nat} {a b d : Ieee.Datum} (h : a.quotient n b = some d) : d.isNaN = false := by
  cases a <;> cases b <;> simp only [Ieee.Datum.quotient] at h <;> first
    | (cases h; done)
    | (simp at h; subst h; rfl)
    | (split at h
       · split at h <;> simp at h; subst h; rfl
       · simp at h; subst h; rfl)
theorem root_notnan {n : Nat} {a d : Ieee.Datum} (h : a.root n = some d) : d.isNaN = false := by
  cases a with
  | nan s t => cases h
  | infinity s => cases s <;> simp [Ieee.Datum.root] at h; subst h; rfl
  | number s m i =>
    simp only [Ieee.Datum.root] at h
    split at h
    · simp at h; subst h; rfl
    · split at h
      · cases h
      · simp at h; subst h; rfl

theorem map_some {α β : Type} {f : α → β} {o : Option α} {b : β} (h : o.map f = some b) : ∃ a, o = some a ∧ f a = b := by
  cases o with
  | none => cases h
  | some a => exact ⟨a, rfl, by simpa using h⟩

theorem fval_notnan {op : BinOp} {a b : Nat} (h : fok op a b = true) : fnan (fval op a b) = false := by
  unfold fok at h
  unfold fval
  obtain ⟨r, hr⟩ := Option.isSome_iff_exists.1 h
  rw [hr]
  simp only [Option.getD_some]
  unfold floatBits at hr
  cases op <;> simp only at hr <;> first
    | (cases hr; done)
    | (obtain ⟨d, hd, rfl⟩ := map_some hr
       exact write_ok (by first | exact sum_notnan hd | exact prod_notnan hd | exact quot_notnan hd))
theorem fsqrt_notnan {a : Nat} (h : fsqok a = true) : fnan (fsqrt a) = false := by
  unfold fsqok at h
  unfold fsqrt
  obtain ⟨r, hr⟩ := Option.isSome_iff_exists.1 h
  rw [hr]
  simp only [Option.getD_some]
  obtain ⟨d, hd, rfl⟩ := map_some hr
  exact write_ok (root_notnan hd)
theorem fval_lt (op : BinOp) (a b : Nat) : fval op a b < 18446744073709551616 := by
  unfold fval
  cases h : floatBits op .f64 a b with
  | none => simp
  | some r =>
    simp only [Option.getD_some]
    unfold floatBits at h
    cases op <;> simp only at h <;> first
      | (cases h; done)
      | (obtain ⟨d, hd, rfl⟩ := map_some h; exact write_lt d)
theorem fsqrt_lt (a : Nat) : fsqrt a < 18446744073709551616 := by
  unfold fsqrt
  cases h : Ieee.double.sqrt a with
  | none => simp
  | some r => simp only [Option.getD_some]; obtain ⟨d, hd, rfl⟩ := map_some h; exact write_lt d
theorem fnear_eq (n : Int) : fnear n = Ieee.double.nearest (decide (n < 0)) n.natAbs 0 := rfl
theorem fnear_lt (n : Int) : fnear n < 18446744073709551616 := by rw [fnear_eq]; exact write_lt (.number _ _ _)

theorem ar_form {R : Type} (op : BinOp) (a b : Nat) (x y z : R) : (bif fok op a b then (bif !feq (fval op a b) (fval op a b) then x else y) else z) = bif fok op a b then y else z := by
  cases h : fok op a b
  · rfl
  · rw [feq_self (fval_notnan h)]; rfl
theorem sq_form {R : Type} (a : Nat) (x y z : R) : (bif fsqok a then (bif !feq (fsqrt a) (fsqrt a) then x else y) else z) = bif fsqok a then y else z := by
  cases h : fsqok a
  · rfl
  · rw [feq_self (fsqrt_notnan h)]; rfl

theorem signed_pos {m k : Nat} (h : m ≠ 0) : 0 < Ieee.signed false m k ∧ Ieee.signed true m k < 0 := by
  have : 0 < m <<< k := by rw [Nat.shiftLeft_eq]; exact Nat.mul_pos (Nat.pos_of_ne_zero h) (Nat.two_pow_pos _)
  simp only [Ieee.signed, Bool.false_eq_true, if_false, if_true]
  omega
theorem signed_zero (s : Bool) (k : Nat) : Ieee.signed s 0 k = 0 := by cases s <;> simp [Ieee.signed]
theorem read0 : Ieee.double.read 0 = .number false 0 (-1074) := by decide

/-- The square root is there but of what is less than nought. -/
theorem fsqok_eq {a : Nat} (h : fnan a = false) : fsqok a = !flt a 0 := by
  unfold fnan at h
  unfold fsqok flt Ieee.Format.sqrt Ieee.Format.order
  rw [read0]
  cases hd : Ieee.double.read a with
  | nan s t => rw [hd] at h; cases h
  | infinity s => cases s <;> simp [Ieee.Datum.root, Ieee.Datum.order]
  | number s m i =>
    simp only [Ieee.Datum.root, Ieee.Datum.order]
    by_cases hm : m = 0
    · subst hm
      rw [if_pos rfl]
      simp [signed_zero]
    · rw [if_neg hm]
      rw [signed_zero]
      cases s
      · have := (signed_pos (k := (i - min i (-1074)).toNat) hm).1
        have hc : compare (Ieee.signed false m (i - min i (-1074)).toNat) 0 = .gt := by rw [Int.compare_eq_gt]; exact this
        simp [hc]
      · have := (signed_pos (k := (i - min i (-1074)).toNat) hm).2
        have hc : compare (Ieee.signed true m (i - min i (-1074)).toNat) 0 = .lt := by rw [Int.compare_eq_lt]; exact this
        simp [hc]
/-- Two noughts are equal. -/
theorem flt_zeros {a b : Nat} (ha : a % 9223372036854775808 = 0) (hb : b % 9223372036854775808 = 0) : flt a b = false ∧ fgt a b = false := by
  unfold flt fgt Ieee.Format.order
  rcases read_cases a with ⟨_, ea⟩ | ⟨h, _⟩ | ⟨h, _⟩ | ⟨h, _⟩ <;> try omega
  rcases read_cases b with ⟨_, eb⟩ | ⟨h, _⟩ | ⟨h, _⟩ | ⟨h, _⟩ <;> try omega
  rw [ea, eb, ha, hb]
  simp only [Ieee.Datum.order, signed_zero]
  decide

/-! ### What the functions answer -/
/-- The double of a word with its sign; stuck where the word is not told (the kernel would not end in it). -/
def fromV (a : Int) : Int := match a with
  | .ofNat n => (fnear (s32 (.ofNat n)) : Int)
  | .negSucc n => (fnear (s32 (.negSucc n)) : Int)
theorem fromV_eq (a : Int) : fromV a = (fnear (s32 a) : Int) := by cases a <;> rfl
theorem fromV_in (a : Int) : in64 (fromV a) = true := by
  rw [fromV_eq, in64_iff]
  have := fnear_lt (s32 a)
  omega
def qI (a : Int) : Int := bits .or .u64 a 2251799813685248
def quV (a : Int) : Int := bif nanI a then qI a else a
def plainI : Int := 18444492273895866368
def arV (op : BinOp) (a b : Int) : Int := bif nanI a then qI a else bif nanI b then qI b else bif fok op a.toNat b.toNat then (fval op a.toNat b.toNat : Int) else plainI
def sqV (b : Int) : Int := bif nanI b then qI b else bif fsqok b.toNat then (fsqrt b.toNat : Int) else plainI
def minV (a b : Int) : Int := bif flt a.toNat b.toNat then a else b
def maxV (a b : Int) : Int := bif fgt a.toNat b.toNat then a else b
def doV (op a b : Int) : Int :=
  bif op == 51 then b else bif op == 55 then minV a b else bif op == 57 then maxV a b else bif op == 58 then sqV b else
  bif op == 52 then arV .add a b else bif op == 54 then arV .sub a b else bif op == 53 then arV .mul a b else bif op == 56 then arV .quo a b else a
def cP (a b : Int) : Bool := nanI a || nanI b
def cC (a b : Int) : Bool := cP a b || flt a.toNat b.toNat
def cZ (a b : Int) : Bool := cP a b || feq a.toNat b.toNat
end Go.Ev
