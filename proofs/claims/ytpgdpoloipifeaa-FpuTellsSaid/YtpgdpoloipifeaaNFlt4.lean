/- Doubles by their bits: plain lemmas. -/
import Derived.Test.YtpgdpoloipifeaaEv8
import Derived.Test.YtpgdpoloipifeaaNRegs2
namespace Go.Ev
open Go
set_option linter.unusedVariables false
set_option linter.unusedSimpArgs false

abbrev dbl : Ieee.Format := Ieee.double
theorem sw_eq : Ieee.double.signWeight = 9223372036854775808 := by decide
theorem bin_eq : Ieee.double.binade = 4503599627370496 := by decide
theorem inf_eq : Ieee.double.infRung = 9218868437227405312 := by decide
theorem lp_eq : Ieee.double.leastPlace = -1074 := by decide
theorem fb_eq : Ieee.double.fractionBits = 52 := rfl

/-- Is it none, by its bits? -/
def nanI (a : Int) : Bool := decide (a % 9223372036854775808 > 9218868437227405312)

theorem read_cases (x : Nat) : (x % 9223372036854775808 < 4503599627370496 ∧ Ieee.double.read x = .number (x / 9223372036854775808 % 2 == 1) (x % 9223372036854775808) (-1074)) ∨
    (4503599627370496 ≤ x % 9223372036854775808 ∧ x % 9223372036854775808 < 9218868437227405312 ∧ Ieee.double.read x = .number (x / 9223372036854775808 % 2 == 1) (4503599627370496 + x % 9223372036854775808 % 4503599627370496) (-1074 + ((x % 9223372036854775808 / 4503599627370496 - 1 : Nat) : Int))) ∨
    (x % 9223372036854775808 = 9218868437227405312 ∧ Ieee.double.read x = .infinity (x / 9223372036854775808 % 2 == 1)) ∨
    (9218868437227405312 < x % 9223372036854775808 ∧ Ieee.double.read x = .nan (x / 9223372036854775808 % 2 == 1) (x % 9223372036854775808 - 9218868437227405312)) := by
  unfold Ieee.Format.read
  simp only [sw_eq, bin_eq, inf_eq, lp_eq]
  by_cases h1 : x % 9223372036854775808 < 4503599627370496
  · exact .inl ⟨h1, by rw [if_pos h1]⟩
  · rw [if_neg h1]
    by_cases h2 : x % 9223372036854775808 < 9218868437227405312
    · exact .inr (.inl ⟨by omega, h2, by rw [if_pos h2]⟩)
    · rw [if_neg h2]
      by_cases h3 : x % 9223372036854775808 = 9218868437227405312
      · exact .inr (.inr (.inl ⟨h3, by rw [if_pos h3]⟩))
      · exact .inr (.inr (.inr ⟨by omega, by rw [if_neg h3]⟩))

theorem fnan_iff (x : Nat) : fnan x = true ↔ 9218868437227405312 < x % 9223372036854775808 := by
  unfold fnan
  rcases read_cases x with ⟨h, e⟩ | ⟨h, h', e⟩ | ⟨h, e⟩ | ⟨h, e⟩ <;> rw [e] <;> simp [Ieee.Datum.isNaN] <;> omega
theorem fnan_nanI {a : Int} (h : 0 ≤ a) : fnan a.toNat = nanI a := by
  obtain ⟨n, rfl⟩ := Int.eq_ofNat_of_zero_le h
  rw [Bool.eq_iff_iff, fnan_iff]
  simp [nanI]
  omega

/-- A number is read. -/
theorem read_fin {x : Nat} (h : x % 9223372036854775808 < 9218868437227405312) : ∃ s m i, Ieee.double.read x = .number s m i ∧ -1074 ≤ i ∧ i ≤ 971 ∧ m < 9007199254740992 ∧ (i = -1074 ∨ 4503599627370496 ≤ m) ∧ s = (x / 9223372036854775808 % 2 == 1) := by
  rcases read_cases x with ⟨h1, e⟩ | ⟨h1, h', e⟩ | ⟨h1, e⟩ | ⟨h1, e⟩
  · exact ⟨_, _, _, e, by omega, by omega, by omega, .inl rfl, rfl⟩
  · have h2 : x % 9223372036854775808 / 4503599627370496 < 2047 := by omega
    have h3 : 1 ≤ x % 9223372036854775808 / 4503599627370496 := by omega
    refine ⟨_, _, _, e, by omega, by omega, ?_, .inr (by omega), rfl⟩
    have := Nat.mod_lt (x % 9223372036854775808) (show 0 < 4503599627370496 by omega)
    omega
  · omega
  · omega

theorem order_none {x y : Nat} (h : fnan x = true ∨ fnan y = true) : Ieee.double.order x y = none := order_nan h
theorem order_some {x y : Nat} (hx : fnan x = false) (hy : fnan y = false) : ∃ c, Ieee.double.order x y = some c := by
  unfold fnan at hx hy
  unfold Ieee.Format.order
  cases h1 : Ieee.double.read x <;> rw [h1] at hx <;> cases h2 : Ieee.double.read y <;> rw [h2] at hy <;> simp_all [Ieee.Datum.isNaN, Ieee.Datum.order]
theorem order_self {x : Nat} (hx : fnan x = false) : Ieee.double.order x x = some .eq := by
  unfold fnan at hx
  unfold Ieee.Format.order
  cases h1 : Ieee.double.read x <;> rw [h1] at hx <;> simp_all [Ieee.Datum.isNaN, Ieee.Datum.order]
theorem feq_self {x : Nat} (hx : fnan x = false) : feq x x = true := by unfold feq; rw [order_self hx]; rfl

/-- How two stand to each other: one of four. -/
theorem cmp_cases (x y : Nat) : ((fnan x = true ∨ fnan y = true) ∧ flt x y = false ∧ feq x y = false ∧ fgt x y = false) ∨
    (fnan x = false ∧ fnan y = false ∧ ((flt x y = true ∧ feq x y = false ∧ fgt x y = false) ∨ (flt x y = false ∧ feq x y = true ∧ fgt x y = false) ∨ (flt x y = false ∧ feq x y = false ∧ fgt x y = true))) := by
  unfold flt feq fgt
  cases hx : fnan x
  · cases hy : fnan y
    · obtain ⟨c, hc⟩ := order_some hx hy
      rw [hc]
      cases c <;> simp
    · rw [order_none (.inr hy)]; simp
  · rw [order_none (.inl hx)]; simp

/-- What is written is no NaN, unless it was one. -/
theorem word_rung {s : Bool} {r : Nat} (h : r < 9223372036854775808) : Ieee.double.word s r % 9223372036854775808 = r ∧ (Ieee.double.word s r / 9223372036854775808 % 2 == 1) = s ∧ Ieee.double.word s r < 18446744073709551616 := by
  unfold Ieee.Format.word
  rw [sw_eq]
  cases s
  · simp only [Bool.false_eq_true, if_false]
    exact ⟨by omega, by simp; omega, by omega⟩
  · simp only [if_true]
    exact ⟨by omega, by simp; omega, by omega⟩
theorem nearest_word (s : Bool) (m : Nat) (p : Int) : ∃ r, r ≤ 9218868437227405312 ∧ Ieee.double.nearest s m p = Ieee.double.word s r := by
  unfold Ieee.Format.nearest
  split
  · exact ⟨0, by omega, rfl⟩
  · exact ⟨_, by rw [← inf_eq]; exact Nat.min_le_right _ _, rfl⟩
theorem write_ok {d : Ieee.Datum} (h : d.isNaN = false) : fnan (Ieee.double.write d) = false := by
  have key : ∀ s r, r ≤ 9218868437227405312 → fnan (Ieee.double.word s r) = false := fun s r hr => by
    cases hn : fnan (Ieee.double.word s r)
    · rfl
    · rw [fnan_iff, (word_rung (by omega)).1] at hn; omega
  cases d with
  | number s m p => obtain ⟨r, hr, e⟩ := nearest_word s m p; simp only [Ieee.Format.write, e]; exact key s r hr
  | infinity s => simp only [Ieee.Format.write]; exact key s _ (by rw [inf_eq]; omega)
  | nan s t => cases h
theorem write_lt (d : Ieee.Datum) : Ieee.double.write d < 18446744073709551616 := Ieee.double.write_lt d

theorem sum_notnan {a b d : Ieee.Datum} (h : a.sum b = some d) : d.isNaN = false := by
  cases a <;> cases b <;> simp only [Ieee.Datum.sum] at h <;> first
    | (cases h; done)
    | (simp at h; subst h; rfl)
    | (split at h <;> simp at h; subst h; rfl)
theorem prod_notnan {a b d : Ieee.Datum} (h : a.product b = some d) : d.isNaN = false := by
  cases a <;> cases b <;> simp only [Ieee.Datum.product] at h <;> first
    | (cases h; done)
    | (simp at h; subst h; rfl)
    | (split at h <;> simp at h; subst h; rfl)
theorem quot_notnan {n : Nat} {a b d : Ieee.Datum} (h : a.quotient n b = some d) : d.isNaN = false := by
  cases a <;> cases b <;> simp only [Ieee.Datum.quotient] at h <;> first
    | (cases h; done)
    | (simp at h; subst h; rfl)
    | (split at h
       · split at h <;> simp at h; subst h; rfl
       · simp at h; subst h; rfl)
theorem root_notnan {n : Nat} {a d : Ieee.Datum} (h : a.root n = some d) : d.isNaN = false := by
  cases a with
  | nan s t => cases h
  | infinity s => cases s <;> simp [Ieee.Datum.root] at h; subst h; rfl
  | number s m i =>
    simp only [Ieee.Datum.root] at h
    split at h
    · simp at h; subst h; rfl
    · split at h
      · cases h
      · simp at h; subst h; rfl

theorem map_some {α β : Type} {f : α → β} {o : Option α} {b : β} (h : o.map f = some b) : ∃ a, o = some a ∧ f a = b := by
  cases o with
  | none => cases h
  | some a => exact ⟨a, rfl, by simpa using h⟩

theorem fval_notnan {op : BinOp} {a b : Nat} (h : fok op a b = true) : fnan (fval op a b) = false := by
  unfold fok at h
  unfold fval
  obtain ⟨r, hr⟩ := Option.isSome_iff_exists.1 h
  rw [hr]
  simp only [Option.getD_some]
  unfold floatBits at hr
  cases op <;> simp only at hr <;> first
    | (cases hr; done)
    | (obtain ⟨d, hd, rfl⟩ := map_some hr
       exact write_ok (by first | exact sum_notnan hd | exact prod_notnan hd | exact quot_notnan hd))
theorem fsqrt_notnan {a : Nat} (h : fsqok a = true) : fnan (fsqrt a) = false := by
  unfold fsqok at h
  unfold fsqrt
  obtain ⟨r, hr⟩ := Option.isSome_iff_exists.1 h
  rw [hr]
  simp only [Option.getD_some]
  obtain ⟨d, hd, rfl⟩ := map_some hr
  exact write_ok (root_notnan hd)
theorem fval_lt (op : BinOp) (a b : Nat) : fval op a b < 18446744073709551616 := by
  unfold fval
  cases h : floatBits op .f64 a b with
  | none => simp
  | some r =>
    simp only [Option.getD_some]
    unfold floatBits at h
    cases op <;> simp only at h <;> first
      | (cases h; done)
      | (obtain ⟨d, hd, rfl⟩ := map_some h; exact write_lt d)
theorem fsqrt_lt (a : Nat) : fsqrt a < 18446744073709551616 := by
  unfold fsqrt
  cases h : Ieee.double.sqrt a with
  | none => simp
  | some r => simp only [Option.getD_some]; obtain ⟨d, hd, rfl⟩ := map_some h; exact write_lt d
theorem fnear_eq (n : Int) : fnear n = Ieee.double.nearest (decide (n < 0)) n.natAbs 0 := rfl
theorem fnear_lt (n : Int) : fnear n < 18446744073709551616 := by rw [fnear_eq]; exact write_lt (.number _ _ _)

theorem ar_form {R : Type} (op : BinOp) (a b : Nat) (x y z : R) : (bif fok op a b then (bif !feq (fval op a b) (fval op a b) then x else y) else z) = bif fok op a b then y else z := by
  cases h : fok op a b
  · rfl
  · rw [feq_self (fval_notnan h)]; rfl
theorem sq_form {R : Type} (a : Nat) (x y z : R) : (bif fsqok a then (bif !feq (fsqrt a) (fsqrt a) then x else y) else z) = bif fsqok a then y else z := by
  cases h : fsqok a
  · rfl
  · rw [feq_self (fsqrt_notnan h)]; rfl

theorem signed_pos {m k : Nat} (h : m ≠ 0) : 0 < Ieee.signed false m k ∧ Ieee.signed true m k < 0 := by
  have : 0 < m <<< k := by rw [Nat.shiftLeft_eq]; exact Nat.mul_pos (Nat.pos_of_ne_zero h) (Nat.two_pow_pos _)
  simp only [Ieee.signed, Bool.false_eq_true, if_false, if_true]
  omega
theorem signed_zero (s : Bool) (k : Nat) : Ieee.signed s 0 k = 0 := by cases s <;> simp [Ieee.signed]
theorem read0 : Ieee.double.read 0 = .number false 0 (-1074) := by decide

/-- The square root is there but of what is less than nought. -/
theorem fsqok_eq {a : Nat} (h : fnan a = false) : fsqok a = !flt a 0 := by
  unfold fnan at h
  unfold fsqok flt Ieee.Format.sqrt Ieee.Format.order
  rw [read0]
  cases hd : Ieee.double.read a with
  | nan s t => rw [hd] at h; cases h
  | infinity s => cases s <;> simp [Ieee.Datum.root, Ieee.Datum.order]
  | number s m i =>
    simp only [Ieee.Datum.root, Ieee.Datum.order]
    by_cases hm : m = 0
    · subst hm
      rw [if_pos rfl]
      simp [signed_zero]
    · rw [if_neg hm]
      rw [signed_zero]
      cases s
      · have := (signed_pos (k := (i - min i (-1074)).toNat) hm).1
        have hc : compare (Ieee.signed false m (i - min i (-1074)).toNat) 0 = .gt := by rw [Int.compare_eq_gt]; exact this
        simp [hc]
      · have := (signed_pos (k := (i - min i (-1074)).toNat) hm).2
        have hc : compare (Ieee.signed true m (i - min i (-1074)).toNat) 0 = .lt := by rw [Int.compare_eq_lt]; exact this
        simp [hc]
/-- Two noughts are equal. -/
theorem flt_zeros {a b : Nat} (ha : a % 9223372036854775808 = 0) (hb : b % 9223372036854775808 = 0) : flt a b = false ∧ fgt a b = false := by
  unfold flt fgt Ieee.Format.order
  rcases read_cases a with ⟨_, ea⟩ | ⟨h, _⟩ | ⟨h, _⟩ | ⟨h, _⟩ <;> try omega
  rcases read_cases b with ⟨_, eb⟩ | ⟨h, _⟩ | ⟨h, _⟩ | ⟨h, _⟩ <;> try omega
  rw [ea, eb, ha, hb]
  simp only [Ieee.Datum.order, signed_zero]
  decide

/-! ### What the functions answer -/
/-- The double of a word with its sign; stuck where the word is not told (the kernel would not end in it). -/
def fromV (a : Int) : Int := match a with
  | .ofNat n => (fnear (s32 (.ofNat n)) : Int)
  | .negSucc n => (fnear (s32 (.negSucc n)) : Int)
theorem fromV_eq (a : Int) : fromV a = (fnear (s32 a) : Int) := by cases a <;> rfl
theorem fromV_in (a : Int) : in64 (fromV a) = true := by
  rw [fromV_eq, in64_iff]
  have := fnear_lt (s32 a)
  omega
def qI (a : Int) : Int := bits .or .u64 a 2251799813685248
def quV (a : Int) : Int := bif nanI a then qI a else a
def plainI : Int := 18444492273895866368
def arV (op : BinOp) (a b : Int) : Int := bif nanI a then qI a else bif nanI b then qI b else bif fok op a.toNat b.toNat then (fval op a.toNat b.toNat : Int) else plainI
def sqV (b : Int) : Int := bif nanI b then qI b else bif fsqok b.toNat then (fsqrt b.toNat : Int) else plainI
def minV (a b : Int) : Int := bif flt a.toNat b.toNat then a else b
def maxV (a b : Int) : Int := bif fgt a.toNat b.toNat then a else b
def doV (op a b : Int) : Int :=
  bif op == 51 then b else bif op == 55 then minV a b else bif op == 57 then maxV a b else bif op == 58 then sqV b else
  bif op == 52 then arV .add a b else bif op == 54 then arV .sub a b else bif op == 53 then arV .mul a b else bif op == 56 then arV .quo a b else a
def cP (a b : Int) : Bool := nanI a || nanI b
def cC (a b : Int) : Bool := cP a b || flt a.toNat b.toNat
def cZ (a b : Int) : Bool := cP a b || feq a.toNat b.toNat
end Go.Ev
namespace Go.Ev
open Go
set_option linter.unusedVariables false
set_option linter.unusedSimpArgs false
theorem not_sign {x : Int} (h0 : 0 ≤ x) (h1 : x < 18446744073709551616) : bits .andNot .u64 x 9223372036854775808 = x % 9223372036854775808 := by
  rw [u64_andNot _ _ h0 h1 (by omega) (by omega)]
  have : x.toNat &&& (18446744073709551615 - (9223372036854775808 : Int).toNat) = x.toNat % 2 ^ 63 := Nat.and_two_pow_sub_one_eq_mod x.toNat 63
  rw [this]; omega
theorem and_2047 {x : Int} (h0 : 0 ≤ x) (h1 : x < 18446744073709551616) : bits .and .u64 x 2047 = x % 2048 := by
  rw [u64_and _ _ h0 h1 (by omega) (by omega)]
  have : x.toNat &&& (2047 : Int).toNat = x.toNat % 2 ^ 11 := Nat.and_two_pow_sub_one_eq_mod x.toNat 11
  rw [this]; omega
theorem and_frac {x : Int} (h0 : 0 ≤ x) (h1 : x < 18446744073709551616) : bits .and .u64 x 4503599627370495 = x % 4503599627370496 := by
  rw [u64_and _ _ h0 h1 (by omega) (by omega)]
  have : x.toNat &&& (4503599627370495 : Int).toNat = x.toNat % 2 ^ 52 := Nat.and_two_pow_sub_one_eq_mod x.toNat 52
  rw [this]; omega
theorem and_sign {x : Int} (h0 : 0 ≤ x) (h1 : x < 18446744073709551616) : bits .and .u64 x 9223372036854775808 = x - x % 9223372036854775808 := by
  rw [u64_and _ _ h0 h1 (by omega) (by omega)]
  have := nat_and_hi64 63 (by decide) x.toNat (by omega)
  rw [show (2 ^ (64 - 63) - 1) <<< 63 = (9223372036854775808 : Int).toNat from rfl] at this
  rw [this]; omega
/-- A number by its sign, its exponent, its fraction. -/
theorem nan_parts {x : Int} (h0 : 0 ≤ x) (h1 : x < 18446744073709551616) : (decide (bits .andNot .u64 x 9223372036854775808 > 9218868437227405312)) = nanI x := by rw [not_sign h0 h1]; rfl
theorem nan_parts2 {x : Int} (h0 : 0 ≤ x) (h1 : x < 18446744073709551616) {R : Type} (a b : R) :
    (bif bits .and .u64 (Int.fdiv x 4503599627370496) 2047 == 2047 then (bif bits .and .u64 x 4503599627370495 != 0 then a else b) else b) = bif nanI x then a else b := by
  rw [Int.fdiv_eq_ediv_of_nonneg _ (by omega), and_2047 (by omega) (by omega), and_frac h0 h1]
  have : nanI x = ((x / 4503599627370496 % 2048 == 2047) && (x % 4503599627370496 != 0)) := by
    rw [Bool.eq_iff_iff]
    simp [nanI]
    omega
  rw [this]
  cases (x / 4503599627370496 % 2048 == 2047) <;> cases (x % 4503599627370496 != 0) <;> rfl
theorem or_lt64 {x y : Int} (h0 : 0 ≤ x) (h1 : x < 18446744073709551616) (h2 : 0 ≤ y) (h3 : y < 18446744073709551616) : 0 ≤ bits .or .u64 x y ∧ bits .or .u64 x y < 18446744073709551616 := by
  rw [u64_or _ _ h0 h1 h2 h3]
  have : x.toNat ||| y.toNat < 2 ^ 64 := Nat.or_lt_two_pow (by omega) (by omega)
  omega
theorem qI_eq {x : Int} (h0 : 0 ≤ x) (h1 : x < 18446744073709551616) : qI x = bif decide (x / 2251799813685248 % 2 = 1) then x else x + 2251799813685248 := by
  unfold qI
  rw [u64_or _ _ h0 h1 (by omega) (by omega)]
  obtain ⟨n, rfl⟩ := Int.eq_ofNat_of_zero_le h0
  simp only [Int.toNat_natCast]
  have hd : (2251799813685248 : Int).toNat = 2 ^ 51 := rfl
  rw [hd]
  have key : n ||| 2 ^ 51 = n / 2 ^ 52 * 2 ^ 52 + 2 ^ 51 + n % 2 ^ 51 := by
    apply Nat.eq_of_testBit_eq
    intro i
    have e1 : n / 2 ^ 52 * 2 ^ 52 + 2 ^ 51 + n % 2 ^ 51 = 2 ^ 51 * (2 * (n / 2 ^ 52) + 1) + n % 2 ^ 51 := by omega
    rw [e1, Nat.testBit_two_pow_mul_add _ (Nat.mod_lt _ (by decide)), Nat.testBit_or, Nat.testBit_two_pow, Nat.testBit_mod_two_pow]
    by_cases hi : i < 51
    · simp [hi, show ¬ 51 = i by omega]
    · simp only [hi, if_false, decide_false, Bool.false_and]
      by_cases h2 : i = 51
      · subst h2; simp
      · have e2 : i - 51 = (i - 52) + 1 := by omega
        rw [e2, Nat.testBit_add_one, show (2 * (n / 2 ^ 52) + 1) / 2 = n / 2 ^ 52 by omega, Nat.testBit_div_two_pow, show i - 52 + 52 = i by omega]
        simp [show ¬ 51 = i by omega]
  rw [key]
  by_cases hb : (n : Int) / 2251799813685248 % 2 = 1
  · simp only [hb, decide_true, cond_true]; omega
  · simp only [hb, decide_false, cond_false]; omega
theorem qI_in {x : Int} (h0 : 0 ≤ x) (h1 : x < 18446744073709551616) : 0 ≤ qI x ∧ qI x < 18446744073709551616 := or_lt64 h0 h1 (by omega) (by omega)
theorem qI_nan {x : Int} (h0 : 0 ≤ x) (h1 : x < 18446744073709551616) (h : nanI x = true) : nanI (qI x) = true := by
  rw [qI_eq h0 h1]
  simp only [nanI, decide_eq_true_eq] at h ⊢
  by_cases hb : x / 2251799813685248 % 2 = 1
  · simp only [hb, decide_true, cond_true]; omega
  · simp only [hb, decide_false, cond_false]; omega
theorem nan_cmp {a b : Int} (ha : 0 ≤ a) (hb : 0 ≤ b) (h : nanI a = true ∨ nanI b = true) : flt a.toNat b.toNat = false ∧ feq a.toNat b.toNat = false ∧ fgt a.toNat b.toNat = false := by
  rw [← fnan_nanI ha, ← fnan_nanI hb] at h
  rcases cmp_cases a.toNat b.toNat with ⟨_, h1, h2, h3⟩ | ⟨h1, h2, _⟩
  · exact ⟨h1, h2, h3⟩
  · rcases h with h | h <;> simp_all
theorem cmp_num {a b : Int} (ha : 0 ≤ a) (hb : 0 ≤ b) (h : nanI a = false) (h' : nanI b = false) : (flt a.toNat b.toNat = true ∧ feq a.toNat b.toNat = false ∧ fgt a.toNat b.toNat = false) ∨
    (flt a.toNat b.toNat = false ∧ feq a.toNat b.toNat = true ∧ fgt a.toNat b.toNat = false) ∨ (flt a.toNat b.toNat = false ∧ feq a.toNat b.toNat = false ∧ fgt a.toNat b.toNat = true) := by
  rw [← fnan_nanI ha] at h
  rw [← fnan_nanI hb] at h'
  rcases cmp_cases a.toNat b.toNat with ⟨h1, _⟩ | ⟨_, _, h3⟩
  · rcases h1 with h1 | h1 <;> simp_all
  · exact h3
theorem zero_cmp {a b : Int} (ha : 0 ≤ a) (ha' : a < 18446744073709551616) (hb : 0 ≤ b) (hb' : b < 18446744073709551616) (h : (IntKind.wrap .u64 (a * 2) == 0) = true) (h' : (IntKind.wrap .u64 (b * 2) == 0) = true) : flt a.toNat b.toNat = false ∧ fgt a.toNat b.toNat = false := by
  rw [wr_u64] at h h'
  simp at h h'
  exact flt_zeros (by omega) (by omega)
theorem sq_lt {b : Int} (h : 0 ≤ b) (hn : nanI b = false) {R : Type} (x y : R) : (bif flt b.toNat 0 then x else y) = bif fsqok b.toNat then y else x := by
  rw [fsqok_eq (by rw [fnan_nanI h]; exact hn)]
  cases flt b.toNat 0 <;> rfl
end Go.Ev
namespace Go.Ev
open Go
set_option linter.unusedVariables false
set_option linter.unusedSimpArgs false

theorem signed_mul (s : Bool) (m k d : Nat) : Ieee.signed s m (k + d) = Ieee.signed s m k * 2 ^ d := by
  have h : m <<< (k + d) = m <<< k * 2 ^ d := by simp only [Nat.shiftLeft_eq, Nat.pow_add, Nat.mul_assoc]
  cases s
  · simp only [Ieee.signed, h, Bool.false_eq_true, if_false]; push_cast; rfl
  · simp only [Ieee.signed, h, if_true]; push_cast; rw [Int.neg_mul]
theorem compare_mul (a b : Int) (d : Nat) : compare (a * 2 ^ d) (b * 2 ^ d) = compare a b := by
  have hp : (0 : Int) < 2 ^ d := Int.pow_pos (by omega)
  rcases Int.lt_trichotomy a b with h | h | h
  · rw [(Int.compare_eq_lt).2 h, (Int.compare_eq_lt).2 (Int.mul_lt_mul_of_pos_right h hp)]
  · subst h; simp
  · rw [(Int.compare_eq_gt).2 h, (Int.compare_eq_gt).2 (Int.mul_lt_mul_of_pos_right h hp)]

/-- How many units one is. -/
def kU : Nat := 1074
theorem kU_eq : kU = 1074 := rfl
def unitV : Nat := 2 ^ kU
theorem unitV_pos : 0 < unitV := Nat.two_pow_pos _
/-- A number in units of 2^-1074: how great it is, and with its sign. -/
def magV (m : Nat) (i : Int) : Nat := m * 2 ^ (i + 1074).toNat
def sgV (s : Bool) (n : Nat) : Int := if s then -(n : Int) else n
theorem signed_sg (s : Bool) (m k : Nat) : Ieee.signed s m k = sgV s (m * 2 ^ k) := by
  cases s <;> simp [Ieee.signed, sgV, Nat.shiftLeft_eq]

theorem order_V {x y : Nat} {s t : Bool} {m n : Nat} {i j : Int} (hx : Ieee.double.read x = .number s m i) (hy : Ieee.double.read y = .number t n j) (hi : -1074 ≤ i) (hj : -1074 ≤ j) :
    Ieee.double.order x y = some (compare (sgV s (magV m i)) (sgV t (magV n j))) := by
  unfold Ieee.Format.order
  rw [hx, hy]
  simp only [Ieee.Datum.order]
  have e1 : sgV s (magV m i) = Ieee.signed s m (i - min i j).toNat * 2 ^ (min i j + 1074).toNat := by
    rw [← signed_mul, signed_sg]; unfold magV; congr 3; omega
  have e2 : sgV t (magV n j) = Ieee.signed t n (j - min i j).toNat * 2 ^ (min i j + 1074).toNat := by
    rw [← signed_mul, signed_sg]; unfold magV; congr 3; omega
  rw [e1, e2, compare_mul]

/-- What a finite double is. -/
structure FinD (x : Nat) (s : Bool) (A : Nat) : Prop where
  ex : ∃ m i, Ieee.double.read x = .number s m i ∧ -1074 ≤ i ∧ i ≤ 971 ∧ m < 9007199254740992 ∧ A = magV m i ∧ (i = -1074 ∨ 4503599627370496 ≤ m)
theorem finD_of {x : Nat} (h : x % 9223372036854775808 < 9218868437227405312) : ∃ A, FinD x (x / 9223372036854775808 % 2 == 1) A := by
  obtain ⟨s, m, i, hr, h1, h2, h3, h4, hs⟩ := read_fin h
  subst hs
  exact ⟨_, _, _, hr, h1, h2, h3, rfl, h4⟩
theorem FinD.order {x y : Nat} {s t : Bool} {A B : Nat} (hx : FinD x s A) (hy : FinD y t B) : Ieee.double.order x y = some (compare (sgV s A) (sgV t B)) := by
  obtain ⟨m, i, h1, h2, _, _, rfl, _⟩ := hx
  obtain ⟨n, j, h3, h4, _, _, rfl, _⟩ := hy
  exact order_V h1 h3 h2 h4
theorem FinD.flt {x y : Nat} {s t : Bool} {A B : Nat} (hx : FinD x s A) (hy : FinD y t B) : Go.Ev.flt x y = decide (sgV s A < sgV t B) := by
  unfold Go.Ev.flt
  rw [hx.order hy]
  rcases Int.lt_trichotomy (sgV s A) (sgV t B) with h | h | h
  · rw [(Int.compare_eq_lt).2 h]; simp [h]
  · rw [(Int.compare_eq_eq).2 h]; simp [h]
  · rw [(Int.compare_eq_gt).2 h]; simp; omega
theorem FinD.fgt {x y : Nat} {s t : Bool} {A B : Nat} (hx : FinD x s A) (hy : FinD y t B) : Go.Ev.fgt x y = decide (sgV t B < sgV s A) := by
  unfold Go.Ev.fgt
  rw [hx.order hy]
  rcases Int.lt_trichotomy (sgV s A) (sgV t B) with h | h | h
  · rw [(Int.compare_eq_lt).2 h]; simp; omega
  · rw [(Int.compare_eq_eq).2 h]; simp [h]
  · rw [(Int.compare_eq_gt).2 h]; simp [h]
theorem FinD.feq {x y : Nat} {s t : Bool} {A B : Nat} (hx : FinD x s A) (hy : FinD y t B) : Go.Ev.feq x y = decide (sgV s A = sgV t B) := by
  unfold Go.Ev.feq
  rw [hx.order hy]
  rcases Int.lt_trichotomy (sgV s A) (sgV t B) with h | h | h
  · rw [(Int.compare_eq_lt).2 h]; simp; omega
  · rw [(Int.compare_eq_eq).2 h]; simp [h]
  · rw [(Int.compare_eq_gt).2 h]; simp; omega
theorem FinD.nan {x : Nat} {s : Bool} {A : Nat} (hx : FinD x s A) : fnan x = false := by
  obtain ⟨m, i, h1, _⟩ := hx
  unfold fnan; rw [h1]; rfl

/-- A shift to the right by so much or more. -/
theorem div_min (n d : Nat) : n / 2 ^ (min d (n.log2 + 2)) = n / 2 ^ d := by
  rcases Nat.le_total d (n.log2 + 2) with h | h
  · rw [Nat.min_eq_left h]
  · rw [Nat.min_eq_right h]
    have h1 : n < 2 ^ (n.log2 + 1) := Nat.lt_log2_self
    have h2 : 2 ^ (n.log2 + 1) ≤ 2 ^ (n.log2 + 2) := Nat.pow_le_pow_right (by omega) (by omega)
    have h3 : 2 ^ (n.log2 + 2) ≤ 2 ^ d := Nat.pow_le_pow_right (by omega) h
    rw [Nat.div_eq_of_lt (by omega), Nat.div_eq_of_lt (by omega)]

theorem cut_zero (s : Bool) (n d : Nat) : Ieee.Toward.zero.cut s n d = n / 2 ^ d := by
  simp only [Ieee.Toward.cut, Nat.shiftLeft_eq, Nat.one_mul, Bool.toNat_false, Nat.add_zero]
  exact div_min n d

/-- Cut towards nought: the whole number within. -/
theorem integral_V (s : Bool) (m : Nat) {i : Int} (hi : -1074 ≤ i) : (Ieee.Datum.number s m i).integral .zero = .number s (magV m i / unitV) 0 := by
  have hkU := kU_eq
  unfold unitV
  simp only [Ieee.Datum.integral, cut_zero, Nat.shiftLeft_eq, magV]
  congr 1
  rcases Int.le_total 0 i with h | h
  · have e1 : (-i).toNat = 0 := by omega
    have e2 : (i + 1074).toNat = i.toNat + kU := by omega
    rw [e1, e2, Nat.pow_add, ← Nat.mul_assoc, Nat.mul_div_cancel _ (Nat.two_pow_pos _)]; simp
  · have e1 : i.toNat = 0 := by omega
    have e2 : kU = (i + 1074).toNat + (-i).toNat := by omega
    have e3 : (2 : Nat) ^ kU = 2 ^ (i + 1074).toNat * 2 ^ (-i).toNat := by rw [← Nat.pow_add, ← e2]
    rw [e1, e3, Nat.mul_comm m (2 ^ (i + 1074).toNat), Nat.mul_div_mul_left _ _ (Nat.two_pow_pos _)]; simp

/-! ### Exact numbers -/
theorem cut_even_exact {s : Bool} {n d : Nat} (h : 2 ^ d ∣ n) : Ieee.Toward.even.cut s n d = n / 2 ^ d := by
  by_cases hn : n = 0
  · subst hn
    simp [Ieee.Toward.cut]
  have hd : d ≤ n.log2 := by
    obtain ⟨q, hq⟩ := h
    have hq0 : q ≠ 0 := fun e => by subst e; simp at hq; exact hn hq
    exact (Nat.le_log2 hn).2 (by rw [hq]; exact Nat.le_mul_of_pos_right _ (Nat.pos_of_ne_zero hq0))
  have hm : min d (n.log2 + 2) = d := by omega
  simp only [Ieee.Toward.cut, Nat.shiftLeft_eq, Nat.one_mul, hm]
  have hr : n % 2 ^ d = 0 := Nat.mod_eq_zero_of_dvd h
  have hp : 0 < 2 ^ d := Nat.two_pow_pos _
  rw [hr]
  simp

/-- Few digits: what is written is the number. -/
theorem nearest_exact {s : Bool} {M k : Nat} {p : Int} (hM : M < 9007199254740992) (hp : -1074 ≤ p) (hk : p + k ≤ 971) : FinD (Ieee.double.nearest s (M * 2 ^ k) p) s (magV (M * 2 ^ k) p) := by
  by_cases h0 : M = 0
  · subst h0
    have : Ieee.double.nearest s (0 * 2 ^ k) p = Ieee.double.word s 0 := by simp [Ieee.Format.nearest]
    rw [this]
    refine ⟨0, -1074, ?_, by omega, by omega, by omega, by simp [magV], .inl rfl⟩
    cases s <;> decide
  have hm0 : M * 2 ^ k ≠ 0 := Nat.mul_ne_zero h0 (Nat.pos_iff_ne_zero.1 (Nat.two_pow_pos _))
  have hlog : (M * 2 ^ k).log2 = M.log2 + k := by
    apply (Nat.log2_eq_iff hm0).2
    have h1 := (Nat.log2_eq_iff h0).1 rfl
    rw [Nat.pow_add, show M.log2 + k + 1 = (M.log2 + 1) + k by omega, Nat.pow_add]
    exact ⟨Nat.mul_le_mul_right _ h1.1, Nat.mul_lt_mul_of_pos_right h1.2 (Nat.two_pow_pos _)⟩
  have hMl : M.log2 ≤ 52 := by
    have := (Nat.log2_lt h0).2 (show M < 2 ^ 53 from hM)
    omega
  unfold Ieee.Format.nearest
  rw [if_neg hm0, lp_eq, fb_eq, hlog, bin_eq, inf_eq]
  obtain ⟨last, hlast⟩ : ∃ last : Int, last = max (p + ((M.log2 + k : Nat) : Int) - 52) (-1074) := ⟨_, rfl⟩
  simp only
  have hl0 : max (p + ((M.log2 + k : Nat) : Int) - ((52 : Nat) : Int)) (-1074) = last := by rw [hlast]; rfl
  rw [hl0]
  have hlb : -1074 ≤ last := by omega
  have hlt : last ≤ 971 := by omega
  have hlk : last - p ≤ k := by omega
  obtain ⟨kept, hkept⟩ : ∃ kept, kept = Ieee.Toward.even.cut s ((M * 2 ^ k) <<< (p - last).toNat) (last - p).toNat := ⟨_, rfl⟩
  rw [← hkept]
  have hdvd : 2 ^ (last - p).toNat ∣ (M * 2 ^ k) <<< (p - last).toNat := by
    rw [Nat.shiftLeft_eq]
    exact Nat.dvd_trans (Nat.pow_dvd_pow 2 (show (last - p).toNat ≤ k by omega)) (Nat.dvd_trans (Nat.dvd_mul_left _ M) (Nat.dvd_mul_right _ _))
  rw [cut_even_exact hdvd] at hkept
  -- kept * 2 ^ last is the number
  have hval : magV kept last = magV (M * 2 ^ k) p := by
    unfold magV
    have hc : kept * 2 ^ (last - p).toNat = (M * 2 ^ k) * 2 ^ (p - last).toNat := by
      rw [hkept, Nat.div_mul_cancel hdvd, Nat.shiftLeft_eq]
    rcases Int.le_total p last with h | h
    · have e1 : (p - last).toNat = 0 := by omega
      have e2 : (last + 1074).toNat = (last - p).toNat + (p + 1074).toNat := by omega
      rw [e2, Nat.pow_add, ← Nat.mul_assoc, hc, e1]; simp
    · have e1 : (last - p).toNat = 0 := by omega
      have e2 : (p + 1074).toNat = (p - last).toNat + (last + 1074).toNat := by omega
      rw [e1] at hc
      simp only [Nat.pow_zero, Nat.mul_one] at hc
      rw [hc, e2, Nat.pow_add, Nat.mul_assoc (M * 2 ^ k)]
  have hkb : kept < 9007199254740992 ∧ (last = -1074 ∨ 4503599627370496 ≤ kept) := by
    have hM1 := (Nat.log2_eq_iff h0).1 rfl
    -- kept = M * 2 ^ k * 2 ^ (p - last) where the exponent may be negative
    have hc : kept * 2 ^ (last - p).toNat = M * 2 ^ (k + (p - last).toNat) := by
      rw [hkept, Nat.div_mul_cancel hdvd, Nat.shiftLeft_eq, Nat.pow_add, Nat.mul_assoc]
    constructor
    · have h1 : kept * 2 ^ (last - p).toNat < 2 ^ 53 * 2 ^ (last - p).toNat := by
        rw [hc]
        have h2 : M * 2 ^ (k + (p - last).toNat) < 2 ^ (M.log2 + 1) * 2 ^ (k + (p - last).toNat) := Nat.mul_lt_mul_of_pos_right hM1.2 (Nat.two_pow_pos _)
        have h3 : 2 ^ (M.log2 + 1) * 2 ^ (k + (p - last).toNat) ≤ 2 ^ 53 * 2 ^ (last - p).toNat := by
          rw [← Nat.pow_add, ← Nat.pow_add]
          exact Nat.pow_le_pow_right (by omega) (by omega)
        omega
      exact Nat.lt_of_mul_lt_mul_right h1
    · by_cases hq : last = -1074
      · exact .inl hq
      · right
        have h1 : 2 ^ 52 * 2 ^ (last - p).toNat ≤ kept * 2 ^ (last - p).toNat := by
          rw [hc]
          have h2 : 2 ^ M.log2 * 2 ^ (k + (p - last).toNat) ≤ M * 2 ^ (k + (p - last).toNat) := Nat.mul_le_mul_right _ hM1.1
          have h3 : 2 ^ 52 * 2 ^ (last - p).toNat ≤ 2 ^ M.log2 * 2 ^ (k + (p - last).toNat) := by
            rw [← Nat.pow_add, ← Nat.pow_add]
            exact Nat.pow_le_pow_right (by omega) (by omega)
          omega
        exact Nat.le_of_mul_le_mul_right h1 (Nat.two_pow_pos _)
  refine ⟨kept, last, ?_, hlb, hlt, hkb.1, hval.symm, hkb.2⟩
  have hr : (last - -1074).toNat * 4503599627370496 + kept ≤ 9218868437227405312 - 1 := by
    have : (last - -1074).toNat ≤ 2045 := by omega
    omega
  rw [Nat.min_eq_left (by omega)]
  obtain ⟨h1, h2, h3⟩ := word_rung (s := s) (r := (last - -1074).toNat * 4503599627370496 + kept) (by omega)
  obtain ⟨L, hL⟩ : ∃ L, L = (last - -1074).toNat := ⟨_, rfl⟩
  rw [← hL] at h1 h2 ⊢
  have hkl := hkb.1
  rcases read_cases (Ieee.double.word s (L * 4503599627370496 + kept)) with ⟨c1, c2⟩ | ⟨c1, c3, c2⟩ | ⟨c1, c2⟩ | ⟨c1, c2⟩ <;> rw [h1] at c1 <;> rw [c2] <;> (try rw [h1]) <;> (try rw [h2])
  · have : L = 0 := by omega
    subst this
    congr 1 <;> omega
  · rcases hkb.2 with h | h
    · have : L = 0 := by omega
      subst this
      congr 1 <;> omega
    · have e1 : (L * 4503599627370496 + kept) % 4503599627370496 = kept - 4503599627370496 := by omega
      have e2 : (L * 4503599627370496 + kept) / 4503599627370496 = L + 1 := by omega
      have e3 : 4503599627370496 + (kept - 4503599627370496) = kept := by omega
      have e4 : -1074 + ((L + 1 - 1 : Nat) : Int) = last := by omega
      rw [e1, e2, e3, e4]
  · exfalso; have : L ≤ 2045 := by omega
    omega
  · exfalso; have : L ≤ 2045 := by omega
    omega
end Go.Ev
namespace Go.Ev
open Go
set_option linter.unusedVariables false
set_option linter.unusedSimpArgs false

theorem FinD.toInt {x : Nat} {s : Bool} {A : Nat} (h : FinD x s A) : (Ieee.double.read x).toInt .zero = some (sgV s (A / unitV)) := by
  obtain ⟨m, i, h1, h2, _, _, rfl, _⟩ := h
  unfold Ieee.Datum.toInt
  rw [h1, integral_V s m h2]
  simp [signed_sg]
theorem FinD.trunc {x : Nat} {s : Bool} {A : Nat} (h : FinD x s A) : FinD (ftrunc x) s (A / unitV * unitV) := by
  obtain ⟨m, i, h1, h2, h3, h4, rfl, _⟩ := h
  have e : ftrunc x = Ieee.double.nearest s (magV m i / unitV) 0 := by
    have : ftrunc x = Ieee.double.write ((Ieee.double.read x).integral .zero) := rfl
    rw [this, h1, integral_V s m h2]; rfl
  rw [e]
  have hkU := kU_eq
  have hz : ∀ N, magV N 0 = N * unitV := fun N => by unfold magV unitV; rw [show ((0 : Int) + 1074).toNat = kU from rfl]
  rcases Int.le_total 0 i with hi | hi
  · have e1 : magV m i / unitV = m * 2 ^ i.toNat := by
      have : magV m i = m * 2 ^ i.toNat * unitV := by
        unfold magV unitV
        rw [show (i + 1074).toNat = i.toNat + kU by omega, Nat.pow_add, Nat.mul_assoc]
      rw [this, Nat.mul_div_cancel _ unitV_pos]
    rw [e1]
    have := nearest_exact (s := s) (M := m) (k := i.toNat) (p := 0) h4 (by omega) (by omega)
    rw [hz] at this; exact this
  · have e1 : magV m i / unitV ≤ m := by
      have : magV m i ≤ m * unitV := by
        unfold magV unitV
        exact Nat.mul_le_mul_left _ (Nat.pow_le_pow_right (by omega) (by omega))
      exact Nat.div_le_of_le_mul (by rw [Nat.mul_comm]; exact this)
    have := nearest_exact (s := s) (M := magV m i / unitV) (k := 0) (p := 0) (by omega) (by omega) (by omega)
    rw [hz] at this; simpa using this

theorem double_cases (x : Nat) : fnan x = true ∨ (∃ s, Ieee.double.read x = .infinity s) ∨ ∃ s A, FinD x s A := by
  rcases read_cases x with ⟨h, e⟩ | ⟨h, h', e⟩ | ⟨h, e⟩ | ⟨h, e⟩
  · exact .inr (.inr ⟨_, finD_of (by omega)⟩)
  · exact .inr (.inr ⟨_, finD_of (by omega)⟩)
  · exact .inr (.inl ⟨_, e⟩)
  · exact .inl ((fnan_iff x).2 h)

theorem const_fin {x : Nat} {s : Bool} {m : Nat} {i : Int} {N : Nat} (h : Ieee.double.read x = .number s m i) (h1 : (decide (-1074 ≤ i) && decide (i ≤ 971) && decide (m < 9007199254740992) && decide (4503599627370496 ≤ m)) = true) (h2 : Nat.beq (magV m i) (N * unitV) = true) : FinD x s (N * unitV) := by
  simp only [Bool.and_eq_true, decide_eq_true_eq] at h1
  exact ⟨m, i, h, h1.1.1.1, h1.1.1.2, h1.1.2, (Nat.eq_of_beq_eq_true h2).symm, .inr h1.2⟩
theorem fin_m31 : FinD 13970166044103278592 true (2147483648 * unitV) := const_fin (m := 4503599627370496) (i := -21) (by decide) (by decide) (by decide +kernel)
theorem fin_p31 : FinD 4746794007244308480 false (2147483647 * unitV) := const_fin (m := 9007199250546688) (i := -22) (by decide) (by decide) (by decide +kernel)
theorem fin_2p31 : FinD 4746794007248502784 false (2147483648 * unitV) := const_fin (m := 4503599627370496) (i := -21) (by decide) (by decide) (by decide +kernel)
theorem fin_m32 : FinD 13970166044105375744 true (2147483649 * unitV) := const_fin (m := 4503599629467648) (i := -21) (by decide) (by decide) (by decide +kernel)

/-- What a double is, cut to a word of 32 bits; what has none. -/
def toV (a : Int) : Int := match floatToIntVal .f64 a.toNat .i32 with
  | some n => IntKind.wrap .u32 n
  | none => 2147483648
theorem toV_in (a : Int) : in32 (toV a) = true := by
  unfold toV
  split
  · exact in32_wr _
  · decide

theorem sgV_lt {s t : Bool} {A B : Nat} : sgV s (A * unitV) < sgV t (B * unitV) ↔ sgV s A < sgV t B := by
  have hu := unitV_pos
  have e : ∀ s N, sgV s (N * unitV) = sgV s N * (unitV : Int) := fun s N => by cases s <;> simp [sgV, Int.neg_mul]
  rw [e, e]
  constructor
  · intro h; exact Int.lt_of_mul_lt_mul_right h (by omega)
  · intro h; exact Int.mul_lt_mul_of_pos_right h (by omega)
theorem sgV_eq {s t : Bool} {A B : Nat} : sgV s (A * unitV) = sgV t (B * unitV) ↔ sgV s A = sgV t B := by
  have h1 := sgV_lt (s := s) (t := t) (A := A) (B := B)
  have h2 := sgV_lt (s := t) (t := s) (A := B) (B := A)
  omega

theorem toIntVal_fin {x : Nat} {s : Bool} {A : Nat} (h : FinD x s A) (k : IntKind) : floatToIntVal .f64 x k = if k.min ≤ sgV s (A / unitV) ∧ sgV s (A / unitV) ≤ k.max then some (sgV s (A / unitV)) else none := by
  unfold floatToIntVal
  have : (FloatKind.f64.decode x).toInt .zero = some (sgV s (A / unitV)) := h.toInt
  rw [this]
theorem toIntVal_inf {x : Nat} {s : Bool} (h : Ieee.double.read x = .infinity s) (k : IntKind) : floatToIntVal .f64 x k = none := by
  unfold floatToIntVal
  have : (FloatKind.f64.decode x).toInt .zero = none := by
    show (Ieee.double.read x).toInt .zero = none
    rw [h]; rfl
  rw [this]
theorem toIntVal_nan {x : Nat} (h : fnan x = true) (k : IntKind) : floatToIntVal .f64 x k = none := by
  unfold floatToIntVal
  have : (FloatKind.f64.decode x).toInt .zero = none := by
    show (Ieee.double.read x).toInt .zero = none
    unfold fnan at h
    cases hr : Ieee.double.read x <;> rw [hr] at h <;> first
      | (cases h; done)
      | rfl
  rw [this]
theorem inf_order {x y : Nat} {s t : Bool} {B : Nat} (h : Ieee.double.read x = .infinity s) (hy : FinD y t B) : flt x y = s ∧ feq x y = false ∧ fgt x y = !s := by
  obtain ⟨n, j, h3, _⟩ := hy
  unfold flt feq fgt Ieee.Format.order
  rw [h, h3]
  cases s <;> simp [Ieee.Datum.order]
theorem inf_trunc {x : Nat} {s : Bool} (h : Ieee.double.read x = .infinity s) : Ieee.double.read (ftrunc x) = .infinity s := by
  have : ftrunc x = Ieee.double.write ((Ieee.double.read x).integral .zero) := rfl
  rw [this, h]
  cases s <;> decide

theorem toV_fin {a : Int} {s : Bool} {A : Nat} (h : FinD a.toNat s A) : toV a = if -2147483648 ≤ sgV s (A / unitV) ∧ sgV s (A / unitV) ≤ 2147483647 then IntKind.wrap .u32 (sgV s (A / unitV)) else 2147483648 := by
  unfold toV
  rw [toIntVal_fin h]
  have e1 : IntKind.i32.min = -2147483648 := by decide
  have e2 : IntKind.i32.max = 2147483647 := by decide
  rw [e1, e2]
  split
  · rename_i hc
    split at hc
    · rename_i hr; simp at hc; subst hc; rw [if_pos hr]
    · cases hc
  · rename_i hc
    split at hc
    · cases hc
    · rename_i hr; rw [if_neg hr]

/-- The program's cut. -/
theorem toV_prog {a : Int} (h0 : 0 ≤ a) {R : Type} (k : Int → R) (z : R) :
    (bif fnan a.toNat then some (k 2147483648) else bif fgt (ftrunc a.toNat) 13970166044103278592 || feq (ftrunc a.toNat) 13970166044103278592 then
      bif flt (ftrunc a.toNat) 4746794007244308480 || feq (ftrunc a.toNat) 4746794007244308480 then
        bif fiok (ftrunc a.toNat) .i32 then some (k (IntKind.wrap .u32 (fival (ftrunc a.toNat) .i32))) else none
      else some (k 2147483648) else some (k 2147483648)) = some (k (toV a)) := by
  rcases double_cases a.toNat with h | ⟨s, h⟩ | ⟨s, A, h⟩
  · have : toV a = 2147483648 := by unfold toV; rw [toIntVal_nan h]
    rw [h, this]; rfl
  · have h1 : toV a = 2147483648 := by unfold toV; rw [toIntVal_inf h]
    have h2 : fnan a.toNat = false := by unfold fnan; rw [h]; rfl
    have h3 := inf_trunc h
    obtain ⟨_, e2, e3⟩ := inf_order h3 fin_m31
    obtain ⟨e4, e5, _⟩ := inf_order h3 fin_p31
    rw [h1, h2, e2, e3, e4, e5]
    cases s <;> rfl
  · have ht := h.trunc
    have hn := h.nan
    have hv := toV_fin h
    have hi := toIntVal_fin ht .i32
    have e1 : IntKind.i32.min = -2147483648 := by decide
    have e2 : IntKind.i32.max = 2147483647 := by decide
    rw [Nat.mul_div_cancel _ unitV_pos, e1, e2] at hi
    rw [hn, ht.fgt fin_m31, ht.feq fin_m31, ht.flt fin_p31, ht.feq fin_p31]
    simp only [sgV_lt, sgV_eq]
    have n1 : sgV true 2147483648 = -2147483648 := by decide
    have n2 : sgV false 2147483647 = 2147483647 := by decide
    rw [n1, n2, hv]
    obtain ⟨T, hT⟩ : ∃ T, T = sgV s (A / unitV) := ⟨_, rfl⟩
    rw [← hT] at hi ⊢
    by_cases c1 : -2147483648 ≤ T
    · by_cases c2 : T ≤ 2147483647
      · rw [if_pos ⟨c1, c2⟩] at hi ⊢
        have d1 : (decide (-2147483648 < T) || decide (T = -2147483648)) = true := by simp; omega
        have d2 : (decide (T < 2147483647) || decide (T = 2147483647)) = true := by simp; omega
        have d3 : fiok (ftrunc a.toNat) .i32 = true := by unfold fiok; rw [hi]; rfl
        have d4 : fival (ftrunc a.toNat) .i32 = T := by unfold fival; rw [hi]; rfl
        rw [d1, d2, d3, d4]; rfl
      · rw [if_neg (by omega)]
        have d1 : (decide (-2147483648 < T) || decide (T = -2147483648)) = true := by simp; omega
        have d2 : (decide (T < 2147483647) || decide (T = 2147483647)) = false := by simp; omega
        rw [d1, d2]; rfl
    · rw [if_neg (by omega)]
      have d1 : (decide (-2147483648 < T) || decide (T = -2147483648)) = false := by simp; omega
      rw [d1]; rfl

theorem sg_ge {s : Bool} {A N : Nat} : (sgV false (N * unitV) < sgV s A ∨ sgV s A = sgV false (N * unitV)) ↔ (s = false ∧ N ≤ A / unitV) ∨ (s = true ∧ A = 0 ∧ N = 0) := by
  have hu := unitV_pos
  have hd : N ≤ A / unitV ↔ N * unitV ≤ A := Nat.le_div_iff_mul_le hu
  rw [hd]
  have hz : N * unitV = 0 ↔ N = 0 := by
    constructor
    · intro h; rcases Nat.mul_eq_zero.1 h with h | h <;> omega
    · intro h; rw [h, Nat.zero_mul]
  cases s <;> simp [sgV] <;> omega
theorem sg_le {s : Bool} {A N : Nat} (hN : 0 < N) : (sgV s A < sgV true (N * unitV) ∨ sgV s A = sgV true (N * unitV)) ↔ (s = true ∧ N ≤ A / unitV) := by
  have hu := unitV_pos
  have hd : N ≤ A / unitV ↔ N * unitV ≤ A := Nat.le_div_iff_mul_le hu
  rw [hd]
  have hz : 0 < N * unitV := Nat.mul_pos hN hu
  cases s <;> simp [sgV] <;> omega

/-- The document's cut. -/
theorem toV_ref {a : Int} (h0 : 0 ≤ a) {R : Type} (k : Int → R) :
    (bif nanI a then some (k 2147483648) else bif fgt a.toNat 4746794007248502784 || feq a.toNat 4746794007248502784 then some (k 2147483648) else
      bif flt a.toNat 13970166044105375744 || feq a.toNat 13970166044105375744 then some (k 2147483648) else
        bif fiok a.toNat .i64 then some (k (IntKind.wrap .u32 (IntKind.wrap .i32 (fival a.toNat .i64)))) else none) = some (k (toV a)) := by
  rw [← fnan_nanI h0]
  rcases double_cases a.toNat with h | ⟨s, h⟩ | ⟨s, A, h⟩
  · have : toV a = 2147483648 := by unfold toV; rw [toIntVal_nan h]
    rw [h, this]; rfl
  · have h1 : toV a = 2147483648 := by unfold toV; rw [toIntVal_inf h]
    have h2 : fnan a.toNat = false := by unfold fnan; rw [h]; rfl
    obtain ⟨_, e2, e3⟩ := inf_order h fin_2p31
    obtain ⟨e4, e5, _⟩ := inf_order h fin_m32
    rw [h1, h2, e2, e3, e4, e5]
    cases s <;> rfl
  · have hn := h.nan
    have hv := toV_fin h
    have hi := toIntVal_fin h .i64
    have e1 : IntKind.i64.min = -9223372036854775808 := by decide
    have e2 : IntKind.i64.max = 9223372036854775807 := by decide
    rw [e1, e2] at hi
    rw [hn, h.fgt fin_2p31, h.feq fin_2p31, h.flt fin_m32, h.feq fin_m32, hv]
    have q1 : (decide (sgV false (2147483648 * unitV) < sgV s A) || decide (sgV s A = sgV false (2147483648 * unitV))) = decide (s = false ∧ 2147483648 ≤ A / unitV) := by
      rw [Bool.eq_iff_iff]
      have := sg_ge (s := s) (A := A) (N := 2147483648)
      simp only [Bool.or_eq_true, decide_eq_true_eq]
      rw [this]
      constructor
      · rintro (h | ⟨_, _, h⟩)
        · exact h
        · omega
      · intro h; exact .inl h
    have q2 : (decide (sgV s A < sgV true (2147483649 * unitV)) || decide (sgV s A = sgV true (2147483649 * unitV))) = decide (s = true ∧ 2147483649 ≤ A / unitV) := by
      rw [Bool.eq_iff_iff]
      have := sg_le (s := s) (A := A) (N := 2147483649) (by omega)
      simp only [Bool.or_eq_true, decide_eq_true_eq]
      exact this
    rw [q1, q2]
    obtain ⟨T, hT⟩ : ∃ T, T = A / unitV := ⟨_, rfl⟩
    rw [← hT] at hi ⊢
    have big : ∀ (hh : sgV s T < 9223372036854775807 ∧ -9223372036854775808 < sgV s T), fiok a.toNat .i64 = true ∧ fival a.toNat .i64 = sgV s T := fun hh => by
      rw [if_pos (by omega)] at hi
      exact ⟨by unfold fiok; rw [hi]; rfl, by unfold fival; rw [hi]; rfl⟩
    have hs : sgV s T = (if s = true then -(T : Int) else T) := rfl
    have wr : ∀ x : Int, -2147483648 ≤ x → x ≤ 2147483647 → IntKind.wrap .i32 x = x := fun x h1 h2 => by rw [IntKind.wrap_i32]; omega
    by_cases c1 : s = false ∧ 2147483648 ≤ T
    · rw [decide_eq_true c1, if_neg (by rw [hs, if_neg (by simp [c1.1])]; omega)]; rfl
    · rw [decide_eq_false c1]
      by_cases c2 : s = true ∧ 2147483649 ≤ T
      · rw [decide_eq_true c2, if_neg (by rw [hs, if_pos c2.1]; omega)]; rfl
      · rw [decide_eq_false c2]
        have hb : -2147483648 ≤ sgV s T ∧ sgV s T ≤ 2147483647 := by
          rw [hs]
          cases s <;> simp_all <;> omega
        obtain ⟨b1, b2⟩ := big (by omega)
        rw [if_pos hb, b1, b2, wr _ hb.1 hb.2]; rfl
/-- A double of a number: edges, others. -/
def dblV (a : Int) : Int := bif Int.tmod a 4 == 0 then a else selL (Int.tmod (IntKind.wrap IntKind.u64 (Int.tdiv a 4)) 18) 0 [0, 9223372036854775808, 4607182418800017408, 13830554455654793216, 9218868437227405312, 18442240474082181120,
9221120237041090561, 9218868437227405313, 18444492273895866368, 1, 9223372036854775809, 9218868437227405311, 4746794007248502784, 13970166044105375744, 4746794007244308480, 4602678819172646912, 4613937818241073152, 4503599627370496]
theorem dbl_ix {a : Int} (h0 : 0 ≤ a) (h1 : a < 18446744073709551616) : 0 ≤ Int.tmod (IntKind.wrap IntKind.u64 (Int.tdiv a 4)) 18 ∧ Int.tmod (IntKind.wrap IntKind.u64 (Int.tdiv a 4)) 18 < 18 := by
  have e : IntKind.wrap IntKind.u64 (Int.tdiv a 4) = a / 4 := by rw [Int.tdiv_eq_ediv_of_nonneg h0, wr_u64]; omega
  rw [e, Int.tmod_eq_emod_of_nonneg (by omega)]
  omega
theorem selL_all {p : Int → Prop} (h0 : p 0) : ∀ {xs : List Int} {i j : Int}, (∀ x ∈ xs, p x) → p (selL i j xs)
  | [], _, _, _ => h0
  | [x], _, _, h => h x (by simp)
  | x :: y :: l, i, j, h => by
    simp only [selL]
    cases i == j
    · exact selL_all h0 (fun z hz => h z (List.mem_cons_of_mem _ hz))
    · exact h x (by simp)
theorem dblV_in {a : Int} (h : in64 a = true) : in64 (dblV a) = true := by
  unfold dblV
  cases Int.tmod a 4 == 0
  · exact selL_all (p := fun x => in64 x = true) (by decide) (by decide)
  · exact h
end Go.Ev
