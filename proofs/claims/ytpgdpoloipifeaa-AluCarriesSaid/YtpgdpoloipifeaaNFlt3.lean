/- Doubles as whole numbers of 2^-1074: order, exact rounding, cutting. -/
import Derived.Test.YtpgdpoloipifeaaNFlt2
namespace Go.Ev
open Go
set_option linter.unusedVariables false
set_option linter.unusedSimpArgs false

theorem signed_mul (s : Bool) (m k d : Nat) : Ieee.signed s m (k + d) = Ieee.signed s m k * 2 ^ d := by
  have h : m <<< (k + d) = m <<< k * 2 ^ d := by simp only [Nat.shiftLeft_eq, Nat.pow_add, Nat.mul_assoc]
  cases s
  · simp only [Ieee.signed, h, Bool.false_eq_true, if_false]; push_cast; rfl
  · simp only [Ieee.signed, h, if_true]; push_cast; rw [Int.neg_mul]
theorem compare_mul (a b : Int) (d : Nat) : compare (a * 2 ^ d) (b * 2 ^ d) = compare a b := by
  have hp : (0 : Int) < 2 ^ d := Int.pow_pos (by omega)
  rcases Int.lt_trichotomy a b with h | h | h
  · rw [(Int.compare_eq_lt).2 h, (Int.compare_eq_lt).2 (Int.mul_lt_mul_of_pos_right h hp)]
  · subst h; simp
  · rw [(Int.compare_eq_gt).2 h, (Int.compare_eq_gt).2 (Int.mul_lt_mul_of_pos_right h hp)]

/-- How many units one is. -/
def kU : Nat := 1074
theorem kU_eq : kU = 1074 := rfl
def unitV : Nat := 2 ^ kU
theorem unitV_pos : 0 < unitV := Nat.two_pow_pos _
/-- A number in units of 2^-1074: how great it is, and with its sign. -/
def magV (m : Nat) (i : Int) : Nat := m * 2 ^ (i + 1074).toNat
def sgV (s : Bool) (n : Nat) : Int := if s then -(n : Int) else n
theorem signed_sg (s : Bool) (m k : Nat) : Ieee.signed s m k = sgV s (m * 2 ^ k) := by
  cases s <;> simp [Ieee.signed, sgV, Nat.shiftLeft_eq]

theorem order_V {x y : Nat} {s t : Bool} {m n : Nat} {i j : Int} (hx : Ieee.double.read x = .number s m i) (hy : Ieee.double.read y = .number t n j) (hi : -1074 ≤ i) (hj : -1074 ≤ j) :
    Ieee.double.order x y = some (compare (sgV s (magV m i)) (sgV t (magV n j))) := by
  unfold Ieee.Format.order
  rw [hx, hy]
  simp only [Ieee.Datum.order]
  have e1 : sgV s (magV m i) = Ieee.signed s m (i - min i j).toNat * 2 ^ (min i j + 1074).toNat := by
    rw [← signed_mul, signed_sg]; unfold magV; congr 3; omega
  have e2 : sgV t (magV n j) = Ieee.signed t n (j - min i j).toNat * 2 ^ (min i j + 1074).toNat := by
    rw [← signed_mul, signed_sg]; unfold magV; congr 3; omega
  rw [e1, e2, compare_mul]

/-- What a finite double is. -/
structure FinD (x : Nat) (s : Bool) (A : Nat) : Prop where
  ex : ∃ m i, Ieee.double.read x = .number s m i ∧ -1074 ≤ i ∧ i ≤ 971 ∧ m < 9007199254740992 ∧ A = magV m i ∧ (i = -1074 ∨ 4503599627370496 ≤ m)
theorem finD_of {x : Nat} (h : x % 9223372036854775808 < 9218868437227405312) : ∃ A, FinD x (x / 9223372036854775808 % 2 == 1) A := by
  obtain ⟨s, m, i, hr, h1, h2, h3, h4, hs⟩ := read_fin h
  subst hs
  exact ⟨_, _, _, hr, h1, h2, h3, rfl, h4⟩
theorem FinD.order {x y : Nat} {s t : Bool} {A B : Nat} (hx : FinD x s A) (hy : FinD y t B) : Ieee.double.order x y = some (compare (sgV s A) (sgV t B)) := by
  obtain ⟨m, i, h1, h2, _, _, rfl, _⟩ := hx
  obtain ⟨n, j, h3, h4, _, _, rfl, _⟩ := hy
  exact order_V h1 h3 h2 h4
theorem FinD.flt {x y : Nat} {s t : Bool} {A B : Nat} (hx : FinD x s A) (hy : FinD y t B) : Go.Ev.flt x y = decide (sgV s A < sgV t B) := by
  unfold Go.Ev.flt
  rw [hx.order hy]
  rcases Int.lt_trichotomy (sgV s A) (sgV t B) with h | h | h
  · rw [(Int.compare_eq_lt).2 h]; simp [h]
  · rw [(Int.compare_eq_eq).2 h]; simp [h]
  · rw [(Int.compare_eq_gt).2 h]; simp; omega
theorem FinD.fgt {x y : Nat} {s t : Bool} {A B : Nat} (hx : FinD x s A) (hy : FinD y t B) : Go.Ev.fgt x y = decide (sgV t B < sgV s A) := by
  unfold Go.Ev.fgt
  rw [hx.order hy]
  rcases Int.lt_trichotomy (sgV s A) (sgV t B) with h | h | h
  · rw [(Int.compare_eq_lt).2 h]; simp; omega
  · rw [(Int.compare_eq_eq).2 h]; simp [h]
  · rw [(Int.compare_eq_gt).2 h]; simp [h]
theorem FinD.feq {x y : Nat} {s t : Bool} {A B : Nat} (hx : FinD x s A) (hy : FinD y t B) : Go.Ev.feq x y = decide (sgV s A = sgV t B) := by
  unfold Go.Ev.feq
  rw [hx.order hy]
  rcases Int.lt_trichotomy (sgV s A) (sgV t B) with h | h | h
  · rw [(Int.compare_eq_lt).2 h]; simp; omega
  · rw [(Int.compare_eq_eq).2 h]; simp [h]
  · rw [(Int.compare_eq_gt).2 h]; simp; omega
theorem FinD.nan {x : Nat} {s : Bool} {A : Nat} (hx : FinD x s A) : fnan x = false := by
  obtain ⟨m, i, h1, _⟩ := hx
  unfold fnan; rw [h1]; rfl

/-- A shift to the right by so much or more. -/
theorem div_min (n d : Nat) : n / 2 ^ (min d (n.log2 + 2)) = n / 2 ^ d := by
  rcases Nat.le_total d (n.log2 + 2) with h | h
  · rw [Nat.min_eq_left h]
  · rw [Nat.min_eq_right h]
    have h1 : n < 2 ^ (n.log2 + 1) := Nat.lt_log2_self
    have h2 : 2 ^ (n.log2 + 1) ≤ 2 ^ (n.log2 + 2) := Nat.pow_le_pow_right (by omega) (by omega)
    have h3 : 2 ^ (n.log2 + 2) ≤ 2 ^ d := Nat.pow_le_pow_right (by omega) h
    rw [Nat.div_eq_of_lt (by omega), Nat.div_eq_of_lt (by omega)]

theorem cut_zero (s : Bool) (n d : Nat) : Ieee.Toward.zero.cut s n d = n / 2 ^ d := by
  simp only [Ieee.Toward.cut, Nat.shiftLeft_eq, Nat.one_mul, Bool.toNat_false, Nat.add_zero]
  exact div_min n d

/-- Cut towards nought: the whole number within. -/
theorem integral_V (s : Bool) (m : Nat) {i : Int} (hi : -1074 ≤ i) : (Ieee.Datum.number s m i).integral .zero = .number s (magV m i / unitV) 0 := by
  have hkU := kU_eq
  unfold unitV
  simp only [Ieee.Datum.integral, cut_zero, Nat.shiftLeft_eq, magV]
  congr 1
  rcases Int.le_total 0 i with h | h
  · have e1 : (-i).toNat = 0 := by omega
    have e2 : (i + 1074).toNat = i.toNat + kU := by omega
    rw [e1, e2, Nat.pow_add, ← Nat.mul_assoc, Nat.mul_div_cancel _ (Nat.two_pow_pos _)]; simp
  · have e1 : i.toNat = 0 := by omega
    have e2 : kU = (i + 1074).toNat + (-i).toNat := by omega
    have e3 : (2 : Nat) ^ kU = 2 ^ (i + 1074).toNat * 2 ^ (-i).toNat := by rw [← Nat.pow_add, ← e2]
    rw [e1, e3, Nat.mul_comm m (2 ^ (i + 1074).toNat), Nat.mul_div_mul_left _ _ (Nat.two_pow_pos _)]; simp

/-! ### Exact numbers -/
theorem cut_even_exact {s : Bool} {n d : Nat} (h : 2 ^ d ∣ n) : Ieee.Toward.even.cut s n d = n / 2 ^ d := by
  by_cases hn : n = 0
  · subst hn
    simp [Ieee.Toward.cut]
  have hd : d ≤ n.log2 := by
    obtain ⟨q, hq⟩ := h
    have hq0 : q ≠ 0 := fun e => by subst e; simp at hq; exact hn hq
    exact (Nat.le_log2 hn).2 (by rw [hq]; exact Nat.le_mul_of_pos_right _ (Nat.pos_of_ne_zero hq0))
  have hm : min d (n.log2 + 2) = d := by omega
  simp only [Ieee.Toward.cut, Nat.shiftLeft_eq, Nat.one_mul, hm]
  have hr : n % 2 ^ d = 0 := Nat.mod_eq_zero_of_dvd h
  have hp : 0 < 2 ^ d := Nat.two_pow_pos _
  rw [hr]
  simp

/-- Few digits: what is written is the number. -/
theorem nearest_exact {s : Bool} {M k : Nat} {p : Int} (hM : M < 9007199254740992) (hp : -1074 ≤ p) (hk : p + k ≤ 971) : FinD (Ieee.double.nearest s (M * 2 ^ k) p) s (magV (M * 2 ^ k) p) := by
  by_cases h0 : M = 0
  · subst h0
    have : Ieee.double.nearest s (0 * 2 ^ k) p = Ieee.double.word s 0 := by simp [Ieee.Format.nearest]
    rw [this]
    refine ⟨0, -1074, ?_, by omega, by omega, by omega, by simp [magV], .inl rfl⟩
    cases s <;> decide
  have hm0 : M * 2 ^ k ≠ 0 := Nat.mul_ne_zero h0 (Nat.pos_iff_ne_zero.1 (Nat.two_pow_pos _))
  have hlog : (M * 2 ^ k).log2 = M.log2 + k := by
    apply (Nat.log2_eq_iff hm0).2
    have h1 := (Nat.log2_eq_iff h0).1 rfl
    rw [Nat.pow_add, show M.log2 + k + 1 = (M.log2 + 1) + k by omega, Nat.pow_add]
    exact ⟨Nat.mul_le_mul_right _ h1.1, Nat.mul_lt_mul_of_pos_right h1.2 (Nat.two_pow_pos _)⟩
  have hMl : M.log2 ≤ 52 := by
    have := (Nat.log2_lt h0).2 (show M < 2 ^ 53 from hM)
    omega
  unfold Ieee.Format.nearest
  rw [if_neg hm0, lp_eq, fb_eq, hlog, bin_eq, inf_eq]
  obtain ⟨last, hlast⟩ : ∃ last : Int, last = max (p + ((M.log2 + k : Nat) : Int) - 52) (-1074) := ⟨_, rfl⟩
  simp only
  have hl0 : max (p + ((M.log2 + k : Nat) : Int) - ((52 : Nat) : Int)) (-1074) = last := by rw [hlast]; rfl
  rw [hl0]
  have hlb : -1074 ≤ last := by omega
  have hlt : last ≤ 971 := by omega
  have hlk : last - p ≤ k := by omega
  obtain ⟨kept, hkept⟩ : ∃ kept, kept = Ieee.Toward.even.cut s ((M * 2 ^ k) <<< (p - last).toNat) (last - p).toNat := ⟨_, rfl⟩
  rw [← hkept]
  have hdvd : 2 ^ (last - p).toNat ∣ (M * 2 ^ k) <<< (p - last).toNat := by
    rw [Nat.shiftLeft_eq]
    exact Nat.dvd_trans (Nat.pow_dvd_pow 2 (show (last - p).toNat ≤ k by omega)) (Nat.dvd_trans (Nat.dvd_mul_left _ M) (Nat.dvd_mul_right _ _))
  rw [cut_even_exact hdvd] at hkept
  -- kept * 2 ^ last is the number
  have hval : magV kept last = magV (M * 2 ^ k) p := by
    unfold magV
    have hc : kept * 2 ^ (last - p).toNat = (M * 2 ^ k) * 2 ^ (p - last).toNat := by
      rw [hkept, Nat.div_mul_cancel hdvd, Nat.shiftLeft_eq]
    rcases Int.le_total p last with h | h
    · have e1 : (p - last).toNat = 0 := by omega
      have e2 : (last + 1074).toNat = (last - p).toNat + (p + 1074).toNat := by omega
      rw [e2, Nat.pow_add, ← Nat.mul_assoc, hc, e1]; simp
    · have e1 : (last - p).toNat = 0 := by omega
      have e2 : (p + 1074).toNat = (p - last).toNat + (last + 1074).toNat := by omega
      rw [e1] at hc
      simp only [Nat.pow_zero, Nat.mul_one] at hc
      rw [hc, e2, Nat.pow_add, Nat.mul_assoc (M * 2 ^ k)]
  have hkb : kept < 9007199254740992 ∧ (last = -1074 ∨ 4503599627370496 ≤ kept) := by
    have hM1 := (Nat.log2_eq_iff h0).1 rfl
    -- kept = M * 2 ^ k * 2 ^ (p - last) where the exponent may be negative
    have hc : kept * 2 ^ (last - p).toNat = M * 2 ^ (k + (p - last).toNat) := by
      rw [hkept, Nat.div_mul_cancel hdvd, Nat.shiftLeft_eq, Nat.pow_add, Nat.mul_assoc]
    constructor
    · have h1 : kept * 2 ^ (last - p).toNat < 2 ^ 53 * 2 ^ (last - p).toNat := by
        rw [hc]
        have h2 : M * 2 ^ (k + (p - last).toNat) < 2 ^ (M.log2 + 1) * 2 ^ (k + (p - last).toNat) := Nat.mul_lt_mul_of_pos_right hM1.2 (Nat.two_pow_pos _)
        have h3 : 2 ^ (M.log2 + 1) * 2 ^ (k + (p - last).toNat) ≤ 2 ^ 53 * 2 ^ (last - p).toNat := by
          rw [← Nat.pow_add, ← Nat.pow_add]
          exact Nat.pow_le_pow_right (by omega) (by omega)
        omega
      exact Nat.lt_of_mul_lt_mul_right h1
    · by_cases hq : last = -1074
      · exact .inl hq
      · right
        have h1 : 2 ^ 52 * 2 ^ (last - p).toNat ≤ kept * 2 ^ (last - p).toNat := by
          rw [hc]
          have h2 : 2 ^ M.log2 * 2 ^ (k + (p - last).toNat) ≤ M * 2 ^ (k + (p - last).toNat) := Nat.mul_le_mul_right _ hM1.1
          have h3 : 2 ^ 52 * 2 ^ (last - p).toNat ≤ 2 ^ M.log2 * 2 ^ (k + (p - last).toNat) := by
            rw [← Nat.pow_add, ← Nat.pow_add]
            exact Nat.pow_le_pow_right (by omega) (by omega)
          omega
        exact Nat.le_of_mul_le_mul_right h1 (Nat.two_pow_pos _)
  refine ⟨kept, last, ?_, hlb, hlt, hkb.1, hval.symm, hkb.2⟩
  have hr : (last - -1074).toNat * 4503599627370496 + kept ≤ 9218868437227405312 - 1 := by
    have : (last - -1074).toNat ≤ 2045 := by omega
    omega
  rw [Nat.min_eq_left (by omega)]
  obtain ⟨h1, h2, h3⟩ := word_rung (s := s) (r := (last - -1074).toNat * 4503599627370496 + kept) (by omega)
  obtain ⟨L, hL⟩ : ∃ L, L = (last - -1074).toNat := ⟨_, rfl⟩
  rw [← hL] at h1 h2 ⊢
  have hkl := hkb.1
  rcases read_cases (Ieee.double.word s (L * 4503599627370496 + kept)) with ⟨c1, c2⟩ | ⟨c1, c3, c2⟩ | ⟨c1, c2⟩ | ⟨c1, c2⟩ <;> rw [h1] at c1 <;> rw [c2] <;> (try rw [h1]) <;> (try rw [h2])
  · have : L = 0 := by omega
    subst this
    congr 1 <;> omega
  · rcases hkb.2 with h | h
    · have : L = 0 := by omega
      subst this
      congr 1 <;> omega
    · have e1 : (L * 4503599627370496 + kept) % 4503599627370496 = kept - 4503599627370496 := by omega
      have e2 : (L * 4503599627370496 + kept) / 4503599627370496 = L + 1 := by omega
      have e3 : 4503599627370496 + (kept - 4503599627370496) = kept := by omega
      have e4 : -1074 + ((L + 1 - 1 : Nat) : Int) = last := by omega
      rw [e1, e2, e3, e4]
  · exfalso; have : L ≤ 2045 := by omega
    omega
  · exfalso; have : L ≤ 2045 := by omega
    omega
end Go.Ev
