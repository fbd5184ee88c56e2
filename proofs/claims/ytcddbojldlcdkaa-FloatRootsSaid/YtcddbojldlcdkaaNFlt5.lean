/- Doubles of whole numbers: sums, products, quotients, roots. -/
import Derived.Test.YtcddbojldlcdkaaNFlt4
namespace Go.Ev
open Go
set_option linter.unusedVariables false
set_option linter.unusedSimpArgs false

/-- A whole number's double. -/
theorem nearest_whole {s : Bool} {M N : Nat} {p : Int} (hp : -1074 ≤ p) (hp' : p ≤ 971) (hv : magV M p = N * unitV) (hN : N < 9007199254740992) : FinD (Ieee.double.nearest s M p) s (N * unitV) := by
  have hkU := kU_eq
  rw [← hv]
  rcases Int.le_total p 0 with h | h
  · have e : M = N * 2 ^ (-p).toNat := by
      have h1 : M * 2 ^ (p + 1074).toNat = N * 2 ^ (-p).toNat * 2 ^ (p + 1074).toNat := by
        have : magV M p = N * 2 ^ kU := hv
        unfold magV at this
        rw [this, Nat.mul_assoc, ← Nat.pow_add]
        congr 2; omega
      exact Nat.eq_of_mul_eq_mul_right (Nat.two_pow_pos _) h1
    rw [e]
    exact nearest_exact hN hp (by omega)
  · have e : M * 2 ^ p.toNat = N := by
      have h1 : M * 2 ^ p.toNat * 2 ^ kU = N * 2 ^ kU := by
        have : magV M p = N * 2 ^ kU := hv
        unfold magV at this
        rw [← this, Nat.mul_assoc, ← Nat.pow_add]
        congr 2; omega
      exact Nat.eq_of_mul_eq_mul_right (Nat.two_pow_pos _) h1
    have hM : M < 9007199254740992 := by
      have : M ≤ M * 2 ^ p.toNat := Nat.le_mul_of_pos_right _ (Nat.two_pow_pos _)
      omega
    have := nearest_exact (s := s) (M := M) (k := 0) (p := p) hM hp (by omega)
    simpa using this

theorem fnear_fin {n : Int} (h : n.natAbs < 9007199254740992) : FinD (fnear n) (decide (n < 0)) (n.natAbs * unitV) := by
  rw [fnear_eq]
  exact nearest_whole (by omega) (by omega) (by unfold magV unitV; rw [show ((0 : Int) + 1074).toNat = kU from rfl]) h
theorem sgV_abs (n : Int) : sgV (decide (n < 0)) n.natAbs = n := by
  unfold sgV
  by_cases h : n < 0
  · simp only [h, decide_true, if_true]; omega
  · simp only [h, decide_false, Bool.false_eq_true, if_false]; omega
theorem s32_wrap {n : Int} (h0 : -2147483648 ≤ n) (h1 : n < 2147483648) : s32 (IntKind.wrap .u32 n) = n := by
  unfold s32
  rw [IntKind.wrap_u32]
  split <;> omega

/-- The double of a word that is a number with its sign. -/
structure IntD (a : Int) (n : Int) : Prop where
  pos : 0 ≤ a
  lt : a < 18446744073709551616
  fin : ∃ s, FinD a.toNat s (n.natAbs * unitV) ∧ sgV s n.natAbs = n
theorem fromV_int {n : Int} (h0 : -2147483648 ≤ n) (h1 : n < 2147483648) : IntD (fromV (IntKind.wrap .u32 n)) n := by
  have hi := in64_iff.1 (fromV_in (IntKind.wrap .u32 n))
  refine ⟨hi.1, hi.2, decide (n < 0), ?_, sgV_abs n⟩
  rw [fromV_eq, s32_wrap h0 h1, Int.toNat_natCast]
  exact fnear_fin (by omega)
theorem IntD.nan {a n : Int} (h : IntD a n) : nanI a = false := by
  obtain ⟨s, h1, _⟩ := h.fin
  rw [← fnan_nanI h.pos]; exact h1.nan
theorem IntD.toV {a n : Int} (h : IntD a n) (h0 : -2147483648 ≤ n) (h1 : n < 2147483648) : toV a = IntKind.wrap .u32 n := by
  obtain ⟨s, h2, h3⟩ := h.fin
  rw [toV_fin h2, Nat.mul_div_cancel _ unitV_pos, h3, if_pos (by omega)]
theorem sgV_mulU (s : Bool) (N : Nat) : sgV s (N * unitV) = sgV s N * (unitV : Int) := by cases s <;> simp [sgV, Int.neg_mul]
theorem IntD.lt' {a b m n : Int} (h : IntD a m) (h' : IntD b n) : flt a.toNat b.toNat = decide (m < n) := by
  obtain ⟨s, h2, h3⟩ := h.fin
  obtain ⟨t, h4, h5⟩ := h'.fin
  rw [h2.flt h4]
  simp only [sgV_lt, h3, h5]
theorem IntD.eq' {a b m n : Int} (h : IntD a m) (h' : IntD b n) : feq a.toNat b.toNat = decide (m = n) := by
  obtain ⟨s, h2, h3⟩ := h.fin
  obtain ⟨t, h4, h5⟩ := h'.fin
  rw [h2.feq h4]
  simp only [sgV_eq, h3, h5]

/-! ### Sums -/
theorem signed_V (s : Bool) (m : Nat) {i b : Int} (hb : -1074 ≤ b) (hi : b ≤ i) : Ieee.signed s m (i - b).toNat * 2 ^ (b + 1074).toNat = sgV s (magV m i) := by
  rw [← signed_mul, signed_sg]
  unfold magV
  congr 3; omega

theorem sum_fin {s t : Bool} {m n : Nat} {i j : Int} (hi : -1074 ≤ i ∧ i ≤ 971) (hj : -1074 ≤ j ∧ j ≤ 971) {S : Int} (hS : sgV s (magV m i) + sgV t (magV n j) = S * (unitV : Int)) (hb : S.natAbs < 9007199254740992) :
    ∃ d u, Ieee.Datum.sum (.number s m i) (.number t n j) = some d ∧ FinD (Ieee.double.write d) u (S.natAbs * unitV) ∧ sgV u S.natAbs = S := by
  obtain ⟨b, hbd⟩ : ∃ b, b = min i j := ⟨_, rfl⟩
  obtain ⟨T, hT⟩ : ∃ T, T = Ieee.signed s m (i - b).toNat + Ieee.signed t n (j - b).toNat := ⟨_, rfl⟩
  have hTV : T * 2 ^ (b + 1074).toNat = S * (unitV : Int) := by
    rw [← hS, hT, Int.add_mul, signed_V s m (by omega) (by omega), signed_V t n (by omega) (by omega)]
  have hmag : magV T.natAbs b = S.natAbs * unitV := by
    have := congrArg Int.natAbs hTV
    rw [Int.natAbs_mul, Int.natAbs_mul, Int.natAbs_natCast] at this
    unfold magV
    rw [← this]
    congr 1
  have hpow : (0 : Int) < 2 ^ (b + 1074).toNat := Int.pow_pos (by omega)
  have hu := unitV_pos
  have hsgn : T < 0 ↔ S < 0 := by
    constructor
    · intro h
      have h1 : T * 2 ^ (b + 1074).toNat < 0 := Int.mul_neg_of_neg_of_pos h hpow
      rw [hTV] at h1
      rcases (show S < 0 ∨ 0 ≤ S by omega) with h2 | h2
      · exact h2
      · have := Int.mul_nonneg h2 (show 0 ≤ (unitV : Int) by omega); omega
    · intro h
      have h1 : S * (unitV : Int) < 0 := Int.mul_neg_of_neg_of_pos h (by omega)
      rw [← hTV] at h1
      rcases (show T < 0 ∨ 0 ≤ T by omega) with h2 | h2
      · exact h2
      · have := Int.mul_nonneg h2 (Int.le_of_lt hpow); omega
  have hz : T = 0 ↔ S = 0 := by
    constructor
    · intro h
      rw [h, Int.zero_mul] at hTV
      rcases Int.mul_eq_zero.1 hTV.symm with h | h
      · exact h
      · omega
    · intro h
      rw [h, Int.zero_mul] at hTV
      rcases Int.mul_eq_zero.1 hTV with h | h
      · exact h
      · omega
  refine ⟨_, if T = 0 then s && t else decide (T < 0), rfl, ?_, ?_⟩
  · simp only [Ieee.Format.write, ← hbd, ← hT]
    exact nearest_whole (by omega) (by omega) hmag hb
  · by_cases h0 : T = 0
    · have : S = 0 := hz.1 h0
      subst this
      cases (if T = 0 then s && t else decide (T < 0)) <;> simp [sgV]
    · rw [if_neg h0]
      have : decide (T < 0) = decide (S < 0) := by simp [hsgn]
      rw [this]; exact sgV_abs S
theorem fin_word {x : Nat} {s : Bool} {A : Nat} (h : FinD x s A) : ∃ m i, Ieee.double.read x = .number s m i ∧ -1074 ≤ i ∧ i ≤ 971 ∧ A = magV m i := by
  obtain ⟨m, i, h1, h2, h3, _, h4, _⟩ := h.ex; exact ⟨m, i, h1, h2, h3, h4⟩
theorem sg_opp (s : Bool) (A : Nat) : sgV (!s) A = - sgV s A := by cases s <;> simp [sgV]

theorem IntD.add {a b m n : Int} (h : IntD a m) (h' : IntD b n) (hb : (m + n).natAbs < 9007199254740992) : fok .add a.toNat b.toNat = true ∧ IntD (fval .add a.toNat b.toNat : Int) (m + n) := by
  obtain ⟨s, h2, h3⟩ := h.fin
  obtain ⟨t, h4, h5⟩ := h'.fin
  obtain ⟨M, i, r1, i1, i2, e1⟩ := fin_word h2
  obtain ⟨N, j, r2, j1, j2, e2⟩ := fin_word h4
  obtain ⟨d, u, d1, d2, d3⟩ := sum_fin (s := s) (t := t) (m := M) (n := N) ⟨i1, i2⟩ ⟨j1, j2⟩ (S := m + n) (by rw [← e1, ← e2, sgV_mulU, sgV_mulU, h3, h5, Int.add_mul]) hb
  have hv : floatBits .add .f64 a.toNat b.toNat = some (Ieee.double.write d) := by
    show ((Ieee.double.read a.toNat).sum (Ieee.double.read b.toNat)).map Ieee.double.write = _
    rw [r1, r2, d1]; rfl
  have hf : fval .add a.toNat b.toNat = Ieee.double.write d := by unfold fval; rw [hv]; rfl
  refine ⟨by unfold fok; rw [hv]; rfl, by omega, by have := fval_lt .add a.toNat b.toNat; omega, u, ?_, d3⟩
  rw [Int.toNat_natCast, hf]; exact d2
theorem IntD.sub {a b m n : Int} (h : IntD a m) (h' : IntD b n) (hb : (m - n).natAbs < 9007199254740992) : fok .sub a.toNat b.toNat = true ∧ IntD (fval .sub a.toNat b.toNat : Int) (m - n) := by
  obtain ⟨s, h2, h3⟩ := h.fin
  obtain ⟨t, h4, h5⟩ := h'.fin
  obtain ⟨M, i, r1, i1, i2, e1⟩ := fin_word h2
  obtain ⟨N, j, r2, j1, j2, e2⟩ := fin_word h4
  obtain ⟨d, u, d1, d2, d3⟩ := sum_fin (s := s) (t := !t) (m := M) (n := N) ⟨i1, i2⟩ ⟨j1, j2⟩ (S := m - n) (by rw [← e1, ← e2, sg_opp, sgV_mulU, sgV_mulU, h3, h5, Int.sub_mul]; omega) hb
  have hv : floatBits .sub .f64 a.toNat b.toNat = some (Ieee.double.write d) := by
    show ((Ieee.double.read a.toNat).sum (Ieee.double.read b.toNat).opposite).map Ieee.double.write = _
    rw [r1, r2]
    show (Ieee.Datum.sum (.number s M i) (.number (!t) N j)).map Ieee.double.write = _
    rw [d1]; rfl
  have hf : fval .sub a.toNat b.toNat = Ieee.double.write d := by unfold fval; rw [hv]; rfl
  refine ⟨by unfold fok; rw [hv]; rfl, by omega, by have := fval_lt .sub a.toNat b.toNat; omega, u, ?_, d3⟩
  rw [Int.toNat_natCast, hf]; exact d2

/-! ### Products -/
theorem whole_place {m N : Nat} {i : Int} (h0 : -1074 ≤ i) (hm : m < 9007199254740992) (hv : N * unitV = magV m i) (hN : N ≠ 0) : -52 ≤ i ∧ m ≠ 0 := by
  have hkU := kU_eq
  have hm0 : m ≠ 0 := fun e => by
    subst e
    unfold magV at hv
    rw [Nat.zero_mul] at hv
    rcases Nat.mul_eq_zero.1 hv with h | h
    · exact hN h
    · have := unitV_pos; omega
  refine ⟨?_, hm0⟩
  rcases (show i < -52 ∨ -52 ≤ i by omega) with h | h
  · exfalso
    unfold magV unitV at hv
    have h1 : m * 2 ^ (i + 1074).toNat < 2 ^ 53 * 2 ^ (i + 1074).toNat := Nat.mul_lt_mul_of_pos_right hm (Nat.two_pow_pos _)
    have h2 : 2 ^ 53 * 2 ^ (i + 1074).toNat ≤ 2 ^ kU := by
      rw [← Nat.pow_add]; exact Nat.pow_le_pow_right (by omega) (by omega)
    have h3 : 2 ^ kU ≤ N * 2 ^ kU := Nat.le_mul_of_pos_left _ (Nat.pos_of_ne_zero hN)
    rw [hv] at h3
    exact absurd (Nat.lt_of_lt_of_le (Nat.lt_of_le_of_lt h3 h1) h2) (Nat.lt_irrefl _)
  · exact h
theorem xor_sg (s t : Bool) (A B : Nat) : sgV (s ^^ t) (A * B) = sgV s A * sgV t B := by cases s <;> cases t <;> simp [sgV, Int.neg_mul, Int.mul_neg]

theorem IntD.mul {a b m n : Int} (h : IntD a m) (h' : IntD b n) (hb : (m * n).natAbs < 9007199254740992) : fok .mul a.toNat b.toNat = true ∧ IntD (fval .mul a.toNat b.toNat : Int) (m * n) := by
  obtain ⟨s, h2, h3⟩ := h.fin
  obtain ⟨t, h4, h5⟩ := h'.fin
  obtain ⟨M, i, r1, i1, i2, i3, e1, _⟩ := h2.ex
  obtain ⟨N, j, r2, j1, j2, j3, e2, _⟩ := h4.ex
  have hv : floatBits .mul .f64 a.toNat b.toNat = some (Ieee.double.nearest (s ^^ t) (M * N) (i + j)) := by
    show ((Ieee.double.read a.toNat).product (Ieee.double.read b.toNat)).map Ieee.double.write = _
    rw [r1, r2]; rfl
  have hf : fval .mul a.toNat b.toNat = Ieee.double.nearest (s ^^ t) (M * N) (i + j) := by unfold fval; rw [hv]; rfl
  refine ⟨by unfold fok; rw [hv]; rfl, by omega, by have := fval_lt .mul a.toNat b.toNat; omega, s ^^ t, ?_, by rw [Int.natAbs_mul, xor_sg, h3, h5]⟩
  rw [Int.toNat_natCast, hf]
  have z0 : ∀ p, Ieee.double.nearest (s ^^ t) 0 p = Ieee.double.nearest (s ^^ t) 0 0 := fun p => by simp [Ieee.Format.nearest]
  by_cases hm : m.natAbs = 0
  · have e : M = 0 := by
      rw [hm, Nat.zero_mul] at e1
      unfold magV at e1
      rcases Nat.mul_eq_zero.1 e1.symm with h | h
      · exact h
      · exact absurd h (Nat.pos_iff_ne_zero.1 (Nat.two_pow_pos _))
    rw [e, Nat.zero_mul, z0, Int.natAbs_mul, hm, Nat.zero_mul, Nat.zero_mul]
    have := nearest_whole (s := s ^^ t) (M := 0) (N := 0) (p := 0) (by omega) (by omega) (by unfold magV; rw [Nat.zero_mul, Nat.zero_mul]) (by omega)
    simpa using this
  by_cases hn : n.natAbs = 0
  · have e : N = 0 := by
      rw [hn, Nat.zero_mul] at e2
      unfold magV at e2
      rcases Nat.mul_eq_zero.1 e2.symm with h | h
      · exact h
      · exact absurd h (Nat.pos_iff_ne_zero.1 (Nat.two_pow_pos _))
    rw [e, Nat.mul_zero, z0, Int.natAbs_mul, hn, Nat.mul_zero, Nat.zero_mul]
    have := nearest_whole (s := s ^^ t) (M := 0) (N := 0) (p := 0) (by omega) (by omega) (by unfold magV; rw [Nat.zero_mul, Nat.zero_mul]) (by omega)
    simpa using this
  have hkU := kU_eq
  obtain ⟨c972, h972⟩ : ∃ c, c = 972 := ⟨_, rfl⟩
  obtain ⟨p1, _⟩ := whole_place i1 i3 e1 hm
  obtain ⟨p2, _⟩ := whole_place j1 j3 e2 hn
  have hval : magV (M * N) (i + j) = (m * n).natAbs * unitV := by
    have h1 : magV (M * N) (i + j) * unitV = magV M i * magV N j := by
      unfold magV unitV
      rw [Nat.mul_assoc, ← Nat.pow_add, show (i + j + 1074).toNat + kU = (i + 1074).toNat + (j + 1074).toNat by omega, Nat.pow_add]
      simp only [Nat.mul_assoc, Nat.mul_left_comm, Nat.mul_comm]
    rw [← e1, ← e2] at h1
    have h2 : magV (M * N) (i + j) * unitV = (m * n).natAbs * unitV * unitV := by
      rw [h1, Int.natAbs_mul]
      simp only [Nat.mul_assoc, Nat.mul_left_comm, Nat.mul_comm]
    exact Nat.eq_of_mul_eq_mul_right unitV_pos h2
  by_cases hij : i + j ≤ 971
  · exact nearest_whole (by omega) hij hval hb
  · exfalso
    have h1 : 2 ^ c972 * unitV ≤ magV (M * N) (i + j) := by
      unfold magV unitV
      have q1 : 1 ≤ M * N := Nat.mul_pos (Nat.pos_of_ne_zero ‹M ≠ 0›) (Nat.pos_of_ne_zero ‹N ≠ 0›)
      have q2 : 2 ^ c972 * 2 ^ kU ≤ 2 ^ (i + j + 1074).toNat := by rw [← Nat.pow_add]; exact Nat.pow_le_pow_right (by omega) (by omega)
      exact Nat.le_trans q2 (Nat.le_mul_of_pos_left _ q1)
    rw [hval] at h1
    have h2 := Nat.le_of_mul_le_mul_right h1 unitV_pos
    have h3 : (2 : Nat) ^ 53 ≤ 2 ^ c972 := Nat.pow_le_pow_right (by omega) (by omega)
    have h4 : (2 : Nat) ^ 53 = 9007199254740992 := rfl
    exact absurd (Nat.lt_of_lt_of_le hb (h4 ▸ Nat.le_trans h3 h2)) (Nat.lt_irrefl _)
/-! ### What is none, out of any word -/
theorem or_add {x k : Nat} (n : Nat) (hx : x % 2 ^ n = x) : x ||| (k * 2 ^ n) = x + k * 2 ^ n := by
  rw [Nat.mul_comm k, Nat.add_comm, Nat.or_comm]
  exact (Nat.two_pow_add_eq_or_of_lt (by rw [← hx]; exact Nat.mod_lt _ (Nat.two_pow_pos _)) k).symm
theorem nan_made {a n : Int} (h0 : 0 ≤ a) (h1 : a < 18446744073709551616) (hn : n = bits .or .u64 (bits .or .u64 (bits .or .u64 (bits .and .u64 a 4503599627370495) 9218868437227405312) (bits .and .u64 a 9223372036854775808)) 1) :
    0 ≤ n ∧ n < 18446744073709551616 ∧ nanI n = true := by
  rw [and_frac h0 h1, and_sign h0 h1] at hn
  obtain ⟨f, hf⟩ : ∃ f : Nat, f = (a % 4503599627370496).toNat := ⟨_, rfl⟩
  obtain ⟨s, hs⟩ : ∃ s : Nat, s = (a / 9223372036854775808).toNat := ⟨_, rfl⟩
  have hf' : a % 4503599627370496 = (f : Int) := by omega
  have hs' : a - a % 9223372036854775808 = ((s * 9223372036854775808 : Nat) : Int) := by omega
  have hfl : f < 4503599627370496 := by omega
  have hsl : s < 2 := by omega
  rw [hf', hs'] at hn
  have E1 : bits .or .u64 (f : Int) 9218868437227405312 = ((f + 2047 * 2 ^ 52 : Nat) : Int) := by
    rw [u64_or _ _ (by omega) (by omega) (by omega) (by omega)]
    congr 1
    exact or_add (k := 2047) 52 (Nat.mod_eq_of_lt hfl)
  have l1 : f + 2047 * 2 ^ 52 < 9223372036854775808 := by omega
  have E2 : bits .or .u64 ((f + 2047 * 2 ^ 52 : Nat) : Int) ((s * 9223372036854775808 : Nat) : Int) = ((f + 2047 * 2 ^ 52 + s * 2 ^ 63 : Nat) : Int) := by
    rw [u64_or _ _ (by omega) (by omega) (by omega) (by omega)]
    congr 1
    exact or_add (k := s) 63 (Nat.mod_eq_of_lt l1)
  have E3 : bits .or .u64 ((f + 2047 * 2 ^ 52 + s * 2 ^ 63 : Nat) : Int) 1 = ((f / 2 * 2 + 1 + 2047 * 2 ^ 52 + s * 2 ^ 63 : Nat) : Int) := by
    rw [u64_or _ _ (by omega) (by omega) (by omega) (by omega)]
    congr 1
    have e : f + 2047 * 2 ^ 52 + s * 2 ^ 63 = f % 2 + (f / 2 + 2047 * 2 ^ 51 + s * 2 ^ 62) * 2 ^ 1 := by omega
    show f + 2047 * 2 ^ 52 + s * 2 ^ 63 ||| 1 = _
    rw [e]
    have h2 : f % 2 = 0 ∨ f % 2 = 1 := by omega
    rcases h2 with h2 | h2
    · rw [h2, Nat.zero_add, Nat.or_comm, or_add (x := 1) (k := f / 2 + 2047 * 2 ^ 51 + s * 2 ^ 62) 1 rfl]; omega
    · rw [h2, ← or_add (x := 1) (k := f / 2 + 2047 * 2 ^ 51 + s * 2 ^ 62) 1 rfl, Nat.or_comm, ← Nat.or_assoc, Nat.or_self, or_add (x := 1) (k := f / 2 + 2047 * 2 ^ 51 + s * 2 ^ 62) 1 rfl]; omega
  rw [E1, E2, E3] at hn
  subst hn
  refine ⟨by omega, by omega, ?_⟩
  simp [nanI]
  omega
end Go.Ev
