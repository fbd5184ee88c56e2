/- Doubles cut to whole numbers. -/
import Derived.Test.YtpgdpoloipifeaaNFlt3
namespace Go.Ev
open Go
set_option linter.unusedVariables false
set_option linter.unusedSimpArgs false

theorem FinD.toInt {x : Nat} {s : Bool} {A : Nat} (h : FinD x s A) : (Ieee.double.read x).toInt .zero = some (sgV s (A / unitV)) := by
  obtain ⟨m, i, h1, h2, _, _, rfl, _⟩ := h
  unfold Ieee.Datum.toInt
  rw [h1, integral_V s m h2]
  simp [signed_sg]
theorem FinD.trunc {x : Nat} {s : Bool} {A : Nat} (h : FinD x s A) : FinD (ftrunc x) s (A / unitV * unitV) := by
  obtain ⟨m, i, h1, h2, h3, h4, rfl, _⟩ := h
  have e : ftrunc x = Ieee.double.nearest s (magV m i / unitV) 0 := by
    have : ftrunc x = Ieee.double.write ((Ieee.double.read x).integral .zero) := rfl
    rw [this, h1, integral_V s m h2]; rfl
  rw [e]
  have hkU := kU_eq
  have hz : ∀ N, magV N 0 = N * unitV := fun N => by unfold magV unitV; rw [show ((0 : Int) + 1074).toNat = kU from rfl]
  rcases Int.le_total 0 i with hi | hi
  · have e1 : magV m i / unitV = m * 2 ^ i.toNat := by
      have : magV m i = m * 2 ^ i.toNat * unitV := by
        unfold magV unitV
        rw [show (i + 1074).toNat = i.toNat + kU by omega, Nat.pow_add, Nat.mul_assoc]
      rw [this, Nat.mul_div_cancel _ unitV_pos]
    rw [e1]
    have := nearest_exact (s := s) (M := m) (k := i.toNat) (p := 0) h4 (by omega) (by omega)
    rw [hz] at this; exact this
  · have e1 : magV m i / unitV ≤ m := by
      have : magV m i ≤ m * unitV := by
        unfold magV unitV
        exact Nat.mul_le_mul_left _ (Nat.pow_le_pow_right (by omega) (by omega))
      exact Nat.div_le_of_le_mul (by rw [Nat.mul_comm]; exact this)
    have := nearest_exact (s := s) (M := magV m i / unitV) (k := 0) (p := 0) (by omega) (by omega) (by omega)
    rw [hz] at this; simpa using this

theorem double_cases (x : Nat) : fnan x = true ∨ (∃ s, Ieee.double.read x = .infinity s) ∨ ∃ s A, FinD x s A := by
  rcases read_cases x with ⟨h, e⟩ | ⟨h, h', e⟩ | ⟨h, e⟩ | ⟨h, e⟩
  · exact .inr (.inr ⟨_, finD_of (by omega)⟩)
  · exact .inr (.inr ⟨_, finD_of (by omega)⟩)
  · exact .inr (.inl ⟨_, e⟩)
  · exact .inl ((fnan_iff x).2 h)

theorem const_fin {x : Nat} {s : Bool} {m : Nat} {i : Int} {N : Nat} (h : Ieee.double.read x = .number s m i) (h1 : (decide (-1074 ≤ i) && decide (i ≤ 971) && decide (m < 9007199254740992) && decide (4503599627370496 ≤ m)) = true) (h2 : Nat.beq (magV m i) (N * unitV) = true) : FinD x s (N * unitV) := by
  simp only [Bool.and_eq_true, decide_eq_true_eq] at h1
  exact ⟨m, i, h, h1.1.1.1, h1.1.1.2, h1.1.2, (Nat.eq_of_beq_eq_true h2).symm, .inr h1.2⟩
theorem fin_m31 : FinD 13970166044103278592 true (2147483648 * unitV) := const_fin (m := 4503599627370496) (i := -21) (by decide) (by decide) (by decide +kernel)
theorem fin_p31 : FinD 4746794007244308480 false (2147483647 * unitV) := const_fin (m := 9007199250546688) (i := -22) (by decide) (by decide) (by decide +kernel)
theorem fin_2p31 : FinD 4746794007248502784 false (2147483648 * unitV) := const_fin (m := 4503599627370496) (i := -21) (by decide) (by decide) (by decide +kernel)
theorem fin_m32 : FinD 13970166044105375744 true (2147483649 * unitV) := const_fin (m := 4503599629467648) (i := -21) (by decide) (by decide) (by decide +kernel)

/-- What a double is, cut to a word of 32 bits; what has none. -/
def toV (a : Int) : Int := match floatToIntVal .f64 a.toNat .i32 with
  | some n => IntKind.wrap .u32 n
  | none => 2147483648
theorem toV_in (a : Int) : in32 (toV a) = true := by
  unfold toV
  split
  · exact in32_wr _
  · decide

theorem sgV_lt {s t : Bool} {A B : Nat} : sgV s (A * unitV) < sgV t (B * unitV) ↔ sgV s A < sgV t B := by
  have hu := unitV_pos
  have e : ∀ s N, sgV s (N * unitV) = sgV s N * (unitV : Int) := fun s N => by cases s <;> simp [sgV, Int.neg_mul]
  rw [e, e]
  constructor
  · intro h; exact Int.lt_of_mul_lt_mul_right h (by omega)
  · intro h; exact Int.mul_lt_mul_of_pos_right h (by omega)
theorem sgV_eq {s t : Bool} {A B : Nat} : sgV s (A * unitV) = sgV t (B * unitV) ↔ sgV s A = sgV t B := by
  have h1 := sgV_lt (s := s) (t := t) (A := A) (B := B)
  have h2 := sgV_lt (s := t) (t := s) (A := B) (B := A)
  omega

theorem toIntVal_fin {x : Nat} {s : Bool} {A : Nat} (h : FinD x s A) (k : IntKind) : floatToIntVal .f64 x k = if k.min ≤ sgV s (A / unitV) ∧ sgV s (A / unitV) ≤ k.max then some (sgV s (A / unitV)) else none := by
  unfold floatToIntVal
  have : (FloatKind.f64.decode x).toInt .zero = some (sgV s (A / unitV)) := h.toInt
  rw [this]
theorem toIntVal_inf {x : Nat} {s : Bool} (h : Ieee.double.read x = .infinity s) (k : IntKind) : floatToIntVal .f64 x k = none := by
  unfold floatToIntVal
  have : (FloatKind.f64.decode x).toInt .zero = none := by
    show (Ieee.double.read x).toInt .zero = none
    rw [h]; rfl
  rw [this]
theorem toIntVal_nan {x : Nat} (h : fnan x = true) (k : IntKind) : floatToIntVal .f64 x k = none := by
  unfold floatToIntVal
  have : (FloatKind.f64.decode x).toInt .zero = none := by
    show (Ieee.double.read x).toInt .zero = none
    unfold fnan at h
    cases hr : Ieee.double.read x <;> rw [hr] at h <;> first
      | (cases h; done)
      | rfl
  rw [this]
theorem inf_order {x y : Nat} {s t : Bool} {B : Nat} (h : Ieee.double.read x = .infinity s) (hy : FinD y t B) : flt x y = s ∧ feq x y = false ∧ fgt x y = !s := by
  obtain ⟨n, j, h3, _⟩ := hy
  unfold flt feq fgt Ieee.Format.order
  rw [h, h3]
  cases s <;> simp [Ieee.Datum.order]
theorem inf_trunc {x : Nat} {s : Bool} (h : Ieee.double.read x = .infinity s) : Ieee.double.read (ftrunc x) = .infinity s := by
  have : ftrunc x = Ieee.double.write ((Ieee.double.read x).integral .zero) := rfl
  rw [this, h]
  cases s <;> decide

theorem toV_fin {a : Int} {s : Bool} {A : Nat} (h : FinD a.toNat s A) : toV a = if -2147483648 ≤ sgV s (A / unitV) ∧ sgV s (A / unitV) ≤ 2147483647 then IntKind.wrap .u32 (sgV s (A / unitV)) else 2147483648 := by
  unfold toV
  rw [toIntVal_fin h]
  have e1 : IntKind.i32.min = -2147483648 := by decide
  have e2 : IntKind.i32.max = 2147483647 := by decide
  rw [e1, e2]
  split
  · rename_i hc
    split at hc
    · rename_i hr; simp at hc; subst hc; rw [if_pos hr]
    · cases hc
  · rename_i hc
    split at hc
    · cases hc
    · rename_i hr; rw [if_neg hr]

/-- The program's cut. -/
theorem toV_prog {a : Int} (h0 : 0 ≤ a) {R : Type} (k : Int → R) (z : R) :
    (bif fnan a.toNat then some (k 2147483648) else bif fgt (ftrunc a.toNat) 13970166044103278592 || feq (ftrunc a.toNat) 13970166044103278592 then
      bif flt (ftrunc a.toNat) 4746794007244308480 || feq (ftrunc a.toNat) 4746794007244308480 then
        bif fiok (ftrunc a.toNat) .i32 then some (k (IntKind.wrap .u32 (fival (ftrunc a.toNat) .i32))) else none
      else some (k 2147483648) else some (k 2147483648)) = some (k (toV a)) := by
  rcases double_cases a.toNat with h | ⟨s, h⟩ | ⟨s, A, h⟩
  · have : toV a = 2147483648 := by unfold toV; rw [toIntVal_nan h]
    rw [h, this]; rfl
  · have h1 : toV a = 2147483648 := by unfold toV; rw [toIntVal_inf h]
    have h2 : fnan a.toNat = false := by unfold fnan; rw [h]; rfl
    have h3 := inf_trunc h
    obtain ⟨_, e2, e3⟩ := inf_order h3 fin_m31
    obtain ⟨e4, e5, _⟩ := inf_order h3 fin_p31
    rw [h1, h2, e2, e3, e4, e5]
    cases s <;> rfl
  · have ht := h.trunc
    have hn := h.nan
    have hv := toV_fin h
    have hi := toIntVal_fin ht .i32
    have e1 : IntKind.i32.min = -2147483648 := by decide
    have e2 : IntKind.i32.max = 2147483647 := by decide
    rw [Nat.mul_div_cancel _ unitV_pos, e1, e2] at hi
    rw [hn, ht.fgt fin_m31, ht.feq fin_m31, ht.flt fin_p31, ht.feq fin_p31]
    simp only [sgV_lt, sgV_eq]
    have n1 : sgV true 2147483648 = -2147483648 := by decide
    have n2 : sgV false 2147483647 = 2147483647 := by decide
    rw [n1, n2, hv]
    obtain ⟨T, hT⟩ : ∃ T, T = sgV s (A / unitV) := ⟨_, rfl⟩
    rw [← hT] at hi ⊢
    by_cases c1 : -2147483648 ≤ T
    · by_cases c2 : T ≤ 2147483647
      · rw [if_pos ⟨c1, c2⟩] at hi ⊢
        have d1 : (decide (-2147483648 < T) || decide (T = -2147483648)) = true := by simp; omega
        have d2 : (decide (T < 2147483647) || decide (T = 2147483647)) = true := by simp; omega
        have d3 : fiok (ftrunc a.toNat) .i32 = true := by unfold fiok; rw [hi]; rfl
        have d4 : fival (ftrunc a.toNat) .i32 = T := by unfold fival; rw [hi]; rfl
        rw [d1, d2, d3, d4]; rfl
      · rw [if_neg (by omega)]
        have d1 : (decide (-2147483648 < T) || decide (T = -2147483648)) = true := by simp; omega
        have d2 : (decide (T < 2147483647) || decide (T = 2147483647)) = false := by simp; omega
        rw [d1, d2]; rfl
    · rw [if_neg (by omega)]
      have d1 : (decide (-2147483648 < T) || decide (T = -2147483648)) = false := by simp; omega
      rw [d1]; rfl

theorem sg_ge {s : Bool} {A N : Nat} : (sgV false (N * unitV) < sgV s A ∨ sgV s A = sgV false (N * unitV)) ↔ (s = false ∧ N ≤ A / unitV) ∨ (s = true ∧ A = 0 ∧ N = 0) := by
  have hu := unitV_pos
  have hd : N ≤ A / unitV ↔ N * unitV ≤ A := Nat.le_div_iff_mul_le hu
  rw [hd]
  have hz : N * unitV = 0 ↔ N = 0 := by
    constructor
    · intro h; rcases Nat.mul_eq_zero.1 h with h | h <;> omega
    · intro h; rw [h, Nat.zero_mul]
  cases s <;> simp [sgV] <;> omega
theorem sg_le {s : Bool} {A N : Nat} (hN : 0 < N) : (sgV s A < sgV true (N * unitV) ∨ sgV s A = sgV true (N * unitV)) ↔ (s = true ∧ N ≤ A / unitV) := by
  have hu := unitV_pos
  have hd : N ≤ A / unitV ↔ N * unitV ≤ A := Nat.le_div_iff_mul_le hu
  rw [hd]
  have hz : 0 < N * unitV := Nat.mul_pos hN hu
  cases s <;> simp [sgV] <;> omega

/-- The document's cut. -/
theorem toV_ref {a : Int} (h0 : 0 ≤ a) {R : Type} (k : Int → R) :
    (bif nanI a then some (k 2147483648) else bif fgt a.toNat 4746794007248502784 || feq a.toNat 4746794007248502784 then some (k 2147483648) else
      bif flt a.toNat 13970166044105375744 || feq a.toNat 13970166044105375744 then some (k 2147483648) else
        bif fiok a.toNat .i64 then some (k (IntKind.wrap .u32 (IntKind.wrap .i32 (fival a.toNat .i64)))) else none) = some (k (toV a)) := by
  rw [← fnan_nanI h0]
  rcases double_cases a.toNat with h | ⟨s, h⟩ | ⟨s, A, h⟩
  · have : toV a = 2147483648 := by unfold toV; rw [toIntVal_nan h]
    rw [h, this]; rfl
  · have h1 : toV a = 2147483648 := by unfold toV; rw [toIntVal_inf h]
    have h2 : fnan a.toNat = false := by unfold fnan; rw [h]; rfl
    obtain ⟨_, e2, e3⟩ := inf_order h fin_2p31
    obtain ⟨e4, e5, _⟩ := inf_order h fin_m32
    rw [h1, h2, e2, e3, e4, e5]
    cases s <;> rfl
  · have hn := h.nan
    have hv := toV_fin h
    have hi := toIntVal_fin h .i64
    have e1 : IntKind.i64.min = -9223372036854775808 := by decide
    have e2 : IntKind.i64.max = 9223372036854775807 := by decide
    rw [e1, e2] at hi
    rw [hn, h.fgt fin_2p31, h.feq fin_2p31, h.flt fin_m32, h.feq fin_m32, hv]
    have q1 : (decide (sgV false (2147483648 * unitV) < sgV s A) || decide (sgV s A = sgV false (2147483648 * unitV))) = decide (s = false ∧ 2147483648 ≤ A / unitV) := by
      rw [Bool.eq_iff_iff]
      have := sg_ge (s := s) (A := A) (N := 2147483648)
      simp only [Bool.or_eq_true, decide_eq_true_eq]
      rw [this]
      constructor
      · rintro (h | ⟨_, _, h⟩)
        · exact h
        · omega
      · intro h; exact .inl h
    have q2 : (decide (sgV s A < sgV true (2147483649 * unitV)) || decide (sgV s A = sgV true (2147483649 * unitV))) = decide (s = true ∧ 2147483649 ≤ A / unitV) := by
      rw [Bool.eq_iff_iff]
      have := sg_le (s := s) (A := A) (N := 2147483649) (by omega)
      simp only [Bool.or_eq_true, decide_eq_true_eq]
      exact this
    rw [q1, q2]
    obtain ⟨T, hT⟩ : ∃ T, T = A / unitV := ⟨_, rfl⟩
    rw [← hT] at hi ⊢
    have big : ∀ (hh : sgV s T < 9223372036854775807 ∧ -9223372036854775808 < sgV s T), fiok a.toNat .i64 = true ∧ fival a.toNat .i64 = sgV s T := fun hh => by
      rw [if_pos (by omega)] at hi
      exact ⟨by unfold fiok; rw [hi]; rfl, by unfold fival; rw [hi]; rfl⟩
    have hs : sgV s T = (if s = true then -(T : Int) else T) := rfl
    have wr : ∀ x : Int, -2147483648 ≤ x → x ≤ 2147483647 → IntKind.wrap .i32 x = x := fun x h1 h2 => by rw [IntKind.wrap_i32]; omega
    by_cases c1 : s = false ∧ 2147483648 ≤ T
    · rw [decide_eq_true c1, if_neg (by rw [hs, if_neg (by simp [c1.1])]; omega)]; rfl
    · rw [decide_eq_false c1]
      by_cases c2 : s = true ∧ 2147483649 ≤ T
      · rw [decide_eq_true c2, if_neg (by rw [hs, if_pos c2.1]; omega)]; rfl
      · rw [decide_eq_false c2]
        have hb : -2147483648 ≤ sgV s T ∧ sgV s T ≤ 2147483647 := by
          rw [hs]
          cases s <;> simp_all <;> omega
        obtain ⟨b1, b2⟩ := big (by omega)
        rw [if_pos hb, b1, b2, wr _ hb.1 hb.2]; rfl
/-- A double of a number: edges, others. -/
def dblV (a : Int) : Int := bif Int.tmod a 4 == 0 then a else selL (Int.tmod (IntKind.wrap IntKind.u64 (Int.tdiv a 4)) 18) 0 [0, 9223372036854775808, 4607182418800017408, 13830554455654793216, 9218868437227405312, 18442240474082181120,
9221120237041090561, 9218868437227405313, 18444492273895866368, 1, 9223372036854775809, 9218868437227405311, 4746794007248502784, 13970166044105375744, 4746794007244308480, 4602678819172646912, 4613937818241073152, 4503599627370496]
theorem dbl_ix {a : Int} (h0 : 0 ≤ a) (h1 : a < 18446744073709551616) : 0 ≤ Int.tmod (IntKind.wrap IntKind.u64 (Int.tdiv a 4)) 18 ∧ Int.tmod (IntKind.wrap IntKind.u64 (Int.tdiv a 4)) 18 < 18 := by
  have e : IntKind.wrap IntKind.u64 (Int.tdiv a 4) = a / 4 := by rw [Int.tdiv_eq_ediv_of_nonneg h0, wr_u64]; omega
  rw [e, Int.tmod_eq_emod_of_nonneg (by omega)]
  omega
theorem selL_all {p : Int → Prop} (h0 : p 0) : ∀ {xs : List Int} {i j : Int}, (∀ x ∈ xs, p x) → p (selL i j xs)
  | [], _, _, _ => h0
  | [x], _, _, h => h x (by simp)
  | x :: y :: l, i, j, h => by
    simp only [selL]
    cases i == j
    · exact selL_all h0 (fun z hz => h z (List.mem_cons_of_mem _ hz))
    · exact h x (by simp)
theorem dblV_in {a : Int} (h : in64 a = true) : in64 (dblV a) = true := by
  unfold dblV
  cases Int.tmod a 4 == 0
  · exact selL_all (p := fun x => in64 x = true) (by decide) (by decide)
  · exact h
end Go.Ev
