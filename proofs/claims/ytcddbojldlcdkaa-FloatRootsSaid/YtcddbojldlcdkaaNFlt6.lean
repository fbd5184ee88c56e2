/- Doubles of whole numbers: noughts and infinities, quotients, roots. -/
import Derived.Test.YtcddbojldlcdkaaNFlt5
namespace Go.Ev
open Go
set_option linter.unusedVariables false
set_option linter.unusedSimpArgs false

theorem IntD.toV_big {a n : Int} (h : IntD a n) (h1 : 2147483648 ≤ n) : Go.Ev.toV a = 2147483648 := by
  obtain ⟨s, h2, h3⟩ := h.fin
  rw [toV_fin h2, Nat.mul_div_cancel _ unitV_pos, h3, if_neg (by omega)]

theorem magV_zero (i : Int) : magV 0 i = 0 := Nat.zero_mul _
theorem IntD.zero : IntD 0 0 := ⟨by omega, by omega, false, ⟨0, -1074, read0, by omega, by omega, by omega, by rw [magV_zero, Int.natAbs_zero, Nat.zero_mul], .inl rfl⟩, rfl⟩
/-! ### Noughts, infinities -/
theorem quo_zero {x z : Nat} {s t : Bool} {m : Nat} {i j : Int} (hx : Ieee.double.read x = .number s m i) (hm : m ≠ 0) (hz : Ieee.double.read z = .number t 0 j) :
    fok .quo x z = true ∧ fval .quo x z = Ieee.double.word (s ^^ t) 9218868437227405312 := by
  have hv : floatBits .quo .f64 x z = some (Ieee.double.word (s ^^ t) 9218868437227405312) := by
    show ((Ieee.double.read x).quotient 54 (Ieee.double.read z)).map Ieee.double.write = _
    rw [hx, hz]
    simp only [Ieee.Datum.quotient, if_true, if_neg hm, Option.map_some, Ieee.Format.write, inf_eq]
  exact ⟨by unfold fok; rw [hv]; rfl, by unfold fval; rw [hv]; rfl⟩
theorem add_inf {x z : Nat} {s t : Bool} {m : Nat} {i : Int} (hx : Ieee.double.read x = .number s m i) (hz : Ieee.double.read z = .infinity t) :
    fok .add x z = true ∧ fval .add x z = Ieee.double.word t 9218868437227405312 := by
  have hv : floatBits .add .f64 x z = some (Ieee.double.word t 9218868437227405312) := by
    show ((Ieee.double.read x).sum (Ieee.double.read z)).map Ieee.double.write = _
    rw [hx, hz]
    simp only [Ieee.Datum.sum, Option.map_some, Ieee.Format.write, inf_eq]
  exact ⟨by unfold fok; rw [hv]; rfl, by unfold fval; rw [hv]; rfl⟩
theorem sub_self' {x : Nat} {s : Bool} {m : Nat} {i : Int} (hx : Ieee.double.read x = .number s m i) : fok .sub x x = true ∧ fval .sub x x = 0 := by
  have hv : floatBits .sub .f64 x x = some 0 := by
    show ((Ieee.double.read x).sum (Ieee.double.read x).opposite).map Ieee.double.write = _
    rw [hx]
    have h0 : Ieee.signed s m (i - min i i).toNat + Ieee.signed (!s) m (i - min i i).toNat = 0 := by
      rw [signed_sg, signed_sg, sg_opp]; omega
    simp only [Ieee.Datum.opposite, Ieee.Datum.sum, h0, if_true, Option.map_some, Ieee.Format.write]
    cases s <;> rfl
  exact ⟨by unfold fok; rw [hv]; rfl, by unfold fval; rw [hv]; rfl⟩
theorem mul_zero' {x z : Nat} {s t : Bool} {m : Nat} {i j : Int} (hx : Ieee.double.read x = .number s m i) (hz : Ieee.double.read z = .number t 0 j) :
    fok .mul x z = true ∧ fval .mul x z = Ieee.double.word (s ^^ t) 0 := by
  have hv : floatBits .mul .f64 x z = some (Ieee.double.word (s ^^ t) 0) := by
    show ((Ieee.double.read x).product (Ieee.double.read z)).map Ieee.double.write = _
    rw [hx, hz]
    simp [Ieee.Datum.product, Ieee.Format.write, Ieee.Format.nearest]
  exact ⟨by unfold fok; rw [hv]; rfl, by unfold fval; rw [hv]; rfl⟩
theorem read_p0 : Ieee.double.read 0 = .number false 0 (-1074) := by decide
theorem read_m0 : Ieee.double.read 9223372036854775808 = .number true 0 (-1074) := by decide
theorem read_pinf : Ieee.double.read 9218868437227405312 = .infinity false := by decide
theorem read_minf : Ieee.double.read 18442240474082181120 = .infinity true := by decide
/-- A number that is none of these, by its sign. -/
theorem plain_parts {a : Int} (h0 : 0 ≤ a) (h1 : a < 18446744073709551616) (hn : nanI a = false) (hz : a % 9223372036854775808 ≠ 0) (hi : a % 9223372036854775808 ≠ 9218868437227405312) :
    ∃ s m i, Ieee.double.read a.toNat = .number s m i ∧ m ≠ 0 ∧ bits .and .u64 a 9223372036854775808 = if s = true then 9223372036854775808 else 0 := by
  have hn' : ¬ (a % 9223372036854775808 > 9218868437227405312) := by simpa [nanI] using hn
  obtain ⟨s, m, i, hr, _, _, _, hc, hs⟩ := read_fin (x := a.toNat) (by omega)
  refine ⟨s, m, i, hr, ?_, ?_⟩
  · intro e
    subst e
    rcases hc with hc | hc
    · rcases read_cases a.toNat with ⟨c1, c2⟩ | ⟨c1, c3, c2⟩ | ⟨c1, c2⟩ | ⟨c1, c2⟩ <;> rw [c2] at hr <;> injection hr <;> omega
    · omega
  · rw [and_sign h0 h1, hs]
    by_cases hb : a < 9223372036854775808
    · have : a.toNat / 9223372036854775808 % 2 = 0 := by omega
      rw [this]; simp; omega
    · have : a.toNat / 9223372036854775808 % 2 = 1 := by omega
      rw [this]; simp; omega

/-! ### Quotients -/
theorem cut_even_near {s : Bool} {Q g : Nat} (hg : g ≤ Q.log2 + 2) : Q / 2 ^ g ≤ Ieee.Toward.even.cut s Q g ∧ Ieee.Toward.even.cut s Q g ≤ Q / 2 ^ g + 1 := by
  have hm : min g (Q.log2 + 2) = g := by omega
  simp only [Ieee.Toward.cut, Nat.shiftLeft_eq, Nat.one_mul, hm]
  refine ⟨Nat.le_add_right _ _, Nat.add_le_add_left ?_ _⟩
  exact Bool.toNat_le _
/-- Many digits: what is written is near. -/
theorem nearest_near {s : Bool} {Q : Nat} {p : Int} (hQ : 52 ≤ Q.log2) (h1 : -1074 ≤ p + Q.log2 - 52) (h2 : p + Q.log2 - 52 ≤ 970) :
    ∃ kept, Q / 2 ^ (Q.log2 - 52) ≤ kept ∧ kept ≤ Q / 2 ^ (Q.log2 - 52) + 1 ∧ FinD (Ieee.double.nearest s Q p) s (magV kept (p + Q.log2 - 52)) := by
  have hQ0 : Q ≠ 0 := fun e => by subst e; simp at hQ
  obtain ⟨last, hlast⟩ : ∃ last : Int, last = p + Q.log2 - 52 := ⟨_, rfl⟩
  obtain ⟨g, hg⟩ : ∃ g, g = Q.log2 - 52 := ⟨_, rfl⟩
  rw [← hlast] at h1 h2
  unfold Ieee.Format.nearest
  rw [if_neg hQ0, lp_eq, fb_eq, bin_eq, inf_eq]
  have hl0 : max (p + (Q.log2 : Int) - ((52 : Nat) : Int)) (-1074) = last := by omega
  simp only [hl0]
  have e1 : (p - last).toNat = 0 := by omega
  have e2 : (last - p).toNat = g := by omega
  rw [e1, e2]
  simp only [Nat.shiftLeft_zero]
  obtain ⟨kept, hk⟩ : ∃ kept, kept = Ieee.Toward.even.cut s Q g := ⟨_, rfl⟩
  have hnear := cut_even_near (s := s) (Q := Q) (g := g) (by omega)
  rw [← hk] at hnear ⊢
  rw [← hlast, ← hg]
  refine ⟨kept, hnear.1, hnear.2, ?_⟩
  have hlog := (Nat.log2_eq_iff hQ0).1 rfl
  have hlow : 2 ^ 52 ≤ Q / 2 ^ g ∧ Q / 2 ^ g < 2 ^ 53 := by
    constructor
    · rw [Nat.le_div_iff_mul_le (Nat.two_pow_pos _), ← Nat.pow_add, show 52 + g = Q.log2 by omega]; exact hlog.1
    · rw [Nat.div_lt_iff_lt_mul (Nat.two_pow_pos _), ← Nat.pow_add, show 53 + g = Q.log2 + 1 by omega]; exact hlog.2
  have c52 : (2 : Nat) ^ 52 = 4503599627370496 := rfl
  have c53 : (2 : Nat) ^ 53 = 9007199254740992 := rfl
  rw [c52, c53] at hlow
  obtain ⟨L, hL⟩ : ∃ L, L = (last - -1074).toNat := ⟨_, rfl⟩
  have hLb : L ≤ 2044 := by omega
  rw [← hL, Nat.min_eq_left (by omega)]
  obtain ⟨w1, w2, w3⟩ := word_rung (s := s) (r := L * 4503599627370496 + kept) (by omega)
  by_cases hc : kept < 9007199254740992
  · refine ⟨kept, last, ?_, h1, by omega, hc, rfl, .inr (by omega)⟩
    rcases read_cases (Ieee.double.word s (L * 4503599627370496 + kept)) with ⟨c1, c2⟩ | ⟨c1, c3, c2⟩ | ⟨c1, c2⟩ | ⟨c1, c2⟩ <;> rw [w1] at c1 <;> rw [c2] <;> (try rw [w1]) <;> (try rw [w2])
    · omega
    · have d1 : (L * 4503599627370496 + kept) % 4503599627370496 = kept - 4503599627370496 := by omega
      have d2 : (L * 4503599627370496 + kept) / 4503599627370496 = L + 1 := by omega
      have d3 : 4503599627370496 + (kept - 4503599627370496) = kept := by omega
      have d4 : -1074 + ((L + 1 - 1 : Nat) : Int) = last := by omega
      rw [d1, d2, d3, d4]
    · exfalso; omega
    · exfalso; omega
  · have hk2 : kept = 9007199254740992 := by omega
    refine ⟨4503599627370496, last + 1, ?_, by omega, by omega, by omega, ?_, .inr (by omega)⟩
    · rcases read_cases (Ieee.double.word s (L * 4503599627370496 + kept)) with ⟨c1, c2⟩ | ⟨c1, c3, c2⟩ | ⟨c1, c2⟩ | ⟨c1, c2⟩ <;> rw [w1] at c1 <;> rw [c2] <;> (try rw [w1]) <;> (try rw [w2])
      · omega
      · have d1 : (L * 4503599627370496 + kept) % 4503599627370496 = 0 := by omega
        have d2 : (L * 4503599627370496 + kept) / 4503599627370496 = L + 2 := by omega
        have d4 : -1074 + ((L + 2 - 1 : Nat) : Int) = last + 1 := by omega
        rw [d1, d2, d4]
      · exfalso; omega
      · exfalso; omega
    · rw [hk2]
      unfold magV
      rw [show (last + 1 + 1074).toNat = (last + 1074).toNat + 1 by omega, Nat.pow_succ]
      omega

theorem canon_log {m : Nat} (h : 4503599627370496 ≤ m) (h' : m < 9007199254740992) : m.log2 = 52 := by
  apply (Nat.log2_eq_iff (by omega)).2
  constructor
  · exact h
  · exact h'

/-- A whole number's digits. -/
theorem whole_digits {x : Nat} {s : Bool} {K : Nat} (h : FinD x s (K * unitV)) (hK : K ≠ 0) (hK2 : K < 4503599627370496) :
    ∃ (M u : Nat), Ieee.double.read x = .number s M (-(u : Int)) ∧ M = K * 2 ^ u ∧ 4503599627370496 ≤ M ∧ M < 9007199254740992 ∧ 1 ≤ u ∧ u ≤ 52 := by
  have hkU := kU_eq
  obtain ⟨M, i, r1, i1, i2, i3, e1, hc⟩ := h.ex
  obtain ⟨p1, hM⟩ := whole_place i1 i3 e1 hK
  have hM52 : 4503599627370496 ≤ M := by
    rcases hc with hc | hc
    · omega
    · exact hc
  have hi : i ≤ -1 := by
    rcases (show i ≤ -1 ∨ 0 ≤ i by omega) with h | h
    · exact h
    · exfalso
      have h1 : M * 2 ^ i.toNat * unitV = K * unitV := by
        rw [e1]; unfold magV unitV
        rw [Nat.mul_assoc, ← Nat.pow_add, show (i + 1074).toNat = i.toNat + kU by omega]
      have h2 := Nat.eq_of_mul_eq_mul_right unitV_pos h1
      have h3 : M ≤ M * 2 ^ i.toNat := Nat.le_mul_of_pos_right _ (Nat.two_pow_pos _)
      omega
  have ei : i = -(((-i).toNat : Nat) : Int) := by omega
  refine ⟨M, (-i).toNat, by rw [r1, ← ei], ?_, hM52, i3, by omega, by omega⟩
  have h1 : M * 2 ^ (i + 1074).toNat = K * 2 ^ (-i).toNat * 2 ^ (i + 1074).toNat := by
    have e1' := e1
    unfold unitV magV at e1'
    rw [← e1', Nat.mul_assoc, ← Nat.pow_add, show (-i).toNat + (i + 1074).toNat = kU by omega]
  exact Nat.eq_of_mul_eq_mul_right (Nat.two_pow_pos _) h1

theorem IntD.quo {a b m n : Int} (h : IntD a m) (h' : IntD b n) (hm : m.natAbs ≤ 2147483648) (hn : 1 ≤ n) (hn7 : n ≤ 7) (hlt : m.tdiv n ≤ 2147483647) :
    fok .quo a.toNat b.toNat = true ∧ Go.Ev.toV (fval .quo a.toNat b.toNat : Int) = IntKind.wrap .u32 (m.tdiv n) := by
  obtain ⟨s, h2, h3⟩ := h.fin
  obtain ⟨t, h4, h5⟩ := h'.fin
  have ht : t = false := by
    cases t with
    | false => rfl
    | true => simp [sgV] at h5; omega
  subst ht
  obtain ⟨N, v, r2, e2, n1, n2, v1, v2⟩ := whole_digits h4 (by omega) (by omega)
  obtain ⟨k7, hk7⟩ : ∃ k7, k7 = n.natAbs := ⟨_, rfl⟩
  rw [← hk7] at e2
  have hN0 : N ≠ 0 := by omega
  by_cases hm0 : m = 0
  · subst hm0
    obtain ⟨M, i, r1, i1, i2, i3, e1, hc⟩ := h2.ex
    have eM : M = 0 := by
      simp only [Int.natAbs_zero, Nat.zero_mul] at e1
      unfold magV at e1
      rcases Nat.mul_eq_zero.1 e1.symm with h | h
      · exact h
      · exact absurd h (Nat.pos_iff_ne_zero.1 (Nat.two_pow_pos _))
    subst eM
    have hv : ∃ p, floatBits .quo .f64 a.toNat b.toNat = some (Ieee.double.nearest s 0 p) := by
      refine ⟨i - -(v : Int) - ((54 + N.log2 - (0 : Nat).log2 : Nat) : Int) - 1, ?_⟩
      show ((Ieee.double.read a.toNat).quotient 54 (Ieee.double.read b.toNat)).map Ieee.double.write = _
      rw [r1, r2]
      simp only [Ieee.Datum.quotient, if_neg hN0, Option.map_some, Ieee.Format.write, Bool.xor_false, Nat.zero_shiftLeft, Nat.zero_div, Nat.zero_mod]
      rfl
    obtain ⟨p, hv⟩ := hv
    have hf : fval .quo a.toNat b.toNat = Ieee.double.nearest s 0 p := by unfold fval; rw [hv]; rfl
    refine ⟨by unfold fok; rw [hv]; rfl, ?_⟩
    rw [hf]
    have e0 : Ieee.double.nearest s 0 p = Ieee.double.word s 0 := by simp [Ieee.Format.nearest]
    rw [e0, Int.zero_tdiv]
    cases s <;> decide +kernel
  obtain ⟨M, u, r1, e1, m1, m2, u1, u2⟩ := whole_digits h2 (by omega) (by omega)
  obtain ⟨K, hK⟩ : ∃ K, K = m.natAbs := ⟨_, rfl⟩
  rw [← hK] at e1
  -- u is at least 21, v at least 50
  have hu21 : 21 ≤ u := by
    rcases (show 21 ≤ u ∨ u ≤ 20 by omega) with h | h
    · exact h
    · exfalso
      have : 2 ^ u ≤ 2 ^ 20 := Nat.pow_le_pow_right (by omega) h
      have h3 : K * 2 ^ u ≤ 2147483648 * 2 ^ 20 := Nat.mul_le_mul (by omega) this
      omega
  have hv50 : 50 ≤ v := by
    rcases (show 50 ≤ v ∨ v ≤ 49 by omega) with h | h
    · exact h
    · exfalso
      have : 2 ^ v ≤ 2 ^ 49 := Nat.pow_le_pow_right (by omega) h
      have h3 : k7 * 2 ^ v ≤ 7 * 2 ^ 49 := Nat.mul_le_mul (by omega) this
      omega
  obtain ⟨k, hk⟩ : ∃ k, k = u + 54 - v := ⟨_, rfl⟩
  have hk23 : 23 ≤ k := by omega
  have hmore : 54 + N.log2 - M.log2 = 54 := by rw [canon_log n1 n2, canon_log m1 m2]
  obtain ⟨d, hd⟩ : ∃ d, d = (M <<< 54) / N := ⟨_, rfl⟩
  obtain ⟨st, hst⟩ : ∃ st, st = ((M <<< 54) % N != 0).toNat := ⟨_, rfl⟩
  have hst1 : st ≤ 1 := by rw [hst]; exact Bool.toNat_le _
  have hdk : d = K * 2 ^ k / k7 := by
    rw [hd, Nat.shiftLeft_eq, e1, e2, Nat.mul_assoc, ← Nat.pow_add, show u + 54 = k + v by omega, Nat.pow_add, ← Nat.mul_assoc, Nat.mul_div_mul_right _ _ (Nat.two_pow_pos _)]
  have hv : floatBits .quo .f64 a.toNat b.toNat = some (Ieee.double.nearest s (2 * d + st) (-((k : Int) + 1))) := by
    show ((Ieee.double.read a.toNat).quotient 54 (Ieee.double.read b.toNat)).map Ieee.double.write = _
    rw [r1, r2]
    simp only [Ieee.Datum.quotient, if_neg hN0, Option.map_some, Ieee.Format.write, Bool.xor_false, hmore, ← hd, ← hst]
    congr 2
    omega
  have hf : fval .quo a.toNat b.toNat = Ieee.double.nearest s (2 * d + st) (-((k : Int) + 1)) := by unfold fval; rw [hv]; rfl
  refine ⟨by unfold fok; rw [hv]; rfl, ?_⟩
  -- the whole part
  obtain ⟨T, hT⟩ : ∃ T, T = K / k7 := ⟨_, rfl⟩
  have hk7p : 0 < k7 := by omega
  have hTl : T * 2 ^ k ≤ d := by
    rw [hdk, Nat.le_div_iff_mul_le hk7p]
    have := Nat.div_mul_le_self K k7
    calc T * 2 ^ k * k7 = K / k7 * k7 * 2 ^ k := by rw [hT, Nat.mul_right_comm]
      _ ≤ K * 2 ^ k := Nat.mul_le_mul_right _ this
  have hp3 : 2 ^ k = 8 * 2 ^ (k - 3) := by
    rw [show k = (k - 3) + 3 by omega, Nat.pow_add]; simp; omega
  have hTu : d + 2 ^ (k - 3) < (T + 1) * 2 ^ k := by
    have h1 : d * k7 ≤ K * 2 ^ k := by rw [hdk]; exact Nat.div_mul_le_self _ _
    have h2 : K + 1 ≤ (T + 1) * k7 := by
      have := Nat.lt_div_mul_add (a := K) hk7p
      rw [← hT] at this
      rw [Nat.add_mul]; omega
    have h3 : (K + 1) * 2 ^ k ≤ (T + 1) * k7 * 2 ^ k := Nat.mul_le_mul_right _ h2
    have h4 : (d + 2 ^ (k - 3)) * k7 < (T + 1) * 2 ^ k * k7 := by
      have e4 : (T + 1) * 2 ^ k * k7 = (T + 1) * k7 * 2 ^ k := Nat.mul_right_comm _ _ _
      have e5 : (K + 1) * 2 ^ k = K * 2 ^ k + 2 ^ k := by rw [Nat.add_mul, Nat.one_mul]
      have e6 : 2 ^ (k - 3) * k7 ≤ 2 ^ (k - 3) * 7 := Nat.mul_le_mul_left _ (by omega)
      have e7 := Nat.two_pow_pos (k - 3)
      rw [Nat.add_mul, e4]
      omega
    exact Nat.lt_of_mul_lt_mul_right h4
  -- the digits of what is rounded
  obtain ⟨Q, hQ⟩ : ∃ Q, Q = 2 * d + st := ⟨_, rfl⟩
  rw [← hQ] at hf
  have hQb : 2 ^ 54 ≤ Q ∧ Q < 2 ^ 56 := by
    have hd1 : 2 ^ 53 ≤ d := by
      rw [hd, Nat.le_div_iff_mul_le (by omega), Nat.shiftLeft_eq]
      have : (2 : Nat) ^ 53 = 9007199254740992 := rfl
      have : (2 : Nat) ^ 54 = 18014398509481984 := rfl
      omega
    have hd2 : d < 2 ^ 55 := by
      rw [hd, Nat.div_lt_iff_lt_mul (by omega), Nat.shiftLeft_eq]
      have : (2 : Nat) ^ 54 = 18014398509481984 := rfl
      have : (2 : Nat) ^ 55 = 36028797018963968 := rfl
      omega
    have : (2 : Nat) ^ 53 = 9007199254740992 := rfl
    have : (2 : Nat) ^ 54 = 18014398509481984 := rfl
    have : (2 : Nat) ^ 55 = 36028797018963968 := rfl
    have : (2 : Nat) ^ 56 = 72057594037927936 := rfl
    omega
  have hQ0 : Q ≠ 0 := by have := Nat.two_pow_pos 54; omega
  have hL : Q.log2 = 54 ∨ Q.log2 = 55 := by
    have h1 : 54 ≤ Q.log2 := (Nat.le_log2 hQ0).2 hQb.1
    have h2 : Q.log2 < 56 := (Nat.log2_lt hQ0).2 hQb.2
    omega
  obtain ⟨kept, k1, k2, hfin⟩ := nearest_near (s := s) (Q := Q) (p := -((k : Int) + 1)) (by omega) (by omega) (by omega)
  rw [← hf] at hfin
  obtain ⟨g, hg⟩ : ∃ g, g = Q.log2 - 52 := ⟨_, rfl⟩
  rw [← hg] at k1 k2
  have hg3 : g = 2 ∨ g = 3 := by omega
  obtain ⟨e, he⟩ : ∃ e, e = k + 1 - g := ⟨_, rfl⟩
  have hplace : (-((k : Int) + 1) + (Q.log2 : Int) - 52 + 1074).toNat = kU - e := by have := kU_eq; omega
  have hpe : 2 ^ (k + 1) = 2 ^ e * 2 ^ g := by rw [← Nat.pow_add]; congr 1; omega
  have lower : T * 2 ^ e ≤ kept := by
    refine Nat.le_trans ?_ k1
    rw [Nat.le_div_iff_mul_le (Nat.two_pow_pos _), Nat.mul_assoc, ← hpe, Nat.pow_succ]
    have : T * (2 ^ k * 2) = 2 * (T * 2 ^ k) := by rw [← Nat.mul_assoc, Nat.mul_comm]
    omega
  have upper : kept < (T + 1) * 2 ^ e := by
    have h1 : kept * 2 ^ g < (T + 1) * 2 ^ e * 2 ^ g := by
      have h2 : kept * 2 ^ g ≤ Q + 2 ^ g := by
        have h3 : kept * 2 ^ g ≤ (Q / 2 ^ g + 1) * 2 ^ g := Nat.mul_le_mul_right _ k2
        have h4 := Nat.div_mul_le_self Q (2 ^ g)
        rw [Nat.add_mul, Nat.one_mul] at h3
        omega
      have h5 : (T + 1) * 2 ^ e * 2 ^ g = 2 * ((T + 1) * 2 ^ k) := by
        rw [Nat.mul_assoc, ← hpe, Nat.pow_succ, ← Nat.mul_assoc, Nat.mul_comm]
      have h6 : 2 ^ g ≤ 8 := by rcases hg3 with h | h <;> subst h <;> decide
      have h7 : 16 ≤ 2 ^ (k - 3) := by
        have : 2 ^ 4 ≤ 2 ^ (k - 3) := Nat.pow_le_pow_right (by omega) (by omega)
        omega
      rw [h5]; omega
    exact Nat.lt_of_mul_lt_mul_right h1
  have hdiv : magV kept (-((k : Int) + 1) + (Q.log2 : Int) - 52) / unitV = T := by
    unfold magV unitV
    have e9 : 2 ^ kU = 2 ^ e * 2 ^ (kU - e) := by rw [← Nat.pow_add]; congr 1; have := kU_eq; omega
    rw [hplace, e9, Nat.mul_div_mul_right _ _ (Nat.two_pow_pos _)]
    apply Nat.div_eq_of_lt_le
    · exact lower
    · exact upper
  rw [toV_fin (by rw [Int.toNat_natCast]; exact hfin), hdiv]
  -- with its sign
  have hsg : sgV s T = m.tdiv n := by
    have e5 : n = (k7 : Int) := by omega
    rw [e5, hT]
    cases s with
    | false =>
      have : m = (K : Int) := by rw [← h3, hK]; simp [sgV]
      rw [this]; simp [sgV]
    | true =>
      have : m = -(K : Int) := by rw [← h3, hK]; simp [sgV]
      rw [this, Int.neg_tdiv]; simp [sgV]
  have hT31 : T ≤ 2147483648 := by
    have := Nat.div_le_self K k7
    omega
  have hlo : -2147483648 ≤ m.tdiv n := by
    rw [← hsg]
    unfold sgV
    split <;> omega
  rw [hsg, if_pos ⟨hlo, hlt⟩]

/-! ### Roots -/
theorem rootFrom_spec (n : Nat) : ∀ (todo root : Nat), root * root ≤ n → n < (root + 2 ^ todo) * (root + 2 ^ todo) →
    Ieee.Datum.rootFrom n todo root * Ieee.Datum.rootFrom n todo root ≤ n ∧ n < (Ieee.Datum.rootFrom n todo root + 1) * (Ieee.Datum.rootFrom n todo root + 1)
  | 0, root, h1, h2 => by simp only [Ieee.Datum.rootFrom]; exact ⟨h1, by simpa using h2⟩
  | todo + 1, root, h1, h2 => by
    simp only [Ieee.Datum.rootFrom, Nat.shiftLeft_eq, Nat.one_mul]
    by_cases hc : (root + 2 ^ todo) * (root + 2 ^ todo) ≤ n
    · rw [if_pos hc]
      exact rootFrom_spec n todo _ hc (by rw [Nat.pow_succ] at h2; rw [Nat.add_assoc, show 2 ^ todo + 2 ^ todo = 2 ^ todo * 2 by omega]; exact h2)
    · rw [if_neg hc]
      exact rootFrom_spec n todo _ h1 (by omega)
theorem root_square (K n : Nat) (h : n = K * K) : Ieee.Datum.rootFrom n (n.log2 / 2 + 1) 0 = K := by
  have h0 : n < (0 + 2 ^ (n.log2 / 2 + 1)) * (0 + 2 ^ (n.log2 / 2 + 1)) := by
    rw [Nat.zero_add, ← Nat.pow_add]
    have : n < 2 ^ (n.log2 + 1) := Nat.lt_log2_self
    exact Nat.lt_of_lt_of_le this (Nat.pow_le_pow_right (by omega) (by omega))
  obtain ⟨h1, h2⟩ := rootFrom_spec n (n.log2 / 2 + 1) 0 (by simp) h0
  obtain ⟨r, hr⟩ : ∃ r, r = Ieee.Datum.rootFrom n (n.log2 / 2 + 1) 0 := ⟨_, rfl⟩
  rw [← hr] at h1 h2 ⊢
  rw [h] at h1 h2
  have a1 : r ≤ K := Nat.mul_self_le_mul_self_iff.1 h1
  have a2 : K < r + 1 := Nat.mul_self_lt_mul_self_iff.1 h2
  omega

/-- A double is told by its sign and how great it is. -/
theorem FinD.inj {x y : Nat} {s : Bool} {A : Nat} (hx : FinD x s A) (hy : FinD y s A) (hx' : x < 18446744073709551616) (hy' : y < 18446744073709551616) : x = y := by
  obtain ⟨m, i, r1, i1, i2, i3, e1, c1⟩ := hx.ex
  obtain ⟨n, j, r2, j1, j2, j3, e2, c2⟩ := hy.ex
  have rung : ∀ (x m : Nat) (i : Int), Ieee.double.read x = .number s m i → m < 9007199254740992 → x % 9223372036854775808 = (i + 1074).toNat * 4503599627370496 + m ∧ (x / 9223372036854775808 % 2 == 1) = s := by
    intro x m i hr hm
    rcases read_cases x with ⟨c, e⟩ | ⟨c, c', e⟩ | ⟨c, e⟩ | ⟨c, e⟩ <;> rw [e] at hr <;> injection hr <;> rename_i q1 q2 q3
    · exact ⟨by omega, q1⟩
    · exact ⟨by omega, q1⟩
  obtain ⟨f1, g1⟩ := rung x m i r1 i3
  obtain ⟨f2, g2⟩ := rung y n j r2 j3
  have key : ∀ (m n : Nat) (i j : Int), m < 9007199254740992 → (j = -1074 ∨ 4503599627370496 ≤ n) → -1074 ≤ i → -1074 ≤ j → magV m i = magV n j → i < j → False := by
    intro m n i j hm hn hi hj hv hij
    unfold magV at hv
    have h1 : m * 2 ^ (i + 1074).toNat = n * 2 ^ (j - i).toNat * 2 ^ (i + 1074).toNat := by
      rw [hv, Nat.mul_assoc, ← Nat.pow_add]; congr 2; omega
    have h2 := Nat.eq_of_mul_eq_mul_right (Nat.two_pow_pos _) h1
    have h3 : 2 ^ 1 ≤ 2 ^ (j - i).toNat := Nat.pow_le_pow_right (by omega) (by omega)
    have h4 : n * 2 ^ 1 ≤ n * 2 ^ (j - i).toNat := Nat.mul_le_mul_left _ h3
    rcases hn with hn | hn
    · omega
    · omega
  have hij : i = j := by
    rcases (show i < j ∨ i = j ∨ j < i by omega) with h | h | h
    · exact (key m n i j i3 c2 i1 j1 (e1.symm.trans e2) h).elim
    · exact h
    · exact (key n m j i j3 c1 j1 i1 (e2.symm.trans e1) h).elim
  subst hij
  have hmn : m = n := Nat.eq_of_mul_eq_mul_right (Nat.two_pow_pos _) (e1.symm.trans e2)
  subst hmn
  have hs : x / 9223372036854775808 = y / 9223372036854775808 := by
    have a1 : x / 9223372036854775808 % 2 = y / 9223372036854775808 % 2 := by
      rw [← g2] at g1
      rcases (show x / 9223372036854775808 % 2 = 0 ∨ x / 9223372036854775808 % 2 = 1 by omega) with h | h <;>
        rcases (show y / 9223372036854775808 % 2 = 0 ∨ y / 9223372036854775808 % 2 = 1 by omega) with h' | h' <;> rw [h, h'] at g1 <;> simp at g1 <;> omega
    omega
  omega

theorem root_fin {x : Nat} {K : Nat} (h : FinD x false (K * K * unitV)) (hK : K ≠ 0) (hK2 : K < 67108864) : fsqok x = true ∧ FinD (fsqrt x) false (K * unitV) := by
  have hKK : K * K ≠ 0 := Nat.mul_ne_zero hK hK
  have hlt : K * K < 4503599627370496 := by
    have : K * K < 67108864 * 67108864 := Nat.mul_lt_mul_of_lt_of_lt hK2 hK2
    omega
  obtain ⟨M, u, r1, e1, m1, m2, u1, u2⟩ := whole_digits h hKK hlt
  obtain ⟨o, ho⟩ : ∃ o : Nat, o = ((-(u : Int) - ((2 * 54 - M.log2 : Nat) : Int)) % 2).toNat := ⟨_, rfl⟩
  have hlog := canon_log m1 m2
  obtain ⟨w, hw⟩ : ∃ w, w = (u + 56 + o) / 2 := ⟨_, rfl⟩
  have hw2 : u + 56 + o = 2 * w := by rw [hlog] at ho; omega
  have hn : M <<< (2 * 54 - M.log2 + o) = (K * 2 ^ w) * (K * 2 ^ w) := by
    rw [hlog, Nat.shiftLeft_eq, e1, Nat.mul_assoc, ← Nat.pow_add, show u + (2 * 54 - 52 + o) = w + w by omega, Nat.pow_add]
    simp only [Nat.mul_assoc, Nat.mul_left_comm, Nat.mul_comm]
  have hroot := root_square (K * 2 ^ w) _ hn
  have hM0 : M ≠ 0 := by omega
  have hv : Ieee.double.sqrt x = some (Ieee.double.nearest false (2 * (K * 2 ^ w)) (-(w : Int) - 1)) := by
    unfold Ieee.Format.sqrt
    rw [r1]
    have hd : Ieee.Datum.root (Ieee.double.fractionBits + 2) (.number false M (-(u : Int))) = some (.number false (2 * (K * 2 ^ w)) (-(w : Int) - 1)) := by
      show Ieee.Datum.root 54 (.number false M (-(u : Int))) = _
      simp only [Ieee.Datum.root, if_neg hM0, Bool.false_eq_true, if_false, ← ho, hroot]
      rw [hn]
      simp only [bne_self_eq_false, Bool.toNat_false, Nat.add_zero]
      congr 2
      rw [hlog]; omega
    rw [hd]; rfl
  have hf : fsqrt x = Ieee.double.nearest false (2 * (K * 2 ^ w)) (-(w : Int) - 1) := by unfold fsqrt; rw [hv]; rfl
  refine ⟨by unfold fsqok; rw [hv]; rfl, ?_⟩
  rw [hf]
  refine nearest_whole (by omega) (by omega) ?_ (by omega)
  have hkU := kU_eq
  unfold magV unitV
  rw [show 2 * (K * 2 ^ w) = K * 2 ^ (w + 1) by rw [Nat.pow_succ]; simp only [Nat.mul_assoc, Nat.mul_left_comm, Nat.mul_comm], Nat.mul_assoc, ← Nat.pow_add]
  congr 2; omega
end Go.Ev
