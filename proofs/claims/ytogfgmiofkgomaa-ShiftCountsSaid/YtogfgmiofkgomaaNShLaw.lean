/- Shifts and turns: how they go together. -/
import Derived.Test.YtogfgmiofkgomaaNShift
namespace Go.Ev
open Go
set_option linter.unusedVariables false

theorem rV_eq {op v n : Int} (ho : knownV op = true) (h0 : 0 ≤ v) (h1 : v < 4294967296) : rV op v n = shW op v (shK n) := by
  unfold rV shOn
  rw [ho, Bool.true_and]
  cases hz : (n % 32 == 0) with
  | true =>
    have hz' : n % 32 = 0 := by simpa using hz
    have : shK n = 0 := by unfold shK; omega
    rw [this, sh0 h0 h1]; rfl
  | false => rfl
theorem sh_sh {op v : Int} (ho : knownV op = true) (h0 : 0 ≤ v) (h1 : v < 4294967296) (a : Nat) : ∀ b : Nat, a + b < 32 → shW op (shW op v a) b = shW op v (a + b)
  | 0, h => by
    have hb := sh_bd ho h0 h1 a (by omega)
    rw [sh0 hb.1 hb.2]; rfl
  | b + 1, h => by
    have hb := sh_bd ho h0 h1 a (by omega)
    rw [← (st_next ho hb.1 hb.2 b (by omega)).1, sh_sh ho h0 h1 a b (by omega), (st_next ho h0 h1 (a + b) (by omega)).1]; rfl
theorem st_back {w : Int} (h0 : 0 ≤ w) (h1 : w < 4294967296) : stW 27 (stW 26 w) = w := by
  rw [s27, s26]
  have e1 : w * 2 % 4294967296 = w % 2147483648 * 2 := by omega
  rw [e1]
  have e2 : (w % 2147483648 * 2 + w / 2147483648) / 2 = w % 2147483648 := by omega
  have e3 : (w % 2147483648 * 2 + w / 2147483648) % 2 = w / 2147483648 := by omega
  rw [e2, e3]; omega
theorem st26_bd {w : Int} (h0 : 0 ≤ w) (h1 : w < 4294967296) : 0 ≤ stW 26 w ∧ stW 26 w < 4294967296 := by rw [s26]; omega
theorem turn_back {v : Int} (h0 : 0 ≤ v) (h1 : v < 4294967296) : ∀ a : Nat, a < 32 → shW 27 (shW 26 v a) a = v
  | 0, h => by
    have hb := bd26 h0 h1 0 (by omega)
    rw [sh0 hb.1 hb.2, sh0 h0 h1]
  | a + 1, h => by
    have hb := bd26 h0 h1 a (by omega)
    have hs := st26_bd hb.1 hb.2
    rw [← st26 h0 h1 a (by omega), Nat.add_comm a 1, ← sh_sh (op := 27) rfl hs.1 hs.2 1 a (by omega)]
    have e : shW 27 (stW 26 (shW 26 v a)) 1 = shW 26 v a := by
      have := st27 hs.1 hs.2 0 (by omega)
      rw [sh0 hs.1 hs.2, st_back hb.1 hb.2] at this
      exact this.symm
    rw [e]; exact turn_back h0 h1 a (by omega)
theorem shK_mod (n : Int) : shK (n % 32) = shK n := by unfold shK; omega
theorem shOn_mod (op n : Int) : shOn op (n % 32) = shOn op n := by
  unfold shOn; rw [Int.emod_emod_of_dvd _ (Int.dvd_refl _)]
theorem r_mod (op v n : Int) (c p z s o : Bool) : rV op v (n % 32) = rV op v n ∧ rC op v (n % 32) c = rC op v n c ∧ rP op v (n % 32) p = rP op v n p ∧ rZ op v (n % 32) z = rZ op v n z ∧ rS op v (n % 32) s = rS op v n s ∧ rO op v (n % 32) o = rO op v n o := by
  simp only [rV, rC, rP, rZ, rS, rO, shOn_mod, shK_mod, and_self]
theorem shOn_0 (op : Int) {n : Int} (h : n % 32 = 0) : shOn op n = false := by unfold shOn; rw [h]; simp
theorem not_mask31 {x : Int} (h0 : 0 ≤ x) (h1 : x < 4294967296) : bits .andNot .u32 x 31 = x - x % 32 := by
  rw [u32_andNot _ _ h0 h1 (by omega) (by omega)]
  obtain ⟨x, rfl⟩ := Int.eq_ofNat_of_zero_le h0
  rw [Int.toNat_natCast, show 4294967295 - (31 : Int).toNat = 134217727 <<< 5 from rfl]
  have hx : x = (x / 32) <<< 5 ||| x % 32 := by
    rw [Nat.shiftLeft_eq, nat_join 5 _ _ (Nat.mul_mod_left _ _) (Nat.mod_lt _ (by decide))]; omega
  have h : x &&& 134217727 <<< 5 = x / 32 * 32 := by
    have hr : ∀ r : Nat, r < 32 → r &&& 134217727 <<< 5 = 0 := by decide
    have hy : x / 32 &&& 134217727 = x / 32 := by
      have := Nat.and_two_pow_sub_one_eq_mod (x / 32) 27
      rw [show 2 ^ 27 - 1 = 134217727 from rfl] at this
      rw [this]; omega
    calc x &&& 134217727 <<< 5 = ((x / 32) <<< 5 ||| x % 32) &&& 134217727 <<< 5 := by rw [← hx]
      _ = x / 32 * 32 := by
        rw [Nat.and_or_distrib_right, hr _ (Nat.mod_lt _ (by decide)), ← Nat.shiftLeft_and_distrib, hy, Nat.or_zero, Nat.shiftLeft_eq]
  rw [h]; omega
theorem floor_t (q : Int) {d : Int} (hd : 0 < d) : (bif decide (Int.tmod q d < 0) then Int.tdiv q d - 1 else Int.tdiv q d) = q / d := by
  have h1 : Int.tmod q d + d * Int.tdiv q d = q := Int.tmod_add_mul_tdiv q d
  have h2 := Int.tmod_lt_of_pos q hd
  by_cases hq : Int.tmod q d < 0
  · rw [decide_eq_true hq, cond_true]
    have h3 : -d < Int.tmod q d := Int.lt_tmod_of_pos q hd
    exact ((Int.ediv_emod_unique hd).2 ⟨show (Int.tmod q d + d) + d * (Int.tdiv q d - 1) = q by rw [Int.mul_sub]; omega, by omega, by omega⟩).1.symm
  · rw [decide_eq_false hq, cond_false]
    exact ((Int.ediv_emod_unique hd).2 ⟨h1, by omega, h2⟩).1.symm
end Go.Ev
