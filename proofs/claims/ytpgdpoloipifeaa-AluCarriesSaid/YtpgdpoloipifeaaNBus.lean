/- Bytes laid down and read: plain lemmas. -/
import Derived.Test.YtpgdpoloipifeaaNMem
namespace Go.Ev
open Go
set_option linter.unusedVariables false
set_option linter.unusedSimpArgs false
theorem stB_out (M : Int → Int) (a v x : Int) : ∀ n : Nat, (∀ k : Nat, k < n → x ≠ IntKind.wrap .u32 (a + (k : Int))) → stB M a v n x = M x
  | 0, _ => rfl
  | n + 1, h => by
    have e : (x == IntKind.wrap .u32 (a + (n : Int))) = false := by simpa using h n (by omega)
    show updM (stB M a v n) _ _ x = _
    unfold updM
    rw [e]
    exact stB_out M a v x n fun k hk => h k (by omega)
theorem stB_at (M : Int → Int) (a v : Int) : ∀ (n k : Nat), k < n → n ≤ 8 → stB M a v n (IntKind.wrap .u32 (a + (k : Int))) = IntKind.wrap .u8 (Int.fdiv v (2 ^ (8 * k)))
  | 0, k, h, _ => by omega
  | n + 1, k, h, hn => by
    show updM (stB M a v n) _ _ _ = _
    unfold updM
    by_cases hk : k = n
    · subst hk; simp
    · have e : (IntKind.wrap .u32 (a + (k : Int)) == IntKind.wrap .u32 (a + (n : Int))) = false := by
        simp only [beq_eq_false_iff_ne, ne_eq, wr_u32]; omega
      rw [e]
      exact stB_at M a v n k (by omega) (by omega)
theorem ldGo_eq (M : Int → Int) (a : Int) : ∀ (n : Nat) (w v : Int), n ≤ 8 → (∀ k : Nat, k < n → M (IntKind.wrap .u32 (a + (k : Int))) = v / 2 ^ (8 * k) % 256) → 0 ≤ v → 0 ≤ w → w * 2 ^ (8 * n) + v % 2 ^ (8 * n) < 18446744073709551616 →
    ldGo M a n w = w * 2 ^ (8 * n) + v % 2 ^ (8 * n)
  | 0, w, v, _, _, _, _, _ => by simp [ldGo, Int.emod_one]
  | n + 1, w, v, hn, hM, hv, hw, hlt => by
    show ldGo M a n (bitsL .or .u64 (IntKind.wrap .u64 (w * 256)) (IntKind.wrap .u64 (M (IntKind.wrap .u32 (a + (n : Int)))))) = _
    rw [hM n (by omega), bitsL_eq]
    have hp : (2 : Int) ^ (8 * (n + 1)) = 256 * 2 ^ (8 * n) := by rw [show 8 * (n + 1) = 8 + 8 * n by omega, Int.pow_add]; rfl
    have hq : (0 : Int) < 2 ^ (8 * n) := Int.pow_pos (by decide)
    have hd : v % (256 * 2 ^ (8 * n)) = v / 2 ^ (8 * n) % 256 * 2 ^ (8 * n) + v % 2 ^ (8 * n) := by
      have h1 := Int.mul_ediv_add_emod v (2 ^ (8 * n))
      have h2 := Int.mul_ediv_add_emod (v / 2 ^ (8 * n)) 256
      have h3 : v / (256 * 2 ^ (8 * n)) = v / 2 ^ (8 * n) / 256 := by rw [Int.mul_comm, Int.ediv_ediv_of_nonneg (by omega)]
      have h4 := Int.mul_ediv_add_emod v (256 * 2 ^ (8 * n))
      rw [h3] at h4
      generalize (2 : Int) ^ (8 * n) = q at *
      generalize v / q = d at *
      have h5 : 256 * q * (d / 256) = q * (256 * (d / 256)) := by rw [Int.mul_comm 256 q, Int.mul_assoc]
      have h6 : q * d = q * (256 * (d / 256)) + q * (d % 256) := by rw [← Int.mul_add, h2]
      have h7 : d % 256 * q = q * (d % 256) := Int.mul_comm _ _
      omega
    rw [hp, hd] at hlt ⊢
    have hb0 := Int.emod_nonneg (v / 2 ^ (8 * n)) (show (256 : Int) ≠ 0 by decide)
    have hb1 := Int.emod_lt_of_pos (v / 2 ^ (8 * n)) (show (0 : Int) < 256 by decide)
    have hr0 := Int.emod_nonneg v (show (2 : Int) ^ (8 * n) ≠ 0 by omega)
    generalize hbb : v / 2 ^ (8 * n) % 256 = b at *
    generalize hrr : v % 2 ^ (8 * n) = r at *
    have e1 : w * (256 * 2 ^ (8 * n)) = w * 256 * 2 ^ (8 * n) := by rw [Int.mul_assoc]
    have hw1 : w * 256 + b ≤ (w * 256 + b) * 2 ^ (8 * n) := by
      have := Int.mul_le_mul_of_nonneg_left (show (1 : Int) ≤ 2 ^ (8 * n) by omega) (show (0 : Int) ≤ w * 256 + b by omega)
      simpa using this
    have e2 : (w * 256 + b) * 2 ^ (8 * n) = w * 256 * 2 ^ (8 * n) + b * 2 ^ (8 * n) := Int.add_mul ..
    have hor : bits .or .u64 (IntKind.wrap .u64 (w * 256)) (IntKind.wrap .u64 b) = w * 256 + b := by
      rw [wr_u64_id (by omega) (by omega), wr_u64_id (by omega) (by omega)]
      exact or_64 8 hb0 hb1 hw (by simpa using (show w * 256 + b < 18446744073709551616 by omega))
    rw [hor, ldGo_eq M a n (w * 256 + b) v (by omega) (fun k hk => hM k (by omega)) hv (by omega) (by rw [hrr]; omega), hrr]
    omega
theorem fdiv_byte {v : Int} (hv : 0 ≤ v) (k : Nat) : IntKind.wrap .u8 (Int.fdiv v (2 ^ (8 * k))) = v / 2 ^ (8 * k) % 256 := by
  have hq : (0 : Int) < 2 ^ (8 * k) := Int.pow_pos (by decide)
  rw [wr_u8, Int.fdiv_eq_ediv_of_nonneg _ (by omega)]
theorem ld_st (M : Int → Int) (a v : Int) (n : Nat) (hn : n ≤ 8) (hv : 0 ≤ v) (hv2 : v < 18446744073709551616) : ldGo (stB M a v n) a n 0 = v % 2 ^ (8 * n) := by
  have hq : (0 : Int) < 2 ^ (8 * n) := Int.pow_pos (by decide)
  have hle : v % 2 ^ (8 * n) ≤ v := by
    have h1 := Int.mul_ediv_add_emod v (2 ^ (8 * n))
    have h2 : 0 ≤ v / 2 ^ (8 * n) := Int.ediv_nonneg hv (by omega)
    have := Int.mul_nonneg (show (0 : Int) ≤ 2 ^ (8 * n) by omega) h2
    omega
  rw [ldGo_eq _ a n 0 v hn (fun k hk => by rw [stB_at M a v n k hk hn, fdiv_byte hv]) hv (by decide) (by omega)]
  omega
end Go.Ev
namespace Go.Ev
open Go
theorem segE_ok {b s off n : Int} (h1 : off + clampN n ≤ s) (h2 : b + s ≤ 4294967296) : segE b s off n true = 0 := by
  unfold segE
  rw [show decide (off + clampN n > s) = false from decide_eq_false (by omega), show decide (b + s > 4294967296) = false from decide_eq_false (by omega)]
  rfl
theorem segE_no {b s off n : Int} (h1 : off + clampN n > s) : segE b s off n true = 24 := by
  unfold segE
  rw [show decide (off + clampN n > s) = true from decide_eq_true h1]
  rfl
theorem and_low_64 (n : Nat) {x m : Int} (h0 : 0 ≤ x) (h1 : x < 18446744073709551616) (hm : m = 2 ^ n - 1) (hn : n ≤ 64) : bits .and .u64 x m = x % 2 ^ n := by
  have hp : (2 : Int) ^ n = ((2 ^ n : Nat) : Int) := by simp
  have hle : (2 : Nat) ^ n ≤ 2 ^ 64 := Nat.pow_le_pow_right (by omega) hn
  have hpos : 0 < (2 : Nat) ^ n := Nat.pow_pos (by omega)
  have h64 : (2 : Nat) ^ 64 = 18446744073709551616 := rfl
  rw [u64_and _ _ h0 h1 (by omega) (by omega)]
  have : m.toNat = 2 ^ n - 1 := by omega
  rw [this, Nat.and_two_pow_sub_one_eq_mod, hp]
  obtain ⟨y, rfl⟩ := Int.eq_ofNat_of_zero_le h0
  simp
end Go.Ev
