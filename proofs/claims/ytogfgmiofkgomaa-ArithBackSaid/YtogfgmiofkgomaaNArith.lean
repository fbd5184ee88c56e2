/- Sums and their flags, in plain numbers. -/
import Derived.Test.YtogfgmiofkgomaaEv8
namespace Go.Ev
open Go
set_option linter.unusedVariables false

def szM (n : Int) : Int := if n ≤ 1 then 256 else if n ≤ 3 then 65536 else 4294967296
def szW (n : Int) : Nat := if n ≤ 1 then 7 else if n ≤ 3 then 15 else 31
def cutV (v n : Int) : Int := v % szM n
def topV (v n : Int) : Bool := decide (szM n ≤ 2 * (v % szM n))
def ones8 (x : Int) : Int := x % 2 + x / 2 % 2 + x / 4 % 2 + x / 8 % 2 + x / 16 % 2 + x / 32 % 2 + x / 64 % 2 + x / 128 % 2
def parV (v : Int) : Bool := ones8 (v % 256) % 2 == 0
def sgnV (v n : Int) : Int := bif topV v n then v % szM n - szM n else v % szM n
def b2i (c : Bool) : Int := bif c then 1 else 0
def addS (a b n : Int) (c : Bool) : Int := a % szM n + b % szM n + b2i c
def addV (a b n : Int) (c : Bool) : Int := addS a b n c % szM n
def addO (a b n : Int) (c : Bool) : Bool := (topV a n == topV b n) && !(topV (addV a b n c) n == topV a n)
def subS (a b n : Int) (c : Bool) : Int := a % szM n - b % szM n - b2i c
def subV (a b n : Int) (c : Bool) : Int := subS a b n c % szM n
def subO (a b n : Int) (c : Bool) : Bool := !(topV a n == topV b n) && !(topV (subV a b n c) n == topV a n)

theorem szM_cases (n : Int) : (n ≤ 1 ∧ szM n = 256 ∧ szW n = 7) ∨ (¬ n ≤ 1 ∧ n ≤ 3 ∧ szM n = 65536 ∧ szW n = 15) ∨ (¬ n ≤ 1 ∧ ¬ n ≤ 3 ∧ szM n = 4294967296 ∧ szW n = 31) := by
  unfold szM szW
  by_cases h : n ≤ 1
  · exact .inl ⟨h, by rw [if_pos h], by rw [if_pos h]⟩
  · by_cases h' : n ≤ 3
    · exact .inr (.inl ⟨h, h', by rw [if_neg h, if_pos h'], by rw [if_neg h, if_pos h']⟩)
    · exact .inr (.inr ⟨h, h', by rw [if_neg h, if_neg h'], by rw [if_neg h, if_neg h']⟩)
theorem cutV_in (v n : Int) : in32 (cutV v n) = true := by
  rw [in32_iff]; unfold cutV; rcases szM_cases n with ⟨_, h, _⟩ | ⟨_, _, h, _⟩ | ⟨_, _, h, _⟩ <;> rw [h] <;> omega
theorem b2i_bd (c : Bool) : 0 ≤ b2i c ∧ b2i c ≤ 1 := by cases c <;> exact ⟨by decide, by decide⟩

theorem and_255 {x : Int} (h0 : 0 ≤ x) (h1 : x < 4294967296) : bits .and .u32 x 255 = x % 256 := by
  rw [u32_and _ _ h0 h1 (by omega) (by omega)]
  have : x.toNat &&& (255 : Int).toNat = x.toNat % 2 ^ 8 := Nat.and_two_pow_sub_one_eq_mod x.toNat 8
  rw [this]; omega
theorem and_65535 {x : Int} (h0 : 0 ≤ x) (h1 : x < 4294967296) : bits .and .u32 x 65535 = x % 65536 := by
  rw [u32_and _ _ h0 h1 (by omega) (by omega)]
  have : x.toNat &&& (65535 : Int).toNat = x.toNat % 2 ^ 16 := Nat.and_two_pow_sub_one_eq_mod x.toNat 16
  rw [this]; omega
theorem and_all {x : Int} (h0 : 0 ≤ x) (h1 : x < 4294967296) : bits .and .u32 x 4294967295 = x % 4294967296 := by
  rw [u32_and _ _ h0 h1 (by omega) (by omega)]
  have : x.toNat &&& (4294967295 : Int).toNat = x.toNat % 2 ^ 32 := Nat.and_two_pow_sub_one_eq_mod x.toNat 32
  rw [this]; omega
theorem and_1 {x : Int} (h0 : 0 ≤ x) (h1 : x < 4294967296) : bits .and .u32 x 1 = x % 2 := by
  rw [u32_and _ _ h0 h1 (by omega) (by omega)]
  have : x.toNat &&& (1 : Int).toNat = x.toNat % 2 ^ 1 := Nat.and_two_pow_sub_one_eq_mod x.toNat 1
  rw [this]; omega

theorem topV_tb {x : Int} (n : Int) (h0 : 0 ≤ x) (h1 : x < 4294967296) : topV x n = x.toNat.testBit (szW n) := by
  rw [Nat.testBit_eq_decide_div_mod_eq]
  unfold topV
  rw [Bool.eq_iff_iff, decide_eq_true_eq, decide_eq_true_eq]
  rcases szM_cases n with ⟨_, h, h'⟩ | ⟨_, _, h, h'⟩ | ⟨_, _, h, h'⟩ <;> rw [h, h'] <;> omega
theorem topV_cut (x n : Int) : topV (cutV x n) n = topV x n := by
  unfold topV cutV; rw [Int.emod_emod_of_dvd _ (Int.dvd_refl _)]
theorem topV_xor {x y : Int} (n : Int) (h0 : 0 ≤ x) (h1 : x < 4294967296) (h2 : 0 ≤ y) (h3 : y < 4294967296) :
    topV (bits .xor .u32 x y) n = (topV x n != topV y n) := by
  rw [u32_xor _ _ h0 h1 h2 h3, topV_tb n (by omega) (by
    have := Nat.xor_lt_two_pow (n := 32) (show x.toNat < 2 ^ 32 by omega) (show y.toNat < 2 ^ 32 by omega)
    omega), topV_tb n h0 h1, topV_tb n h2 h3]
  rw [Int.toNat_natCast, Nat.testBit_xor]
theorem xor_in {x y : Int} (h0 : 0 ≤ x) (h1 : x < 4294967296) (h2 : 0 ≤ y) (h3 : y < 4294967296) : 0 ≤ bits .xor .u32 x y ∧ bits .xor .u32 x y < 4294967296 := by
  rw [u32_xor _ _ h0 h1 h2 h3]
  have := Nat.xor_lt_two_pow (n := 32) (show x.toNat < 2 ^ 32 by omega) (show y.toNat < 2 ^ 32 by omega)
  omega
theorem and_in {x y : Int} (h0 : 0 ≤ x) (h1 : x < 4294967296) (h2 : 0 ≤ y) (h3 : y < 4294967296) : 0 ≤ bits .and .u32 x y ∧ bits .and .u32 x y < 4294967296 := by
  rw [u32_and _ _ h0 h1 h2 h3]
  have := Nat.and_lt_two_pow (n := 32) x.toNat (show y.toNat < 2 ^ 32 by omega)
  omega
theorem topV_and {x y : Int} (n : Int) (h0 : 0 ≤ x) (h1 : x < 4294967296) (h2 : 0 ≤ y) (h3 : y < 4294967296) :
    topV (bits .and .u32 x y) n = (topV x n && topV y n) := by
  have hb := and_in h0 h1 h2 h3
  rw [topV_tb n hb.1 hb.2, topV_tb n h0 h1, topV_tb n h2 h3, u32_and _ _ h0 h1 h2 h3, Int.toNat_natCast, Nat.testBit_and]
def tV (n : Int) : Int := szM n / 2
theorem tV_eq (n : Int) : tV n = 2 ^ szW n := by
  unfold tV
  rcases szM_cases n with ⟨_, h, h'⟩ | ⟨_, _, h, h'⟩ | ⟨_, _, h, h'⟩ <;> rw [h, h'] <;> rfl
theorem nat_and_pow (x k : Nat) : x &&& 2 ^ k = (bif x.testBit k then 2 ^ k else 0) := by
  apply Nat.eq_of_testBit_eq
  intro i
  rw [Nat.testBit_and, Nat.testBit_two_pow]
  cases h : x.testBit k with
  | true =>
    rw [cond_true, Nat.testBit_two_pow]
    by_cases e : k = i
    · subst e; simp [h]
    · simp [e]
  | false =>
    rw [cond_false, Nat.zero_testBit]
    by_cases e : k = i
    · subst e; simp [h]
    · simp [e]
theorem and_t {x : Int} (n : Int) (h0 : 0 ≤ x) (h1 : x < 4294967296) : bits .and .u32 x (tV n) = (bif topV x n then tV n else 0) := by
  have ht : 0 ≤ tV n ∧ tV n < 4294967296 := by
    unfold tV; rcases szM_cases n with ⟨_, h, _⟩ | ⟨_, _, h, _⟩ | ⟨_, _, h, _⟩ <;> rw [h] <;> omega
  have e : (tV n).toNat = 2 ^ szW n := by
    unfold tV; rcases szM_cases n with ⟨_, h, h'⟩ | ⟨_, _, h, h'⟩ | ⟨_, _, h, h'⟩ <;> rw [h, h'] <;> rfl
  rw [u32_and _ _ h0 h1 ht.1 ht.2, e, nat_and_pow, ← topV_tb n h0 h1]
  cases topV x n
  · rfl
  · rw [cond_true, cond_true, ← e]; omega
theorem tV_pos (n : Int) : 0 < tV n := by unfold tV; rcases szM_cases n with ⟨_, h, _⟩ | ⟨_, _, h, _⟩ | ⟨_, _, h, _⟩ <;> rw [h] <;> omega
theorem and_t_nz {x : Int} (n : Int) (h0 : 0 ≤ x) (h1 : x < 4294967296) : (bits .and .u32 x (tV n) != 0) = topV x n := by
  rw [and_t n h0 h1]
  have := tV_pos n
  cases topV x n
  · rfl
  · rw [cond_true, Bool.eq_iff_iff]; simp; omega
theorem and_t_eq {x y : Int} (n : Int) (h0 : 0 ≤ x) (h1 : x < 4294967296) (h2 : 0 ≤ y) (h3 : y < 4294967296) : (bits .and .u32 x (tV n) == bits .and .u32 y (tV n)) = (topV x n == topV y n) := by
  rw [and_t n h0 h1, and_t n h2 h3]
  have := tV_pos n
  cases topV x n <;> cases topV y n
  · rfl
  · rw [cond_true, cond_false, Bool.eq_iff_iff]; simp; omega
  · rw [cond_true, cond_false, Bool.eq_iff_iff]; simp; omega
  · rw [Bool.eq_iff_iff]; simp
theorem or_mask (k : Nat) (m x : Nat) (hx : x < 2 ^ k) (h : m * 2 ^ k + x < 4294967296) : bits .or .u32 (x : Int) ((m * 2 ^ k : Nat) : Int) = ((m * 2 ^ k + x : Nat) : Int) := by
  rw [u32_or _ _ (by omega) (by omega) (by omega) (by omega), Int.toNat_natCast, Int.toNat_natCast, Nat.or_comm, nat_join k _ _ (by simp) hx]
theorem sgnV_sh8 {v : Int} (h0 : 0 ≤ v) (h1 : v < 4294967296) {n : Int} (h : szM n = 256) : Int.fdiv (IntKind.wrap IntKind.i32 (IntKind.wrap IntKind.u32 (v * 16777216))) 16777216 = sgnV v n := by
  rw [wr_i32, wr_u32, Int.fdiv_eq_ediv_of_nonneg _ (by omega)]
  unfold sgnV topV
  rw [h]
  by_cases c : (256 : Int) ≤ 2 * (v % 256)
  · rw [decide_eq_true c, cond_true]; omega
  · rw [decide_eq_false c, cond_false]; omega
theorem sgnV_sh16 {v : Int} (h0 : 0 ≤ v) (h1 : v < 4294967296) {n : Int} (h : szM n = 65536) : Int.fdiv (IntKind.wrap IntKind.i32 (IntKind.wrap IntKind.u32 (v * 65536))) 65536 = sgnV v n := by
  rw [wr_i32, wr_u32, Int.fdiv_eq_ediv_of_nonneg _ (by omega)]
  unfold sgnV topV
  rw [h]
  by_cases c : (65536 : Int) ≤ 2 * (v % 65536)
  · rw [decide_eq_true c, cond_true]; omega
  · rw [decide_eq_false c, cond_false]; omega
theorem sgnV_sh32 {v : Int} (h0 : 0 ≤ v) (h1 : v < 4294967296) {n : Int} (h : szM n = 4294967296) : Int.fdiv (IntKind.wrap IntKind.i32 (IntKind.wrap IntKind.u32 (v * 1))) 1 = sgnV v n := by
  rw [wr_i32, wr_u32, Int.fdiv_eq_ediv_of_nonneg _ (by omega)]
  unfold sgnV topV
  rw [h]
  by_cases c : (4294967296 : Int) ≤ 2 * (v % 4294967296)
  · rw [decide_eq_true c, cond_true]; omega
  · rw [decide_eq_false c, cond_false]; omega
theorem cut_wrap (x n : Int) : cutV (IntKind.wrap IntKind.u32 x) n = x % szM n := by
  unfold cutV; rw [wr_u32]
  rcases szM_cases n with ⟨_, h, _⟩ | ⟨_, _, h, _⟩ | ⟨_, _, h, _⟩ <;> rw [h] <;> omega
theorem cut_bd (x n : Int) : 0 ≤ cutV x n ∧ cutV x n < 4294967296 := in32_iff.1 (cutV_in x n)
theorem add_sum (a b n : Int) (c : Bool) : IntKind.wrap IntKind.u64 (IntKind.wrap IntKind.u64 (IntKind.wrap IntKind.u64 (cutV a n) + IntKind.wrap IntKind.u64 (cutV b n)) + b2i c) = addS a b n c := by
  have ha := cut_bd a n; have hb := cut_bd b n; have hc := b2i_bd c
  rw [wr_u64_id ha.1 (by omega), wr_u64_id hb.1 (by omega), wr_u64_id (n := cutV a n + cutV b n) (by omega) (by omega), wr_u64_id (by omega) (by omega)]
  rfl
theorem addS_bd (a b n : Int) (c : Bool) : 0 ≤ addS a b n c ∧ addS a b n c < 2 * szM n := by
  have hc := b2i_bd c
  unfold addS
  rcases szM_cases n with ⟨_, h, _⟩ | ⟨_, _, h, _⟩ | ⟨_, _, h, _⟩ <;> rw [h] <;> omega
theorem addV_bd (a b n : Int) (c : Bool) : 0 ≤ addV a b n c ∧ addV a b n c < 4294967296 := cut_bd (addS a b n c) n
theorem subV_bd (a b n : Int) (c : Bool) : 0 ≤ subV a b n c ∧ subV a b n c < 4294967296 := cut_bd (subS a b n c) n
theorem sub_dif (a b n : Int) (c : Bool) : cutV (IntKind.wrap IntKind.u32 (IntKind.wrap IntKind.u32 (cutV a n - cutV b n) - IntKind.wrap IntKind.u32 (b2i c))) n = subV a b n c := by
  rw [cut_wrap, wr_u32, wr_u32]
  unfold subV subS cutV
  have hc := b2i_bd c
  rcases szM_cases n with ⟨_, h, _⟩ | ⟨_, _, h, _⟩ | ⟨_, _, h, _⟩ <;> rw [h] <;> omega
theorem sub_less (a b n : Int) (c : Bool) : decide (IntKind.wrap IntKind.u64 (cutV a n) < IntKind.wrap IntKind.u64 (IntKind.wrap IntKind.u64 (cutV b n) + b2i c)) = decide (subS a b n c < 0) := by
  have ha := cut_bd a n; have hb := cut_bd b n; have hc := b2i_bd c
  rw [wr_u64_id ha.1 (by omega), wr_u64_id hb.1 (by omega), wr_u64_id (by omega) (by omega)]
  unfold subS
  change decide (cutV a n < cutV b n + b2i c) = decide (cutV a n - cutV b n - b2i c < 0)
  rw [Bool.eq_iff_iff]; simp; omega
theorem add_over (a b n : Int) (c : Bool) : topV (bits .and .u32 (bits .xor .u32 (cutV a n) (addV a b n c)) (bits .xor .u32 (cutV b n) (addV a b n c))) n = addO a b n c := by
  have ha := cut_bd a n; have hb := cut_bd b n; have hv := addV_bd a b n c
  have hx := xor_in ha.1 ha.2 hv.1 hv.2; have hy := xor_in hb.1 hb.2 hv.1 hv.2
  rw [topV_and n hx.1 hx.2 hy.1 hy.2, topV_xor n ha.1 ha.2 hv.1 hv.2, topV_xor n hb.1 hb.2 hv.1 hv.2, topV_cut, topV_cut]
  unfold addO
  cases topV a n <;> cases topV b n <;> cases topV (addV a b n c) n <;> rfl
theorem sub_over (a b n : Int) (c : Bool) : topV (bits .and .u32 (bits .xor .u32 (cutV a n) (cutV b n)) (bits .xor .u32 (cutV a n) (subV a b n c))) n = subO a b n c := by
  have ha := cut_bd a n; have hb := cut_bd b n; have hv := subV_bd a b n c
  have hx := xor_in ha.1 ha.2 hb.1 hb.2; have hy := xor_in ha.1 ha.2 hv.1 hv.2
  rw [topV_and n hx.1 hx.2 hy.1 hy.2, topV_xor n ha.1 ha.2 hb.1 hb.2, topV_xor n ha.1 ha.2 hv.1 hv.2, topV_cut, topV_cut]
  unfold subO
  cases topV a n <;> cases topV b n <;> cases topV (subV a b n c) n <;> rfl
theorem xa_in {a b x y : Int} (ha : 0 ≤ a ∧ a < 4294967296) (hb : 0 ≤ b ∧ b < 4294967296) (hx : 0 ≤ x ∧ x < 4294967296) (hy : 0 ≤ y ∧ y < 4294967296) : in32 (bits .and .u32 (bits .xor .u32 a b) (bits .xor .u32 x y)) = true := by
  have h1 := xor_in ha.1 ha.2 hb.1 hb.2; have h2 := xor_in hx.1 hx.2 hy.1 hy.2
  exact in32_iff.2 (and_in h1.1 h1.2 h2.1 h2.2)
theorem carry8 {a b n : Int} {c : Bool} (h : szM n = 256) : (Int.fdiv (addS a b n c) 256 != 0) = decide (szM n ≤ addS a b n c) := by
  have hb := addS_bd a b n c
  rw [Int.fdiv_eq_ediv_of_nonneg _ (by omega), Bool.eq_iff_iff, h]; rw [h] at hb; simp; omega
theorem carry16 {a b n : Int} {c : Bool} (h : szM n = 65536) : (Int.fdiv (addS a b n c) 65536 != 0) = decide (szM n ≤ addS a b n c) := by
  have hb := addS_bd a b n c
  rw [Int.fdiv_eq_ediv_of_nonneg _ (by omega), Bool.eq_iff_iff, h]; rw [h] at hb; simp; omega
theorem carry32 {a b n : Int} {c : Bool} (h : szM n = 4294967296) : (Int.fdiv (addS a b n c) 4294967296 != 0) = decide (szM n ≤ addS a b n c) := by
  have hb := addS_bd a b n c
  rw [Int.fdiv_eq_ediv_of_nonneg _ (by omega), Bool.eq_iff_iff, h]; rw [h] at hb; simp; omega
end Go.Ev
