/- Sums and their flags, in plain numbers. -/
import Derived.Test.YtpgdpoloipifeaaEv8
namespace Go.Ev
open Go
set_option linter.unusedVariables false

def szM (n : Int) : Int := if n ≤ 1 then 256 else if n ≤ 3 then 65536 else 4294967296
def szW (n : Int) : Nat := if n ≤ 1 then 7 else if n ≤ 3 then 15 else 31
def cutV (v n : Int) : Int := v % szM n
def topV (v n : Int) : Bool := decide (szM n ≤ 2 * (v % szM n))
def ones8 (x : Int) : Int := x % 2 + x / 2 % 2 + x / 4 % 2 + x / 8 % 2 + x / 16 % 2 + x / 32 % 2 + x / 64 % 2 + x / 128 % 2
def parV (v : Int) : Bool := ones8 (v % 256) % 2 == 0
def sgnV (v n : Int) : Int := bif topV v n then v % szM n - szM n else v % szM n
def b2i (c : Bool) : Int := bif c then 1 else 0
def addS (a b n : Int) (c : Bool) : Int := a % szM n + b % szM n + b2i c
def addV (a b n : Int) (c : Bool) : Int := addS a b n c % szM n
def addO (a b n : Int) (c : Bool) : Bool := (topV a n == topV b n) && !(topV (addV a b n c) n == topV a n)
def subS (a b n : Int) (c : Bool) : Int := a % szM n - b % szM n - b2i c
def subV (a b n : Int) (c : Bool) : Int := subS a b n c % szM n
def subO (a b n : Int) (c : Bool) : Bool := !(topV a n == topV b n) && !(topV (subV a b n c) n == topV a n)

theorem szM_cases (n : Int) : (n ≤ 1 ∧ szM n = 256 ∧ szW n = 7) ∨ (¬ n ≤ 1 ∧ n ≤ 3 ∧ szM n = 65536 ∧ szW n = 15) ∨ (¬ n ≤ 1 ∧ ¬ n ≤ 3 ∧ szM n = 4294967296 ∧ szW n = 31) := by
  unfold szM szW
  by_cases h : n ≤ 1
  · exact .inl ⟨h, by rw [if_pos h], by rw [if_pos h]⟩
  · by_cases h' : n ≤ 3
    · exact .inr (.inl ⟨h, h', by rw [if_neg h, if_pos h'], by rw [if_neg h, if_pos h']⟩)
    · exact .inr (.inr ⟨h, h', by rw [if_neg h, if_neg h'], by rw [if_neg h, if_neg h']⟩)
theorem cutV_in (v n : Int) : in32 (cutV v n) = true := by
  rw [in32_iff]; unfold cutV; rcases szM_cases n with ⟨_, h, _⟩ | ⟨_, _, h, _⟩ | ⟨_, _, h, _⟩ <;> rw [h] <;> omega
theorem b2i_bd (c : Bool) : 0 ≤ b2i c ∧ b2i c ≤ 1 := by cases c <;> exact ⟨by decide, by decide⟩

theorem and_255 {x : Int} (h0 : 0 ≤ x) (h1 : x < 4294967296) : bits .and .u32 x 255 = x % 256 := by
  rw [u32_and _ _ h0 h1 (by omega) (by omega)]
  have : x.toNat &&& (255 : Int).toNat = x.toNat % 2 ^ 8 := Nat.and_two_pow_sub_one_eq_mod x.toNat 8
  rw [this]; omega
theorem and_65535 {x : Int} (h0 : 0 ≤ x) (h1 : x < 4294967296) : bits .and .u32 x 65535 = x % 65536 := by
  rw [u32_and _ _ h0 h1 (by omega) (by omega)]
  have : x.toNat &&& (65535 : Int).toNat = x.toNat % 2 ^ 16 := Nat.and_two_pow_sub_one_eq_mod x.toNat 16
  rw [this]; omega
theorem and_all {x : Int} (h0 : 0 ≤ x) (h1 : x < 4294967296) : bits .and .u32 x 4294967295 = x % 4294967296 := by
  rw [u32_and _ _ h0 h1 (by omega) (by omega)]
  have : x.toNat &&& (4294967295 : Int).toNat = x.toNat % 2 ^ 32 := Nat.and_two_pow_sub_one_eq_mod x.toNat 32
  rw [this]; omega
theorem and_1 {x : Int} (h0 : 0 ≤ x) (h1 : x < 4294967296) : bits .and .u32 x 1 = x % 2 := by
  rw [u32_and _ _ h0 h1 (by omega) (by omega)]
  have : x.toNat &&& (1 : Int).toNat = x.toNat % 2 ^ 1 := Nat.and_two_pow_sub_one_eq_mod x.toNat 1
  rw [this]; omega

theorem topV_tb {x : Int} (n : Int) (h0 : 0 ≤ x) (h1 : x < 4294967296) : topV x n = x.toNat.testBit (szW n) := by
  rw [Nat.testBit_eq_decide_div_mod_eq]
  unfold topV
  rw [Bool.eq_iff_iff, decide_eq_true_eq, decide_eq_true_eq]
  rcases szM_cases n with ⟨_, h, h'⟩ | ⟨_, _, h, h'⟩ | ⟨_, _, h, h'⟩ <;> rw [h, h'] <;> omega
theorem topV_cut (x n : Int) : topV (cutV x n) n = topV x n := by
  unfold topV cutV; rw [Int.emod_emod_of_dvd _ (Int.dvd_refl _)]
theorem topV_xor {x y : Int} (n : Int) (h0 : 0 ≤ x) (h1 : x < 4294967296) (h2 : 0 ≤ y) (h3 : y < 4294967296) :
    topV (bits .xor .u32 x y) n = (topV x n != topV y n) := by
  rw [u32_xor _ _ h0 h1 h2 h3, topV_tb n (by omega) (by
    have := Nat.xor_lt_two_pow (n := 32) (show x.toNat < 2 ^ 32 by omega) (show y.toNat < 2 ^ 32 by omega)
    omega), topV_tb n h0 h1, topV_tb n h2 h3]
  rw [Int.toNat_natCast, Nat.testBit_xor]
theorem xor_in {x y : Int} (h0 : 0 ≤ x) (h1 : x < 4294967296) (h2 : 0 ≤ y) (h3 : y < 4294967296) : 0 ≤ bits .xor .u32 x y ∧ bits .xor .u32 x y < 4294967296 := by
  rw [u32_xor _ _ h0 h1 h2 h3]
  have := Nat.xor_lt_two_pow (n := 32) (show x.toNat < 2 ^ 32 by omega) (show y.toNat < 2 ^ 32 by omega)
  omega
theorem and_in {x y : Int} (h0 : 0 ≤ x) (h1 : x < 4294967296) (h2 : 0 ≤ y) (h3 : y < 4294967296) : 0 ≤ bits .and .u32 x y ∧ bits .and .u32 x y < 4294967296 := by
  rw [u32_and _ _ h0 h1 h2 h3]
  have := Nat.and_lt_two_pow (n := 32) x.toNat (show y.toNat < 2 ^ 32 by omega)
  omega
theorem topV_and {x y : Int} (n : Int) (h0 : 0 ≤ x) (h1 : x < 4294967296) (h2 : 0 ≤ y) (h3 : y < 4294967296) :
    topV (bits .and .u32 x y) n = (topV x n && topV y n) := by
  have hb := and_in h0 h1 h2 h3
  rw [topV_tb n hb.1 hb.2, topV_tb n h0 h1, topV_tb n h2 h3, u32_and _ _ h0 h1 h2 h3, Int.toNat_natCast, Nat.testBit_and]
def tV (n : Int) : Int := szM n / 2
theorem tV_eq (n : Int) : tV n = 2 ^ szW n := by
  unfold tV
  rcases szM_cases n with ⟨_, h, h'⟩ | ⟨_, _, h, h'⟩ | ⟨_, _, h, h'⟩ <;> rw [h, h'] <;> rfl
theorem nat_and_pow (x k : Nat) : x &&& 2 ^ k = (bif x.testBit k then 2 ^ k else 0) := by
  apply Nat.eq_of_testBit_eq
  intro i
  rw [Nat.testBit_and, Nat.testBit_two_pow]
  cases h : x.testBit k with
  | true =>
    rw [cond_true, Nat.testBit_two_pow]
    by_cases e : k = i
    · subst e; simp [h]
    · simp [e]
  | false =>
    rw [cond_false, Nat.zero_testBit]
    by_cases e : k = i
    · subst e; simp [h]
    · simp [e]
theorem and_t {x : Int} (n : Int) (h0 : 0 ≤ x) (h1 : x < 4294967296) : bits .and .u32 x (tV n) = (bif topV x n then tV n else 0) := by
  have ht : 0 ≤ tV n ∧ tV n < 4294967296 := by
    unfold tV; rcases szM_cases n with ⟨_, h, _⟩ | ⟨_, _, h, _⟩ | ⟨_, _, h, _⟩ <;> rw [h] <;> omega
  have e : (tV n).toNat = 2 ^ szW n := by
    unfold tV; rcases szM_cases n with ⟨_, h, h'⟩ | ⟨_, _, h, h'⟩ | ⟨_, _, h, h'⟩ <;> rw [h, h'] <;> rfl
  rw [u32_and _ _ h0 h1 ht.1 ht.2, e, nat_and_pow, ← topV_tb n h0 h1]
  cases topV x n
  · rfl
  · rw [cond_true, cond_true, ← e]; omega
theorem tV_pos (n : Int) : 0 < tV n := by unfold tV; rcases szM_cases n with ⟨_, h, _⟩ | ⟨_, _, h, _⟩ | ⟨_, _, h, _⟩ <;> rw [h] <;> omega
theorem and_t_nz {x : Int} (n : Int) (h0 : 0 ≤ x) (h1 : x < 4294967296) : (bits .and .u32 x (tV n) != 0) = topV x n := by
  rw [and_t n h0 h1]
  have := tV_pos n
  cases topV x n
  · rfl
  · rw [cond_true, Bool.eq_iff_iff]; simp; omega
theorem and_t_eq {x y : Int} (n : Int) (h0 : 0 ≤ x) (h1 : x < 4294967296) (h2 : 0 ≤ y) (h3 : y < 4294967296) : (bits .and .u32 x (tV n) == bits .and .u32 y (tV n)) = (topV x n == topV y n) := by
  rw [and_t n h0 h1, and_t n h2 h3]
  have := tV_pos n
  cases topV x n <;> cases topV y n
  · rfl
  · rw [cond_true, cond_false, Bool.eq_iff_iff]; simp; omega
  · rw [cond_true, cond_false, Bool.eq_iff_iff]; simp; omega
  · rw [Bool.eq_iff_iff]; simp
theorem or_mask (k : Nat) (m x : Nat) (hx : x < 2 ^ k) (h : m * 2 ^ k + x < 4294967296) : bits .or .u32 (x : Int) ((m * 2 ^ k : Nat) : Int) = ((m * 2 ^ k + x : Nat) : Int) := by
  rw [u32_or _ _ (by omega) (by omega) (by omega) (by omega), Int.toNat_natCast, Int.toNat_natCast, Nat.or_comm, nat_join k _ _ (by simp) hx]
theorem sgnV_sh8 {v : Int} (h0 : 0 ≤ v) (h1 : v < 4294967296) {n : Int} (h : szM n = 256) : Int.fdiv (IntKind.wrap IntKind.i32 (IntKind.wrap IntKind.u32 (v * 16777216))) 16777216 = sgnV v n := by
  rw [wr_i32, wr_u32, Int.fdiv_eq_ediv_of_nonneg _ (by omega)]
  unfold sgnV topV
  rw [h]
  by_cases c : (256 : Int) ≤ 2 * (v % 256)
  · rw [decide_eq_true c, cond_true]; omega
  · rw [decide_eq_false c, cond_false]; omega
theorem sgnV_sh16 {v : Int} (h0 : 0 ≤ v) (h1 : v < 4294967296) {n : Int} (h : szM n = 65536) : Int.fdiv (IntKind.wrap IntKind.i32 (IntKind.wrap IntKind.u32 (v * 65536))) 65536 = sgnV v n := by
  rw [wr_i32, wr_u32, Int.fdiv_eq_ediv_of_nonneg _ (by omega)]
  unfold sgnV topV
  rw [h]
  by_cases c : (65536 : Int) ≤ 2 * (v % 65536)
  · rw [decide_eq_true c, cond_true]; omega
  · rw [decide_eq_false c, cond_false]; omega
theorem sgnV_sh32 {v : Int} (h0 : 0 ≤ v) (h1 : v < 4294967296) {n : Int} (h : szM n = 4294967296) : Int.fdiv (IntKind.wrap IntKind.i32 (IntKind.wrap IntKind.u32 (v * 1))) 1 = sgnV v n := by
  rw [wr_i32, wr_u32, Int.fdiv_eq_ediv_of_nonneg _ (by omega)]
  unfold sgnV topV
  rw [h]
  by_cases c : (4294967296 : Int) ≤ 2 * (v % 4294967296)
  · rw [decide_eq_true c, cond_true]; omega
  · rw [decide_eq_false c, cond_false]; omega
theorem cut_wrap (x n : Int) : cutV (IntKind.wrap IntKind.u32 x) n = x % szM n := by
  unfold cutV; rw [wr_u32]
  rcases szM_cases n with ⟨_, h, _⟩ | ⟨_, _, h, _⟩ | ⟨_, _, h, _⟩ <;> rw [h] <;> omega
theorem cut_bd (x n : Int) : 0 ≤ cutV x n ∧ cutV x n < 4294967296 := in32_iff.1 (cutV_in x n)
theorem add_sum (a b n : Int) (c : Bool) : IntKind.wrap IntKind.u64 (IntKind.wrap IntKind.u64 (IntKind.wrap IntKind.u64 (cutV a n) + IntKind.wrap IntKind.u64 (cutV b n)) + b2i c) = addS a b n c := by
  have ha := cut_bd a n; have hb := cut_bd b n; have hc := b2i_bd c
  rw [wr_u64_id ha.1 (by omega), wr_u64_id hb.1 (by omega), wr_u64_id (n := cutV a n + cutV b n) (by omega) (by omega), wr_u64_id (by omega) (by omega)]
  rfl
theorem addS_bd (a b n : Int) (c : Bool) : 0 ≤ addS a b n c ∧ addS a b n c < 2 * szM n := by
  have hc := b2i_bd c
  unfold addS
  rcases szM_cases n with ⟨_, h, _⟩ | ⟨_, _, h, _⟩ | ⟨_, _, h, _⟩ <;> rw [h] <;> omega
theorem addV_bd (a b n : Int) (c : Bool) : 0 ≤ addV a b n c ∧ addV a b n c < 4294967296 := cut_bd (addS a b n c) n
theorem subV_bd (a b n : Int) (c : Bool) : 0 ≤ subV a b n c ∧ subV a b n c < 4294967296 := cut_bd (subS a b n c) n
theorem sub_dif (a b n : Int) (c : Bool) : cutV (IntKind.wrap IntKind.u32 (IntKind.wrap IntKind.u32 (cutV a n - cutV b n) - IntKind.wrap IntKind.u32 (b2i c))) n = subV a b n c := by
  rw [cut_wrap, wr_u32, wr_u32]
  unfold subV subS cutV
  have hc := b2i_bd c
  rcases szM_cases n with ⟨_, h, _⟩ | ⟨_, _, h, _⟩ | ⟨_, _, h, _⟩ <;> rw [h] <;> omega
theorem sub_less (a b n : Int) (c : Bool) : decide (IntKind.wrap IntKind.u64 (cutV a n) < IntKind.wrap IntKind.u64 (IntKind.wrap IntKind.u64 (cutV b n) + b2i c)) = decide (subS a b n c < 0) := by
  have ha := cut_bd a n; have hb := cut_bd b n; have hc := b2i_bd c
  rw [wr_u64_id ha.1 (by omega), wr_u64_id hb.1 (by omega), wr_u64_id (by omega) (by omega)]
  unfold subS
  change decide (cutV a n < cutV b n + b2i c) = decide (cutV a n - cutV b n - b2i c < 0)
  rw [Bool.eq_iff_iff]; simp; omega
theorem add_over (a b n : Int) (c : Bool) : topV (bits .and .u32 (bits .xor .u32 (cutV a n) (addV a b n c)) (bits .xor .u32 (cutV b n) (addV a b n c))) n = addO a b n c := by
  have ha := cut_bd a n; have hb := cut_bd b n; have hv := addV_bd a b n c
  have hx := xor_in ha.1 ha.2 hv.1 hv.2; have hy := xor_in hb.1 hb.2 hv.1 hv.2
  rw [topV_and n hx.1 hx.2 hy.1 hy.2, topV_xor n ha.1 ha.2 hv.1 hv.2, topV_xor n hb.1 hb.2 hv.1 hv.2, topV_cut, topV_cut]
  unfold addO
  cases topV a n <;> cases topV b n <;> cases topV (addV a b n c) n <;> rfl
theorem sub_over (a b n : Int) (c : Bool) : topV (bits .and .u32 (bits .xor .u32 (cutV a n) (cutV b n)) (bits .xor .u32 (cutV a n) (subV a b n c))) n = subO a b n c := by
  have ha := cut_bd a n; have hb := cut_bd b n; have hv := subV_bd a b n c
  have hx := xor_in ha.1 ha.2 hb.1 hb.2; have hy := xor_in ha.1 ha.2 hv.1 hv.2
  rw [topV_and n hx.1 hx.2 hy.1 hy.2, topV_xor n ha.1 ha.2 hb.1 hb.2, topV_xor n ha.1 ha.2 hv.1 hv.2, topV_cut, topV_cut]
  unfold subO
  cases topV a n <;> cases topV b n <;> cases topV (subV a b n c) n <;> rfl
theorem xa_in {a b x y : Int} (ha : 0 ≤ a ∧ a < 4294967296) (hb : 0 ≤ b ∧ b < 4294967296) (hx : 0 ≤ x ∧ x < 4294967296) (hy : 0 ≤ y ∧ y < 4294967296) : in32 (bits .and .u32 (bits .xor .u32 a b) (bits .xor .u32 x y)) = true := by
  have h1 := xor_in ha.1 ha.2 hb.1 hb.2; have h2 := xor_in hx.1 hx.2 hy.1 hy.2
  exact in32_iff.2 (and_in h1.1 h1.2 h2.1 h2.2)
theorem carry8 {a b n : Int} {c : Bool} (h : szM n = 256) : (Int.fdiv (addS a b n c) 256 != 0) = decide (szM n ≤ addS a b n c) := by
  have hb := addS_bd a b n c
  rw [Int.fdiv_eq_ediv_of_nonneg _ (by omega), Bool.eq_iff_iff, h]; rw [h] at hb; simp; omega
theorem carry16 {a b n : Int} {c : Bool} (h : szM n = 65536) : (Int.fdiv (addS a b n c) 65536 != 0) = decide (szM n ≤ addS a b n c) := by
  have hb := addS_bd a b n c
  rw [Int.fdiv_eq_ediv_of_nonneg _ (by omega), Bool.eq_iff_iff, h]; rw [h] at hb; simp; omega
theorem carry32 {a b n : Int} {c : Bool} (h : szM n = 4294967296) : (Int.fdiv (addS a b n c) 4294967296 != 0) = decide (szM n ≤ addS a b n c) := by
  have hb := addS_bd a b n c
  rw [Int.fdiv_eq_ediv_of_nonneg _ (by omega), Bool.eq_iff_iff, h]; rw [h] at hb; simp; omega
/-- One more, or one less. -/
def stepV (v n by_ : Int) : Int := bif decide (0 < by_) then addV v 1 n false else subV v 1 n false
def stepO (v n by_ : Int) : Bool := bif decide (0 < by_) then addO v 1 n false else subO v 1 n false
/-! ### Bytes -/
theorem addS1 (x y : Int) (c : Bool) : addS x y 1 c = x % 256 + y % 256 + b2i c := rfl
theorem addV1 (x y : Int) (c : Bool) : addV x y 1 c = addS x y 1 c % 256 := rfl
theorem subS1 (x y : Int) (c : Bool) : subS x y 1 c = x % 256 - y % 256 - b2i c := rfl
theorem subV1 (x y : Int) (c : Bool) : subV x y 1 c = subS x y 1 c % 256 := rfl
theorem b2i_ge {t : Int} (h : 0 ≤ t) (h' : t < 512) : b2i (decide (256 ≤ t)) = t / 256 := by
  by_cases c : 256 ≤ t
  · rw [decide_eq_true c]; show (1 : Int) = _; omega
  · rw [decide_eq_false c]; show (0 : Int) = _; omega
theorem b2i_lt {t : Int} (h : -256 ≤ t) (h' : t < 256) : b2i (decide (t < 0)) = -(t / 256) := by
  by_cases c : t < 0
  · rw [decide_eq_true c]; show (1 : Int) = _; omega
  · rw [decide_eq_false c]; show (0 : Int) = _; omega
theorem or_join (k : Nat) {l h : Int} (l0 : 0 ≤ l) (l1 : l < 2 ^ k) (h0 : 0 ≤ h) (hb : l + h * 2 ^ k < 4294967296) : bits .or .u32 l (h * 2 ^ k) = l + h * 2 ^ k := by
  have hp : (0 : Int) < 2 ^ k := Int.pow_pos (by decide)
  have hm : 0 ≤ h * 2 ^ k := Int.mul_nonneg h0 (by omega)
  rw [u32_or _ _ l0 (by omega) hm (by omega)]
  obtain ⟨l, rfl⟩ := Int.eq_ofNat_of_zero_le l0
  obtain ⟨h, rfl⟩ := Int.eq_ofNat_of_zero_le h0
  have e1 : (((h : Int) * 2 ^ k)).toNat = h * 2 ^ k := by
    have : ((h : Int) * 2 ^ k) = ((h * 2 ^ k : Nat) : Int) := by simp
    rw [this, Int.toNat_natCast]
  have hl : l < 2 ^ k := by
    have : ((2 : Int) ^ k) = ((2 ^ k : Nat) : Int) := by simp
    omega
  rw [e1, Int.toNat_natCast, Nat.or_comm, nat_join k _ _ (Nat.mul_mod_left _ _) hl]
  simp [Int.add_comm]
theorem or_4 {x y z w : Int} (hx : 0 ≤ x ∧ x < 256) (hy : 0 ≤ y ∧ y < 256) (hz : 0 ≤ z ∧ z < 256) (hw : 0 ≤ w ∧ w < 256) :
    bits .or .u32 (bits .or .u32 (bits .or .u32 (bits .or .u32 0 (IntKind.u32.wrap (x * 1))) (IntKind.u32.wrap (y * 256))) (IntKind.u32.wrap (z * 65536))) (IntKind.u32.wrap (w * 16777216)) = x + y * 256 + z * 65536 + w * 16777216 := by
  rw [wr_u32_id (n := x * 1) (by omega) (by omega), wr_u32_id (n := y * 256) (by omega) (by omega), wr_u32_id (n := z * 65536) (by omega) (by omega), wr_u32_id (n := w * 16777216) (by omega) (by omega)]
  have e0 : bits .or .u32 0 (x * 1) = x := by have := or_join 0 (l := 0) (h := x) (by omega) (by decide) hx.1 (by simp; omega); simpa using this
  have e1 := or_join 8 (l := x) (h := y) hx.1 hx.2 hy.1 (by show x + y * 256 < _; omega)
  have e2 := or_join 16 (l := x + y * 256) (h := z) (by omega) (by show x + y * 256 < 65536; omega) hz.1 (by show x + y * 256 + z * 65536 < _; omega)
  have e3 := or_join 24 (l := x + y * 256 + z * 65536) (h := w) (by omega) (by show x + y * 256 + z * 65536 < 16777216; omega) hw.1 (by show x + y * 256 + z * 65536 + w * 16777216 < _; omega)
  rw [e0]
  rw [show (2 : Int) ^ 8 = 256 from rfl] at e1
  rw [show (2 : Int) ^ 16 = 65536 from rfl] at e2
  rw [show (2 : Int) ^ 24 = 16777216 from rfl] at e3
  rw [e1, e2, e3]
theorem in32_div {a : Int} (h0 : 0 ≤ a) (h1 : a < 4294967296) (k : Int) (hk : 0 < k) : in32 (Int.fdiv a k) = true := by
  rw [in32_iff, Int.fdiv_eq_ediv_of_nonneg _ (by omega)]
  exact ⟨Int.ediv_nonneg h0 (by omega), Int.lt_of_le_of_lt (Int.ediv_le_self _ h0) h1⟩
theorem cut_sgn (a n : Int) : cutV (IntKind.u32.wrap (sgnV a n)) n = cutV a n := by
  rw [wr_u32]
  unfold cutV sgnV
  rcases szM_cases n with ⟨_, h, _⟩ | ⟨_, _, h, _⟩ | ⟨_, _, h, _⟩ <;> rw [h] <;> cases topV a n <;> simp only [cond_true, cond_false] <;> omega
theorem step_up (a n : Int) : stepO a n 1 = (cutV a n == szM n / 2 - 1) := by
  unfold stepO addO topV addV addS b2i cutV
  rcases szM_cases n with ⟨_, h, _⟩ | ⟨_, _, h, _⟩ | ⟨_, _, h, _⟩ <;> rw [h, Bool.eq_iff_iff] <;> simp <;> omega
theorem step_down (a n : Int) : stepO a n (-1) = (cutV a n == szM n / 2) := by
  unfold stepO subO topV subV subS b2i cutV
  rcases szM_cases n with ⟨_, h, _⟩ | ⟨_, _, h, _⟩ | ⟨_, _, h, _⟩ <;> rw [h, Bool.eq_iff_iff] <;> simp <;> omega
theorem split4 {a : Int} (h0 : 0 ≤ a) (h1 : a < 4294967296) : ∃ x0 x1 x2 x3, a % 256 = x0 ∧ a / 256 % 256 = x1 ∧ a / 65536 % 256 = x2 ∧ a / 16777216 % 256 = x3 ∧ a = x0 + x1 * 256 + x2 * 65536 + x3 * 16777216 ∧
    (0 ≤ x0 ∧ x0 < 256) ∧ (0 ≤ x1 ∧ x1 < 256) ∧ (0 ≤ x2 ∧ x2 < 256) ∧ (0 ≤ x3 ∧ x3 < 256) :=
  ⟨_, _, _, _, rfl, rfl, rfl, rfl, by omega, by omega, by omega, by omega, by omega⟩
theorem byte1 (t : Int) : ∃ q r, t / 256 = q ∧ t % 256 = r ∧ t = q * 256 + r ∧ 0 ≤ r ∧ r < 256 := ⟨_, _, rfl, rfl, by omega, by omega, by omega⟩
theorem addStep {x y k t : Int} (hx : 0 ≤ x ∧ x < 256) (hy : 0 ≤ y ∧ y < 256) (hk : 0 ≤ k ∧ k ≤ 1) (ht : t = x + y + k) : b2i (decide (256 ≤ t)) = t / 256 ∧ (0 ≤ t / 256 ∧ t / 256 ≤ 1) :=
  ⟨b2i_ge (by omega) (by omega), by omega, by omega⟩
theorem subStep {x y k t : Int} (hx : 0 ≤ x ∧ x < 256) (hy : 0 ≤ y ∧ y < 256) (hk : 0 ≤ k ∧ k ≤ 1) (ht : t = x - y - k) : b2i (decide (t < 0)) = -(t / 256) ∧ (0 ≤ -(t / 256) ∧ -(t / 256) ≤ 1) :=
  ⟨b2i_lt (by omega) (by omega), by omega, by omega⟩
theorem sum4 {x0 x1 x2 x3 y0 y1 y2 y3 k p0 p1 p2 p3 z0 z1 z2 z3 : Int} (h0 : x0 + y0 + k = p0 * 256 + z0) (h1 : x1 + y1 + p0 = p1 * 256 + z1) (h2 : x2 + y2 + p1 = p2 * 256 + z2) (h3 : x3 + y3 + p2 = p3 * 256 + z3) :
    x0 + x1 * 256 + x2 * 65536 + x3 * 16777216 + (y0 + y1 * 256 + y2 * 65536 + y3 * 16777216) + k = z0 + z1 * 256 + z2 * 65536 + z3 * 16777216 + p3 * 4294967296 := by omega
theorem dif4 {x0 x1 x2 x3 y0 y1 y2 y3 k p0 p1 p2 p3 z0 z1 z2 z3 : Int} (h0 : x0 - y0 - k = p0 * 256 + z0) (h1 : x1 - y1 - -p0 = p1 * 256 + z1) (h2 : x2 - y2 - -p1 = p2 * 256 + z2) (h3 : x3 - y3 - -p2 = p3 * 256 + z3) :
    x0 + x1 * 256 + x2 * 65536 + x3 * 16777216 - (y0 + y1 * 256 + y2 * 65536 + y3 * 16777216) - k = z0 + z1 * 256 + z2 * 65536 + z3 * 16777216 + p3 * 4294967296 := by omega
theorem mod4 {z0 z1 z2 z3 p : Int} (h0 : 0 ≤ z0 ∧ z0 < 256) (h1 : 0 ≤ z1 ∧ z1 < 256) (h2 : 0 ≤ z2 ∧ z2 < 256) (h3 : 0 ≤ z3 ∧ z3 < 256) :
    (z0 + z1 * 256 + z2 * 65536 + z3 * 16777216 + p * 4294967296) % 4294967296 = z0 + z1 * 256 + z2 * 65536 + z3 * 16777216 := by omega
theorem ge4 {z0 z1 z2 z3 p t : Int} (h0 : 0 ≤ z0 ∧ z0 < 256) (h1 : 0 ≤ z1 ∧ z1 < 256) (h2 : 0 ≤ z2 ∧ z2 < 256) (h3 : 0 ≤ z3 ∧ z3 < 256) (ht : t = p * 256 + z3) :
    decide (256 ≤ t) = decide (4294967296 ≤ z0 + z1 * 256 + z2 * 65536 + z3 * 16777216 + p * 4294967296) := by
  rw [Bool.eq_iff_iff, decide_eq_true_eq, decide_eq_true_eq]; omega
theorem lt4 {z0 z1 z2 z3 p t : Int} (h0 : 0 ≤ z0 ∧ z0 < 256) (h1 : 0 ≤ z1 ∧ z1 < 256) (h2 : 0 ≤ z2 ∧ z2 < 256) (h3 : 0 ≤ z3 ∧ z3 < 256) (ht : t = p * 256 + z3) :
    decide (t < 0) = decide (z0 + z1 * 256 + z2 * 65536 + z3 * 16777216 + p * 4294967296 < 0) := by
  rw [Bool.eq_iff_iff, decide_eq_true_eq, decide_eq_true_eq]; omega
end Go.Ev
