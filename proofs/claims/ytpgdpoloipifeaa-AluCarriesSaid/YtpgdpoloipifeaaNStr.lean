/- Rows of bytes moved in memory: plain lemmas. -/
import Derived.Test.YtpgdpoloipifeaaNRow
namespace Go.Ev
open Go
set_option linter.unusedVariables false
set_option linter.unusedSimpArgs false
/-- Every cell is a byte. -/
def isBy (M : Int → Int) : Prop := ∀ x, 0 ≤ M x ∧ M x < 256
theorem isBy_upd {M : Int → Int} (h : isBy M) (a v : Int) : isBy (updM M a (IntKind.wrap .u8 v)) := by
  intro x
  unfold updM
  cases x == a
  · exact h x
  · rw [cond_true, wr_u8]; omega
theorem isBy_stB {M : Int → Int} (h : isBy M) (a v : Int) : ∀ n, isBy (stB M a v n)
  | 0 => h
  | n + 1 => isBy_upd (isBy_stB h a v n) _ _
theorem isBy_fill (k : Int) : isBy (wrM (fun _ => 0) 36864 (rowF (fun _ => 0) (fillB k) 256) 256) := by
  intro x
  unfold wrM
  cases in32 x && decide (IntKind.wrap .u32 (x - 36864) < ((256 : Nat) : Int))
  · exact ⟨by simp, by simp⟩
  · rw [cond_true]
    unfold rowF
    cases decide (0 ≤ IntKind.wrap .u32 (x - 36864)) && decide (IntKind.wrap .u32 (x - 36864) < ((256 : Nat) : Int))
    · exact ⟨by simp, by simp⟩
    · rw [cond_true]
      unfold fillB
      rw [wr_u8]; omega
/-- A byte of the data of a box. -/
theorem seg1 {p : Int} (h0 : 0 ≤ p) (h1 : p < 256) : segE 36864 256 p ((bytesN 1 : Nat) : Int) true = 0 := segE_ok (by rw [show clampN ((bytesN 1 : Nat) : Int) = 1 from rfl]; omega) (by decide)
theorem seg4 {p : Int} (h0 : 0 ≤ p) (h1 : p + 4 ≤ 256) : segE 36864 256 p ((bytesN 4 : Nat) : Int) true = 0 := segE_ok (by rw [show clampN ((bytesN 4 : Nat) : Int) = 4 from rfl]; omega) (by decide)
theorem ld1 {M : Int → Int} (h : isBy M) {p : Int} (h0 : 0 ≤ p) (h1 : p < 256) : ldV M 36864 256 p 1 true = M (36864 + p) := by
  unfold ldV
  rw [seg1 h0 h1]
  show bitsL .or .u64 (IntKind.wrap .u64 (0 * 256)) (IntKind.wrap .u64 (M (IntKind.wrap .u32 (IntKind.wrap .u32 (36864 + p) + ((0 : Nat) : Int))))) = _
  have e : IntKind.wrap .u32 (IntKind.wrap .u32 (36864 + p) + ((0 : Nat) : Int)) = 36864 + p := by rw [wr_u32, wr_u32]; omega
  rw [e, bitsL_eq]
  obtain ⟨hb, hb'⟩ := h (36864 + p)
  rw [wr_u64_id (by omega) (by omega), wr_u64_id (by omega) (by omega)]
  have := or_64 8 (h := 0) hb hb' (by omega) (by simpa using (show (0 : Int) * 256 + M (36864 + p) < 18446744073709551616 by omega))
  rw [show (0 : Int) * 2 ^ 8 = 0 by decide] at this
  rw [show (0 : Int) * 256 = 0 by decide, this]
  omega
theorem st1 {M : Int → Int} {p v : Int} (h0 : 0 ≤ p) (h1 : p < 256) : stV M 36864 256 p 1 v true = updM M (36864 + p) (IntKind.wrap .u8 v) := by
  unfold stV
  rw [seg1 h0 h1]
  show updM M (IntKind.wrap .u32 (IntKind.wrap .u32 (36864 + p) + ((0 : Nat) : Int))) (IntKind.wrap .u8 (Int.fdiv v (2 ^ 0))) = _
  have e : IntKind.wrap .u32 (IntKind.wrap .u32 (36864 + p) + ((0 : Nat) : Int)) = 36864 + p := by rw [wr_u32, wr_u32]; omega
  rw [e]; simp
theorem st4 {M : Int → Int} {p v : Int} (h0 : 0 ≤ p) (h1 : p + 4 ≤ 256) (hv : 0 ≤ v) : stV M 36864 256 p 4 v true =
    updM (updM (updM (updM M (36864 + p) (v % 256)) (36864 + p + 1) (v / 256 % 256)) (36864 + p + 2) (v / 65536 % 256)) (36864 + p + 3) (v / 16777216 % 256) := by
  unfold stV
  rw [seg4 h0 h1]
  show updM (updM (updM (updM M (IntKind.wrap .u32 (IntKind.wrap .u32 (36864 + p) + ((0 : Nat) : Int))) (IntKind.wrap .u8 (Int.fdiv v (2 ^ (8 * 0))))) (IntKind.wrap .u32 (IntKind.wrap .u32 (36864 + p) + ((1 : Nat) : Int))) (IntKind.wrap .u8 (Int.fdiv v (2 ^ (8 * 1))))) (IntKind.wrap .u32 (IntKind.wrap .u32 (36864 + p) + ((2 : Nat) : Int))) (IntKind.wrap .u8 (Int.fdiv v (2 ^ (8 * 2))))) (IntKind.wrap .u32 (IntKind.wrap .u32 (36864 + p) + ((3 : Nat) : Int))) (IntKind.wrap .u8 (Int.fdiv v (2 ^ (8 * 3)))) = _
  rw [fdiv_byte hv 0, fdiv_byte hv 1, fdiv_byte hv 2, fdiv_byte hv 3]
  have e : ∀ k : Nat, k < 4 → IntKind.wrap .u32 (IntKind.wrap .u32 (36864 + p) + (k : Int)) = 36864 + p + (k : Int) := fun k hk => by rw [wr_u32, wr_u32]; omega
  rw [e 0 (by decide), e 1 (by decide), e 2 (by decide), e 3 (by decide)]
  simp
/-- Bytes of data moved one by one, in memory and in a row. -/
def rowsM (M : Int → Int) (a c : Nat → Int) : Nat → Int → Int
  | 0 => M
  | j + 1 => stV (rowsM M a c j) 36864 256 (c j) 1 (ldV (rowsM M a c j) 36864 256 (a j) 1 true) true
def rowsF (F : Int → Int) (a c : Nat → Int) : Nat → Int → Int
  | 0 => F
  | j + 1 => updM (rowsF F a c j) (c j) (rowsF F a c j (a j))
theorem rows_eq {M F : Int → Int} {a c : Nat → Int} (hM : isBy M) (hF : ∀ p : Int, 0 ≤ p → p < 256 → F p = M (36864 + p)) : ∀ n : Nat, (∀ j < n, (0 ≤ a j ∧ a j < 256) ∧ 0 ≤ c j ∧ c j < 256) →
    isBy (rowsM M a c n) ∧ ∀ p : Int, 0 ≤ p → p < 256 → rowsF F a c n p = rowsM M a c n (36864 + p)
  | 0, _ => ⟨hM, hF⟩
  | n + 1, h => by
    obtain ⟨h1, h2⟩ := rows_eq hM hF n fun j hj => h j (by omega)
    obtain ⟨⟨ha, ha'⟩, hc, hc'⟩ := h n (by omega)
    refine ⟨?_, fun p hp hp' => ?_⟩
    · show isBy (stV _ _ _ _ _ _ _)
      rw [st1 hc hc']
      exact isBy_upd h1 _ _
    · show updM _ _ _ _ = stV _ _ _ _ _ _ _ _
      rw [st1 hc hc', ld1 h1 ha ha', h2 _ ha ha']
      obtain ⟨hb, hb'⟩ := h1 (36864 + a n)
      rw [wr_u8_id hb hb']
      unfold updM
      have e : (p == c n) = (36864 + p == 36864 + c n) := by
        by_cases h : p = c n
        · rw [h]; simp
        · rw [show (p == c n) = false from by simpa using h]; symm; simp only [beq_eq_false_iff_ne]; omega
      rw [e, h2 p hp hp']
/-- Two rows alike have the same bytes. -/
theorem bstr_congr {F G : Int → Int} {n : Nat} (h : ∀ i : Nat, i < n → F (i : Int) = G (i : Int)) : bstr F 0 n = bstr G 0 n := by
  unfold bstr
  congr 1
  apply List.map_congr_left
  intro i hi
  rw [List.mem_range] at hi
  exact h i hi
theorem strEq_self (a : ByteArray) : strEq a a = true := by unfold strEq; simp
/-- The data of a box, read out. -/
theorem data_row {M : Int → Int} (p : Int) (h0 : 0 ≤ p) (h1 : p < 256) : rowF (fun _ => 0) (rdB M 36864) 256 p = M (36864 + p) := by
  unfold rowF rdB
  rw [show decide (0 ≤ p) = true from decide_eq_true h0, show decide (p < ((256 : Nat) : Int)) = true from decide_eq_true (by omega)]
  simp only [Bool.and_self, cond_true]
  congr 1
  rw [wr_u32, wr_u32]; omega
end Go.Ev
