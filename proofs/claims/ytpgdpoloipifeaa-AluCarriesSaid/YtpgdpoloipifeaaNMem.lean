/- Memory: plain lemmas. -/
import Derived.Test.YtpgdpoloipifeaaNRegs2
namespace Go.Ev
open Go
set_option linter.unusedVariables false
set_option linter.unusedSimpArgs false
theorem andNot_4095 {x : Int} (h0 : 0 ≤ x) (h1 : x < 4294967296) : bits .andNot .u32 x 4095 = x - x % 4096 := by
  rw [u32_andNot _ _ h0 h1 (by omega) (by omega)]
  have := nat_and_hi 12 (by decide) x.toNat (by omega)
  rw [show (2 ^ (32 - 12) - 1) <<< 12 = 4294967295 - (4095 : Int).toNat from rfl] at this
  rw [this]; omega
/-! ### Segments -/
def mayV (r w x : Bool) (what : Int) : Bool := what == 0 && r || (what == 1 && w || what == 2 && x)
def clampN (n : Int) : Int := if 16 < (if 1 > n then 1 else n) then 16 else (if 1 > n then 1 else n)
theorem clampN_bd (n : Int) : 1 ≤ clampN n ∧ clampN n ≤ 16 := by unfold clampN; split <;> split at * <;> omega
/-- How looking for a place within a segment ends; the place. -/
def segE (b s off n : Int) (may : Bool) : Int := bif !may then 25 else bif decide (off + clampN n > s) || decide (b + s > 4294967296) then 24 else 0
def segA (b s off n : Int) (may : Bool) : Int := bif segE b s off n may == 0 then IntKind.wrap .u32 (b + off) else 0
theorem seg_conds {b s off : Int} (hb : in32 b = true) (hs : in32 s = true) (ho : in32 off = true) (n : Int) :
    decide (IntKind.wrap .u64 (IntKind.wrap .u64 off + IntKind.wrap .u64 (if 16 < if 1 > n then 1 else n then 16 else if 1 > n then 1 else n)) > IntKind.wrap .u64 s) = decide (off + clampN n > s) ∧
    decide (IntKind.wrap .u64 (IntKind.wrap .u64 b + IntKind.wrap .u64 s) ≤ 4294967296) = !decide (b + s > 4294967296) := by
  rw [in32_iff] at hb hs ho
  have hc := clampN_bd n
  have e : (if 16 < if 1 > n then 1 else n then 16 else if 1 > n then 1 else n) = clampN n := rfl
  rw [e]
  have w : ∀ x : Int, 0 ≤ x → x < 18446744073709551616 → IntKind.wrap .u64 x = x := fun x h1 h2 => wr_u64_id h1 h2
  rw [w off (by omega) (by omega), w (clampN n) (by omega) (by omega), w s (by omega) (by omega), w b (by omega) (by omega), w _ (by omega) (by omega), w _ (by omega) (by omega)]
  refine ⟨rfl, ?_⟩
  rw [← decide_not]
  congr 1
  apply propext
  omega
theorem seg_all {b s off n : Int} {r w x : Bool} {what : Int} {c1 c2 : Bool} (h1 : c1 = decide (off + clampN n > s)) (h2 : c2 = !decide (b + s > 4294967296)) {R : Type} (K : Int → Int → R) :
    (bif !(mayV r w x what) then K 0 25 else bif c1 then K 0 24 else bif !c2 then K 0 24 else K (IntKind.wrap .u32 (b + off)) 0) =
      K (segA b s off n (mayV r w x what)) (segE b s off n (mayV r w x what)) := by
  subst h1 h2
  unfold segA segE
  cases mayV r w x what
  · rfl
  · simp only [Bool.not_true, cond_false]
    cases decide (off + clampN n > s)
    · cases decide (b + s > 4294967296) <;> rfl
    · rfl
theorem seg_all' {b s off n : Int} {r w x : Bool} {what : Int} {c1 c2 : Bool} (h1 : c1 = decide (off + clampN n > s)) (h2 : c2 = !decide (b + s > 4294967296)) {R : Type} (K : Int → Int → R) :
    (bif !(mayV r w x what) then K 0 25 else bif !c2 then K 0 24 else bif c1 then K 0 24 else K (IntKind.wrap .u32 (b + off)) 0) =
      K (segA b s off n (mayV r w x what)) (segE b s off n (mayV r w x what)) := by
  rw [← seg_all h1 h2 K]
  cases mayV r w x what <;> cases c1 <;> cases c2 <;> rfl
/-- How many bytes. -/
def bytesN (s : Int) : Nat := bif s == 1 then 1 else bif s == 2 then 2 else bif s == 8 then 8 else 4
/-- A number's bytes are laid down. -/
def stB (M : Int → Int) (a v : Int) : Nat → Int → Int
  | 0 => M
  | n + 1 => updM (stB M a v n) (IntKind.wrap .u32 (a + (n : Int))) (IntKind.wrap .u8 (Int.fdiv v (2 ^ (8 * n))))
/-- And read. -/
def ldGo (M : Int → Int) (a : Int) : Nat → Int → Int
  | 0, v => v
  | k + 1, v => ldGo M a k (bitsL .or .u64 (IntKind.wrap .u64 (v * 256)) (IntKind.wrap .u64 (M (IntKind.wrap .u32 (a + (k : Int))))))
def stV (M : Int → Int) (b s off size v : Int) (may : Bool) : Int → Int := bif segE b s off (bytesN size) may == 0 then stB M (IntKind.wrap .u32 (b + off)) v (bytesN size) else M
def ldV (M : Int → Int) (b s off size : Int) (may : Bool) : Int := bif segE b s off (bytesN size) may == 0 then ldGo M (IntKind.wrap .u32 (b + off)) (bytesN size) 0 else 0
def withinV (b s p : Int) : Bool := decide (b ≤ p) && decide (p < b + s)
end Go.Ev
