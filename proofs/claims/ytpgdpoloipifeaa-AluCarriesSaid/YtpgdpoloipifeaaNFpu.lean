/- Doubles of operands: what they are stays a word. -/
import Derived.Test.YtpgdpoloipifeaaNFlt4
import Derived.Test.YtpgdpoloipifeaaNRegs
import Derived.Test.YtpgdpoloipifeaaNMem
import Derived.OpenShut
namespace Go.Ev
open Go
theorem in64_bif {c : Bool} {x y : Int} (hx : in64 x = true) (hy : in64 y = true) : in64 (bif c then x else y) = true := by cases c <;> assumption
theorem in64_of32 {x : Int} (h : in32 x = true) : in64 x = true := by rw [in32_iff] at h; rw [in64_iff]; omega
theorem in64b (op : BinOp) (a b : Int) : in64 (bits op .u64 a b) = true := in64_iff.2 (wf_u64 (wf_bits _ _ _ _))
theorem ldGo_in64 (M : Int → Int) (a : Int) : ∀ (n : Nat) (v : Int), in64 v = true → in64 (ldGo M a n v) = true
  | 0, v, h => h
  | n + 1, v, h => ldGo_in64 M a n _ (by rw [bitsL_eq]; exact in64b _ _ _)
theorem ldV_in64 (M : Int → Int) (b s off size : Int) (may : Bool) : in64 (ldV M b s off size may) = true := in64_bif (ldGo_in64 _ _ _ _ rfl) rfl
theorem qI_in64 (a : Int) : in64 (qI a) = true := in64b _ _ _
theorem nat_in64 {n : Nat} (h : n < 18446744073709551616) : in64 (n : Int) = true := in64_iff.2 ⟨by omega, by omega⟩
theorem arV_in64 (op : BinOp) (a b : Int) : in64 (arV op a b) = true := in64_bif (qI_in64 _) (in64_bif (qI_in64 _) (in64_bif (nat_in64 (fval_lt _ _ _)) rfl))
theorem sqV_in64 (b : Int) : in64 (sqV b) = true := in64_bif (qI_in64 _) (in64_bif (nat_in64 (fsqrt_lt _)) rfl)
theorem doV_in64 {op a b : Int} (ha : in64 a = true) (hb : in64 b = true) : in64 (doV op a b) = true :=
  in64_bif hb (in64_bif (in64_bif ha hb) (in64_bif (in64_bif ha hb) (in64_bif (sqV_in64 _) (in64_bif (arV_in64 _ _ _) (in64_bif (arV_in64 _ _ _) (in64_bif (arV_in64 _ _ _) (in64_bif (arV_in64 _ _ _) ha)))))))
theorem sel8_in64 {r x0 x1 x2 x3 x4 x5 x6 x7 : Int} (h0 : in64 x0 = true) (h1 : in64 x1 = true) (h2 : in64 x2 = true) (h3 : in64 x3 = true) (h4 : in64 x4 = true) (h5 : in64 x5 = true) (h6 : in64 x6 = true) (h7 : in64 x7 = true) : in64 (sel8 r x0 x1 x2 x3 x4 x5 x6 x7) = true :=
  in64_bif h0 (in64_bif h1 (in64_bif h2 (in64_bif h3 (in64_bif h4 (in64_bif h5 (in64_bif h6 h7))))))
theorem by_in64 (x : Int) : in64 (x % 256) = true := in64_iff.2 (by omega)
theorem getV_in64 {k r d x0 x1 x2 x3 x4 x5 x6 x7 y0 y1 y2 y3 y4 y5 y6 y7 : Int} (hd : in32 d = true)
    (h0 : in32 x0 = true) (h1 : in32 x1 = true) (h2 : in32 x2 = true) (h3 : in32 x3 = true) (h4 : in32 x4 = true) (h5 : in32 x5 = true) (h6 : in32 x6 = true) (h7 : in32 x7 = true)
    (g0 : in64 y0 = true) (g1 : in64 y1 = true) (g2 : in64 y2 = true) (g3 : in64 y3 = true) (g4 : in64 y4 = true) (g5 : in64 y5 = true) (g6 : in64 y6 = true) (g7 : in64 y7 = true) :
    in64 (getV k r d x0 x1 x2 x3 x4 x5 x6 x7 y0 y1 y2 y3 y4 y5 y6 y7) = true :=
  in64_bif (in64_of32 hd) (in64_bif rfl (in64_bif (sel8_in64 (in64_of32 h0) (in64_of32 h1) (in64_of32 h2) (in64_of32 h3) (in64_of32 h4) (in64_of32 h5) (in64_of32 h6) (in64_of32 h7))
    (in64_bif (sel8_in64 (by_in64 _) (by_in64 _) (by_in64 _) (by_in64 _) (by_in64 _) (by_in64 _) (by_in64 _) (by_in64 _)) (in64_bif (sel8_in64 g0 g1 g2 g3 g4 g5 g6 g7) rfl))))
/-- The forms of instructions of doubles: operation, size, kind of what is written. -/
def fpG (op size ak : Int) : Bool := (op == 59 && (size == 4 && ak == 5)) || ((op == 60 && (size == 8 && ak == 1)) || (((decide (51 ≤ op) && decide (op ≤ 58) || op == 61) && (size == 8 && ak == 5)) || (op == 51 && (size == 8 && ak == 3))))
theorem fpG_op {op size ak : Int} (h : fpG op size ak = true) : ini64 op = true := by
  simp only [fpG, Bool.or_eq_true, Bool.and_eq_true, beq_iff_eq, decide_eq_true_eq] at h
  rw [ini64_iff]; omega
/-- How a move ends. -/
def endF (ok : Bool) : Int := bif ok then 0 else 2
end Go.Ev
