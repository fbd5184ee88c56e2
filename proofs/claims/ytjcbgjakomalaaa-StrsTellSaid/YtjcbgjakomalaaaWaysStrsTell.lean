/- StrsTell: the reckoning of the law, and that it is true. -/
import Derived.Test.YtjcbgjakomalaaaEvV
import Derived.Test.YtjcbgjakomalaaaCSn
import Derived.Test.YtjcbgjakomalaaaCSt3
import Derived.Test.YtjcbgjakomalaaaCSy
import Derived.Test.YtjcbgjakomalaaaNSeat2
import Derived.Test.YtjcbgjakomalaaaEvL
namespace Go.Proofs.Ytjcbgjakomalaaa.strsTell
open Go Go.Ev
set_option linter.unusedVariables false
set_option linter.unusedSimpArgs false
set_option maxRecDepth 100000
theorem in8_or {a b : Int} (ha : in8 a = true) (hb : in8 b = true) : in8 (bits .or .u8 a b) = true := by
  rw [in8_iff] at ha hb ⊢
  rw [u8_or _ _ ha.1 ha.2 hb.1 hb.2]
  have : a.toNat ||| b.toNat < 2 ^ 8 := Nat.or_lt_two_pow (by omega) (by omega)
  omega
def T0 (a0_0 : Int) (a0_1 : Int) (a0_2 : Int) (a0_3 : Int) (a0_4 : Int) (a0_5 : Int) (a0_6 : Int) (a0_7 : Int) (a0_8 : Int) (a0_9 : Bool) (a0_10 : Bool) (a0_11 : Bool) (a0_12 : Bool) (a0_13 : Bool) (a0_14 : Bool) (a0_15 : Int) (a0_16 : Int) (a0_17 : Int) (a0_18 : Int) (a0_19 : Int) (a0_20 : Int) (a0_21 : Int) (a0_22 : Int) (a1_0 : Int) (a1_1 : Int) (a1_2 : Int) (a1_3 : Int) (a1_4 : Int) (a1_5 : Int) (a1_6 : Int) (a1_7 : Int) (a2 : Int) (a3 : Int) (a4 : Int) (a5 : Int) : List Sv := [Sv.agg [vw a0_0, vw a0_1, vw a0_2, vw a0_3, vw a0_4, vw a0_5, vw a0_6, vw a0_7, vw a0_8, vb a0_9, vb a0_10, vb a0_11, vb a0_12, vb a0_13, vb a0_14, vd a0_15, vd a0_16, vd a0_17, vd a0_18, vd a0_19, vd a0_20, vd a0_21, vd a0_22], Sv.agg [vw a1_0, vw a1_1, vw a1_2, vw a1_3, vw a1_4, vw a1_5, vw a1_6, vw a1_7], vy a2, vy a3, vy a4, vw a5, Sv.ptr 0 0, Sv.ptr 1 0, vu, vu, vu, vu, vb false, Sv.ptr 5 0, vi 0, vu, vu, vu, vu, vu, vu, vu, vu, vu, vu, vb true, vb false, Sv.tup [Sv.agg [vi 46, vi 0, vi 1, vi 0, vi 0, vi ((-1)), vi ((-1)), vi 1, vw 0, vi 0, vi 0, vi ((-1)), vi ((-1)), vi 1, vw 0, vw 0, vb false, vi 1], vi 0], Sv.sl 2 0 10 10, vy a4, vy ((Int.tmod a4 10)), Sv.ptr 2 0, Sv.v (Value.string { data := { toList := [164] } }), Sv.sa 3 (3 + 1) 0 1, Sv.tup [Sv.agg [vi 46, vi 0, vi 1, vi 0, vi 0, vi ((-1)), vi ((-1)), vi 1, vw 0, vi 0, vi 0, vi ((-1)), vi ((-1)), vi 1, vw 0, vw 0, vb false, vi 1], vi 0], Sv.agg [vi 46, vi 0, vi 1, vi 0, vi 0, vi ((-1)), vi ((-1)), vi 1, vw 0, vi 0, vi 0, vi ((-1)), vi ((-1)), vi 1, vw 0, vw 0, vb false, vi 1], vi 0, vu, vu, vu, vu, vu, vu, vu, vu, vu, vu, vu, vu, vu, vu, vu, vu, vu, vu, vu, vu, vu, vu, vu, vu, vu, vu, vu, vu, vu, vu, vu, vu, vu, vu, vu, vu, vu, vu, vu, vu, vu, vu, vu, vu, vu, vu, vu, vu, vu, vu, vu, vu, vu, vu, vu, vu, vu, vu, vu, vu, vu]
def M0 (a0_0 : Int) (a0_1 : Int) (a0_2 : Int) (a0_3 : Int) (a0_4 : Int) (a0_5 : Int) (a0_6 : Int) (a0_7 : Int) (a0_8 : Int) (a0_9 : Bool) (a0_10 : Bool) (a0_11 : Bool) (a0_12 : Bool) (a0_13 : Bool) (a0_14 : Bool) (a0_15 : Int) (a0_16 : Int) (a0_17 : Int) (a0_18 : Int) (a0_19 : Int) (a0_20 : Int) (a0_21 : Int) (a0_22 : Int) (a1_0 : Int) (a1_1 : Int) (a1_2 : Int) (a1_3 : Int) (a1_4 : Int) (a1_5 : Int) (a1_6 : Int) (a1_7 : Int) (a2 : Int) (a3 : Int) (a4 : Int) (a5 : Int) : List SObj := [SObj.cells [vw a0_0, vw a0_1, vw a0_2, vw a0_3, vw a0_4, vw a0_5, vw a0_6, vw a0_7, vw a0_8, vb a0_9, vb a0_10, vb a0_11, vb a0_12, vb a0_13, vb a0_14, vd a0_15, vd a0_16, vd a0_17, vd a0_18, vd a0_19, vd a0_20, vd a0_21, vd a0_22] 46, SObj.cells [vw a1_0, vw a1_1, vw a1_2, vw a1_3, vw a1_4, vw a1_5, vw a1_6, vw a1_7] 41, SObj.cells [Sv.v (Value.string { data := { toList := [164] } }), Sv.v (Value.string { data := { toList := [165] } }), Sv.v (Value.string { data := { toList := [170] } }), Sv.v (Value.string { data := { toList := [171] } }), Sv.v (Value.string { data := { toList := [172] } }), Sv.v (Value.string { data := { toList := [173] } }), Sv.v (Value.string { data := { toList := [243, 164] } }), Sv.v (Value.string { data := { toList := [243, 165] } }), Sv.v (Value.string { data := { toList := [243, 170] } }), Sv.v (Value.string { data := { toList := [243, 171] } })] 9, SObj.buf (3 + 1) [vy 164] 5, SObj.dead, SObj.cells [vi 46, vi 0, vi 1, vi 0, vi 0, vi ((-1)), vi ((-1)), vi 1, vw 0, vi 0, vi 0, vi ((-1)), vi ((-1)), vi 1, vw 0, vw 0, vb false, vi 1] 69]
def T1 (a0_0 : Int) (a0_1 : Int) (a0_2 : Int) (a0_3 : Int) (a0_4 : Int) (a0_5 : Int) (a0_6 : Int) (a0_7 : Int) (a0_8 : Int) (a0_9 : Bool) (a0_10 : Bool) (a0_11 : Bool) (a0_12 : Bool) (a0_13 : Bool) (a0_14 : Bool) (a0_15 : Int) (a0_16 : Int) (a0_17 : Int) (a0_18 : Int) (a0_19 : Int) (a0_20 : Int) (a0_21 : Int) (a0_22 : Int) (a1_0 : Int) (a1_1 : Int) (a1_2 : Int) (a1_3 : Int) (a1_4 : Int) (a1_5 : Int) (a1_6 : Int) (a1_7 : Int) (a2 : Int) (a3 : Int) (a4 : Int) (a5 : Int) : List Sv := [Sv.agg [vw a0_0, vw a0_1, vw a0_2, vw a0_3, vw a0_4, vw a0_5, vw a0_6, vw a0_7, vw a0_8, vb a0_9, vb a0_10, vb a0_11, vb a0_12, vb a0_13, vb a0_14, vd a0_15, vd a0_16, vd a0_17, vd a0_18, vd a0_19, vd a0_20, vd a0_21, vd a0_22], Sv.agg [vw a1_0, vw a1_1, vw a1_2, vw a1_3, vw a1_4, vw a1_5, vw a1_6, vw a1_7], vy a2, vy a3, vy a4, vw a5, Sv.ptr 0 0, Sv.ptr 1 0, vu, vu, vu, vu, vb false, Sv.ptr 5 0, vi 0, vu, vu, vu, vu, vu, vu, vu, vu, vu, vu, vb true, vb false, Sv.tup [Sv.agg [vi 46, vi 0, vi 4, vi 0, vi 0, vi ((-1)), vi ((-1)), vi 1, vw 0, vi 0, vi 0, vi ((-1)), vi ((-1)), vi 1, vw 0, vw 0, vb false, vi 1], vi 0], Sv.sl 2 0 10 10, vy a4, vy ((Int.tmod a4 10)), Sv.ptr 2 1, Sv.v (Value.string { data := { toList := [165] } }), Sv.sa 3 (3 + 1) 0 1, Sv.tup [Sv.agg [vi 46, vi 0, vi 4, vi 0, vi 0, vi ((-1)), vi ((-1)), vi 1, vw 0, vi 0, vi 0, vi ((-1)), vi ((-1)), vi 1, vw 0, vw 0, vb false, vi 1], vi 0], Sv.agg [vi 46, vi 0, vi 4, vi 0, vi 0, vi ((-1)), vi ((-1)), vi 1, vw 0, vi 0, vi 0, vi ((-1)), vi ((-1)), vi 1, vw 0, vw 0, vb false, vi 1], vi 0, vu, vu, vu, vu, vu, vu, vu, vu, vu, vu, vu, vu, vu, vu, vu, vu, vu, vu, vu, vu, vu, vu, vu, vu, vu, vu, vu, vu, vu, vu, vu, vu, vu, vu, vu, vu, vu, vu, vu, vu, vu, vu, vu, vu, vu, vu, vu, vu, vu, vu, vu, vu, vu, vu, vu, vu, vu, vu, vu, vu, vu]
def M1 (a0_0 : Int) (a0_1 : Int) (a0_2 : Int) (a0_3 : Int) (a0_4 : Int) (a0_5 : Int) (a0_6 : Int) (a0_7 : Int) (a0_8 : Int) (a0_9 : Bool) (a0_10 : Bool) (a0_11 : Bool) (a0_12 : Bool) (a0_13 : Bool) (a0_14 : Bool) (a0_15 : Int) (a0_16 : Int) (a0_17 : Int) (a0_18 : Int) (a0_19 : Int) (a0_20 : Int) (a0_21 : Int) (a0_22 : Int) (a1_0 : Int) (a1_1 : Int) (a1_2 : Int) (a1_3 : Int) (a1_4 : Int) (a1_5 : Int) (a1_6 : Int) (a1_7 : Int) (a2 : Int) (a3 : Int) (a4 : Int) (a5 : Int) : List SObj := [SObj.cells [vw a0_0, vw a0_1, vw a0_2, vw a0_3, vw a0_4, vw a0_5, vw a0_6, vw a0_7, vw a0_8, vb a0_9, vb a0_10, vb a0_11, vb a0_12, vb a0_13, vb a0_14, vd a0_15, vd a0_16, vd a0_17, vd a0_18, vd a0_19, vd a0_20, vd a0_21, vd a0_22] 46, SObj.cells [vw a1_0, vw a1_1, vw a1_2, vw a1_3, vw a1_4, vw a1_5, vw a1_6, vw a1_7] 41, SObj.cells [Sv.v (Value.string { data := { toList := [164] } }), Sv.v (Value.string { data := { toList := [165] } }), Sv.v (Value.string { data := { toList := [170] } }), Sv.v (Value.string { data := { toList := [171] } }), Sv.v (Value.string { data := { toList := [172] } }), Sv.v (Value.string { data := { toList := [173] } }), Sv.v (Value.string { data := { toList := [243, 164] } }), Sv.v (Value.string { data := { toList := [243, 165] } }), Sv.v (Value.string { data := { toList := [243, 170] } }), Sv.v (Value.string { data := { toList := [243, 171] } })] 9, SObj.buf (3 + 1) [vy 165] 5, SObj.dead, SObj.cells [vi 46, vi 0, vi 4, vi 0, vi 0, vi ((-1)), vi ((-1)), vi 1, vw 0, vi 0, vi 0, vi ((-1)), vi ((-1)), vi 1, vw 0, vw 0, vb false, vi 1] 69]
def T2 (a0_0 : Int) (a0_1 : Int) (a0_2 : Int) (a0_3 : Int) (a0_4 : Int) (a0_5 : Int) (a0_6 : Int) (a0_7 : Int) (a0_8 : Int) (a0_9 : Bool) (a0_10 : Bool) (a0_11 : Bool) (a0_12 : Bool) (a0_13 : Bool) (a0_14 : Bool) (a0_15 : Int) (a0_16 : Int) (a0_17 : Int) (a0_18 : Int) (a0_19 : Int) (a0_20 : Int) (a0_21 : Int) (a0_22 : Int) (a1_0 : Int) (a1_1 : Int) (a1_2 : Int) (a1_3 : Int) (a1_4 : Int) (a1_5 : Int) (a1_6 : Int) (a1_7 : Int) (a2 : Int) (a3 : Int) (a4 : Int) (a5 : Int) : List Sv := [Sv.agg [vw a0_0, vw a0_1, vw a0_2, vw a0_3, vw a0_4, vw a0_5, vw a0_6, vw a0_7, vw a0_8, vb a0_9, vb a0_10, vb a0_11, vb a0_12, vb a0_13, vb a0_14, vd a0_15, vd a0_16, vd a0_17, vd a0_18, vd a0_19, vd a0_20, vd a0_21, vd a0_22], Sv.agg [vw a1_0, vw a1_1, vw a1_2, vw a1_3, vw a1_4, vw a1_5, vw a1_6, vw a1_7], vy a2, vy a3, vy a4, vw a5, Sv.ptr 0 0, Sv.ptr 1 0, vu, vu, vu, vu, vb false, Sv.ptr 5 0, vi 0, vu, vu, vu, vu, vu, vu, vu, vu, vu, vu, vb true, vb false, Sv.tup [Sv.agg [vi 47, vi 0, vi 1, vi 0, vi 0, vi ((-1)), vi ((-1)), vi 1, vw 0, vi 0, vi 0, vi ((-1)), vi ((-1)), vi 1, vw 0, vw 0, vb false, vi 1], vi 0], Sv.sl 2 0 10 10, vy a4, vy ((Int.tmod a4 10)), Sv.ptr 2 2, Sv.v (Value.string { data := { toList := [170] } }), Sv.sa 3 (3 + 1) 0 1, Sv.tup [Sv.agg [vi 47, vi 0, vi 1, vi 0, vi 0, vi ((-1)), vi ((-1)), vi 1, vw 0, vi 0, vi 0, vi ((-1)), vi ((-1)), vi 1, vw 0, vw 0, vb false, vi 1], vi 0], Sv.agg [vi 47, vi 0, vi 1, vi 0, vi 0, vi ((-1)), vi ((-1)), vi 1, vw 0, vi 0, vi 0, vi ((-1)), vi ((-1)), vi 1, vw 0, vw 0, vb false, vi 1], vi 0, vu, vu, vu, vu, vu, vu, vu, vu, vu, vu, vu, vu, vu, vu, vu, vu, vu, vu, vu, vu, vu, vu, vu, vu, vu, vu, vu, vu, vu, vu, vu, vu, vu, vu, vu, vu, vu, vu, vu, vu, vu, vu, vu, vu, vu, vu, vu, vu, vu, vu, vu, vu, vu, vu, vu, vu, vu, vu, vu, vu, vu]
def M2 (a0_0 : Int) (a0_1 : Int) (a0_2 : Int) (a0_3 : Int) (a0_4 : Int) (a0_5 : Int) (a0_6 : Int) (a0_7 : Int) (a0_8 : Int) (a0_9 : Bool) (a0_10 : Bool) (a0_11 : Bool) (a0_12 : Bool) (a0_13 : Bool) (a0_14 : Bool) (a0_15 : Int) (a0_16 : Int) (a0_17 : Int) (a0_18 : Int) (a0_19 : Int) (a0_20 : Int) (a0_21 : Int) (a0_22 : Int) (a1_0 : Int) (a1_1 : Int) (a1_2 : Int) (a1_3 : Int) (a1_4 : Int) (a1_5 : Int) (a1_6 : Int) (a1_7 : Int) (a2 : Int) (a3 : Int) (a4 : Int) (a5 : Int) : List SObj := [SObj.cells [vw a0_0, vw a0_1, vw a0_2, vw a0_3, vw a0_4, vw a0_5, vw a0_6, vw a0_7, vw a0_8, vb a0_9, vb a0_10, vb a0_11, vb a0_12, vb a0_13, vb a0_14, vd a0_15, vd a0_16, vd a0_17, vd a0_18, vd a0_19, vd a0_20, vd a0_21, vd a0_22] 46, SObj.cells [vw a1_0, vw a1_1, vw a1_2, vw a1_3, vw a1_4, vw a1_5, vw a1_6, vw a1_7] 41, SObj.cells [Sv.v (Value.string { data := { toList := [164] } }), Sv.v (Value.string { data := { toList := [165] } }), Sv.v (Value.string { data := { toList := [170] } }), Sv.v (Value.string { data := { toList := [171] } }), Sv.v (Value.string { data := { toList := [172] } }), Sv.v (Value.string { data := { toList := [173] } }), Sv.v (Value.string { data := { toList := [243, 164] } }), Sv.v (Value.string { data := { toList := [243, 165] } }), Sv.v (Value.string { data := { toList := [243, 170] } }), Sv.v (Value.string { data := { toList := [243, 171] } })] 9, SObj.buf (3 + 1) [vy 170] 5, SObj.dead, SObj.cells [vi 47, vi 0, vi 1, vi 0, vi 0, vi ((-1)), vi ((-1)), vi 1, vw 0, vi 0, vi 0, vi ((-1)), vi ((-1)), vi 1, vw 0, vw 0, vb false, vi 1] 69]
def T3 (a0_0 : Int) (a0_1 : Int) (a0_2 : Int) (a0_3 : Int) (a0_4 : Int) (a0_5 : Int) (a0_6 : Int) (a0_7 : Int) (a0_8 : Int) (a0_9 : Bool) (a0_10 : Bool) (a0_11 : Bool) (a0_12 : Bool) (a0_13 : Bool) (a0_14 : Bool) (a0_15 : Int) (a0_16 : Int) (a0_17 : Int) (a0_18 : Int) (a0_19 : Int) (a0_20 : Int) (a0_21 : Int) (a0_22 : Int) (a1_0 : Int) (a1_1 : Int) (a1_2 : Int) (a1_3 : Int) (a1_4 : Int) (a1_5 : Int) (a1_6 : Int) (a1_7 : Int) (a2 : Int) (a3 : Int) (a4 : Int) (a5 : Int) : List Sv := [Sv.agg [vw a0_0, vw a0_1, vw a0_2, vw a0_3, vw a0_4, vw a0_5, vw a0_6, vw a0_7, vw a0_8, vb a0_9, vb a0_10, vb a0_11, vb a0_12, vb a0_13, vb a0_14, vd a0_15, vd a0_16, vd a0_17, vd a0_18, vd a0_19, vd a0_20, vd a0_21, vd a0_22], Sv.agg [vw a1_0, vw a1_1, vw a1_2, vw a1_3, vw a1_4, vw a1_5, vw a1_6, vw a1_7], vy a2, vy a3, vy a4, vw a5, Sv.ptr 0 0, Sv.ptr 1 0, vu, vu, vu, vu, vb false, Sv.ptr 5 0, vi 0, vu, vu, vu, vu, vu, vu, vu, vu, vu, vu, vb true, vb false, Sv.tup [Sv.agg [vi 47, vi 0, vi 4, vi 0, vi 0, vi ((-1)), vi ((-1)), vi 1, vw 0, vi 0, vi 0, vi ((-1)), vi ((-1)), vi 1, vw 0, vw 0, vb false, vi 1], vi 0], Sv.sl 2 0 10 10, vy a4, vy ((Int.tmod a4 10)), Sv.ptr 2 3, Sv.v (Value.string { data := { toList := [171] } }), Sv.sa 3 (3 + 1) 0 1, Sv.tup [Sv.agg [vi 47, vi 0, vi 4, vi 0, vi 0, vi ((-1)), vi ((-1)), vi 1, vw 0, vi 0, vi 0, vi ((-1)), vi ((-1)), vi 1, vw 0, vw 0, vb false, vi 1], vi 0], Sv.agg [vi 47, vi 0, vi 4, vi 0, vi 0, vi ((-1)), vi ((-1)), vi 1, vw 0, vi 0, vi 0, vi ((-1)), vi ((-1)), vi 1, vw 0, vw 0, vb false, vi 1], vi 0, vu, vu, vu, vu, vu, vu, vu, vu, vu, vu, vu, vu, vu, vu, vu, vu, vu, vu, vu, vu, vu, vu, vu, vu, vu, vu, vu, vu, vu, vu, vu, vu, vu, vu, vu, vu, vu, vu, vu, vu, vu, vu, vu, vu, vu, vu, vu, vu, vu, vu, vu, vu, vu, vu, vu, vu, vu, vu, vu, vu, vu]
def M3 (a0_0 : Int) (a0_1 : Int) (a0_2 : Int) (a0_3 : Int) (a0_4 : Int) (a0_5 : Int) (a0_6 : Int) (a0_7 : Int) (a0_8 : Int) (a0_9 : Bool) (a0_10 : Bool) (a0_11 : Bool) (a0_12 : Bool) (a0_13 : Bool) (a0_14 : Bool) (a0_15 : Int) (a0_16 : Int) (a0_17 : Int) (a0_18 : Int) (a0_19 : Int) (a0_20 : Int) (a0_21 : Int) (a0_22 : Int) (a1_0 : Int) (a1_1 : Int) (a1_2 : Int) (a1_3 : Int) (a1_4 : Int) (a1_5 : Int) (a1_6 : Int) (a1_7 : Int) (a2 : Int) (a3 : Int) (a4 : Int) (a5 : Int) : List SObj := [SObj.cells [vw a0_0, vw a0_1, vw a0_2, vw a0_3, vw a0_4, vw a0_5, vw a0_6, vw a0_7, vw a0_8, vb a0_9, vb a0_10, vb a0_11, vb a0_12, vb a0_13, vb a0_14, vd a0_15, vd a0_16, vd a0_17, vd a0_18, vd a0_19, vd a0_20, vd a0_21, vd a0_22] 46, SObj.cells [vw a1_0, vw a1_1, vw a1_2, vw a1_3, vw a1_4, vw a1_5, vw a1_6, vw a1_7] 41, SObj.cells [Sv.v (Value.string { data := { toList := [164] } }), Sv.v (Value.string { data := { toList := [165] } }), Sv.v (Value.string { data := { toList := [170] } }), Sv.v (Value.string { data := { toList := [171] } }), Sv.v (Value.string { data := { toList := [172] } }), Sv.v (Value.string { data := { toList := [173] } }), Sv.v (Value.string { data := { toList := [243, 164] } }), Sv.v (Value.string { data := { toList := [243, 165] } }), Sv.v (Value.string { data := { toList := [243, 170] } }), Sv.v (Value.string { data := { toList := [243, 171] } })] 9, SObj.buf (3 + 1) [vy 171] 5, SObj.dead, SObj.cells [vi 47, vi 0, vi 4, vi 0, vi 0, vi ((-1)), vi ((-1)), vi 1, vw 0, vi 0, vi 0, vi ((-1)), vi ((-1)), vi 1, vw 0, vw 0, vb false, vi 1] 69]
def T4 (a0_0 : Int) (a0_1 : Int) (a0_2 : Int) (a0_3 : Int) (a0_4 : Int) (a0_5 : Int) (a0_6 : Int) (a0_7 : Int) (a0_8 : Int) (a0_9 : Bool) (a0_10 : Bool) (a0_11 : Bool) (a0_12 : Bool) (a0_13 : Bool) (a0_14 : Bool) (a0_15 : Int) (a0_16 : Int) (a0_17 : Int) (a0_18 : Int) (a0_19 : Int) (a0_20 : Int) (a0_21 : Int) (a0_22 : Int) (a1_0 : Int) (a1_1 : Int) (a1_2 : Int) (a1_3 : Int) (a1_4 : Int) (a1_5 : Int) (a1_6 : Int) (a1_7 : Int) (a2 : Int) (a3 : Int) (a4 : Int) (a5 : Int) : List Sv := [Sv.agg [vw a0_0, vw a0_1, vw a0_2, vw a0_3, vw a0_4, vw a0_5, vw a0_6, vw a0_7, vw a0_8, vb a0_9, vb a0_10, vb a0_11, vb a0_12, vb a0_13, vb a0_14, vd a0_15, vd a0_16, vd a0_17, vd a0_18, vd a0_19, vd a0_20, vd a0_21, vd a0_22], Sv.agg [vw a1_0, vw a1_1, vw a1_2, vw a1_3, vw a1_4, vw a1_5, vw a1_6, vw a1_7], vy a2, vy a3, vy a4, vw a5, Sv.ptr 0 0, Sv.ptr 1 0, vu, vu, vu, vu, vb false, Sv.ptr 5 0, vi 0, vu, vu, vu, vu, vu, vu, vu, vu, vu, vu, vb true, vb false, Sv.tup [Sv.agg [vi 48, vi 0, vi 1, vi 0, vi 0, vi ((-1)), vi ((-1)), vi 1, vw 0, vi 0, vi 0, vi ((-1)), vi ((-1)), vi 1, vw 0, vw 0, vb false, vi 1], vi 0], Sv.sl 2 0 10 10, vy a4, vy ((Int.tmod a4 10)), Sv.ptr 2 4, Sv.v (Value.string { data := { toList := [172] } }), Sv.sa 3 (3 + 1) 0 1, Sv.tup [Sv.agg [vi 48, vi 0, vi 1, vi 0, vi 0, vi ((-1)), vi ((-1)), vi 1, vw 0, vi 0, vi 0, vi ((-1)), vi ((-1)), vi 1, vw 0, vw 0, vb false, vi 1], vi 0], Sv.agg [vi 48, vi 0, vi 1, vi 0, vi 0, vi ((-1)), vi ((-1)), vi 1, vw 0, vi 0, vi 0, vi ((-1)), vi ((-1)), vi 1, vw 0, vw 0, vb false, vi 1], vi 0, vu, vu, vu, vu, vu, vu, vu, vu, vu, vu, vu, vu, vu, vu, vu, vu, vu, vu, vu, vu, vu, vu, vu, vu, vu, vu, vu, vu, vu, vu, vu, vu, vu, vu, vu, vu, vu, vu, vu, vu, vu, vu, vu, vu, vu, vu, vu, vu, vu, vu, vu, vu, vu, vu, vu, vu, vu, vu, vu, vu, vu]
def M4 (a0_0 : Int) (a0_1 : Int) (a0_2 : Int) (a0_3 : Int) (a0_4 : Int) (a0_5 : Int) (a0_6 : Int) (a0_7 : Int) (a0_8 : Int) (a0_9 : Bool) (a0_10 : Bool) (a0_11 : Bool) (a0_12 : Bool) (a0_13 : Bool) (a0_14 : Bool) (a0_15 : Int) (a0_16 : Int) (a0_17 : Int) (a0_18 : Int) (a0_19 : Int) (a0_20 : Int) (a0_21 : Int) (a0_22 : Int) (a1_0 : Int) (a1_1 : Int) (a1_2 : Int) (a1_3 : Int) (a1_4 : Int) (a1_5 : Int) (a1_6 : Int) (a1_7 : Int) (a2 : Int) (a3 : Int) (a4 : Int) (a5 : Int) : List SObj := [SObj.cells [vw a0_0, vw a0_1, vw a0_2, vw a0_3, vw a0_4, vw a0_5, vw a0_6, vw a0_7, vw a0_8, vb a0_9, vb a0_10, vb a0_11, vb a0_12, vb a0_13, vb a0_14, vd a0_15, vd a0_16, vd a0_17, vd a0_18, vd a0_19, vd a0_20, vd a0_21, vd a0_22] 46, SObj.cells [vw a1_0, vw a1_1, vw a1_2, vw a1_3, vw a1_4, vw a1_5, vw a1_6, vw a1_7] 41, SObj.cells [Sv.v (Value.string { data := { toList := [164] } }), Sv.v (Value.string { data := { toList := [165] } }), Sv.v (Value.string { data := { toList := [170] } }), Sv.v (Value.string { data := { toList := [171] } }), Sv.v (Value.string { data := { toList := [172] } }), Sv.v (Value.string { data := { toList := [173] } }), Sv.v (Value.string { data := { toList := [243, 164] } }), Sv.v (Value.string { data := { toList := [243, 165] } }), Sv.v (Value.string { data := { toList := [243, 170] } }), Sv.v (Value.string { data := { toList := [243, 171] } })] 9, SObj.buf (3 + 1) [vy 172] 5, SObj.dead, SObj.cells [vi 48, vi 0, vi 1, vi 0, vi 0, vi ((-1)), vi ((-1)), vi 1, vw 0, vi 0, vi 0, vi ((-1)), vi ((-1)), vi 1, vw 0, vw 0, vb false, vi 1] 69]
def T5 (a0_0 : Int) (a0_1 : Int) (a0_2 : Int) (a0_3 : Int) (a0_4 : Int) (a0_5 : Int) (a0_6 : Int) (a0_7 : Int) (a0_8 : Int) (a0_9 : Bool) (a0_10 : Bool) (a0_11 : Bool) (a0_12 : Bool) (a0_13 : Bool) (a0_14 : Bool) (a0_15 : Int) (a0_16 : Int) (a0_17 : Int) (a0_18 : Int) (a0_19 : Int) (a0_20 : Int) (a0_21 : Int) (a0_22 : Int) (a1_0 : Int) (a1_1 : Int) (a1_2 : Int) (a1_3 : Int) (a1_4 : Int) (a1_5 : Int) (a1_6 : Int) (a1_7 : Int) (a2 : Int) (a3 : Int) (a4 : Int) (a5 : Int) : List Sv := [Sv.agg [vw a0_0, vw a0_1, vw a0_2, vw a0_3, vw a0_4, vw a0_5, vw a0_6, vw a0_7, vw a0_8, vb a0_9, vb a0_10, vb a0_11, vb a0_12, vb a0_13, vb a0_14, vd a0_15, vd a0_16, vd a0_17, vd a0_18, vd a0_19, vd a0_20, vd a0_21, vd a0_22], Sv.agg [vw a1_0, vw a1_1, vw a1_2, vw a1_3, vw a1_4, vw a1_5, vw a1_6, vw a1_7], vy a2, vy a3, vy a4, vw a5, Sv.ptr 0 0, Sv.ptr 1 0, vu, vu, vu, vu, vb false, Sv.ptr 5 0, vi 0, vu, vu, vu, vu, vu, vu, vu, vu, vu, vu, vb true, vb false, Sv.tup [Sv.agg [vi 48, vi 0, vi 4, vi 0, vi 0, vi ((-1)), vi ((-1)), vi 1, vw 0, vi 0, vi 0, vi ((-1)), vi ((-1)), vi 1, vw 0, vw 0, vb false, vi 1], vi 0], Sv.sl 2 0 10 10, vy a4, vy ((Int.tmod a4 10)), Sv.ptr 2 5, Sv.v (Value.string { data := { toList := [173] } }), Sv.sa 3 (3 + 1) 0 1, Sv.tup [Sv.agg [vi 48, vi 0, vi 4, vi 0, vi 0, vi ((-1)), vi ((-1)), vi 1, vw 0, vi 0, vi 0, vi ((-1)), vi ((-1)), vi 1, vw 0, vw 0, vb false, vi 1], vi 0], Sv.agg [vi 48, vi 0, vi 4, vi 0, vi 0, vi ((-1)), vi ((-1)), vi 1, vw 0, vi 0, vi 0, vi ((-1)), vi ((-1)), vi 1, vw 0, vw 0, vb false, vi 1], vi 0, vu, vu, vu, vu, vu, vu, vu, vu, vu, vu, vu, vu, vu, vu, vu, vu, vu, vu, vu, vu, vu, vu, vu, vu, vu, vu, vu, vu, vu, vu, vu, vu, vu, vu, vu, vu, vu, vu, vu, vu, vu, vu, vu, vu, vu, vu, vu, vu, vu, vu, vu, vu, vu, vu, vu, vu, vu, vu, vu, vu, vu]
def M5 (a0_0 : Int) (a0_1 : Int) (a0_2 : Int) (a0_3 : Int) (a0_4 : Int) (a0_5 : Int) (a0_6 : Int) (a0_7 : Int) (a0_8 : Int) (a0_9 : Bool) (a0_10 : Bool) (a0_11 : Bool) (a0_12 : Bool) (a0_13 : Bool) (a0_14 : Bool) (a0_15 : Int) (a0_16 : Int) (a0_17 : Int) (a0_18 : Int) (a0_19 : Int) (a0_20 : Int) (a0_21 : Int) (a0_22 : Int) (a1_0 : Int) (a1_1 : Int) (a1_2 : Int) (a1_3 : Int) (a1_4 : Int) (a1_5 : Int) (a1_6 : Int) (a1_7 : Int) (a2 : Int) (a3 : Int) (a4 : Int) (a5 : Int) : List SObj := [SObj.cells [vw a0_0, vw a0_1, vw a0_2, vw a0_3, vw a0_4, vw a0_5, vw a0_6, vw a0_7, vw a0_8, vb a0_9, vb a0_10, vb a0_11, vb a0_12, vb a0_13, vb a0_14, vd a0_15, vd a0_16, vd a0_17, vd a0_18, vd a0_19, vd a0_20, vd a0_21, vd a0_22] 46, SObj.cells [vw a1_0, vw a1_1, vw a1_2, vw a1_3, vw a1_4, vw a1_5, vw a1_6, vw a1_7] 41, SObj.cells [Sv.v (Value.string { data := { toList := [164] } }), Sv.v (Value.string { data := { toList := [165] } }), Sv.v (Value.string { data := { toList := [170] } }), Sv.v (Value.string { data := { toList := [171] } }), Sv.v (Value.string { data := { toList := [172] } }), Sv.v (Value.string { data := { toList := [173] } }), Sv.v (Value.string { data := { toList := [243, 164] } }), Sv.v (Value.string { data := { toList := [243, 165] } }), Sv.v (Value.string { data := { toList := [243, 170] } }), Sv.v (Value.string { data := { toList := [243, 171] } })] 9, SObj.buf (3 + 1) [vy 173] 5, SObj.dead, SObj.cells [vi 48, vi 0, vi 4, vi 0, vi 0, vi ((-1)), vi ((-1)), vi 1, vw 0, vi 0, vi 0, vi ((-1)), vi ((-1)), vi 1, vw 0, vw 0, vb false, vi 1] 69]
def T6 (a0_0 : Int) (a0_1 : Int) (a0_2 : Int) (a0_3 : Int) (a0_4 : Int) (a0_5 : Int) (a0_6 : Int) (a0_7 : Int) (a0_8 : Int) (a0_9 : Bool) (a0_10 : Bool) (a0_11 : Bool) (a0_12 : Bool) (a0_13 : Bool) (a0_14 : Bool) (a0_15 : Int) (a0_16 : Int) (a0_17 : Int) (a0_18 : Int) (a0_19 : Int) (a0_20 : Int) (a0_21 : Int) (a0_22 : Int) (a1_0 : Int) (a1_1 : Int) (a1_2 : Int) (a1_3 : Int) (a1_4 : Int) (a1_5 : Int) (a1_6 : Int) (a1_7 : Int) (a2 : Int) (a3 : Int) (a4 : Int) (a5 : Int) : List Sv := [Sv.agg [vw a0_0, vw a0_1, vw a0_2, vw a0_3, vw a0_4, vw a0_5, vw a0_6, vw a0_7, vw a0_8, vb a0_9, vb a0_10, vb a0_11, vb a0_12, vb a0_13, vb a0_14, vd a0_15, vd a0_16, vd a0_17, vd a0_18, vd a0_19, vd a0_20, vd a0_21, vd a0_22], Sv.agg [vw a1_0, vw a1_1, vw a1_2, vw a1_3, vw a1_4, vw a1_5, vw a1_6, vw a1_7], vy a2, vy a3, vy a4, vw a5, Sv.ptr 0 0, Sv.ptr 1 0, vu, vu, vu, vu, vb false, Sv.ptr 5 0, vi 0, vu, vu, vu, vu, vu, vu, vu, vu, vu, vu, vb true, vb false, Sv.tup [Sv.agg [vi 46, vi 0, vi 1, vi 0, vi 0, vi ((-1)), vi ((-1)), vi 1, vw 0, vi 0, vi 0, vi ((-1)), vi ((-1)), vi 1, vw 0, vw 0, vb true, vi 2], vi 0], Sv.sl 2 0 10 10, vy a4, vy ((Int.tmod a4 10)), Sv.ptr 2 6, Sv.v (Value.string { data := { toList := [243, 164] } }), Sv.sa 3 (3 + 1) 0 2, Sv.tup [Sv.agg [vi 46, vi 0, vi 1, vi 0, vi 0, vi ((-1)), vi ((-1)), vi 1, vw 0, vi 0, vi 0, vi ((-1)), vi ((-1)), vi 1, vw 0, vw 0, vb true, vi 2], vi 0], Sv.agg [vi 46, vi 0, vi 1, vi 0, vi 0, vi ((-1)), vi ((-1)), vi 1, vw 0, vi 0, vi 0, vi ((-1)), vi ((-1)), vi 1, vw 0, vw 0, vb true, vi 2], vi 0, vu, vu, vu, vu, vu, vu, vu, vu, vu, vu, vu, vu, vu, vu, vu, vu, vu, vu, vu, vu, vu, vu, vu, vu, vu, vu, vu, vu, vu, vu, vu, vu, vu, vu, vu, vu, vu, vu, vu, vu, vu, vu, vu, vu, vu, vu, vu, vu, vu, vu, vu, vu, vu, vu, vu, vu, vu, vu, vu, vu, vu]
def M6 (a0_0 : Int) (a0_1 : Int) (a0_2 : Int) (a0_3 : Int) (a0_4 : Int) (a0_5 : Int) (a0_6 : Int) (a0_7 : Int) (a0_8 : Int) (a0_9 : Bool) (a0_10 : Bool) (a0_11 : Bool) (a0_12 : Bool) (a0_13 : Bool) (a0_14 : Bool) (a0_15 : Int) (a0_16 : Int) (a0_17 : Int) (a0_18 : Int) (a0_19 : Int) (a0_20 : Int) (a0_21 : Int) (a0_22 : Int) (a1_0 : Int) (a1_1 : Int) (a1_2 : Int) (a1_3 : Int) (a1_4 : Int) (a1_5 : Int) (a1_6 : Int) (a1_7 : Int) (a2 : Int) (a3 : Int) (a4 : Int) (a5 : Int) : List SObj := [SObj.cells [vw a0_0, vw a0_1, vw a0_2, vw a0_3, vw a0_4, vw a0_5, vw a0_6, vw a0_7, vw a0_8, vb a0_9, vb a0_10, vb a0_11, vb a0_12, vb a0_13, vb a0_14, vd a0_15, vd a0_16, vd a0_17, vd a0_18, vd a0_19, vd a0_20, vd a0_21, vd a0_22] 46, SObj.cells [vw a1_0, vw a1_1, vw a1_2, vw a1_3, vw a1_4, vw a1_5, vw a1_6, vw a1_7] 41, SObj.cells [Sv.v (Value.string { data := { toList := [164] } }), Sv.v (Value.string { data := { toList := [165] } }), Sv.v (Value.string { data := { toList := [170] } }), Sv.v (Value.string { data := { toList := [171] } }), Sv.v (Value.string { data := { toList := [172] } }), Sv.v (Value.string { data := { toList := [173] } }), Sv.v (Value.string { data := { toList := [243, 164] } }), Sv.v (Value.string { data := { toList := [243, 165] } }), Sv.v (Value.string { data := { toList := [243, 170] } }), Sv.v (Value.string { data := { toList := [243, 171] } })] 9, SObj.buf (3 + 1) [vy 243, vy 164] 5, SObj.dead, SObj.cells [vi 46, vi 0, vi 1, vi 0, vi 0, vi ((-1)), vi ((-1)), vi 1, vw 0, vi 0, vi 0, vi ((-1)), vi ((-1)), vi 1, vw 0, vw 0, vb true, vi 2] 69]
def T7 (a0_0 : Int) (a0_1 : Int) (a0_2 : Int) (a0_3 : Int) (a0_4 : Int) (a0_5 : Int) (a0_6 : Int) (a0_7 : Int) (a0_8 : Int) (a0_9 : Bool) (a0_10 : Bool) (a0_11 : Bool) (a0_12 : Bool) (a0_13 : Bool) (a0_14 : Bool) (a0_15 : Int) (a0_16 : Int) (a0_17 : Int) (a0_18 : Int) (a0_19 : Int) (a0_20 : Int) (a0_21 : Int) (a0_22 : Int) (a1_0 : Int) (a1_1 : Int) (a1_2 : Int) (a1_3 : Int) (a1_4 : Int) (a1_5 : Int) (a1_6 : Int) (a1_7 : Int) (a2 : Int) (a3 : Int) (a4 : Int) (a5 : Int) : List Sv := [Sv.agg [vw a0_0, vw a0_1, vw a0_2, vw a0_3, vw a0_4, vw a0_5, vw a0_6, vw a0_7, vw a0_8, vb a0_9, vb a0_10, vb a0_11, vb a0_12, vb a0_13, vb a0_14, vd a0_15, vd a0_16, vd a0_17, vd a0_18, vd a0_19, vd a0_20, vd a0_21, vd a0_22], Sv.agg [vw a1_0, vw a1_1, vw a1_2, vw a1_3, vw a1_4, vw a1_5, vw a1_6, vw a1_7], vy a2, vy a3, vy a4, vw a5, Sv.ptr 0 0, Sv.ptr 1 0, vu, vu, vu, vu, vb false, Sv.ptr 5 0, vi 0, vu, vu, vu, vu, vu, vu, vu, vu, vu, vu, vb true, vb false, Sv.tup [Sv.agg [vi 46, vi 0, vi 4, vi 0, vi 0, vi ((-1)), vi ((-1)), vi 1, vw 0, vi 0, vi 0, vi ((-1)), vi ((-1)), vi 1, vw 0, vw 0, vb true, vi 2], vi 0], Sv.sl 2 0 10 10, vy a4, vy ((Int.tmod a4 10)), Sv.ptr 2 7, Sv.v (Value.string { data := { toList := [243, 165] } }), Sv.sa 3 (3 + 1) 0 2, Sv.tup [Sv.agg [vi 46, vi 0, vi 4, vi 0, vi 0, vi ((-1)), vi ((-1)), vi 1, vw 0, vi 0, vi 0, vi ((-1)), vi ((-1)), vi 1, vw 0, vw 0, vb true, vi 2], vi 0], Sv.agg [vi 46, vi 0, vi 4, vi 0, vi 0, vi ((-1)), vi ((-1)), vi 1, vw 0, vi 0, vi 0, vi ((-1)), vi ((-1)), vi 1, vw 0, vw 0, vb true, vi 2], vi 0, vu, vu, vu, vu, vu, vu, vu, vu, vu, vu, vu, vu, vu, vu, vu, vu, vu, vu, vu, vu, vu, vu, vu, vu, vu, vu, vu, vu, vu, vu, vu, vu, vu, vu, vu, vu, vu, vu, vu, vu, vu, vu, vu, vu, vu, vu, vu, vu, vu, vu, vu, vu, vu, vu, vu, vu, vu, vu, vu, vu, vu]
def M7 (a0_0 : Int) (a0_1 : Int) (a0_2 : Int) (a0_3 : Int) (a0_4 : Int) (a0_5 : Int) (a0_6 : Int) (a0_7 : Int) (a0_8 : Int) (a0_9 : Bool) (a0_10 : Bool) (a0_11 : Bool) (a0_12 : Bool) (a0_13 : Bool) (a0_14 : Bool) (a0_15 : Int) (a0_16 : Int) (a0_17 : Int) (a0_18 : Int) (a0_19 : Int) (a0_20 : Int) (a0_21 : Int) (a0_22 : Int) (a1_0 : Int) (a1_1 : Int) (a1_2 : Int) (a1_3 : Int) (a1_4 : Int) (a1_5 : Int) (a1_6 : Int) (a1_7 : Int) (a2 : Int) (a3 : Int) (a4 : Int) (a5 : Int) : List SObj := [SObj.cells [vw a0_0, vw a0_1, vw a0_2, vw a0_3, vw a0_4, vw a0_5, vw a0_6, vw a0_7, vw a0_8, vb a0_9, vb a0_10, vb a0_11, vb a0_12, vb a0_13, vb a0_14, vd a0_15, vd a0_16, vd a0_17, vd a0_18, vd a0_19, vd a0_20, vd a0_21, vd a0_22] 46, SObj.cells [vw a1_0, vw a1_1, vw a1_2, vw a1_3, vw a1_4, vw a1_5, vw a1_6, vw a1_7] 41, SObj.cells [Sv.v (Value.string { data := { toList := [164] } }), Sv.v (Value.string { data := { toList := [165] } }), Sv.v (Value.string { data := { toList := [170] } }), Sv.v (Value.string { data := { toList := [171] } }), Sv.v (Value.string { data := { toList := [172] } }), Sv.v (Value.string { data := { toList := [173] } }), Sv.v (Value.string { data := { toList := [243, 164] } }), Sv.v (Value.string { data := { toList := [243, 165] } }), Sv.v (Value.string { data := { toList := [243, 170] } }), Sv.v (Value.string { data := { toList := [243, 171] } })] 9, SObj.buf (3 + 1) [vy 243, vy 165] 5, SObj.dead, SObj.cells [vi 46, vi 0, vi 4, vi 0, vi 0, vi ((-1)), vi ((-1)), vi 1, vw 0, vi 0, vi 0, vi ((-1)), vi ((-1)), vi 1, vw 0, vw 0, vb true, vi 2] 69]
def T8 (a0_0 : Int) (a0_1 : Int) (a0_2 : Int) (a0_3 : Int) (a0_4 : Int) (a0_5 : Int) (a0_6 : Int) (a0_7 : Int) (a0_8 : Int) (a0_9 : Bool) (a0_10 : Bool) (a0_11 : Bool) (a0_12 : Bool) (a0_13 : Bool) (a0_14 : Bool) (a0_15 : Int) (a0_16 : Int) (a0_17 : Int) (a0_18 : Int) (a0_19 : Int) (a0_20 : Int) (a0_21 : Int) (a0_22 : Int) (a1_0 : Int) (a1_1 : Int) (a1_2 : Int) (a1_3 : Int) (a1_4 : Int) (a1_5 : Int) (a1_6 : Int) (a1_7 : Int) (a2 : Int) (a3 : Int) (a4 : Int) (a5 : Int) : List Sv := [Sv.agg [vw a0_0, vw a0_1, vw a0_2, vw a0_3, vw a0_4, vw a0_5, vw a0_6, vw a0_7, vw a0_8, vb a0_9, vb a0_10, vb a0_11, vb a0_12, vb a0_13, vb a0_14, vd a0_15, vd a0_16, vd a0_17, vd a0_18, vd a0_19, vd a0_20, vd a0_21, vd a0_22], Sv.agg [vw a1_0, vw a1_1, vw a1_2, vw a1_3, vw a1_4, vw a1_5, vw a1_6, vw a1_7], vy a2, vy a3, vy a4, vw a5, Sv.ptr 0 0, Sv.ptr 1 0, vu, vu, vu, vu, vb false, Sv.ptr 5 0, vi 0, vu, vu, vu, vu, vu, vu, vu, vu, vu, vu, vb true, vb false, Sv.tup [Sv.agg [vi 47, vi 0, vi 1, vi 0, vi 0, vi ((-1)), vi ((-1)), vi 1, vw 0, vi 0, vi 0, vi ((-1)), vi ((-1)), vi 1, vw 0, vw 0, vb true, vi 2], vi 0], Sv.sl 2 0 10 10, vy a4, vy ((Int.tmod a4 10)), Sv.ptr 2 8, Sv.v (Value.string { data := { toList := [243, 170] } }), Sv.sa 3 (3 + 1) 0 2, Sv.tup [Sv.agg [vi 47, vi 0, vi 1, vi 0, vi 0, vi ((-1)), vi ((-1)), vi 1, vw 0, vi 0, vi 0, vi ((-1)), vi ((-1)), vi 1, vw 0, vw 0, vb true, vi 2], vi 0], Sv.agg [vi 47, vi 0, vi 1, vi 0, vi 0, vi ((-1)), vi ((-1)), vi 1, vw 0, vi 0, vi 0, vi ((-1)), vi ((-1)), vi 1, vw 0, vw 0, vb true, vi 2], vi 0, vu, vu, vu, vu, vu, vu, vu, vu, vu, vu, vu, vu, vu, vu, vu, vu, vu, vu, vu, vu, vu, vu, vu, vu, vu, vu, vu, vu, vu, vu, vu, vu, vu, vu, vu, vu, vu, vu, vu, vu, vu, vu, vu, vu, vu, vu, vu, vu, vu, vu, vu, vu, vu, vu, vu, vu, vu, vu, vu, vu, vu]
def M8 (a0_0 : Int) (a0_1 : Int) (a0_2 : Int) (a0_3 : Int) (a0_4 : Int) (a0_5 : Int) (a0_6 : Int) (a0_7 : Int) (a0_8 : Int) (a0_9 : Bool) (a0_10 : Bool) (a0_11 : Bool) (a0_12 : Bool) (a0_13 : Bool) (a0_14 : Bool) (a0_15 : Int) (a0_16 : Int) (a0_17 : Int) (a0_18 : Int) (a0_19 : Int) (a0_20 : Int) (a0_21 : Int) (a0_22 : Int) (a1_0 : Int) (a1_1 : Int) (a1_2 : Int) (a1_3 : Int) (a1_4 : Int) (a1_5 : Int) (a1_6 : Int) (a1_7 : Int) (a2 : Int) (a3 : Int) (a4 : Int) (a5 : Int) : List SObj := [SObj.cells [vw a0_0, vw a0_1, vw a0_2, vw a0_3, vw a0_4, vw a0_5, vw a0_6, vw a0_7, vw a0_8, vb a0_9, vb a0_10, vb a0_11, vb a0_12, vb a0_13, vb a0_14, vd a0_15, vd a0_16, vd a0_17, vd a0_18, vd a0_19, vd a0_20, vd a0_21, vd a0_22] 46, SObj.cells [vw a1_0, vw a1_1, vw a1_2, vw a1_3, vw a1_4, vw a1_5, vw a1_6, vw a1_7] 41, SObj.cells [Sv.v (Value.string { data := { toList := [164] } }), Sv.v (Value.string { data := { toList := [165] } }), Sv.v (Value.string { data := { toList := [170] } }), Sv.v (Value.string { data := { toList := [171] } }), Sv.v (Value.string { data := { toList := [172] } }), Sv.v (Value.string { data := { toList := [173] } }), Sv.v (Value.string { data := { toList := [243, 164] } }), Sv.v (Value.string { data := { toList := [243, 165] } }), Sv.v (Value.string { data := { toList := [243, 170] } }), Sv.v (Value.string { data := { toList := [243, 171] } })] 9, SObj.buf (3 + 1) [vy 243, vy 170] 5, SObj.dead, SObj.cells [vi 47, vi 0, vi 1, vi 0, vi 0, vi ((-1)), vi ((-1)), vi 1, vw 0, vi 0, vi 0, vi ((-1)), vi ((-1)), vi 1, vw 0, vw 0, vb true, vi 2] 69]
def T9 (a0_0 : Int) (a0_1 : Int) (a0_2 : Int) (a0_3 : Int) (a0_4 : Int) (a0_5 : Int) (a0_6 : Int) (a0_7 : Int) (a0_8 : Int) (a0_9 : Bool) (a0_10 : Bool) (a0_11 : Bool) (a0_12 : Bool) (a0_13 : Bool) (a0_14 : Bool) (a0_15 : Int) (a0_16 : Int) (a0_17 : Int) (a0_18 : Int) (a0_19 : Int) (a0_20 : Int) (a0_21 : Int) (a0_22 : Int) (a1_0 : Int) (a1_1 : Int) (a1_2 : Int) (a1_3 : Int) (a1_4 : Int) (a1_5 : Int) (a1_6 : Int) (a1_7 : Int) (a2 : Int) (a3 : Int) (a4 : Int) (a5 : Int) : List Sv := [Sv.agg [vw a0_0, vw a0_1, vw a0_2, vw a0_3, vw a0_4, vw a0_5, vw a0_6, vw a0_7, vw a0_8, vb a0_9, vb a0_10, vb a0_11, vb a0_12, vb a0_13, vb a0_14, vd a0_15, vd a0_16, vd a0_17, vd a0_18, vd a0_19, vd a0_20, vd a0_21, vd a0_22], Sv.agg [vw a1_0, vw a1_1, vw a1_2, vw a1_3, vw a1_4, vw a1_5, vw a1_6, vw a1_7], vy a2, vy a3, vy a4, vw a5, Sv.ptr 0 0, Sv.ptr 1 0, vu, vu, vu, vu, vb false, Sv.ptr 5 0, vi 0, vu, vu, vu, vu, vu, vu, vu, vu, vu, vu, vb true, vb false, Sv.tup [Sv.agg [vi 47, vi 0, vi 4, vi 0, vi 0, vi ((-1)), vi ((-1)), vi 1, vw 0, vi 0, vi 0, vi ((-1)), vi ((-1)), vi 1, vw 0, vw 0, vb true, vi 2], vi 0], Sv.sl 2 0 10 10, vy a4, vy ((Int.tmod a4 10)), Sv.ptr 2 9, Sv.v (Value.string { data := { toList := [243, 171] } }), Sv.sa 3 (3 + 1) 0 2, Sv.tup [Sv.agg [vi 47, vi 0, vi 4, vi 0, vi 0, vi ((-1)), vi ((-1)), vi 1, vw 0, vi 0, vi 0, vi ((-1)), vi ((-1)), vi 1, vw 0, vw 0, vb true, vi 2], vi 0], Sv.agg [vi 47, vi 0, vi 4, vi 0, vi 0, vi ((-1)), vi ((-1)), vi 1, vw 0, vi 0, vi 0, vi ((-1)), vi ((-1)), vi 1, vw 0, vw 0, vb true, vi 2], vi 0, vu, vu, vu, vu, vu, vu, vu, vu, vu, vu, vu, vu, vu, vu, vu, vu, vu, vu, vu, vu, vu, vu, vu, vu, vu, vu, vu, vu, vu, vu, vu, vu, vu, vu, vu, vu, vu, vu, vu, vu, vu, vu, vu, vu, vu, vu, vu, vu, vu, vu, vu, vu, vu, vu, vu, vu, vu, vu, vu, vu, vu]
def M9 (a0_0 : Int) (a0_1 : Int) (a0_2 : Int) (a0_3 : Int) (a0_4 : Int) (a0_5 : Int) (a0_6 : Int) (a0_7 : Int) (a0_8 : Int) (a0_9 : Bool) (a0_10 : Bool) (a0_11 : Bool) (a0_12 : Bool) (a0_13 : Bool) (a0_14 : Bool) (a0_15 : Int) (a0_16 : Int) (a0_17 : Int) (a0_18 : Int) (a0_19 : Int) (a0_20 : Int) (a0_21 : Int) (a0_22 : Int) (a1_0 : Int) (a1_1 : Int) (a1_2 : Int) (a1_3 : Int) (a1_4 : Int) (a1_5 : Int) (a1_6 : Int) (a1_7 : Int) (a2 : Int) (a3 : Int) (a4 : Int) (a5 : Int) : List SObj := [SObj.cells [vw a0_0, vw a0_1, vw a0_2, vw a0_3, vw a0_4, vw a0_5, vw a0_6, vw a0_7, vw a0_8, vb a0_9, vb a0_10, vb a0_11, vb a0_12, vb a0_13, vb a0_14, vd a0_15, vd a0_16, vd a0_17, vd a0_18, vd a0_19, vd a0_20, vd a0_21, vd a0_22] 46, SObj.cells [vw a1_0, vw a1_1, vw a1_2, vw a1_3, vw a1_4, vw a1_5, vw a1_6, vw a1_7] 41, SObj.cells [Sv.v (Value.string { data := { toList := [164] } }), Sv.v (Value.string { data := { toList := [165] } }), Sv.v (Value.string { data := { toList := [170] } }), Sv.v (Value.string { data := { toList := [171] } }), Sv.v (Value.string { data := { toList := [172] } }), Sv.v (Value.string { data := { toList := [173] } }), Sv.v (Value.string { data := { toList := [243, 164] } }), Sv.v (Value.string { data := { toList := [243, 165] } }), Sv.v (Value.string { data := { toList := [243, 170] } }), Sv.v (Value.string { data := { toList := [243, 171] } })] 9, SObj.buf (3 + 1) [vy 243, vy 171] 5, SObj.dead, SObj.cells [vi 47, vi 0, vi 4, vi 0, vi 0, vi ((-1)), vi ((-1)), vi 1, vw 0, vi 0, vi 0, vi ((-1)), vi ((-1)), vi 1, vw 0, vw 0, vb true, vi 2] 69]
theorem form0 (a0_0 : Int) (a0_1 : Int) (a0_2 : Int) (a0_3 : Int) (a0_4 : Int) (a0_5 : Int) (a0_6 : Int) (a0_7 : Int) (a0_8 : Int) (a0_9 : Bool) (a0_10 : Bool) (a0_11 : Bool) (a0_12 : Bool) (a0_13 : Bool) (a0_14 : Bool) (a0_15 : Int) (a0_16 : Int) (a0_17 : Int) (a0_18 : Int) (a0_19 : Int) (a0_20 : Int) (a0_21 : Int) (a0_22 : Int) (a1_0 : Int) (a1_1 : Int) (a1_2 : Int) (a1_3 : Int) (a1_4 : Int) (a1_5 : Int) (a1_6 : Int) (a1_7 : Int) (a2 : Int) (a3 : Int) (a4 : Int) (a5 : Int) (K : SEx → List Sv → List SObj → Option Bool) :
    ev Try.prog (ΓSn.add 42 (pureSpec stateS)) 400 (Env.hooks (ΓSn.add 42 (pureSpec stateS)) 9) (preC 3 (Try.f9.body.getD .skip)) (frameOf Try.f9 [.agg [.v (.int .u32 a0_0), .v (.int .u32 a0_1), .v (.int .u32 a0_2), .v (.int .u32 a0_3), .v (.int .u32 a0_4), .v (.int .u32 a0_5), .v (.int .u32 a0_6), .v (.int .u32 a0_7), .v (.int .u32 a0_8), .v (.bool a0_9), .v (.bool a0_10), .v (.bool a0_11), .v (.bool a0_12), .v (.bool a0_13), .v (.bool a0_14), .v (.int .u64 a0_15), .v (.int .u64 a0_16), .v (.int .u64 a0_17), .v (.int .u64 a0_18), .v (.int .u64 a0_19), .v (.int .u64 a0_20), .v (.int .u64 a0_21), .v (.int .u64 a0_22)], .agg [.v (.int .u32 a1_0), .v (.int .u32 a1_1), .v (.int .u32 a1_2), .v (.int .u32 a1_3), .v (.int .u32 a1_4), .v (.int .u32 a1_5), .v (.int .u32 a1_6), .v (.int .u32 a1_7)], .v (.int .u8 a2), .v (.int .u8 a3), .v (.int .u8 a4), .v (.int .u32 a5)]) [] K =
    (bif Int.tmod a4 10 == 0 then
K SEx.normal (T0 a0_0 a0_1 a0_2 a0_3 a0_4 a0_5 a0_6 a0_7 a0_8 a0_9 a0_10 a0_11 a0_12 a0_13 a0_14 a0_15 a0_16 a0_17 a0_18 a0_19 a0_20 a0_21 a0_22 a1_0 a1_1 a1_2 a1_3 a1_4 a1_5 a1_6 a1_7 a2 a3 a4 a5) (M0 a0_0 a0_1 a0_2 a0_3 a0_4 a0_5 a0_6 a0_7 a0_8 a0_9 a0_10 a0_11 a0_12 a0_13 a0_14 a0_15 a0_16 a0_17 a0_18 a0_19 a0_20 a0_21 a0_22 a1_0 a1_1 a1_2 a1_3 a1_4 a1_5 a1_6 a1_7 a2 a3 a4 a5)
else
bif Int.tmod a4 10 == 1 then
K SEx.normal (T1 a0_0 a0_1 a0_2 a0_3 a0_4 a0_5 a0_6 a0_7 a0_8 a0_9 a0_10 a0_11 a0_12 a0_13 a0_14 a0_15 a0_16 a0_17 a0_18 a0_19 a0_20 a0_21 a0_22 a1_0 a1_1 a1_2 a1_3 a1_4 a1_5 a1_6 a1_7 a2 a3 a4 a5) (M1 a0_0 a0_1 a0_2 a0_3 a0_4 a0_5 a0_6 a0_7 a0_8 a0_9 a0_10 a0_11 a0_12 a0_13 a0_14 a0_15 a0_16 a0_17 a0_18 a0_19 a0_20 a0_21 a0_22 a1_0 a1_1 a1_2 a1_3 a1_4 a1_5 a1_6 a1_7 a2 a3 a4 a5)
else
bif Int.tmod a4 10 == 2 then
K SEx.normal (T2 a0_0 a0_1 a0_2 a0_3 a0_4 a0_5 a0_6 a0_7 a0_8 a0_9 a0_10 a0_11 a0_12 a0_13 a0_14 a0_15 a0_16 a0_17 a0_18 a0_19 a0_20 a0_21 a0_22 a1_0 a1_1 a1_2 a1_3 a1_4 a1_5 a1_6 a1_7 a2 a3 a4 a5) (M2 a0_0 a0_1 a0_2 a0_3 a0_4 a0_5 a0_6 a0_7 a0_8 a0_9 a0_10 a0_11 a0_12 a0_13 a0_14 a0_15 a0_16 a0_17 a0_18 a0_19 a0_20 a0_21 a0_22 a1_0 a1_1 a1_2 a1_3 a1_4 a1_5 a1_6 a1_7 a2 a3 a4 a5)
else
bif Int.tmod a4 10 == 3 then
K SEx.normal (T3 a0_0 a0_1 a0_2 a0_3 a0_4 a0_5 a0_6 a0_7 a0_8 a0_9 a0_10 a0_11 a0_12 a0_13 a0_14 a0_15 a0_16 a0_17 a0_18 a0_19 a0_20 a0_21 a0_22 a1_0 a1_1 a1_2 a1_3 a1_4 a1_5 a1_6 a1_7 a2 a3 a4 a5) (M3 a0_0 a0_1 a0_2 a0_3 a0_4 a0_5 a0_6 a0_7 a0_8 a0_9 a0_10 a0_11 a0_12 a0_13 a0_14 a0_15 a0_16 a0_17 a0_18 a0_19 a0_20 a0_21 a0_22 a1_0 a1_1 a1_2 a1_3 a1_4 a1_5 a1_6 a1_7 a2 a3 a4 a5)
else
bif Int.tmod a4 10 == 4 then
K SEx.normal (T4 a0_0 a0_1 a0_2 a0_3 a0_4 a0_5 a0_6 a0_7 a0_8 a0_9 a0_10 a0_11 a0_12 a0_13 a0_14 a0_15 a0_16 a0_17 a0_18 a0_19 a0_20 a0_21 a0_22 a1_0 a1_1 a1_2 a1_3 a1_4 a1_5 a1_6 a1_7 a2 a3 a4 a5) (M4 a0_0 a0_1 a0_2 a0_3 a0_4 a0_5 a0_6 a0_7 a0_8 a0_9 a0_10 a0_11 a0_12 a0_13 a0_14 a0_15 a0_16 a0_17 a0_18 a0_19 a0_20 a0_21 a0_22 a1_0 a1_1 a1_2 a1_3 a1_4 a1_5 a1_6 a1_7 a2 a3 a4 a5)
else
bif Int.tmod a4 10 == 5 then
K SEx.normal (T5 a0_0 a0_1 a0_2 a0_3 a0_4 a0_5 a0_6 a0_7 a0_8 a0_9 a0_10 a0_11 a0_12 a0_13 a0_14 a0_15 a0_16 a0_17 a0_18 a0_19 a0_20 a0_21 a0_22 a1_0 a1_1 a1_2 a1_3 a1_4 a1_5 a1_6 a1_7 a2 a3 a4 a5) (M5 a0_0 a0_1 a0_2 a0_3 a0_4 a0_5 a0_6 a0_7 a0_8 a0_9 a0_10 a0_11 a0_12 a0_13 a0_14 a0_15 a0_16 a0_17 a0_18 a0_19 a0_20 a0_21 a0_22 a1_0 a1_1 a1_2 a1_3 a1_4 a1_5 a1_6 a1_7 a2 a3 a4 a5)
else
bif Int.tmod a4 10 == 6 then
K SEx.normal (T6 a0_0 a0_1 a0_2 a0_3 a0_4 a0_5 a0_6 a0_7 a0_8 a0_9 a0_10 a0_11 a0_12 a0_13 a0_14 a0_15 a0_16 a0_17 a0_18 a0_19 a0_20 a0_21 a0_22 a1_0 a1_1 a1_2 a1_3 a1_4 a1_5 a1_6 a1_7 a2 a3 a4 a5) (M6 a0_0 a0_1 a0_2 a0_3 a0_4 a0_5 a0_6 a0_7 a0_8 a0_9 a0_10 a0_11 a0_12 a0_13 a0_14 a0_15 a0_16 a0_17 a0_18 a0_19 a0_20 a0_21 a0_22 a1_0 a1_1 a1_2 a1_3 a1_4 a1_5 a1_6 a1_7 a2 a3 a4 a5)
else
bif Int.tmod a4 10 == 7 then
K SEx.normal (T7 a0_0 a0_1 a0_2 a0_3 a0_4 a0_5 a0_6 a0_7 a0_8 a0_9 a0_10 a0_11 a0_12 a0_13 a0_14 a0_15 a0_16 a0_17 a0_18 a0_19 a0_20 a0_21 a0_22 a1_0 a1_1 a1_2 a1_3 a1_4 a1_5 a1_6 a1_7 a2 a3 a4 a5) (M7 a0_0 a0_1 a0_2 a0_3 a0_4 a0_5 a0_6 a0_7 a0_8 a0_9 a0_10 a0_11 a0_12 a0_13 a0_14 a0_15 a0_16 a0_17 a0_18 a0_19 a0_20 a0_21 a0_22 a1_0 a1_1 a1_2 a1_3 a1_4 a1_5 a1_6 a1_7 a2 a3 a4 a5)
else
bif Int.tmod a4 10 == 8 then
K SEx.normal (T8 a0_0 a0_1 a0_2 a0_3 a0_4 a0_5 a0_6 a0_7 a0_8 a0_9 a0_10 a0_11 a0_12 a0_13 a0_14 a0_15 a0_16 a0_17 a0_18 a0_19 a0_20 a0_21 a0_22 a1_0 a1_1 a1_2 a1_3 a1_4 a1_5 a1_6 a1_7 a2 a3 a4 a5) (M8 a0_0 a0_1 a0_2 a0_3 a0_4 a0_5 a0_6 a0_7 a0_8 a0_9 a0_10 a0_11 a0_12 a0_13 a0_14 a0_15 a0_16 a0_17 a0_18 a0_19 a0_20 a0_21 a0_22 a1_0 a1_1 a1_2 a1_3 a1_4 a1_5 a1_6 a1_7 a2 a3 a4 a5)
else
bif Int.tmod a4 10 == 9 then
K SEx.normal (T9 a0_0 a0_1 a0_2 a0_3 a0_4 a0_5 a0_6 a0_7 a0_8 a0_9 a0_10 a0_11 a0_12 a0_13 a0_14 a0_15 a0_16 a0_17 a0_18 a0_19 a0_20 a0_21 a0_22 a1_0 a1_1 a1_2 a1_3 a1_4 a1_5 a1_6 a1_7 a2 a3 a4 a5) (M9 a0_0 a0_1 a0_2 a0_3 a0_4 a0_5 a0_6 a0_7 a0_8 a0_9 a0_10 a0_11 a0_12 a0_13 a0_14 a0_15 a0_16 a0_17 a0_18 a0_19 a0_20 a0_21 a0_22 a1_0 a1_1 a1_2 a1_3 a1_4 a1_5 a1_6 a1_7 a2 a3 a4 a5)
else none) := by kernel_rfl
set_option maxHeartbeats 1000000 in
theorem way0 (a0_0 : Int) (a0_1 : Int) (a0_2 : Int) (a0_3 : Int) (a0_4 : Int) (a0_5 : Int) (a0_6 : Int) (a0_7 : Int) (a0_8 : Int) (a0_9 : Bool) (a0_10 : Bool) (a0_11 : Bool) (a0_12 : Bool) (a0_13 : Bool) (a0_14 : Bool) (a0_15 : Int) (a0_16 : Int) (a0_17 : Int) (a0_18 : Int) (a0_19 : Int) (a0_20 : Int) (a0_21 : Int) (a0_22 : Int) (a1_0 : Int) (a1_1 : Int) (a1_2 : Int) (a1_3 : Int) (a1_4 : Int) (a1_5 : Int) (a1_6 : Int) (a1_7 : Int) (a2 : Int) (a3 : Int) (a4 : Int) (a5 : Int) (w0_0 : (Lit.int .u32 a0_0).wf = true) (w0_1 : (Lit.int .u32 a0_1).wf = true) (w0_2 : (Lit.int .u32 a0_2).wf = true) (w0_3 : (Lit.int .u32 a0_3).wf = true) (w0_4 : (Lit.int .u32 a0_4).wf = true) (w0_5 : (Lit.int .u32 a0_5).wf = true) (w0_6 : (Lit.int .u32 a0_6).wf = true) (w0_7 : (Lit.int .u32 a0_7).wf = true) (w0_8 : (Lit.int .u32 a0_8).wf = true) (w0_15 : (Lit.int .u64 a0_15).wf = true) (w0_16 : (Lit.int .u64 a0_16).wf = true) (w0_17 : (Lit.int .u64 a0_17).wf = true) (w0_18 : (Lit.int .u64 a0_18).wf = true) (w0_19 : (Lit.int .u64 a0_19).wf = true) (w0_20 : (Lit.int .u64 a0_20).wf = true) (w0_21 : (Lit.int .u64 a0_21).wf = true) (w0_22 : (Lit.int .u64 a0_22).wf = true) (w1_0 : (Lit.int .u32 a1_0).wf = true) (w1_1 : (Lit.int .u32 a1_1).wf = true) (w1_2 : (Lit.int .u32 a1_2).wf = true) (w1_3 : (Lit.int .u32 a1_3).wf = true) (w1_4 : (Lit.int .u32 a1_4).wf = true) (w1_5 : (Lit.int .u32 a1_5).wf = true) (w1_6 : (Lit.int .u32 a1_6).wf = true) (w1_7 : (Lit.int .u32 a1_7).wf = true) (w2 : (Lit.int .u8 a2).wf = true) (w3 : (Lit.int .u8 a3).wf = true) (w4 : (Lit.int .u8 a4).wf = true) (w5 : (Lit.int .u32 a5).wf = true) :
    ev Try.prog (ΓSn.add 42 (pureSpec stateS)) 397 (Env.hooks (ΓSn.add 42 (pureSpec stateS)) 9) (postC 3 (Try.f9.body.getD .skip)) (T0 a0_0 a0_1 a0_2 a0_3 a0_4 a0_5 a0_6 a0_7 a0_8 a0_9 a0_10 a0_11 a0_12 a0_13 a0_14 a0_15 a0_16 a0_17 a0_18 a0_19 a0_20 a0_21 a0_22 a1_0 a1_1 a1_2 a1_3 a1_4 a1_5 a1_6 a1_7 a2 a3 a4 a5) (M0 a0_0 a0_1 a0_2 a0_3 a0_4 a0_5 a0_6 a0_7 a0_8 a0_9 a0_10 a0_11 a0_12 a0_13 a0_14 a0_15 a0_16 a0_17 a0_18 a0_19 a0_20 a0_21 a0_22 a1_0 a1_1 a1_2 a1_3 a1_4 a1_5 a1_6 a1_7 a2 a3 a4 a5) (kBody Try.prog Try.f9 isT (fun _ _ => none)) = some true := by
  obtain ⟨x1, ex1⟩ : ∃ x : Int, x = (bitsL BinOp.or IntKind.u8 a3 194) := ⟨_, rfl⟩
  obtain ⟨x2, ex2⟩ : ∃ x : Bool, x = (in32 a0_0 && (in32 a0_1 && (in32 a0_2 && (in32 a0_3 && (in32 a0_4 && (in32 a0_5 && (in32 a0_6 && (in32 a0_7 && true)))))))) := ⟨_, rfl⟩
  obtain ⟨x3, ex3⟩ : ∃ x : Nat, x = (8 + 5) := ⟨_, rfl⟩
  obtain ⟨x4, ex4⟩ : ∃ x : Nat, x = (8 + 1) := ⟨_, rfl⟩
  obtain ⟨x5, ex5⟩ : ∃ x : Int → Int, x = (wrM (fun x => 0) 36864 (rowF (fun x => 0) (fillB a5) 256) 256) := ⟨_, rfl⟩
  obtain ⟨x6, ex6⟩ : ∃ x : Int, x = (-1) := ⟨_, rfl⟩
  obtain ⟨x7, ex7⟩ : ∃ x : Option (Sv × List SObj), x = (strsP46bT 16384 4096 false false true 36864 256 true true false 103 x5 a0_0 a0_1 a0_2 a0_3 a0_4 a0_5 a0_6 a0_7 a0_8 a0_9 a0_10 a0_11 a0_12 a0_13 a0_14 a0_15 a0_16 a0_17 a0_18 a0_19 a0_20 a0_21 a0_22 0 0 0 x6 x6 1 0 0 0 x6 x6 1 0 0 1) := ⟨_, rfl⟩
  obtain ⟨x8, ex8⟩ : ∃ x : Option (Sv × List SObj), x = (strsP46bT 16384 4096 false false true 36864 256 true true false 82 x5 a0_0 a0_1 a0_2 a0_3 a0_4 a0_5 a0_6 a0_7 a0_8 a0_9 a0_10 a0_11 a0_12 a0_13 a0_14 a0_15 a0_16 a0_17 a0_18 a0_19 a0_20 a0_21 a0_22 0 0 0 x6 x6 1 0 0 0 x6 x6 1 0 0 1) := ⟨_, rfl⟩
  obtain ⟨x9, ex9⟩ : ∃ x : Int, x = (stRV (stBit a3 1) a1_0) := ⟨_, rfl⟩
  obtain ⟨x10, ex10⟩ : ∃ x : Int, x = (stRV (stBit a3 2) a1_1) := ⟨_, rfl⟩
  obtain ⟨x11, ex11⟩ : ∃ x : Int, x = (stRV (stBit a3 4) a1_2) := ⟨_, rfl⟩
  obtain ⟨x12, ex12⟩ : ∃ x : Int, x = (stRV (stBit a3 8) a1_3) := ⟨_, rfl⟩
  obtain ⟨x13, ex13⟩ : ∃ x : Int, x = (stRV (stBit a3 16) a1_4) := ⟨_, rfl⟩
  obtain ⟨x14, ex14⟩ : ∃ x : Int, x = (stRV (stBit a3 32) a1_5) := ⟨_, rfl⟩
  obtain ⟨x15, ex15⟩ : ∃ x : Int, x = (stRV (stBit a3 64) a1_6) := ⟨_, rfl⟩
  obtain ⟨x16, ex16⟩ : ∃ x : Int, x = (stRV (stBit a3 128) a1_7) := ⟨_, rfl⟩
  obtain ⟨x17, ex17⟩ : ∃ x : Bool, x = (in32 x9 && (in32 x10 && (in32 x11 && (in32 x12 && (in32 x13 && (in32 x14 && (in32 x15 && (in32 x16 && true)))))))) := ⟨_, rfl⟩
  obtain ⟨x18, ex18⟩ : ∃ x : Nat, x = (24 + 5) := ⟨_, rfl⟩
  obtain ⟨x19, ex19⟩ : ∃ x : Nat, x = (24 + 1) := ⟨_, rfl⟩
  obtain ⟨x20, ex20⟩ : ∃ x : Bool, x = (flagW a2 1) := ⟨_, rfl⟩
  obtain ⟨x21, ex21⟩ : ∃ x : Bool, x = (flagW a2 4) := ⟨_, rfl⟩
  obtain ⟨x22, ex22⟩ : ∃ x : Bool, x = (flagW a2 64) := ⟨_, rfl⟩
  obtain ⟨x23, ex23⟩ : ∃ x : Bool, x = (flagW a2 128) := ⟨_, rfl⟩
  obtain ⟨x24, ex24⟩ : ∃ x : Bool, x = (flagW a2 2048) := ⟨_, rfl⟩
  obtain ⟨x25, ex25⟩ : ∃ x : Bool, x = (flagW a2 1024) := ⟨_, rfl⟩
  obtain ⟨x26, ex26⟩ : ∃ x : Option (Sv × List SObj), x = (strsP46bT 16384 4096 false false true 36864 256 true true false 103 x5 x9 x10 x11 x12 x13 x14 x15 x16 0 x20 x21 x22 x23 x24 x25 0 0 0 0 0 0 0 0 0 0 0 x6 x6 1 0 0 0 x6 x6 1 0 0 1) := ⟨_, rfl⟩
  obtain ⟨x27, ex27⟩ : ∃ x : Option (Sv × List SObj), x = (strsP46bT 16384 4096 false false true 36864 256 true true false 82 x5 x9 x10 x11 x12 x13 x14 x15 x16 0 x20 x21 x22 x23 x24 x25 0 0 0 0 0 0 0 0 0 0 0 x6 x6 1 0 0 0 x6 x6 1 0 0 1) := ⟨_, rfl⟩
  obtain ⟨x28, ex28⟩ : ∃ x : Int, x = (stRV (stBit x1 1) a1_0) := ⟨_, rfl⟩
  obtain ⟨x29, ex29⟩ : ∃ x : Int, x = (stRV (stBit x1 2) a1_1) := ⟨_, rfl⟩
  obtain ⟨x30, ex30⟩ : ∃ x : Int, x = (stRV (stBit x1 4) a1_2) := ⟨_, rfl⟩
  obtain ⟨x31, ex31⟩ : ∃ x : Int, x = (stRV (stBit x1 8) a1_3) := ⟨_, rfl⟩
  obtain ⟨x32, ex32⟩ : ∃ x : Int, x = (stRV (stBit x1 16) a1_4) := ⟨_, rfl⟩
  obtain ⟨x33, ex33⟩ : ∃ x : Int, x = (stRV (stBit x1 32) a1_5) := ⟨_, rfl⟩
  obtain ⟨x34, ex34⟩ : ∃ x : Int, x = (stRV (stBit x1 64) a1_6) := ⟨_, rfl⟩
  obtain ⟨x35, ex35⟩ : ∃ x : Int, x = (stRV (stBit x1 128) a1_7) := ⟨_, rfl⟩
  obtain ⟨x36, ex36⟩ : ∃ x : Bool, x = (in32 x28 && (in32 x29 && (in32 x30 && (in32 x31 && (in32 x32 && (in32 x33 && (in32 x34 && (in32 x35 && true)))))))) := ⟨_, rfl⟩
  obtain ⟨x37, ex37⟩ : ∃ x : Nat, x = (40 + 5) := ⟨_, rfl⟩
  obtain ⟨x38, ex38⟩ : ∃ x : Nat, x = (40 + 1) := ⟨_, rfl⟩
  obtain ⟨x39, ex39⟩ : ∃ x : Option (Sv × List SObj), x = (strsP46bT 16384 4096 false false true 36864 256 true true false 103 x5 x28 x29 x30 x31 x32 x33 x34 x35 0 x20 x21 x22 x23 x24 x25 0 0 0 0 0 0 0 0 0 0 0 x6 x6 1 0 0 0 x6 x6 1 0 0 1) := ⟨_, rfl⟩
  obtain ⟨x40, ex40⟩ : ∃ x : Option (Sv × List SObj), x = (strsP46bT 16384 4096 false false true 36864 256 true true false 82 x5 x28 x29 x30 x31 x32 x33 x34 x35 0 x20 x21 x22 x23 x24 x25 0 0 0 0 0 0 0 0 0 0 0 x6 x6 1 0 0 0 x6 x6 1 0 0 1) := ⟨_, rfl⟩
  have hF : ev Try.prog (ΓSn.add 42 (pureSpec stateS)) 397 (Env.hooks (ΓSn.add 42 (pureSpec stateS)) 9) (postC 3 (Try.f9.body.getD .skip)) (T0 a0_0 a0_1 a0_2 a0_3 a0_4 a0_5 a0_6 a0_7 a0_8 a0_9 a0_10 a0_11 a0_12 a0_13 a0_14 a0_15 a0_16 a0_17 a0_18 a0_19 a0_20 a0_21 a0_22 a1_0 a1_1 a1_2 a1_3 a1_4 a1_5 a1_6 a1_7 a2 a3 a4 a5) (M0 a0_0 a0_1 a0_2 a0_3 a0_4 a0_5 a0_6 a0_7 a0_8 a0_9 a0_10 a0_11 a0_12 a0_13 a0_14 a0_15 a0_16 a0_17 a0_18 a0_19 a0_20 a0_21 a0_22 a1_0 a1_1 a1_2 a1_3 a1_4 a1_5 a1_6 a1_7 a2 a3 a4 a5) (kBody Try.prog Try.f9 isT (fun _ _ => none)) =
    (bif in32 a1_0 && (in32 a1_1 && (in32 a1_2 && (in32 a1_3 && (in32 a1_4 && (in32 a1_5 && (in32 a1_6 && (in32 a1_7 && (true && (true && (true && (true && (true && (true && (true && (true && (in8 a2 && in8 a3)))))))))))))))) then bif in32 a1_0 && (in32 a1_1 && (in32 a1_2 && (in32 a1_3 && (in32 a1_4 && (in32 a1_5 && (in32 a1_6 && (in32 a1_7 && (true && (true && (true && (true && (true && (true && (true && (true && (in8 a2 && in8 x1)))))))))))))))) then bif x2 && !8 + 12 == 8 + 6 then bif x2 && (!x3 == x4 && (!x3 == 8 && !x4 == 8)) then bif !(ansI x7 0 == ansI x8 0 && (ansI x7 1 == ansI x8 1 && (ansI x7 2 == ansI x8 2 && (ansI x7 3 == ansI x8 3 && (ansI x7 4 == ansI x8 4 && (ansI x7 5 == ansI x8 5 && (ansI x7 6 == ansI x8 6 && (ansI x7 7 == ansI x8 7 && true))))))) && (ansI x7 8 == ansI x8 8 && (ansB x7 9 == ansB x8 9 && (ansB x7 10 == ansB x8 10 && (ansB x7 11 == ansB x8 11 && (ansB x7 12 == ansB x8 12 && (ansB x7 13 == ansB x8 13 && (ansB x7 14 == ansB x8 14 && true))))) && (ansI x7 15 == ansI x8 15 && (ansI x7 16 == ansI x8 16 && (ansI x7 17 == ansI x8 17 && (ansI x7 18 == ansI x8 18 && (ansI x7 19 == ansI x8 19 && (ansI x7 20 == ansI x8 20 && (ansI x7 21 == ansI x8 21 && (ansI x7 22 == ansI x8 22 && true))))))) && true)))) then some false else bif ansI x7 23 != ansI x8 23 then some false else bif !ansB x7 24 == ansB x8 24 then some false else bif !alikeV (ansM x7 1) (ansM x8 1) then some false else bif x17 && !24 + 12 == 24 + 6 then bif x17 && (!x18 == x19 && (!x18 == 24 && !x19 == 24)) then bif !(ansI x26 0 == ansI x27 0 && (ansI x26 1 == ansI x27 1 && (ansI x26 2 == ansI x27 2 && (ansI x26 3 == ansI x27 3 && (ansI x26 4 == ansI x27 4 && (ansI x26 5 == ansI x27 5 && (ansI x26 6 == ansI x27 6 && (ansI x26 7 == ansI x27 7 && true))))))) && (ansI x26 8 == ansI x27 8 && (ansB x26 9 == ansB x27 9 && (ansB x26 10 == ansB x27 10 && (ansB x26 11 == ansB x27 11 && (ansB x26 12 == ansB x27 12 && (ansB x26 13 == ansB x27 13 && (ansB x26 14 == ansB x27 14 && true))))) && (ansI x26 15 == ansI x27 15 && (ansI x26 16 == ansI x27 16 && (ansI x26 17 == ansI x27 17 && (ansI x26 18 == ansI x27 18 && (ansI x26 19 == ansI x27 19 && (ansI x26 20 == ansI x27 20 && (ansI x26 21 == ansI x27 21 && (ansI x26 22 == ansI x27 22 && true))))))) && true)))) then some false else bif ansI x26 23 != ansI x27 23 then some false else bif !ansB x26 24 == ansB x27 24 then some false else bif !alikeV (ansM x26 1) (ansM x27 1) then some false else bif x36 && !40 + 12 == 40 + 6 then bif x36 && (!x37 == x38 && (!x37 == 40 && !x38 == 40)) then bif !(ansI x39 0 == ansI x40 0 && (ansI x39 1 == ansI x40 1 && (ansI x39 2 == ansI x40 2 && (ansI x39 3 == ansI x40 3 && (ansI x39 4 == ansI x40 4 && (ansI x39 5 == ansI x40 5 && (ansI x39 6 == ansI x40 6 && (ansI x39 7 == ansI x40 7 && true))))))) && (ansI x39 8 == ansI x40 8 && (ansB x39 9 == ansB x40 9 && (ansB x39 10 == ansB x40 10 && (ansB x39 11 == ansB x40 11 && (ansB x39 12 == ansB x40 12 && (ansB x39 13 == ansB x40 13 && (ansB x39 14 == ansB x40 14 && true))))) && (ansI x39 15 == ansI x40 15 && (ansI x39 16 == ansI x40 16 && (ansI x39 17 == ansI x40 17 && (ansI x39 18 == ansI x40 18 && (ansI x39 19 == ansI x40 19 && (ansI x39 20 == ansI x40 20 && (ansI x39 21 == ansI x40 21 && (ansI x39 22 == ansI x40 22 && true))))))) && true)))) then some false else bif ansI x39 23 != ansI x40 23 then some false else bif !ansB x39 24 == ansB x40 24 then some false else bif !alikeV (ansM x39 1) (ansM x40 1) then some false else some true else none else none else none else none else none else none else none else none) := by
    subst ex1
    subst ex2
    subst ex3
    subst ex4
    subst ex5
    subst ex6
    subst ex7
    subst ex8
    subst ex9
    subst ex10
    subst ex11
    subst ex12
    subst ex13
    subst ex14
    subst ex15
    subst ex16
    subst ex17
    subst ex18
    subst ex19
    subst ex20
    subst ex21
    subst ex22
    subst ex23
    subst ex24
    subst ex25
    subst ex26
    subst ex27
    subst ex28
    subst ex29
    subst ex30
    subst ex31
    subst ex32
    subst ex33
    subst ex34
    subst ex35
    subst ex36
    subst ex37
    subst ex38
    subst ex39
    subst ex40
    kernel_rfl
  rw [hF]
  have i0_0 : in32 a0_0 = true := in32_iff.2 (wf_u32 w0_0)
  have i0_1 : in32 a0_1 = true := in32_iff.2 (wf_u32 w0_1)
  have i0_2 : in32 a0_2 = true := in32_iff.2 (wf_u32 w0_2)
  have i0_3 : in32 a0_3 = true := in32_iff.2 (wf_u32 w0_3)
  have i0_4 : in32 a0_4 = true := in32_iff.2 (wf_u32 w0_4)
  have i0_5 : in32 a0_5 = true := in32_iff.2 (wf_u32 w0_5)
  have i0_6 : in32 a0_6 = true := in32_iff.2 (wf_u32 w0_6)
  have i0_7 : in32 a0_7 = true := in32_iff.2 (wf_u32 w0_7)
  have i1_0 : in32 a1_0 = true := in32_iff.2 (wf_u32 w1_0)
  have i1_1 : in32 a1_1 = true := in32_iff.2 (wf_u32 w1_1)
  have i1_2 : in32 a1_2 = true := in32_iff.2 (wf_u32 w1_2)
  have i1_3 : in32 a1_3 = true := in32_iff.2 (wf_u32 w1_3)
  have i1_4 : in32 a1_4 = true := in32_iff.2 (wf_u32 w1_4)
  have i1_5 : in32 a1_5 = true := in32_iff.2 (wf_u32 w1_5)
  have i1_6 : in32 a1_6 = true := in32_iff.2 (wf_u32 w1_6)
  have i1_7 : in32 a1_7 = true := in32_iff.2 (wf_u32 w1_7)
  have i2 : in8 a2 = true := in8_iff.2 (wf_u8 w2)
  have i3 : in8 a3 = true := in8_iff.2 (wf_u8 w3)
  have tx1 : in8 x1 = true := by rw [ex1, bitsL_eq]; exact in8_or i3 rfl
  have tx2 : x2 = true := by rw [ex2]; simp [i0_0, i0_1, i0_2, i0_3, i0_4, i0_5, i0_6, i0_7, i1_0, i1_1, i1_2, i1_3, i1_4, i1_5, i1_6, i1_7, i2, i3, tx1]
  have tx8 : sansT x8 = sansT x7 := by rw [ex8, ex7]; exact strsP46b_T 16384 4096 false false true 36864 256 true true false _ _ x5 a0_0 a0_1 a0_2 a0_3 a0_4 a0_5 a0_6 a0_7 a0_8 a0_9 a0_10 a0_11 a0_12 a0_13 a0_14 a0_15 a0_16 a0_17 a0_18 a0_19 a0_20 a0_21 a0_22 0 0 0 x6 x6 1 0 0 0 x6 x6 1 0 0 1
  have tx9 : in32 x9 = true := by rw [ex9]; exact stRV_in _ i1_0
  have tx10 : in32 x10 = true := by rw [ex10]; exact stRV_in _ i1_1
  have tx11 : in32 x11 = true := by rw [ex11]; exact stRV_in _ i1_2
  have tx12 : in32 x12 = true := by rw [ex12]; exact stRV_in _ i1_3
  have tx13 : in32 x13 = true := by rw [ex13]; exact stRV_in _ i1_4
  have tx14 : in32 x14 = true := by rw [ex14]; exact stRV_in _ i1_5
  have tx15 : in32 x15 = true := by rw [ex15]; exact stRV_in _ i1_6
  have tx16 : in32 x16 = true := by rw [ex16]; exact stRV_in _ i1_7
  have tx17 : x17 = true := by rw [ex17]; simp [i0_0, i0_1, i0_2, i0_3, i0_4, i0_5, i0_6, i0_7, i1_0, i1_1, i1_2, i1_3, i1_4, i1_5, i1_6, i1_7, i2, i3, tx1, tx2, tx9, tx10, tx11, tx12, tx13, tx14, tx15, tx16]
  have tx27 : sansT x27 = sansT x26 := by rw [ex27, ex26]; exact strsP46b_T 16384 4096 false false true 36864 256 true true false _ _ x5 x9 x10 x11 x12 x13 x14 x15 x16 0 x20 x21 x22 x23 x24 x25 0 0 0 0 0 0 0 0 0 0 0 x6 x6 1 0 0 0 x6 x6 1 0 0 1
  have tx28 : in32 x28 = true := by rw [ex28]; exact stRV_in _ i1_0
  have tx29 : in32 x29 = true := by rw [ex29]; exact stRV_in _ i1_1
  have tx30 : in32 x30 = true := by rw [ex30]; exact stRV_in _ i1_2
  have tx31 : in32 x31 = true := by rw [ex31]; exact stRV_in _ i1_3
  have tx32 : in32 x32 = true := by rw [ex32]; exact stRV_in _ i1_4
  have tx33 : in32 x33 = true := by rw [ex33]; exact stRV_in _ i1_5
  have tx34 : in32 x34 = true := by rw [ex34]; exact stRV_in _ i1_6
  have tx35 : in32 x35 = true := by rw [ex35]; exact stRV_in _ i1_7
  have tx36 : x36 = true := by rw [ex36]; simp [i0_0, i0_1, i0_2, i0_3, i0_4, i0_5, i0_6, i0_7, i1_0, i1_1, i1_2, i1_3, i1_4, i1_5, i1_6, i1_7, i2, i3, tx1, tx2, tx9, tx10, tx11, tx12, tx13, tx14, tx15, tx16, tx17, tx28, tx29, tx30, tx31, tx32, tx33, tx34, tx35]
  have tx40 : sansT x40 = sansT x39 := by rw [ex40, ex39]; exact strsP46b_T 16384 4096 false false true 36864 256 true true false _ _ x5 x28 x29 x30 x31 x32 x33 x34 x35 0 x20 x21 x22 x23 x24 x25 0 0 0 0 0 0 0 0 0 0 0 x6 x6 1 0 0 0 x6 x6 1 0 0 1
  simp only [i0_0, i0_1, i0_2, i0_3, i0_4, i0_5, i0_6, i0_7, i1_0, i1_1, i1_2, i1_3, i1_4, i1_5, i1_6, i1_7, i2, i3, tx1, tx2, tx9, tx10, tx11, tx12, tx13, tx14, tx15, tx16, tx17, tx28, tx29, tx30, tx31, tx32, tx33, tx34, tx35, tx36, ex3, ex4, ex18, ex19, ex37, ex38, Nat.reduceAdd, Nat.reduceBEq, Bool.and_self, Bool.not_false, cond_true]
  simp only [ansI_sans tx8, ansB_sans tx8, ansM_sans tx8, ansI_sans tx27, ansB_sans tx27, ansM_sans tx27, ansI_sans tx40, ansB_sans tx40, ansM_sans tx40, beq_self_eq_true, bne_self_eq_false, alikeV_self, Bool.and_self, Bool.not_true, cond_false]
set_option maxHeartbeats 1000000 in
theorem way1 (a0_0 : Int) (a0_1 : Int) (a0_2 : Int) (a0_3 : Int) (a0_4 : Int) (a0_5 : Int) (a0_6 : Int) (a0_7 : Int) (a0_8 : Int) (a0_9 : Bool) (a0_10 : Bool) (a0_11 : Bool) (a0_12 : Bool) (a0_13 : Bool) (a0_14 : Bool) (a0_15 : Int) (a0_16 : Int) (a0_17 : Int) (a0_18 : Int) (a0_19 : Int) (a0_20 : Int) (a0_21 : Int) (a0_22 : Int) (a1_0 : Int) (a1_1 : Int) (a1_2 : Int) (a1_3 : Int) (a1_4 : Int) (a1_5 : Int) (a1_6 : Int) (a1_7 : Int) (a2 : Int) (a3 : Int) (a4 : Int) (a5 : Int) (w0_0 : (Lit.int .u32 a0_0).wf = true) (w0_1 : (Lit.int .u32 a0_1).wf = true) (w0_2 : (Lit.int .u32 a0_2).wf = true) (w0_3 : (Lit.int .u32 a0_3).wf = true) (w0_4 : (Lit.int .u32 a0_4).wf = true) (w0_5 : (Lit.int .u32 a0_5).wf = true) (w0_6 : (Lit.int .u32 a0_6).wf = true) (w0_7 : (Lit.int .u32 a0_7).wf = true) (w0_8 : (Lit.int .u32 a0_8).wf = true) (w0_15 : (Lit.int .u64 a0_15).wf = true) (w0_16 : (Lit.int .u64 a0_16).wf = true) (w0_17 : (Lit.int .u64 a0_17).wf = true) (w0_18 : (Lit.int .u64 a0_18).wf = true) (w0_19 : (Lit.int .u64 a0_19).wf = true) (w0_20 : (Lit.int .u64 a0_20).wf = true) (w0_21 : (Lit.int .u64 a0_21).wf = true) (w0_22 : (Lit.int .u64 a0_22).wf = true) (w1_0 : (Lit.int .u32 a1_0).wf = true) (w1_1 : (Lit.int .u32 a1_1).wf = true) (w1_2 : (Lit.int .u32 a1_2).wf = true) (w1_3 : (Lit.int .u32 a1_3).wf = true) (w1_4 : (Lit.int .u32 a1_4).wf = true) (w1_5 : (Lit.int .u32 a1_5).wf = true) (w1_6 : (Lit.int .u32 a1_6).wf = true) (w1_7 : (Lit.int .u32 a1_7).wf = true) (w2 : (Lit.int .u8 a2).wf = true) (w3 : (Lit.int .u8 a3).wf = true) (w4 : (Lit.int .u8 a4).wf = true) (w5 : (Lit.int .u32 a5).wf = true) :
    ev Try.prog (ΓSn.add 42 (pureSpec stateS)) 397 (Env.hooks (ΓSn.add 42 (pureSpec stateS)) 9) (postC 3 (Try.f9.body.getD .skip)) (T1 a0_0 a0_1 a0_2 a0_3 a0_4 a0_5 a0_6 a0_7 a0_8 a0_9 a0_10 a0_11 a0_12 a0_13 a0_14 a0_15 a0_16 a0_17 a0_18 a0_19 a0_20 a0_21 a0_22 a1_0 a1_1 a1_2 a1_3 a1_4 a1_5 a1_6 a1_7 a2 a3 a4 a5) (M1 a0_0 a0_1 a0_2 a0_3 a0_4 a0_5 a0_6 a0_7 a0_8 a0_9 a0_10 a0_11 a0_12 a0_13 a0_14 a0_15 a0_16 a0_17 a0_18 a0_19 a0_20 a0_21 a0_22 a1_0 a1_1 a1_2 a1_3 a1_4 a1_5 a1_6 a1_7 a2 a3 a4 a5) (kBody Try.prog Try.f9 isT (fun _ _ => none)) = some true := by
  obtain ⟨x1, ex1⟩ : ∃ x : Int, x = (bitsL BinOp.or IntKind.u8 a3 194) := ⟨_, rfl⟩
  obtain ⟨x2, ex2⟩ : ∃ x : Bool, x = (in32 a0_0 && (in32 a0_1 && (in32 a0_2 && (in32 a0_3 && (in32 a0_4 && (in32 a0_5 && (in32 a0_6 && (in32 a0_7 && true)))))))) := ⟨_, rfl⟩
  obtain ⟨x3, ex3⟩ : ∃ x : Nat, x = (8 + 5) := ⟨_, rfl⟩
  obtain ⟨x4, ex4⟩ : ∃ x : Nat, x = (8 + 1) := ⟨_, rfl⟩
  obtain ⟨x5, ex5⟩ : ∃ x : Int → Int, x = (wrM (fun x => 0) 36864 (rowF (fun x => 0) (fillB a5) 256) 256) := ⟨_, rfl⟩
  obtain ⟨x6, ex6⟩ : ∃ x : Int, x = (-1) := ⟨_, rfl⟩
  obtain ⟨x7, ex7⟩ : ∃ x : Option (Sv × List SObj), x = (strsP46wT 16384 4096 false false true 36864 256 true true false 103 x5 a0_0 a0_1 a0_2 a0_3 a0_4 a0_5 a0_6 a0_7 a0_8 a0_9 a0_10 a0_11 a0_12 a0_13 a0_14 a0_15 a0_16 a0_17 a0_18 a0_19 a0_20 a0_21 a0_22 0 0 0 x6 x6 1 0 0 0 x6 x6 1 0 0 1) := ⟨_, rfl⟩
  obtain ⟨x8, ex8⟩ : ∃ x : Option (Sv × List SObj), x = (strsP46wT 16384 4096 false false true 36864 256 true true false 82 x5 a0_0 a0_1 a0_2 a0_3 a0_4 a0_5 a0_6 a0_7 a0_8 a0_9 a0_10 a0_11 a0_12 a0_13 a0_14 a0_15 a0_16 a0_17 a0_18 a0_19 a0_20 a0_21 a0_22 0 0 0 x6 x6 1 0 0 0 x6 x6 1 0 0 1) := ⟨_, rfl⟩
  obtain ⟨x9, ex9⟩ : ∃ x : Int, x = (stRV (stBit a3 1) a1_0) := ⟨_, rfl⟩
  obtain ⟨x10, ex10⟩ : ∃ x : Int, x = (stRV (stBit a3 2) a1_1) := ⟨_, rfl⟩
  obtain ⟨x11, ex11⟩ : ∃ x : Int, x = (stRV (stBit a3 4) a1_2) := ⟨_, rfl⟩
  obtain ⟨x12, ex12⟩ : ∃ x : Int, x = (stRV (stBit a3 8) a1_3) := ⟨_, rfl⟩
  obtain ⟨x13, ex13⟩ : ∃ x : Int, x = (stRV (stBit a3 16) a1_4) := ⟨_, rfl⟩
  obtain ⟨x14, ex14⟩ : ∃ x : Int, x = (stRV (stBit a3 32) a1_5) := ⟨_, rfl⟩
  obtain ⟨x15, ex15⟩ : ∃ x : Int, x = (stRV (stBit a3 64) a1_6) := ⟨_, rfl⟩
  obtain ⟨x16, ex16⟩ : ∃ x : Int, x = (stRV (stBit a3 128) a1_7) := ⟨_, rfl⟩
  obtain ⟨x17, ex17⟩ : ∃ x : Bool, x = (in32 x9 && (in32 x10 && (in32 x11 && (in32 x12 && (in32 x13 && (in32 x14 && (in32 x15 && (in32 x16 && true)))))))) := ⟨_, rfl⟩
  obtain ⟨x18, ex18⟩ : ∃ x : Nat, x = (24 + 5) := ⟨_, rfl⟩
  obtain ⟨x19, ex19⟩ : ∃ x : Nat, x = (24 + 1) := ⟨_, rfl⟩
  obtain ⟨x20, ex20⟩ : ∃ x : Bool, x = (flagW a2 1) := ⟨_, rfl⟩
  obtain ⟨x21, ex21⟩ : ∃ x : Bool, x = (flagW a2 4) := ⟨_, rfl⟩
  obtain ⟨x22, ex22⟩ : ∃ x : Bool, x = (flagW a2 64) := ⟨_, rfl⟩
  obtain ⟨x23, ex23⟩ : ∃ x : Bool, x = (flagW a2 128) := ⟨_, rfl⟩
  obtain ⟨x24, ex24⟩ : ∃ x : Bool, x = (flagW a2 2048) := ⟨_, rfl⟩
  obtain ⟨x25, ex25⟩ : ∃ x : Bool, x = (flagW a2 1024) := ⟨_, rfl⟩
  obtain ⟨x26, ex26⟩ : ∃ x : Option (Sv × List SObj), x = (strsP46wT 16384 4096 false false true 36864 256 true true false 103 x5 x9 x10 x11 x12 x13 x14 x15 x16 0 x20 x21 x22 x23 x24 x25 0 0 0 0 0 0 0 0 0 0 0 x6 x6 1 0 0 0 x6 x6 1 0 0 1) := ⟨_, rfl⟩
  obtain ⟨x27, ex27⟩ : ∃ x : Option (Sv × List SObj), x = (strsP46wT 16384 4096 false false true 36864 256 true true false 82 x5 x9 x10 x11 x12 x13 x14 x15 x16 0 x20 x21 x22 x23 x24 x25 0 0 0 0 0 0 0 0 0 0 0 x6 x6 1 0 0 0 x6 x6 1 0 0 1) := ⟨_, rfl⟩
  obtain ⟨x28, ex28⟩ : ∃ x : Int, x = (stRV (stBit x1 1) a1_0) := ⟨_, rfl⟩
  obtain ⟨x29, ex29⟩ : ∃ x : Int, x = (stRV (stBit x1 2) a1_1) := ⟨_, rfl⟩
  obtain ⟨x30, ex30⟩ : ∃ x : Int, x = (stRV (stBit x1 4) a1_2) := ⟨_, rfl⟩
  obtain ⟨x31, ex31⟩ : ∃ x : Int, x = (stRV (stBit x1 8) a1_3) := ⟨_, rfl⟩
  obtain ⟨x32, ex32⟩ : ∃ x : Int, x = (stRV (stBit x1 16) a1_4) := ⟨_, rfl⟩
  obtain ⟨x33, ex33⟩ : ∃ x : Int, x = (stRV (stBit x1 32) a1_5) := ⟨_, rfl⟩
  obtain ⟨x34, ex34⟩ : ∃ x : Int, x = (stRV (stBit x1 64) a1_6) := ⟨_, rfl⟩
  obtain ⟨x35, ex35⟩ : ∃ x : Int, x = (stRV (stBit x1 128) a1_7) := ⟨_, rfl⟩
  obtain ⟨x36, ex36⟩ : ∃ x : Bool, x = (in32 x28 && (in32 x29 && (in32 x30 && (in32 x31 && (in32 x32 && (in32 x33 && (in32 x34 && (in32 x35 && true)))))))) := ⟨_, rfl⟩
  obtain ⟨x37, ex37⟩ : ∃ x : Nat, x = (40 + 5) := ⟨_, rfl⟩
  obtain ⟨x38, ex38⟩ : ∃ x : Nat, x = (40 + 1) := ⟨_, rfl⟩
  obtain ⟨x39, ex39⟩ : ∃ x : Option (Sv × List SObj), x = (strsP46wT 16384 4096 false false true 36864 256 true true false 103 x5 x28 x29 x30 x31 x32 x33 x34 x35 0 x20 x21 x22 x23 x24 x25 0 0 0 0 0 0 0 0 0 0 0 x6 x6 1 0 0 0 x6 x6 1 0 0 1) := ⟨_, rfl⟩
  obtain ⟨x40, ex40⟩ : ∃ x : Option (Sv × List SObj), x = (strsP46wT 16384 4096 false false true 36864 256 true true false 82 x5 x28 x29 x30 x31 x32 x33 x34 x35 0 x20 x21 x22 x23 x24 x25 0 0 0 0 0 0 0 0 0 0 0 x6 x6 1 0 0 0 x6 x6 1 0 0 1) := ⟨_, rfl⟩
  have hF : ev Try.prog (ΓSn.add 42 (pureSpec stateS)) 397 (Env.hooks (ΓSn.add 42 (pureSpec stateS)) 9) (postC 3 (Try.f9.body.getD .skip)) (T1 a0_0 a0_1 a0_2 a0_3 a0_4 a0_5 a0_6 a0_7 a0_8 a0_9 a0_10 a0_11 a0_12 a0_13 a0_14 a0_15 a0_16 a0_17 a0_18 a0_19 a0_20 a0_21 a0_22 a1_0 a1_1 a1_2 a1_3 a1_4 a1_5 a1_6 a1_7 a2 a3 a4 a5) (M1 a0_0 a0_1 a0_2 a0_3 a0_4 a0_5 a0_6 a0_7 a0_8 a0_9 a0_10 a0_11 a0_12 a0_13 a0_14 a0_15 a0_16 a0_17 a0_18 a0_19 a0_20 a0_21 a0_22 a1_0 a1_1 a1_2 a1_3 a1_4 a1_5 a1_6 a1_7 a2 a3 a4 a5) (kBody Try.prog Try.f9 isT (fun _ _ => none)) =
    (bif in32 a1_0 && (in32 a1_1 && (in32 a1_2 && (in32 a1_3 && (in32 a1_4 && (in32 a1_5 && (in32 a1_6 && (in32 a1_7 && (true && (true && (true && (true && (true && (true && (true && (true && (in8 a2 && in8 a3)))))))))))))))) then bif in32 a1_0 && (in32 a1_1 && (in32 a1_2 && (in32 a1_3 && (in32 a1_4 && (in32 a1_5 && (in32 a1_6 && (in32 a1_7 && (true && (true && (true && (true && (true && (true && (true && (true && (in8 a2 && in8 x1)))))))))))))))) then bif x2 && !8 + 12 == 8 + 6 then bif x2 && (!x3 == x4 && (!x3 == 8 && !x4 == 8)) then bif !(ansI x7 0 == ansI x8 0 && (ansI x7 1 == ansI x8 1 && (ansI x7 2 == ansI x8 2 && (ansI x7 3 == ansI x8 3 && (ansI x7 4 == ansI x8 4 && (ansI x7 5 == ansI x8 5 && (ansI x7 6 == ansI x8 6 && (ansI x7 7 == ansI x8 7 && true))))))) && (ansI x7 8 == ansI x8 8 && (ansB x7 9 == ansB x8 9 && (ansB x7 10 == ansB x8 10 && (ansB x7 11 == ansB x8 11 && (ansB x7 12 == ansB x8 12 && (ansB x7 13 == ansB x8 13 && (ansB x7 14 == ansB x8 14 && true))))) && (ansI x7 15 == ansI x8 15 && (ansI x7 16 == ansI x8 16 && (ansI x7 17 == ansI x8 17 && (ansI x7 18 == ansI x8 18 && (ansI x7 19 == ansI x8 19 && (ansI x7 20 == ansI x8 20 && (ansI x7 21 == ansI x8 21 && (ansI x7 22 == ansI x8 22 && true))))))) && true)))) then some false else bif ansI x7 23 != ansI x8 23 then some false else bif !ansB x7 24 == ansB x8 24 then some false else bif !alikeV (ansM x7 1) (ansM x8 1) then some false else bif x17 && !24 + 12 == 24 + 6 then bif x17 && (!x18 == x19 && (!x18 == 24 && !x19 == 24)) then bif !(ansI x26 0 == ansI x27 0 && (ansI x26 1 == ansI x27 1 && (ansI x26 2 == ansI x27 2 && (ansI x26 3 == ansI x27 3 && (ansI x26 4 == ansI x27 4 && (ansI x26 5 == ansI x27 5 && (ansI x26 6 == ansI x27 6 && (ansI x26 7 == ansI x27 7 && true))))))) && (ansI x26 8 == ansI x27 8 && (ansB x26 9 == ansB x27 9 && (ansB x26 10 == ansB x27 10 && (ansB x26 11 == ansB x27 11 && (ansB x26 12 == ansB x27 12 && (ansB x26 13 == ansB x27 13 && (ansB x26 14 == ansB x27 14 && true))))) && (ansI x26 15 == ansI x27 15 && (ansI x26 16 == ansI x27 16 && (ansI x26 17 == ansI x27 17 && (ansI x26 18 == ansI x27 18 && (ansI x26 19 == ansI x27 19 && (ansI x26 20 == ansI x27 20 && (ansI x26 21 == ansI x27 21 && (ansI x26 22 == ansI x27 22 && true))))))) && true)))) then some false else bif ansI x26 23 != ansI x27 23 then some false else bif !ansB x26 24 == ansB x27 24 then some false else bif !alikeV (ansM x26 1) (ansM x27 1) then some false else bif x36 && !40 + 12 == 40 + 6 then bif x36 && (!x37 == x38 && (!x37 == 40 && !x38 == 40)) then bif !(ansI x39 0 == ansI x40 0 && (ansI x39 1 == ansI x40 1 && (ansI x39 2 == ansI x40 2 && (ansI x39 3 == ansI x40 3 && (ansI x39 4 == ansI x40 4 && (ansI x39 5 == ansI x40 5 && (ansI x39 6 == ansI x40 6 && (ansI x39 7 == ansI x40 7 && true))))))) && (ansI x39 8 == ansI x40 8 && (ansB x39 9 == ansB x40 9 && (ansB x39 10 == ansB x40 10 && (ansB x39 11 == ansB x40 11 && (ansB x39 12 == ansB x40 12 && (ansB x39 13 == ansB x40 13 && (ansB x39 14 == ansB x40 14 && true))))) && (ansI x39 15 == ansI x40 15 && (ansI x39 16 == ansI x40 16 && (ansI x39 17 == ansI x40 17 && (ansI x39 18 == ansI x40 18 && (ansI x39 19 == ansI x40 19 && (ansI x39 20 == ansI x40 20 && (ansI x39 21 == ansI x40 21 && (ansI x39 22 == ansI x40 22 && true))))))) && true)))) then some false else bif ansI x39 23 != ansI x40 23 then some false else bif !ansB x39 24 == ansB x40 24 then some false else bif !alikeV (ansM x39 1) (ansM x40 1) then some false else some true else none else none else none else none else none else none else none else none) := by
    subst ex1
    subst ex2
    subst ex3
    subst ex4
    subst ex5
    subst ex6
    subst ex7
    subst ex8
    subst ex9
    subst ex10
    subst ex11
    subst ex12
    subst ex13
    subst ex14
    subst ex15
    subst ex16
    subst ex17
    subst ex18
    subst ex19
    subst ex20
    subst ex21
    subst ex22
    subst ex23
    subst ex24
    subst ex25
    subst ex26
    subst ex27
    subst ex28
    subst ex29
    subst ex30
    subst ex31
    subst ex32
    subst ex33
    subst ex34
    subst ex35
    subst ex36
    subst ex37
    subst ex38
    subst ex39
    subst ex40
    kernel_rfl
  rw [hF]
  have i0_0 : in32 a0_0 = true := in32_iff.2 (wf_u32 w0_0)
  have i0_1 : in32 a0_1 = true := in32_iff.2 (wf_u32 w0_1)
  have i0_2 : in32 a0_2 = true := in32_iff.2 (wf_u32 w0_2)
  have i0_3 : in32 a0_3 = true := in32_iff.2 (wf_u32 w0_3)
  have i0_4 : in32 a0_4 = true := in32_iff.2 (wf_u32 w0_4)
  have i0_5 : in32 a0_5 = true := in32_iff.2 (wf_u32 w0_5)
  have i0_6 : in32 a0_6 = true := in32_iff.2 (wf_u32 w0_6)
  have i0_7 : in32 a0_7 = true := in32_iff.2 (wf_u32 w0_7)
  have i1_0 : in32 a1_0 = true := in32_iff.2 (wf_u32 w1_0)
  have i1_1 : in32 a1_1 = true := in32_iff.2 (wf_u32 w1_1)
  have i1_2 : in32 a1_2 = true := in32_iff.2 (wf_u32 w1_2)
  have i1_3 : in32 a1_3 = true := in32_iff.2 (wf_u32 w1_3)
  have i1_4 : in32 a1_4 = true := in32_iff.2 (wf_u32 w1_4)
  have i1_5 : in32 a1_5 = true := in32_iff.2 (wf_u32 w1_5)
  have i1_6 : in32 a1_6 = true := in32_iff.2 (wf_u32 w1_6)
  have i1_7 : in32 a1_7 = true := in32_iff.2 (wf_u32 w1_7)
  have i2 : in8 a2 = true := in8_iff.2 (wf_u8 w2)
  have i3 : in8 a3 = true := in8_iff.2 (wf_u8 w3)
  have tx1 : in8 x1 = true := by rw [ex1, bitsL_eq]; exact in8_or i3 rfl
  have tx2 : x2 = true := by rw [ex2]; simp [i0_0, i0_1, i0_2, i0_3, i0_4, i0_5, i0_6, i0_7, i1_0, i1_1, i1_2, i1_3, i1_4, i1_5, i1_6, i1_7, i2, i3, tx1]
  have tx8 : sansT x8 = sansT x7 := by rw [ex8, ex7]; exact strsP46w_T 16384 4096 false false true 36864 256 true true false _ _ x5 a0_0 a0_1 a0_2 a0_3 a0_4 a0_5 a0_6 a0_7 a0_8 a0_9 a0_10 a0_11 a0_12 a0_13 a0_14 a0_15 a0_16 a0_17 a0_18 a0_19 a0_20 a0_21 a0_22 0 0 0 x6 x6 1 0 0 0 x6 x6 1 0 0 1
  have tx9 : in32 x9 = true := by rw [ex9]; exact stRV_in _ i1_0
  have tx10 : in32 x10 = true := by rw [ex10]; exact stRV_in _ i1_1
  have tx11 : in32 x11 = true := by rw [ex11]; exact stRV_in _ i1_2
  have tx12 : in32 x12 = true := by rw [ex12]; exact stRV_in _ i1_3
  have tx13 : in32 x13 = true := by rw [ex13]; exact stRV_in _ i1_4
  have tx14 : in32 x14 = true := by rw [ex14]; exact stRV_in _ i1_5
  have tx15 : in32 x15 = true := by rw [ex15]; exact stRV_in _ i1_6
  have tx16 : in32 x16 = true := by rw [ex16]; exact stRV_in _ i1_7
  have tx17 : x17 = true := by rw [ex17]; simp [i0_0, i0_1, i0_2, i0_3, i0_4, i0_5, i0_6, i0_7, i1_0, i1_1, i1_2, i1_3, i1_4, i1_5, i1_6, i1_7, i2, i3, tx1, tx2, tx9, tx10, tx11, tx12, tx13, tx14, tx15, tx16]
  have tx27 : sansT x27 = sansT x26 := by rw [ex27, ex26]; exact strsP46w_T 16384 4096 false false true 36864 256 true true false _ _ x5 x9 x10 x11 x12 x13 x14 x15 x16 0 x20 x21 x22 x23 x24 x25 0 0 0 0 0 0 0 0 0 0 0 x6 x6 1 0 0 0 x6 x6 1 0 0 1
  have tx28 : in32 x28 = true := by rw [ex28]; exact stRV_in _ i1_0
  have tx29 : in32 x29 = true := by rw [ex29]; exact stRV_in _ i1_1
  have tx30 : in32 x30 = true := by rw [ex30]; exact stRV_in _ i1_2
  have tx31 : in32 x31 = true := by rw [ex31]; exact stRV_in _ i1_3
  have tx32 : in32 x32 = true := by rw [ex32]; exact stRV_in _ i1_4
  have tx33 : in32 x33 = true := by rw [ex33]; exact stRV_in _ i1_5
  have tx34 : in32 x34 = true := by rw [ex34]; exact stRV_in _ i1_6
  have tx35 : in32 x35 = true := by rw [ex35]; exact stRV_in _ i1_7
  have tx36 : x36 = true := by rw [ex36]; simp [i0_0, i0_1, i0_2, i0_3, i0_4, i0_5, i0_6, i0_7, i1_0, i1_1, i1_2, i1_3, i1_4, i1_5, i1_6, i1_7, i2, i3, tx1, tx2, tx9, tx10, tx11, tx12, tx13, tx14, tx15, tx16, tx17, tx28, tx29, tx30, tx31, tx32, tx33, tx34, tx35]
  have tx40 : sansT x40 = sansT x39 := by rw [ex40, ex39]; exact strsP46w_T 16384 4096 false false true 36864 256 true true false _ _ x5 x28 x29 x30 x31 x32 x33 x34 x35 0 x20 x21 x22 x23 x24 x25 0 0 0 0 0 0 0 0 0 0 0 x6 x6 1 0 0 0 x6 x6 1 0 0 1
  simp only [i0_0, i0_1, i0_2, i0_3, i0_4, i0_5, i0_6, i0_7, i1_0, i1_1, i1_2, i1_3, i1_4, i1_5, i1_6, i1_7, i2, i3, tx1, tx2, tx9, tx10, tx11, tx12, tx13, tx14, tx15, tx16, tx17, tx28, tx29, tx30, tx31, tx32, tx33, tx34, tx35, tx36, ex3, ex4, ex18, ex19, ex37, ex38, Nat.reduceAdd, Nat.reduceBEq, Bool.and_self, Bool.not_false, cond_true]
  simp only [ansI_sans tx8, ansB_sans tx8, ansM_sans tx8, ansI_sans tx27, ansB_sans tx27, ansM_sans tx27, ansI_sans tx40, ansB_sans tx40, ansM_sans tx40, beq_self_eq_true, bne_self_eq_false, alikeV_self, Bool.and_self, Bool.not_true, cond_false]
set_option maxHeartbeats 1000000 in
theorem way2 (a0_0 : Int) (a0_1 : Int) (a0_2 : Int) (a0_3 : Int) (a0_4 : Int) (a0_5 : Int) (a0_6 : Int) (a0_7 : Int) (a0_8 : Int) (a0_9 : Bool) (a0_10 : Bool) (a0_11 : Bool) (a0_12 : Bool) (a0_13 : Bool) (a0_14 : Bool) (a0_15 : Int) (a0_16 : Int) (a0_17 : Int) (a0_18 : Int) (a0_19 : Int) (a0_20 : Int) (a0_21 : Int) (a0_22 : Int) (a1_0 : Int) (a1_1 : Int) (a1_2 : Int) (a1_3 : Int) (a1_4 : Int) (a1_5 : Int) (a1_6 : Int) (a1_7 : Int) (a2 : Int) (a3 : Int) (a4 : Int) (a5 : Int) (w0_0 : (Lit.int .u32 a0_0).wf = true) (w0_1 : (Lit.int .u32 a0_1).wf = true) (w0_2 : (Lit.int .u32 a0_2).wf = true) (w0_3 : (Lit.int .u32 a0_3).wf = true) (w0_4 : (Lit.int .u32 a0_4).wf = true) (w0_5 : (Lit.int .u32 a0_5).wf = true) (w0_6 : (Lit.int .u32 a0_6).wf = true) (w0_7 : (Lit.int .u32 a0_7).wf = true) (w0_8 : (Lit.int .u32 a0_8).wf = true) (w0_15 : (Lit.int .u64 a0_15).wf = true) (w0_16 : (Lit.int .u64 a0_16).wf = true) (w0_17 : (Lit.int .u64 a0_17).wf = true) (w0_18 : (Lit.int .u64 a0_18).wf = true) (w0_19 : (Lit.int .u64 a0_19).wf = true) (w0_20 : (Lit.int .u64 a0_20).wf = true) (w0_21 : (Lit.int .u64 a0_21).wf = true) (w0_22 : (Lit.int .u64 a0_22).wf = true) (w1_0 : (Lit.int .u32 a1_0).wf = true) (w1_1 : (Lit.int .u32 a1_1).wf = true) (w1_2 : (Lit.int .u32 a1_2).wf = true) (w1_3 : (Lit.int .u32 a1_3).wf = true) (w1_4 : (Lit.int .u32 a1_4).wf = true) (w1_5 : (Lit.int .u32 a1_5).wf = true) (w1_6 : (Lit.int .u32 a1_6).wf = true) (w1_7 : (Lit.int .u32 a1_7).wf = true) (w2 : (Lit.int .u8 a2).wf = true) (w3 : (Lit.int .u8 a3).wf = true) (w4 : (Lit.int .u8 a4).wf = true) (w5 : (Lit.int .u32 a5).wf = true) :
    ev Try.prog (ΓSn.add 42 (pureSpec stateS)) 397 (Env.hooks (ΓSn.add 42 (pureSpec stateS)) 9) (postC 3 (Try.f9.body.getD .skip)) (T2 a0_0 a0_1 a0_2 a0_3 a0_4 a0_5 a0_6 a0_7 a0_8 a0_9 a0_10 a0_11 a0_12 a0_13 a0_14 a0_15 a0_16 a0_17 a0_18 a0_19 a0_20 a0_21 a0_22 a1_0 a1_1 a1_2 a1_3 a1_4 a1_5 a1_6 a1_7 a2 a3 a4 a5) (M2 a0_0 a0_1 a0_2 a0_3 a0_4 a0_5 a0_6 a0_7 a0_8 a0_9 a0_10 a0_11 a0_12 a0_13 a0_14 a0_15 a0_16 a0_17 a0_18 a0_19 a0_20 a0_21 a0_22 a1_0 a1_1 a1_2 a1_3 a1_4 a1_5 a1_6 a1_7 a2 a3 a4 a5) (kBody Try.prog Try.f9 isT (fun _ _ => none)) = some true := by
  obtain ⟨x1, ex1⟩ : ∃ x : Int, x = (bitsL BinOp.or IntKind.u8 a3 194) := ⟨_, rfl⟩
  obtain ⟨x2, ex2⟩ : ∃ x : Bool, x = (in32 a0_0 && (in32 a0_1 && (in32 a0_2 && (in32 a0_3 && (in32 a0_4 && (in32 a0_5 && (in32 a0_6 && (in32 a0_7 && true)))))))) := ⟨_, rfl⟩
  obtain ⟨x3, ex3⟩ : ∃ x : Nat, x = (8 + 5) := ⟨_, rfl⟩
  obtain ⟨x4, ex4⟩ : ∃ x : Nat, x = (8 + 1) := ⟨_, rfl⟩
  obtain ⟨x5, ex5⟩ : ∃ x : Int → Int, x = (wrM (fun x => 0) 36864 (rowF (fun x => 0) (fillB a5) 256) 256) := ⟨_, rfl⟩
  obtain ⟨x6, ex6⟩ : ∃ x : Int, x = (-1) := ⟨_, rfl⟩
  obtain ⟨x7, ex7⟩ : ∃ x : Option (Sv × List SObj), x = (strsP47bT 16384 4096 false false true 36864 256 true true false 103 x5 a0_0 a0_1 a0_2 a0_3 a0_4 a0_5 a0_6 a0_7 a0_8 a0_9 a0_10 a0_11 a0_12 a0_13 a0_14 a0_15 a0_16 a0_17 a0_18 a0_19 a0_20 a0_21 a0_22 0 0 0 x6 x6 1 0 0 0 x6 x6 1 0 0 1) := ⟨_, rfl⟩
  obtain ⟨x8, ex8⟩ : ∃ x : Option (Sv × List SObj), x = (strsP47bT 16384 4096 false false true 36864 256 true true false 82 x5 a0_0 a0_1 a0_2 a0_3 a0_4 a0_5 a0_6 a0_7 a0_8 a0_9 a0_10 a0_11 a0_12 a0_13 a0_14 a0_15 a0_16 a0_17 a0_18 a0_19 a0_20 a0_21 a0_22 0 0 0 x6 x6 1 0 0 0 x6 x6 1 0 0 1) := ⟨_, rfl⟩
  obtain ⟨x9, ex9⟩ : ∃ x : Int, x = (stRV (stBit a3 1) a1_0) := ⟨_, rfl⟩
  obtain ⟨x10, ex10⟩ : ∃ x : Int, x = (stRV (stBit a3 2) a1_1) := ⟨_, rfl⟩
  obtain ⟨x11, ex11⟩ : ∃ x : Int, x = (stRV (stBit a3 4) a1_2) := ⟨_, rfl⟩
  obtain ⟨x12, ex12⟩ : ∃ x : Int, x = (stRV (stBit a3 8) a1_3) := ⟨_, rfl⟩
  obtain ⟨x13, ex13⟩ : ∃ x : Int, x = (stRV (stBit a3 16) a1_4) := ⟨_, rfl⟩
  obtain ⟨x14, ex14⟩ : ∃ x : Int, x = (stRV (stBit a3 32) a1_5) := ⟨_, rfl⟩
  obtain ⟨x15, ex15⟩ : ∃ x : Int, x = (stRV (stBit a3 64) a1_6) := ⟨_, rfl⟩
  obtain ⟨x16, ex16⟩ : ∃ x : Int, x = (stRV (stBit a3 128) a1_7) := ⟨_, rfl⟩
  obtain ⟨x17, ex17⟩ : ∃ x : Bool, x = (in32 x9 && (in32 x10 && (in32 x11 && (in32 x12 && (in32 x13 && (in32 x14 && (in32 x15 && (in32 x16 && true)))))))) := ⟨_, rfl⟩
  obtain ⟨x18, ex18⟩ : ∃ x : Nat, x = (24 + 5) := ⟨_, rfl⟩
  obtain ⟨x19, ex19⟩ : ∃ x : Nat, x = (24 + 1) := ⟨_, rfl⟩
  obtain ⟨x20, ex20⟩ : ∃ x : Bool, x = (flagW a2 1) := ⟨_, rfl⟩
  obtain ⟨x21, ex21⟩ : ∃ x : Bool, x = (flagW a2 4) := ⟨_, rfl⟩
  obtain ⟨x22, ex22⟩ : ∃ x : Bool, x = (flagW a2 64) := ⟨_, rfl⟩
  obtain ⟨x23, ex23⟩ : ∃ x : Bool, x = (flagW a2 128) := ⟨_, rfl⟩
  obtain ⟨x24, ex24⟩ : ∃ x : Bool, x = (flagW a2 2048) := ⟨_, rfl⟩
  obtain ⟨x25, ex25⟩ : ∃ x : Bool, x = (flagW a2 1024) := ⟨_, rfl⟩
  obtain ⟨x26, ex26⟩ : ∃ x : Option (Sv × List SObj), x = (strsP47bT 16384 4096 false false true 36864 256 true true false 103 x5 x9 x10 x11 x12 x13 x14 x15 x16 0 x20 x21 x22 x23 x24 x25 0 0 0 0 0 0 0 0 0 0 0 x6 x6 1 0 0 0 x6 x6 1 0 0 1) := ⟨_, rfl⟩
  obtain ⟨x27, ex27⟩ : ∃ x : Option (Sv × List SObj), x = (strsP47bT 16384 4096 false false true 36864 256 true true false 82 x5 x9 x10 x11 x12 x13 x14 x15 x16 0 x20 x21 x22 x23 x24 x25 0 0 0 0 0 0 0 0 0 0 0 x6 x6 1 0 0 0 x6 x6 1 0 0 1) := ⟨_, rfl⟩
  obtain ⟨x28, ex28⟩ : ∃ x : Int, x = (stRV (stBit x1 1) a1_0) := ⟨_, rfl⟩
  obtain ⟨x29, ex29⟩ : ∃ x : Int, x = (stRV (stBit x1 2) a1_1) := ⟨_, rfl⟩
  obtain ⟨x30, ex30⟩ : ∃ x : Int, x = (stRV (stBit x1 4) a1_2) := ⟨_, rfl⟩
  obtain ⟨x31, ex31⟩ : ∃ x : Int, x = (stRV (stBit x1 8) a1_3) := ⟨_, rfl⟩
  obtain ⟨x32, ex32⟩ : ∃ x : Int, x = (stRV (stBit x1 16) a1_4) := ⟨_, rfl⟩
  obtain ⟨x33, ex33⟩ : ∃ x : Int, x = (stRV (stBit x1 32) a1_5) := ⟨_, rfl⟩
  obtain ⟨x34, ex34⟩ : ∃ x : Int, x = (stRV (stBit x1 64) a1_6) := ⟨_, rfl⟩
  obtain ⟨x35, ex35⟩ : ∃ x : Int, x = (stRV (stBit x1 128) a1_7) := ⟨_, rfl⟩
  obtain ⟨x36, ex36⟩ : ∃ x : Bool, x = (in32 x28 && (in32 x29 && (in32 x30 && (in32 x31 && (in32 x32 && (in32 x33 && (in32 x34 && (in32 x35 && true)))))))) := ⟨_, rfl⟩
  obtain ⟨x37, ex37⟩ : ∃ x : Nat, x = (40 + 5) := ⟨_, rfl⟩
  obtain ⟨x38, ex38⟩ : ∃ x : Nat, x = (40 + 1) := ⟨_, rfl⟩
  obtain ⟨x39, ex39⟩ : ∃ x : Option (Sv × List SObj), x = (strsP47bT 16384 4096 false false true 36864 256 true true false 103 x5 x28 x29 x30 x31 x32 x33 x34 x35 0 x20 x21 x22 x23 x24 x25 0 0 0 0 0 0 0 0 0 0 0 x6 x6 1 0 0 0 x6 x6 1 0 0 1) := ⟨_, rfl⟩
  obtain ⟨x40, ex40⟩ : ∃ x : Option (Sv × List SObj), x = (strsP47bT 16384 4096 false false true 36864 256 true true false 82 x5 x28 x29 x30 x31 x32 x33 x34 x35 0 x20 x21 x22 x23 x24 x25 0 0 0 0 0 0 0 0 0 0 0 x6 x6 1 0 0 0 x6 x6 1 0 0 1) := ⟨_, rfl⟩
  have hF : ev Try.prog (ΓSn.add 42 (pureSpec stateS)) 397 (Env.hooks (ΓSn.add 42 (pureSpec stateS)) 9) (postC 3 (Try.f9.body.getD .skip)) (T2 a0_0 a0_1 a0_2 a0_3 a0_4 a0_5 a0_6 a0_7 a0_8 a0_9 a0_10 a0_11 a0_12 a0_13 a0_14 a0_15 a0_16 a0_17 a0_18 a0_19 a0_20 a0_21 a0_22 a1_0 a1_1 a1_2 a1_3 a1_4 a1_5 a1_6 a1_7 a2 a3 a4 a5) (M2 a0_0 a0_1 a0_2 a0_3 a0_4 a0_5 a0_6 a0_7 a0_8 a0_9 a0_10 a0_11 a0_12 a0_13 a0_14 a0_15 a0_16 a0_17 a0_18 a0_19 a0_20 a0_21 a0_22 a1_0 a1_1 a1_2 a1_3 a1_4 a1_5 a1_6 a1_7 a2 a3 a4 a5) (kBody Try.prog Try.f9 isT (fun _ _ => none)) =
    (bif in32 a1_0 && (in32 a1_1 && (in32 a1_2 && (in32 a1_3 && (in32 a1_4 && (in32 a1_5 && (in32 a1_6 && (in32 a1_7 && (true && (true && (true && (true && (true && (true && (true && (true && (in8 a2 && in8 a3)))))))))))))))) then bif in32 a1_0 && (in32 a1_1 && (in32 a1_2 && (in32 a1_3 && (in32 a1_4 && (in32 a1_5 && (in32 a1_6 && (in32 a1_7 && (true && (true && (true && (true && (true && (true && (true && (true && (in8 a2 && in8 x1)))))))))))))))) then bif x2 && !8 + 12 == 8 + 6 then bif x2 && (!x3 == x4 && (!x3 == 8 && !x4 == 8)) then bif !(ansI x7 0 == ansI x8 0 && (ansI x7 1 == ansI x8 1 && (ansI x7 2 == ansI x8 2 && (ansI x7 3 == ansI x8 3 && (ansI x7 4 == ansI x8 4 && (ansI x7 5 == ansI x8 5 && (ansI x7 6 == ansI x8 6 && (ansI x7 7 == ansI x8 7 && true))))))) && (ansI x7 8 == ansI x8 8 && (ansB x7 9 == ansB x8 9 && (ansB x7 10 == ansB x8 10 && (ansB x7 11 == ansB x8 11 && (ansB x7 12 == ansB x8 12 && (ansB x7 13 == ansB x8 13 && (ansB x7 14 == ansB x8 14 && true))))) && (ansI x7 15 == ansI x8 15 && (ansI x7 16 == ansI x8 16 && (ansI x7 17 == ansI x8 17 && (ansI x7 18 == ansI x8 18 && (ansI x7 19 == ansI x8 19 && (ansI x7 20 == ansI x8 20 && (ansI x7 21 == ansI x8 21 && (ansI x7 22 == ansI x8 22 && true))))))) && true)))) then some false else bif ansI x7 23 != ansI x8 23 then some false else bif !ansB x7 24 == ansB x8 24 then some false else bif !alikeV (ansM x7 1) (ansM x8 1) then some false else bif x17 && !24 + 12 == 24 + 6 then bif x17 && (!x18 == x19 && (!x18 == 24 && !x19 == 24)) then bif !(ansI x26 0 == ansI x27 0 && (ansI x26 1 == ansI x27 1 && (ansI x26 2 == ansI x27 2 && (ansI x26 3 == ansI x27 3 && (ansI x26 4 == ansI x27 4 && (ansI x26 5 == ansI x27 5 && (ansI x26 6 == ansI x27 6 && (ansI x26 7 == ansI x27 7 && true))))))) && (ansI x26 8 == ansI x27 8 && (ansB x26 9 == ansB x27 9 && (ansB x26 10 == ansB x27 10 && (ansB x26 11 == ansB x27 11 && (ansB x26 12 == ansB x27 12 && (ansB x26 13 == ansB x27 13 && (ansB x26 14 == ansB x27 14 && true))))) && (ansI x26 15 == ansI x27 15 && (ansI x26 16 == ansI x27 16 && (ansI x26 17 == ansI x27 17 && (ansI x26 18 == ansI x27 18 && (ansI x26 19 == ansI x27 19 && (ansI x26 20 == ansI x27 20 && (ansI x26 21 == ansI x27 21 && (ansI x26 22 == ansI x27 22 && true))))))) && true)))) then some false else bif ansI x26 23 != ansI x27 23 then some false else bif !ansB x26 24 == ansB x27 24 then some false else bif !alikeV (ansM x26 1) (ansM x27 1) then some false else bif x36 && !40 + 12 == 40 + 6 then bif x36 && (!x37 == x38 && (!x37 == 40 && !x38 == 40)) then bif !(ansI x39 0 == ansI x40 0 && (ansI x39 1 == ansI x40 1 && (ansI x39 2 == ansI x40 2 && (ansI x39 3 == ansI x40 3 && (ansI x39 4 == ansI x40 4 && (ansI x39 5 == ansI x40 5 && (ansI x39 6 == ansI x40 6 && (ansI x39 7 == ansI x40 7 && true))))))) && (ansI x39 8 == ansI x40 8 && (ansB x39 9 == ansB x40 9 && (ansB x39 10 == ansB x40 10 && (ansB x39 11 == ansB x40 11 && (ansB x39 12 == ansB x40 12 && (ansB x39 13 == ansB x40 13 && (ansB x39 14 == ansB x40 14 && true))))) && (ansI x39 15 == ansI x40 15 && (ansI x39 16 == ansI x40 16 && (ansI x39 17 == ansI x40 17 && (ansI x39 18 == ansI x40 18 && (ansI x39 19 == ansI x40 19 && (ansI x39 20 == ansI x40 20 && (ansI x39 21 == ansI x40 21 && (ansI x39 22 == ansI x40 22 && true))))))) && true)))) then some false else bif ansI x39 23 != ansI x40 23 then some false else bif !ansB x39 24 == ansB x40 24 then some false else bif !alikeV (ansM x39 1) (ansM x40 1) then some false else some true else none else none else none else none else none else none else none else none) := by
    subst ex1
    subst ex2
    subst ex3
    subst ex4
    subst ex5
    subst ex6
    subst ex7
    subst ex8
    subst ex9
    subst ex10
    subst ex11
    subst ex12
    subst ex13
    subst ex14
    subst ex15
    subst ex16
    subst ex17
    subst ex18
    subst ex19
    subst ex20
    subst ex21
    subst ex22
    subst ex23
    subst ex24
    subst ex25
    subst ex26
    subst ex27
    subst ex28
    subst ex29
    subst ex30
    subst ex31
    subst ex32
    subst ex33
    subst ex34
    subst ex35
    subst ex36
    subst ex37
    subst ex38
    subst ex39
    subst ex40
    kernel_rfl
  rw [hF]
  have i0_0 : in32 a0_0 = true := in32_iff.2 (wf_u32 w0_0)
  have i0_1 : in32 a0_1 = true := in32_iff.2 (wf_u32 w0_1)
  have i0_2 : in32 a0_2 = true := in32_iff.2 (wf_u32 w0_2)
  have i0_3 : in32 a0_3 = true := in32_iff.2 (wf_u32 w0_3)
  have i0_4 : in32 a0_4 = true := in32_iff.2 (wf_u32 w0_4)
  have i0_5 : in32 a0_5 = true := in32_iff.2 (wf_u32 w0_5)
  have i0_6 : in32 a0_6 = true := in32_iff.2 (wf_u32 w0_6)
  have i0_7 : in32 a0_7 = true := in32_iff.2 (wf_u32 w0_7)
  have i1_0 : in32 a1_0 = true := in32_iff.2 (wf_u32 w1_0)
  have i1_1 : in32 a1_1 = true := in32_iff.2 (wf_u32 w1_1)
  have i1_2 : in32 a1_2 = true := in32_iff.2 (wf_u32 w1_2)
  have i1_3 : in32 a1_3 = true := in32_iff.2 (wf_u32 w1_3)
  have i1_4 : in32 a1_4 = true := in32_iff.2 (wf_u32 w1_4)
  have i1_5 : in32 a1_5 = true := in32_iff.2 (wf_u32 w1_5)
  have i1_6 : in32 a1_6 = true := in32_iff.2 (wf_u32 w1_6)
  have i1_7 : in32 a1_7 = true := in32_iff.2 (wf_u32 w1_7)
  have i2 : in8 a2 = true := in8_iff.2 (wf_u8 w2)
  have i3 : in8 a3 = true := in8_iff.2 (wf_u8 w3)
  have tx1 : in8 x1 = true := by rw [ex1, bitsL_eq]; exact in8_or i3 rfl
  have tx2 : x2 = true := by rw [ex2]; simp [i0_0, i0_1, i0_2, i0_3, i0_4, i0_5, i0_6, i0_7, i1_0, i1_1, i1_2, i1_3, i1_4, i1_5, i1_6, i1_7, i2, i3, tx1]
  have tx8 : sansT x8 = sansT x7 := by rw [ex8, ex7]; exact strsP47b_T 16384 4096 false false true 36864 256 true true false _ _ x5 a0_0 a0_1 a0_2 a0_3 a0_4 a0_5 a0_6 a0_7 a0_8 a0_9 a0_10 a0_11 a0_12 a0_13 a0_14 a0_15 a0_16 a0_17 a0_18 a0_19 a0_20 a0_21 a0_22 0 0 0 x6 x6 1 0 0 0 x6 x6 1 0 0 1
  have tx9 : in32 x9 = true := by rw [ex9]; exact stRV_in _ i1_0
  have tx10 : in32 x10 = true := by rw [ex10]; exact stRV_in _ i1_1
  have tx11 : in32 x11 = true := by rw [ex11]; exact stRV_in _ i1_2
  have tx12 : in32 x12 = true := by rw [ex12]; exact stRV_in _ i1_3
  have tx13 : in32 x13 = true := by rw [ex13]; exact stRV_in _ i1_4
  have tx14 : in32 x14 = true := by rw [ex14]; exact stRV_in _ i1_5
  have tx15 : in32 x15 = true := by rw [ex15]; exact stRV_in _ i1_6
  have tx16 : in32 x16 = true := by rw [ex16]; exact stRV_in _ i1_7
  have tx17 : x17 = true := by rw [ex17]; simp [i0_0, i0_1, i0_2, i0_3, i0_4, i0_5, i0_6, i0_7, i1_0, i1_1, i1_2, i1_3, i1_4, i1_5, i1_6, i1_7, i2, i3, tx1, tx2, tx9, tx10, tx11, tx12, tx13, tx14, tx15, tx16]
  have tx27 : sansT x27 = sansT x26 := by rw [ex27, ex26]; exact strsP47b_T 16384 4096 false false true 36864 256 true true false _ _ x5 x9 x10 x11 x12 x13 x14 x15 x16 0 x20 x21 x22 x23 x24 x25 0 0 0 0 0 0 0 0 0 0 0 x6 x6 1 0 0 0 x6 x6 1 0 0 1
  have tx28 : in32 x28 = true := by rw [ex28]; exact stRV_in _ i1_0
  have tx29 : in32 x29 = true := by rw [ex29]; exact stRV_in _ i1_1
  have tx30 : in32 x30 = true := by rw [ex30]; exact stRV_in _ i1_2
  have tx31 : in32 x31 = true := by rw [ex31]; exact stRV_in _ i1_3
  have tx32 : in32 x32 = true := by rw [ex32]; exact stRV_in _ i1_4
  have tx33 : in32 x33 = true := by rw [ex33]; exact stRV_in _ i1_5
  have tx34 : in32 x34 = true := by rw [ex34]; exact stRV_in _ i1_6
  have tx35 : in32 x35 = true := by rw [ex35]; exact stRV_in _ i1_7
  have tx36 : x36 = true := by rw [ex36]; simp [i0_0, i0_1, i0_2, i0_3, i0_4, i0_5, i0_6, i0_7, i1_0, i1_1, i1_2, i1_3, i1_4, i1_5, i1_6, i1_7, i2, i3, tx1, tx2, tx9, tx10, tx11, tx12, tx13, tx14, tx15, tx16, tx17, tx28, tx29, tx30, tx31, tx32, tx33, tx34, tx35]
  have tx40 : sansT x40 = sansT x39 := by rw [ex40, ex39]; exact strsP47b_T 16384 4096 false false true 36864 256 true true false _ _ x5 x28 x29 x30 x31 x32 x33 x34 x35 0 x20 x21 x22 x23 x24 x25 0 0 0 0 0 0 0 0 0 0 0 x6 x6 1 0 0 0 x6 x6 1 0 0 1
  simp only [i0_0, i0_1, i0_2, i0_3, i0_4, i0_5, i0_6, i0_7, i1_0, i1_1, i1_2, i1_3, i1_4, i1_5, i1_6, i1_7, i2, i3, tx1, tx2, tx9, tx10, tx11, tx12, tx13, tx14, tx15, tx16, tx17, tx28, tx29, tx30, tx31, tx32, tx33, tx34, tx35, tx36, ex3, ex4, ex18, ex19, ex37, ex38, Nat.reduceAdd, Nat.reduceBEq, Bool.and_self, Bool.not_false, cond_true]
  simp only [ansI_sans tx8, ansB_sans tx8, ansM_sans tx8, ansI_sans tx27, ansB_sans tx27, ansM_sans tx27, ansI_sans tx40, ansB_sans tx40, ansM_sans tx40, beq_self_eq_true, bne_self_eq_false, alikeV_self, Bool.and_self, Bool.not_true, cond_false]
set_option maxHeartbeats 1000000 in
theorem way3 (a0_0 : Int) (a0_1 : Int) (a0_2 : Int) (a0_3 : Int) (a0_4 : Int) (a0_5 : Int) (a0_6 : Int) (a0_7 : Int) (a0_8 : Int) (a0_9 : Bool) (a0_10 : Bool) (a0_11 : Bool) (a0_12 : Bool) (a0_13 : Bool) (a0_14 : Bool) (a0_15 : Int) (a0_16 : Int) (a0_17 : Int) (a0_18 : Int) (a0_19 : Int) (a0_20 : Int) (a0_21 : Int) (a0_22 : Int) (a1_0 : Int) (a1_1 : Int) (a1_2 : Int) (a1_3 : Int) (a1_4 : Int) (a1_5 : Int) (a1_6 : Int) (a1_7 : Int) (a2 : Int) (a3 : Int) (a4 : Int) (a5 : Int) (w0_0 : (Lit.int .u32 a0_0).wf = true) (w0_1 : (Lit.int .u32 a0_1).wf = true) (w0_2 : (Lit.int .u32 a0_2).wf = true) (w0_3 : (Lit.int .u32 a0_3).wf = true) (w0_4 : (Lit.int .u32 a0_4).wf = true) (w0_5 : (Lit.int .u32 a0_5).wf = true) (w0_6 : (Lit.int .u32 a0_6).wf = true) (w0_7 : (Lit.int .u32 a0_7).wf = true) (w0_8 : (Lit.int .u32 a0_8).wf = true) (w0_15 : (Lit.int .u64 a0_15).wf = true) (w0_16 : (Lit.int .u64 a0_16).wf = true) (w0_17 : (Lit.int .u64 a0_17).wf = true) (w0_18 : (Lit.int .u64 a0_18).wf = true) (w0_19 : (Lit.int .u64 a0_19).wf = true) (w0_20 : (Lit.int .u64 a0_20).wf = true) (w0_21 : (Lit.int .u64 a0_21).wf = true) (w0_22 : (Lit.int .u64 a0_22).wf = true) (w1_0 : (Lit.int .u32 a1_0).wf = true) (w1_1 : (Lit.int .u32 a1_1).wf = true) (w1_2 : (Lit.int .u32 a1_2).wf = true) (w1_3 : (Lit.int .u32 a1_3).wf = true) (w1_4 : (Lit.int .u32 a1_4).wf = true) (w1_5 : (Lit.int .u32 a1_5).wf = true) (w1_6 : (Lit.int .u32 a1_6).wf = true) (w1_7 : (Lit.int .u32 a1_7).wf = true) (w2 : (Lit.int .u8 a2).wf = true) (w3 : (Lit.int .u8 a3).wf = true) (w4 : (Lit.int .u8 a4).wf = true) (w5 : (Lit.int .u32 a5).wf = true) :
    ev Try.prog (ΓSn.add 42 (pureSpec stateS)) 397 (Env.hooks (ΓSn.add 42 (pureSpec stateS)) 9) (postC 3 (Try.f9.body.getD .skip)) (T3 a0_0 a0_1 a0_2 a0_3 a0_4 a0_5 a0_6 a0_7 a0_8 a0_9 a0_10 a0_11 a0_12 a0_13 a0_14 a0_15 a0_16 a0_17 a0_18 a0_19 a0_20 a0_21 a0_22 a1_0 a1_1 a1_2 a1_3 a1_4 a1_5 a1_6 a1_7 a2 a3 a4 a5) (M3 a0_0 a0_1 a0_2 a0_3 a0_4 a0_5 a0_6 a0_7 a0_8 a0_9 a0_10 a0_11 a0_12 a0_13 a0_14 a0_15 a0_16 a0_17 a0_18 a0_19 a0_20 a0_21 a0_22 a1_0 a1_1 a1_2 a1_3 a1_4 a1_5 a1_6 a1_7 a2 a3 a4 a5) (kBody Try.prog Try.f9 isT (fun _ _ => none)) = some true := by
  obtain ⟨x1, ex1⟩ : ∃ x : Int, x = (bitsL BinOp.or IntKind.u8 a3 194) := ⟨_, rfl⟩
  obtain ⟨x2, ex2⟩ : ∃ x : Bool, x = (in32 a0_0 && (in32 a0_1 && (in32 a0_2 && (in32 a0_3 && (in32 a0_4 && (in32 a0_5 && (in32 a0_6 && (in32 a0_7 && true)))))))) := ⟨_, rfl⟩
  obtain ⟨x3, ex3⟩ : ∃ x : Nat, x = (8 + 5) := ⟨_, rfl⟩
  obtain ⟨x4, ex4⟩ : ∃ x : Nat, x = (8 + 1) := ⟨_, rfl⟩
  obtain ⟨x5, ex5⟩ : ∃ x : Int → Int, x = (wrM (fun x => 0) 36864 (rowF (fun x => 0) (fillB a5) 256) 256) := ⟨_, rfl⟩
  obtain ⟨x6, ex6⟩ : ∃ x : Int, x = (-1) := ⟨_, rfl⟩
  obtain ⟨x7, ex7⟩ : ∃ x : Option (Sv × List SObj), x = (strsP47wT 16384 4096 false false true 36864 256 true true false 103 x5 a0_0 a0_1 a0_2 a0_3 a0_4 a0_5 a0_6 a0_7 a0_8 a0_9 a0_10 a0_11 a0_12 a0_13 a0_14 a0_15 a0_16 a0_17 a0_18 a0_19 a0_20 a0_21 a0_22 0 0 0 x6 x6 1 0 0 0 x6 x6 1 0 0 1) := ⟨_, rfl⟩
  obtain ⟨x8, ex8⟩ : ∃ x : Option (Sv × List SObj), x = (strsP47wT 16384 4096 false false true 36864 256 true true false 82 x5 a0_0 a0_1 a0_2 a0_3 a0_4 a0_5 a0_6 a0_7 a0_8 a0_9 a0_10 a0_11 a0_12 a0_13 a0_14 a0_15 a0_16 a0_17 a0_18 a0_19 a0_20 a0_21 a0_22 0 0 0 x6 x6 1 0 0 0 x6 x6 1 0 0 1) := ⟨_, rfl⟩
  obtain ⟨x9, ex9⟩ : ∃ x : Int, x = (stRV (stBit a3 1) a1_0) := ⟨_, rfl⟩
  obtain ⟨x10, ex10⟩ : ∃ x : Int, x = (stRV (stBit a3 2) a1_1) := ⟨_, rfl⟩
  obtain ⟨x11, ex11⟩ : ∃ x : Int, x = (stRV (stBit a3 4) a1_2) := ⟨_, rfl⟩
  obtain ⟨x12, ex12⟩ : ∃ x : Int, x = (stRV (stBit a3 8) a1_3) := ⟨_, rfl⟩
  obtain ⟨x13, ex13⟩ : ∃ x : Int, x = (stRV (stBit a3 16) a1_4) := ⟨_, rfl⟩
  obtain ⟨x14, ex14⟩ : ∃ x : Int, x = (stRV (stBit a3 32) a1_5) := ⟨_, rfl⟩
  obtain ⟨x15, ex15⟩ : ∃ x : Int, x = (stRV (stBit a3 64) a1_6) := ⟨_, rfl⟩
  obtain ⟨x16, ex16⟩ : ∃ x : Int, x = (stRV (stBit a3 128) a1_7) := ⟨_, rfl⟩
  obtain ⟨x17, ex17⟩ : ∃ x : Bool, x = (in32 x9 && (in32 x10 && (in32 x11 && (in32 x12 && (in32 x13 && (in32 x14 && (in32 x15 && (in32 x16 && true)))))))) := ⟨_, rfl⟩
  obtain ⟨x18, ex18⟩ : ∃ x : Nat, x = (24 + 5) := ⟨_, rfl⟩
  obtain ⟨x19, ex19⟩ : ∃ x : Nat, x = (24 + 1) := ⟨_, rfl⟩
  obtain ⟨x20, ex20⟩ : ∃ x : Bool, x = (flagW a2 1) := ⟨_, rfl⟩
  obtain ⟨x21, ex21⟩ : ∃ x : Bool, x = (flagW a2 4) := ⟨_, rfl⟩
  obtain ⟨x22, ex22⟩ : ∃ x : Bool, x = (flagW a2 64) := ⟨_, rfl⟩
  obtain ⟨x23, ex23⟩ : ∃ x : Bool, x = (flagW a2 128) := ⟨_, rfl⟩
  obtain ⟨x24, ex24⟩ : ∃ x : Bool, x = (flagW a2 2048) := ⟨_, rfl⟩
  obtain ⟨x25, ex25⟩ : ∃ x : Bool, x = (flagW a2 1024) := ⟨_, rfl⟩
  obtain ⟨x26, ex26⟩ : ∃ x : Option (Sv × List SObj), x = (strsP47wT 16384 4096 false false true 36864 256 true true false 103 x5 x9 x10 x11 x12 x13 x14 x15 x16 0 x20 x21 x22 x23 x24 x25 0 0 0 0 0 0 0 0 0 0 0 x6 x6 1 0 0 0 x6 x6 1 0 0 1) := ⟨_, rfl⟩
  obtain ⟨x27, ex27⟩ : ∃ x : Option (Sv × List SObj), x = (strsP47wT 16384 4096 false false true 36864 256 true true false 82 x5 x9 x10 x11 x12 x13 x14 x15 x16 0 x20 x21 x22 x23 x24 x25 0 0 0 0 0 0 0 0 0 0 0 x6 x6 1 0 0 0 x6 x6 1 0 0 1) := ⟨_, rfl⟩
  obtain ⟨x28, ex28⟩ : ∃ x : Int, x = (stRV (stBit x1 1) a1_0) := ⟨_, rfl⟩
  obtain ⟨x29, ex29⟩ : ∃ x : Int, x = (stRV (stBit x1 2) a1_1) := ⟨_, rfl⟩
  obtain ⟨x30, ex30⟩ : ∃ x : Int, x = (stRV (stBit x1 4) a1_2) := ⟨_, rfl⟩
  obtain ⟨x31, ex31⟩ : ∃ x : Int, x = (stRV (stBit x1 8) a1_3) := ⟨_, rfl⟩
  obtain ⟨x32, ex32⟩ : ∃ x : Int, x = (stRV (stBit x1 16) a1_4) := ⟨_, rfl⟩
  obtain ⟨x33, ex33⟩ : ∃ x : Int, x = (stRV (stBit x1 32) a1_5) := ⟨_, rfl⟩
  obtain ⟨x34, ex34⟩ : ∃ x : Int, x = (stRV (stBit x1 64) a1_6) := ⟨_, rfl⟩
  obtain ⟨x35, ex35⟩ : ∃ x : Int, x = (stRV (stBit x1 128) a1_7) := ⟨_, rfl⟩
  obtain ⟨x36, ex36⟩ : ∃ x : Bool, x = (in32 x28 && (in32 x29 && (in32 x30 && (in32 x31 && (in32 x32 && (in32 x33 && (in32 x34 && (in32 x35 && true)))))))) := ⟨_, rfl⟩
  obtain ⟨x37, ex37⟩ : ∃ x : Nat, x = (40 + 5) := ⟨_, rfl⟩
  obtain ⟨x38, ex38⟩ : ∃ x : Nat, x = (40 + 1) := ⟨_, rfl⟩
  obtain ⟨x39, ex39⟩ : ∃ x : Option (Sv × List SObj), x = (strsP47wT 16384 4096 false false true 36864 256 true true false 103 x5 x28 x29 x30 x31 x32 x33 x34 x35 0 x20 x21 x22 x23 x24 x25 0 0 0 0 0 0 0 0 0 0 0 x6 x6 1 0 0 0 x6 x6 1 0 0 1) := ⟨_, rfl⟩
  obtain ⟨x40, ex40⟩ : ∃ x : Option (Sv × List SObj), x = (strsP47wT 16384 4096 false false true 36864 256 true true false 82 x5 x28 x29 x30 x31 x32 x33 x34 x35 0 x20 x21 x22 x23 x24 x25 0 0 0 0 0 0 0 0 0 0 0 x6 x6 1 0 0 0 x6 x6 1 0 0 1) := ⟨_, rfl⟩
  have hF : ev Try.prog (ΓSn.add 42 (pureSpec stateS)) 397 (Env.hooks (ΓSn.add 42 (pureSpec stateS)) 9) (postC 3 (Try.f9.body.getD .skip)) (T3 a0_0 a0_1 a0_2 a0_3 a0_4 a0_5 a0_6 a0_7 a0_8 a0_9 a0_10 a0_11 a0_12 a0_13 a0_14 a0_15 a0_16 a0_17 a0_18 a0_19 a0_20 a0_21 a0_22 a1_0 a1_1 a1_2 a1_3 a1_4 a1_5 a1_6 a1_7 a2 a3 a4 a5) (M3 a0_0 a0_1 a0_2 a0_3 a0_4 a0_5 a0_6 a0_7 a0_8 a0_9 a0_10 a0_11 a0_12 a0_13 a0_14 a0_15 a0_16 a0_17 a0_18 a0_19 a0_20 a0_21 a0_22 a1_0 a1_1 a1_2 a1_3 a1_4 a1_5 a1_6 a1_7 a2 a3 a4 a5) (kBody Try.prog Try.f9 isT (fun _ _ => none)) =
    (bif in32 a1_0 && (in32 a1_1 && (in32 a1_2 && (in32 a1_3 && (in32 a1_4 && (in32 a1_5 && (in32 a1_6 && (in32 a1_7 && (true && (true && (true && (true && (true && (true && (true && (true && (in8 a2 && in8 a3)))))))))))))))) then bif in32 a1_0 && (in32 a1_1 && (in32 a1_2 && (in32 a1_3 && (in32 a1_4 && (in32 a1_5 && (in32 a1_6 && (in32 a1_7 && (true && (true && (true && (true && (true && (true && (true && (true && (in8 a2 && in8 x1)))))))))))))))) then bif x2 && !8 + 12 == 8 + 6 then bif x2 && (!x3 == x4 && (!x3 == 8 && !x4 == 8)) then bif !(ansI x7 0 == ansI x8 0 && (ansI x7 1 == ansI x8 1 && (ansI x7 2 == ansI x8 2 && (ansI x7 3 == ansI x8 3 && (ansI x7 4 == ansI x8 4 && (ansI x7 5 == ansI x8 5 && (ansI x7 6 == ansI x8 6 && (ansI x7 7 == ansI x8 7 && true))))))) && (ansI x7 8 == ansI x8 8 && (ansB x7 9 == ansB x8 9 && (ansB x7 10 == ansB x8 10 && (ansB x7 11 == ansB x8 11 && (ansB x7 12 == ansB x8 12 && (ansB x7 13 == ansB x8 13 && (ansB x7 14 == ansB x8 14 && true))))) && (ansI x7 15 == ansI x8 15 && (ansI x7 16 == ansI x8 16 && (ansI x7 17 == ansI x8 17 && (ansI x7 18 == ansI x8 18 && (ansI x7 19 == ansI x8 19 && (ansI x7 20 == ansI x8 20 && (ansI x7 21 == ansI x8 21 && (ansI x7 22 == ansI x8 22 && true))))))) && true)))) then some false else bif ansI x7 23 != ansI x8 23 then some false else bif !ansB x7 24 == ansB x8 24 then some false else bif !alikeV (ansM x7 1) (ansM x8 1) then some false else bif x17 && !24 + 12 == 24 + 6 then bif x17 && (!x18 == x19 && (!x18 == 24 && !x19 == 24)) then bif !(ansI x26 0 == ansI x27 0 && (ansI x26 1 == ansI x27 1 && (ansI x26 2 == ansI x27 2 && (ansI x26 3 == ansI x27 3 && (ansI x26 4 == ansI x27 4 && (ansI x26 5 == ansI x27 5 && (ansI x26 6 == ansI x27 6 && (ansI x26 7 == ansI x27 7 && true))))))) && (ansI x26 8 == ansI x27 8 && (ansB x26 9 == ansB x27 9 && (ansB x26 10 == ansB x27 10 && (ansB x26 11 == ansB x27 11 && (ansB x26 12 == ansB x27 12 && (ansB x26 13 == ansB x27 13 && (ansB x26 14 == ansB x27 14 && true))))) && (ansI x26 15 == ansI x27 15 && (ansI x26 16 == ansI x27 16 && (ansI x26 17 == ansI x27 17 && (ansI x26 18 == ansI x27 18 && (ansI x26 19 == ansI x27 19 && (ansI x26 20 == ansI x27 20 && (ansI x26 21 == ansI x27 21 && (ansI x26 22 == ansI x27 22 && true))))))) && true)))) then some false else bif ansI x26 23 != ansI x27 23 then some false else bif !ansB x26 24 == ansB x27 24 then some false else bif !alikeV (ansM x26 1) (ansM x27 1) then some false else bif x36 && !40 + 12 == 40 + 6 then bif x36 && (!x37 == x38 && (!x37 == 40 && !x38 == 40)) then bif !(ansI x39 0 == ansI x40 0 && (ansI x39 1 == ansI x40 1 && (ansI x39 2 == ansI x40 2 && (ansI x39 3 == ansI x40 3 && (ansI x39 4 == ansI x40 4 && (ansI x39 5 == ansI x40 5 && (ansI x39 6 == ansI x40 6 && (ansI x39 7 == ansI x40 7 && true))))))) && (ansI x39 8 == ansI x40 8 && (ansB x39 9 == ansB x40 9 && (ansB x39 10 == ansB x40 10 && (ansB x39 11 == ansB x40 11 && (ansB x39 12 == ansB x40 12 && (ansB x39 13 == ansB x40 13 && (ansB x39 14 == ansB x40 14 && true))))) && (ansI x39 15 == ansI x40 15 && (ansI x39 16 == ansI x40 16 && (ansI x39 17 == ansI x40 17 && (ansI x39 18 == ansI x40 18 && (ansI x39 19 == ansI x40 19 && (ansI x39 20 == ansI x40 20 && (ansI x39 21 == ansI x40 21 && (ansI x39 22 == ansI x40 22 && true))))))) && true)))) then some false else bif ansI x39 23 != ansI x40 23 then some false else bif !ansB x39 24 == ansB x40 24 then some false else bif !alikeV (ansM x39 1) (ansM x40 1) then some false else some true else none else none else none else none else none else none else none else none) := by
    subst ex1
    subst ex2
    subst ex3
    subst ex4
    subst ex5
    subst ex6
    subst ex7
    subst ex8
    subst ex9
    subst ex10
    subst ex11
    subst ex12
    subst ex13
    subst ex14
    subst ex15
    subst ex16
    subst ex17
    subst ex18
    subst ex19
    subst ex20
    subst ex21
    subst ex22
    subst ex23
    subst ex24
    subst ex25
    subst ex26
    subst ex27
    subst ex28
    subst ex29
    subst ex30
    subst ex31
    subst ex32
    subst ex33
    subst ex34
    subst ex35
    subst ex36
    subst ex37
    subst ex38
    subst ex39
    subst ex40
    kernel_rfl
  rw [hF]
  have i0_0 : in32 a0_0 = true := in32_iff.2 (wf_u32 w0_0)
  have i0_1 : in32 a0_1 = true := in32_iff.2 (wf_u32 w0_1)
  have i0_2 : in32 a0_2 = true := in32_iff.2 (wf_u32 w0_2)
  have i0_3 : in32 a0_3 = true := in32_iff.2 (wf_u32 w0_3)
  have i0_4 : in32 a0_4 = true := in32_iff.2 (wf_u32 w0_4)
  have i0_5 : in32 a0_5 = true := in32_iff.2 (wf_u32 w0_5)
  have i0_6 : in32 a0_6 = true := in32_iff.2 (wf_u32 w0_6)
  have i0_7 : in32 a0_7 = true := in32_iff.2 (wf_u32 w0_7)
  have i1_0 : in32 a1_0 = true := in32_iff.2 (wf_u32 w1_0)
  have i1_1 : in32 a1_1 = true := in32_iff.2 (wf_u32 w1_1)
  have i1_2 : in32 a1_2 = true := in32_iff.2 (wf_u32 w1_2)
  have i1_3 : in32 a1_3 = true := in32_iff.2 (wf_u32 w1_3)
  have i1_4 : in32 a1_4 = true := in32_iff.2 (wf_u32 w1_4)
  have i1_5 : in32 a1_5 = true := in32_iff.2 (wf_u32 w1_5)
  have i1_6 : in32 a1_6 = true := in32_iff.2 (wf_u32 w1_6)
  have i1_7 : in32 a1_7 = true := in32_iff.2 (wf_u32 w1_7)
  have i2 : in8 a2 = true := in8_iff.2 (wf_u8 w2)
  have i3 : in8 a3 = true := in8_iff.2 (wf_u8 w3)
  have tx1 : in8 x1 = true := by rw [ex1, bitsL_eq]; exact in8_or i3 rfl
  have tx2 : x2 = true := by rw [ex2]; simp [i0_0, i0_1, i0_2, i0_3, i0_4, i0_5, i0_6, i0_7, i1_0, i1_1, i1_2, i1_3, i1_4, i1_5, i1_6, i1_7, i2, i3, tx1]
  have tx8 : sansT x8 = sansT x7 := by rw [ex8, ex7]; exact strsP47w_T 16384 4096 false false true 36864 256 true true false _ _ x5 a0_0 a0_1 a0_2 a0_3 a0_4 a0_5 a0_6 a0_7 a0_8 a0_9 a0_10 a0_11 a0_12 a0_13 a0_14 a0_15 a0_16 a0_17 a0_18 a0_19 a0_20 a0_21 a0_22 0 0 0 x6 x6 1 0 0 0 x6 x6 1 0 0 1
  have tx9 : in32 x9 = true := by rw [ex9]; exact stRV_in _ i1_0
  have tx10 : in32 x10 = true := by rw [ex10]; exact stRV_in _ i1_1
  have tx11 : in32 x11 = true := by rw [ex11]; exact stRV_in _ i1_2
  have tx12 : in32 x12 = true := by rw [ex12]; exact stRV_in _ i1_3
  have tx13 : in32 x13 = true := by rw [ex13]; exact stRV_in _ i1_4
  have tx14 : in32 x14 = true := by rw [ex14]; exact stRV_in _ i1_5
  have tx15 : in32 x15 = true := by rw [ex15]; exact stRV_in _ i1_6
  have tx16 : in32 x16 = true := by rw [ex16]; exact stRV_in _ i1_7
  have tx17 : x17 = true := by rw [ex17]; simp [i0_0, i0_1, i0_2, i0_3, i0_4, i0_5, i0_6, i0_7, i1_0, i1_1, i1_2, i1_3, i1_4, i1_5, i1_6, i1_7, i2, i3, tx1, tx2, tx9, tx10, tx11, tx12, tx13, tx14, tx15, tx16]
  have tx27 : sansT x27 = sansT x26 := by rw [ex27, ex26]; exact strsP47w_T 16384 4096 false false true 36864 256 true true false _ _ x5 x9 x10 x11 x12 x13 x14 x15 x16 0 x20 x21 x22 x23 x24 x25 0 0 0 0 0 0 0 0 0 0 0 x6 x6 1 0 0 0 x6 x6 1 0 0 1
  have tx28 : in32 x28 = true := by rw [ex28]; exact stRV_in _ i1_0
  have tx29 : in32 x29 = true := by rw [ex29]; exact stRV_in _ i1_1
  have tx30 : in32 x30 = true := by rw [ex30]; exact stRV_in _ i1_2
  have tx31 : in32 x31 = true := by rw [ex31]; exact stRV_in _ i1_3
  have tx32 : in32 x32 = true := by rw [ex32]; exact stRV_in _ i1_4
  have tx33 : in32 x33 = true := by rw [ex33]; exact stRV_in _ i1_5
  have tx34 : in32 x34 = true := by rw [ex34]; exact stRV_in _ i1_6
  have tx35 : in32 x35 = true := by rw [ex35]; exact stRV_in _ i1_7
  have tx36 : x36 = true := by rw [ex36]; simp [i0_0, i0_1, i0_2, i0_3, i0_4, i0_5, i0_6, i0_7, i1_0, i1_1, i1_2, i1_3, i1_4, i1_5, i1_6, i1_7, i2, i3, tx1, tx2, tx9, tx10, tx11, tx12, tx13, tx14, tx15, tx16, tx17, tx28, tx29, tx30, tx31, tx32, tx33, tx34, tx35]
  have tx40 : sansT x40 = sansT x39 := by rw [ex40, ex39]; exact strsP47w_T 16384 4096 false false true 36864 256 true true false _ _ x5 x28 x29 x30 x31 x32 x33 x34 x35 0 x20 x21 x22 x23 x24 x25 0 0 0 0 0 0 0 0 0 0 0 x6 x6 1 0 0 0 x6 x6 1 0 0 1
  simp only [i0_0, i0_1, i0_2, i0_3, i0_4, i0_5, i0_6, i0_7, i1_0, i1_1, i1_2, i1_3, i1_4, i1_5, i1_6, i1_7, i2, i3, tx1, tx2, tx9, tx10, tx11, tx12, tx13, tx14, tx15, tx16, tx17, tx28, tx29, tx30, tx31, tx32, tx33, tx34, tx35, tx36, ex3, ex4, ex18, ex19, ex37, ex38, Nat.reduceAdd, Nat.reduceBEq, Bool.and_self, Bool.not_false, cond_true]
  simp only [ansI_sans tx8, ansB_sans tx8, ansM_sans tx8, ansI_sans tx27, ansB_sans tx27, ansM_sans tx27, ansI_sans tx40, ansB_sans tx40, ansM_sans tx40, beq_self_eq_true, bne_self_eq_false, alikeV_self, Bool.and_self, Bool.not_true, cond_false]
set_option maxHeartbeats 1000000 in
theorem way4 (a0_0 : Int) (a0_1 : Int) (a0_2 : Int) (a0_3 : Int) (a0_4 : Int) (a0_5 : Int) (a0_6 : Int) (a0_7 : Int) (a0_8 : Int) (a0_9 : Bool) (a0_10 : Bool) (a0_11 : Bool) (a0_12 : Bool) (a0_13 : Bool) (a0_14 : Bool) (a0_15 : Int) (a0_16 : Int) (a0_17 : Int) (a0_18 : Int) (a0_19 : Int) (a0_20 : Int) (a0_21 : Int) (a0_22 : Int) (a1_0 : Int) (a1_1 : Int) (a1_2 : Int) (a1_3 : Int) (a1_4 : Int) (a1_5 : Int) (a1_6 : Int) (a1_7 : Int) (a2 : Int) (a3 : Int) (a4 : Int) (a5 : Int) (w0_0 : (Lit.int .u32 a0_0).wf = true) (w0_1 : (Lit.int .u32 a0_1).wf = true) (w0_2 : (Lit.int .u32 a0_2).wf = true) (w0_3 : (Lit.int .u32 a0_3).wf = true) (w0_4 : (Lit.int .u32 a0_4).wf = true) (w0_5 : (Lit.int .u32 a0_5).wf = true) (w0_6 : (Lit.int .u32 a0_6).wf = true) (w0_7 : (Lit.int .u32 a0_7).wf = true) (w0_8 : (Lit.int .u32 a0_8).wf = true) (w0_15 : (Lit.int .u64 a0_15).wf = true) (w0_16 : (Lit.int .u64 a0_16).wf = true) (w0_17 : (Lit.int .u64 a0_17).wf = true) (w0_18 : (Lit.int .u64 a0_18).wf = true) (w0_19 : (Lit.int .u64 a0_19).wf = true) (w0_20 : (Lit.int .u64 a0_20).wf = true) (w0_21 : (Lit.int .u64 a0_21).wf = true) (w0_22 : (Lit.int .u64 a0_22).wf = true) (w1_0 : (Lit.int .u32 a1_0).wf = true) (w1_1 : (Lit.int .u32 a1_1).wf = true) (w1_2 : (Lit.int .u32 a1_2).wf = true) (w1_3 : (Lit.int .u32 a1_3).wf = true) (w1_4 : (Lit.int .u32 a1_4).wf = true) (w1_5 : (Lit.int .u32 a1_5).wf = true) (w1_6 : (Lit.int .u32 a1_6).wf = true) (w1_7 : (Lit.int .u32 a1_7).wf = true) (w2 : (Lit.int .u8 a2).wf = true) (w3 : (Lit.int .u8 a3).wf = true) (w4 : (Lit.int .u8 a4).wf = true) (w5 : (Lit.int .u32 a5).wf = true) :
    ev Try.prog (ΓSn.add 42 (pureSpec stateS)) 397 (Env.hooks (ΓSn.add 42 (pureSpec stateS)) 9) (postC 3 (Try.f9.body.getD .skip)) (T4 a0_0 a0_1 a0_2 a0_3 a0_4 a0_5 a0_6 a0_7 a0_8 a0_9 a0_10 a0_11 a0_12 a0_13 a0_14 a0_15 a0_16 a0_17 a0_18 a0_19 a0_20 a0_21 a0_22 a1_0 a1_1 a1_2 a1_3 a1_4 a1_5 a1_6 a1_7 a2 a3 a4 a5) (M4 a0_0 a0_1 a0_2 a0_3 a0_4 a0_5 a0_6 a0_7 a0_8 a0_9 a0_10 a0_11 a0_12 a0_13 a0_14 a0_15 a0_16 a0_17 a0_18 a0_19 a0_20 a0_21 a0_22 a1_0 a1_1 a1_2 a1_3 a1_4 a1_5 a1_6 a1_7 a2 a3 a4 a5) (kBody Try.prog Try.f9 isT (fun _ _ => none)) = some true := by
  obtain ⟨x1, ex1⟩ : ∃ x : Int, x = (bitsL BinOp.or IntKind.u8 a3 194) := ⟨_, rfl⟩
  obtain ⟨x2, ex2⟩ : ∃ x : Bool, x = (in32 a0_0 && (in32 a0_1 && (in32 a0_2 && (in32 a0_3 && (in32 a0_4 && (in32 a0_5 && (in32 a0_6 && (in32 a0_7 && true)))))))) := ⟨_, rfl⟩
  obtain ⟨x3, ex3⟩ : ∃ x : Nat, x = (8 + 5) := ⟨_, rfl⟩
  obtain ⟨x4, ex4⟩ : ∃ x : Nat, x = (8 + 1) := ⟨_, rfl⟩
  obtain ⟨x5, ex5⟩ : ∃ x : Int → Int, x = (wrM (fun x => 0) 36864 (rowF (fun x => 0) (fillB a5) 256) 256) := ⟨_, rfl⟩
  obtain ⟨x6, ex6⟩ : ∃ x : Int, x = (-1) := ⟨_, rfl⟩
  obtain ⟨x7, ex7⟩ : ∃ x : Option (Sv × List SObj), x = (strsP48bT 16384 4096 false false true 36864 256 true true false 103 x5 a0_0 a0_1 a0_2 a0_3 a0_4 a0_5 a0_6 a0_7 a0_8 a0_9 a0_10 a0_11 a0_12 a0_13 a0_14 a0_15 a0_16 a0_17 a0_18 a0_19 a0_20 a0_21 a0_22 0 0 0 x6 x6 1 0 0 0 x6 x6 1 0 0 1) := ⟨_, rfl⟩
  obtain ⟨x8, ex8⟩ : ∃ x : Option (Sv × List SObj), x = (strsP48bT 16384 4096 false false true 36864 256 true true false 82 x5 a0_0 a0_1 a0_2 a0_3 a0_4 a0_5 a0_6 a0_7 a0_8 a0_9 a0_10 a0_11 a0_12 a0_13 a0_14 a0_15 a0_16 a0_17 a0_18 a0_19 a0_20 a0_21 a0_22 0 0 0 x6 x6 1 0 0 0 x6 x6 1 0 0 1) := ⟨_, rfl⟩
  obtain ⟨x9, ex9⟩ : ∃ x : Int, x = (stRV (stBit a3 1) a1_0) := ⟨_, rfl⟩
  obtain ⟨x10, ex10⟩ : ∃ x : Int, x = (stRV (stBit a3 2) a1_1) := ⟨_, rfl⟩
  obtain ⟨x11, ex11⟩ : ∃ x : Int, x = (stRV (stBit a3 4) a1_2) := ⟨_, rfl⟩
  obtain ⟨x12, ex12⟩ : ∃ x : Int, x = (stRV (stBit a3 8) a1_3) := ⟨_, rfl⟩
  obtain ⟨x13, ex13⟩ : ∃ x : Int, x = (stRV (stBit a3 16) a1_4) := ⟨_, rfl⟩
  obtain ⟨x14, ex14⟩ : ∃ x : Int, x = (stRV (stBit a3 32) a1_5) := ⟨_, rfl⟩
  obtain ⟨x15, ex15⟩ : ∃ x : Int, x = (stRV (stBit a3 64) a1_6) := ⟨_, rfl⟩
  obtain ⟨x16, ex16⟩ : ∃ x : Int, x = (stRV (stBit a3 128) a1_7) := ⟨_, rfl⟩
  obtain ⟨x17, ex17⟩ : ∃ x : Bool, x = (in32 x9 && (in32 x10 && (in32 x11 && (in32 x12 && (in32 x13 && (in32 x14 && (in32 x15 && (in32 x16 && true)))))))) := ⟨_, rfl⟩
  obtain ⟨x18, ex18⟩ : ∃ x : Nat, x = (24 + 5) := ⟨_, rfl⟩
  obtain ⟨x19, ex19⟩ : ∃ x : Nat, x = (24 + 1) := ⟨_, rfl⟩
  obtain ⟨x20, ex20⟩ : ∃ x : Bool, x = (flagW a2 1) := ⟨_, rfl⟩
  obtain ⟨x21, ex21⟩ : ∃ x : Bool, x = (flagW a2 4) := ⟨_, rfl⟩
  obtain ⟨x22, ex22⟩ : ∃ x : Bool, x = (flagW a2 64) := ⟨_, rfl⟩
  obtain ⟨x23, ex23⟩ : ∃ x : Bool, x = (flagW a2 128) := ⟨_, rfl⟩
  obtain ⟨x24, ex24⟩ : ∃ x : Bool, x = (flagW a2 2048) := ⟨_, rfl⟩
  obtain ⟨x25, ex25⟩ : ∃ x : Bool, x = (flagW a2 1024) := ⟨_, rfl⟩
  obtain ⟨x26, ex26⟩ : ∃ x : Option (Sv × List SObj), x = (strsP48bT 16384 4096 false false true 36864 256 true true false 103 x5 x9 x10 x11 x12 x13 x14 x15 x16 0 x20 x21 x22 x23 x24 x25 0 0 0 0 0 0 0 0 0 0 0 x6 x6 1 0 0 0 x6 x6 1 0 0 1) := ⟨_, rfl⟩
  obtain ⟨x27, ex27⟩ : ∃ x : Option (Sv × List SObj), x = (strsP48bT 16384 4096 false false true 36864 256 true true false 82 x5 x9 x10 x11 x12 x13 x14 x15 x16 0 x20 x21 x22 x23 x24 x25 0 0 0 0 0 0 0 0 0 0 0 x6 x6 1 0 0 0 x6 x6 1 0 0 1) := ⟨_, rfl⟩
  obtain ⟨x28, ex28⟩ : ∃ x : Int, x = (stRV (stBit x1 1) a1_0) := ⟨_, rfl⟩
  obtain ⟨x29, ex29⟩ : ∃ x : Int, x = (stRV (stBit x1 2) a1_1) := ⟨_, rfl⟩
  obtain ⟨x30, ex30⟩ : ∃ x : Int, x = (stRV (stBit x1 4) a1_2) := ⟨_, rfl⟩
  obtain ⟨x31, ex31⟩ : ∃ x : Int, x = (stRV (stBit x1 8) a1_3) := ⟨_, rfl⟩
  obtain ⟨x32, ex32⟩ : ∃ x : Int, x = (stRV (stBit x1 16) a1_4) := ⟨_, rfl⟩
  obtain ⟨x33, ex33⟩ : ∃ x : Int, x = (stRV (stBit x1 32) a1_5) := ⟨_, rfl⟩
  obtain ⟨x34, ex34⟩ : ∃ x : Int, x = (stRV (stBit x1 64) a1_6) := ⟨_, rfl⟩
  obtain ⟨x35, ex35⟩ : ∃ x : Int, x = (stRV (stBit x1 128) a1_7) := ⟨_, rfl⟩
  obtain ⟨x36, ex36⟩ : ∃ x : Bool, x = (in32 x28 && (in32 x29 && (in32 x30 && (in32 x31 && (in32 x32 && (in32 x33 && (in32 x34 && (in32 x35 && true)))))))) := ⟨_, rfl⟩
  obtain ⟨x37, ex37⟩ : ∃ x : Nat, x = (40 + 5) := ⟨_, rfl⟩
  obtain ⟨x38, ex38⟩ : ∃ x : Nat, x = (40 + 1) := ⟨_, rfl⟩
  obtain ⟨x39, ex39⟩ : ∃ x : Option (Sv × List SObj), x = (strsP48bT 16384 4096 false false true 36864 256 true true false 103 x5 x28 x29 x30 x31 x32 x33 x34 x35 0 x20 x21 x22 x23 x24 x25 0 0 0 0 0 0 0 0 0 0 0 x6 x6 1 0 0 0 x6 x6 1 0 0 1) := ⟨_, rfl⟩
  obtain ⟨x40, ex40⟩ : ∃ x : Option (Sv × List SObj), x = (strsP48bT 16384 4096 false false true 36864 256 true true false 82 x5 x28 x29 x30 x31 x32 x33 x34 x35 0 x20 x21 x22 x23 x24 x25 0 0 0 0 0 0 0 0 0 0 0 x6 x6 1 0 0 0 x6 x6 1 0 0 1) := ⟨_, rfl⟩
  have hF : ev Try.prog (ΓSn.add 42 (pureSpec stateS)) 397 (Env.hooks (ΓSn.add 42 (pureSpec stateS)) 9) (postC 3 (Try.f9.body.getD .skip)) (T4 a0_0 a0_1 a0_2 a0_3 a0_4 a0_5 a0_6 a0_7 a0_8 a0_9 a0_10 a0_11 a0_12 a0_13 a0_14 a0_15 a0_16 a0_17 a0_18 a0_19 a0_20 a0_21 a0_22 a1_0 a1_1 a1_2 a1_3 a1_4 a1_5 a1_6 a1_7 a2 a3 a4 a5) (M4 a0_0 a0_1 a0_2 a0_3 a0_4 a0_5 a0_6 a0_7 a0_8 a0_9 a0_10 a0_11 a0_12 a0_13 a0_14 a0_15 a0_16 a0_17 a0_18 a0_19 a0_20 a0_21 a0_22 a1_0 a1_1 a1_2 a1_3 a1_4 a1_5 a1_6 a1_7 a2 a3 a4 a5) (kBody Try.prog Try.f9 isT (fun _ _ => none)) =
    (bif in32 a1_0 && (in32 a1_1 && (in32 a1_2 && (in32 a1_3 && (in32 a1_4 && (in32 a1_5 && (in32 a1_6 && (in32 a1_7 && (true && (true && (true && (true && (true && (true && (true && (true && (in8 a2 && in8 a3)))))))))))))))) then bif in32 a1_0 && (in32 a1_1 && (in32 a1_2 && (in32 a1_3 && (in32 a1_4 && (in32 a1_5 && (in32 a1_6 && (in32 a1_7 && (true && (true && (true && (true && (true && (true && (true && (true && (in8 a2 && in8 x1)))))))))))))))) then bif x2 && !8 + 12 == 8 + 6 then bif x2 && (!x3 == x4 && (!x3 == 8 && !x4 == 8)) then bif !(ansI x7 0 == ansI x8 0 && (ansI x7 1 == ansI x8 1 && (ansI x7 2 == ansI x8 2 && (ansI x7 3 == ansI x8 3 && (ansI x7 4 == ansI x8 4 && (ansI x7 5 == ansI x8 5 && (ansI x7 6 == ansI x8 6 && (ansI x7 7 == ansI x8 7 && true))))))) && (ansI x7 8 == ansI x8 8 && (ansB x7 9 == ansB x8 9 && (ansB x7 10 == ansB x8 10 && (ansB x7 11 == ansB x8 11 && (ansB x7 12 == ansB x8 12 && (ansB x7 13 == ansB x8 13 && (ansB x7 14 == ansB x8 14 && true))))) && (ansI x7 15 == ansI x8 15 && (ansI x7 16 == ansI x8 16 && (ansI x7 17 == ansI x8 17 && (ansI x7 18 == ansI x8 18 && (ansI x7 19 == ansI x8 19 && (ansI x7 20 == ansI x8 20 && (ansI x7 21 == ansI x8 21 && (ansI x7 22 == ansI x8 22 && true))))))) && true)))) then some false else bif ansI x7 23 != ansI x8 23 then some false else bif !ansB x7 24 == ansB x8 24 then some false else bif !alikeV (ansM x7 1) (ansM x8 1) then some false else bif x17 && !24 + 12 == 24 + 6 then bif x17 && (!x18 == x19 && (!x18 == 24 && !x19 == 24)) then bif !(ansI x26 0 == ansI x27 0 && (ansI x26 1 == ansI x27 1 && (ansI x26 2 == ansI x27 2 && (ansI x26 3 == ansI x27 3 && (ansI x26 4 == ansI x27 4 && (ansI x26 5 == ansI x27 5 && (ansI x26 6 == ansI x27 6 && (ansI x26 7 == ansI x27 7 && true))))))) && (ansI x26 8 == ansI x27 8 && (ansB x26 9 == ansB x27 9 && (ansB x26 10 == ansB x27 10 && (ansB x26 11 == ansB x27 11 && (ansB x26 12 == ansB x27 12 && (ansB x26 13 == ansB x27 13 && (ansB x26 14 == ansB x27 14 && true))))) && (ansI x26 15 == ansI x27 15 && (ansI x26 16 == ansI x27 16 && (ansI x26 17 == ansI x27 17 && (ansI x26 18 == ansI x27 18 && (ansI x26 19 == ansI x27 19 && (ansI x26 20 == ansI x27 20 && (ansI x26 21 == ansI x27 21 && (ansI x26 22 == ansI x27 22 && true))))))) && true)))) then some false else bif ansI x26 23 != ansI x27 23 then some false else bif !ansB x26 24 == ansB x27 24 then some false else bif !alikeV (ansM x26 1) (ansM x27 1) then some false else bif x36 && !40 + 12 == 40 + 6 then bif x36 && (!x37 == x38 && (!x37 == 40 && !x38 == 40)) then bif !(ansI x39 0 == ansI x40 0 && (ansI x39 1 == ansI x40 1 && (ansI x39 2 == ansI x40 2 && (ansI x39 3 == ansI x40 3 && (ansI x39 4 == ansI x40 4 && (ansI x39 5 == ansI x40 5 && (ansI x39 6 == ansI x40 6 && (ansI x39 7 == ansI x40 7 && true))))))) && (ansI x39 8 == ansI x40 8 && (ansB x39 9 == ansB x40 9 && (ansB x39 10 == ansB x40 10 && (ansB x39 11 == ansB x40 11 && (ansB x39 12 == ansB x40 12 && (ansB x39 13 == ansB x40 13 && (ansB x39 14 == ansB x40 14 && true))))) && (ansI x39 15 == ansI x40 15 && (ansI x39 16 == ansI x40 16 && (ansI x39 17 == ansI x40 17 && (ansI x39 18 == ansI x40 18 && (ansI x39 19 == ansI x40 19 && (ansI x39 20 == ansI x40 20 && (ansI x39 21 == ansI x40 21 && (ansI x39 22 == ansI x40 22 && true))))))) && true)))) then some false else bif ansI x39 23 != ansI x40 23 then some false else bif !ansB x39 24 == ansB x40 24 then some false else bif !alikeV (ansM x39 1) (ansM x40 1) then some false else some true else none else none else none else none else none else none else none else none) := by
    subst ex1
    subst ex2
    subst ex3
    subst ex4
    subst ex5
    subst ex6
    subst ex7
    subst ex8
    subst ex9
    subst ex10
    subst ex11
    subst ex12
    subst ex13
    subst ex14
    subst ex15
    subst ex16
    subst ex17
    subst ex18
    subst ex19
    subst ex20
    subst ex21
    subst ex22
    subst ex23
    subst ex24
    subst ex25
    subst ex26
    subst ex27
    subst ex28
    subst ex29
    subst ex30
    subst ex31
    subst ex32
    subst ex33
    subst ex34
    subst ex35
    subst ex36
    subst ex37
    subst ex38
    subst ex39
    subst ex40
    kernel_rfl
  rw [hF]
  have i0_0 : in32 a0_0 = true := in32_iff.2 (wf_u32 w0_0)
  have i0_1 : in32 a0_1 = true := in32_iff.2 (wf_u32 w0_1)
  have i0_2 : in32 a0_2 = true := in32_iff.2 (wf_u32 w0_2)
  have i0_3 : in32 a0_3 = true := in32_iff.2 (wf_u32 w0_3)
  have i0_4 : in32 a0_4 = true := in32_iff.2 (wf_u32 w0_4)
  have i0_5 : in32 a0_5 = true := in32_iff.2 (wf_u32 w0_5)
  have i0_6 : in32 a0_6 = true := in32_iff.2 (wf_u32 w0_6)
  have i0_7 : in32 a0_7 = true := in32_iff.2 (wf_u32 w0_7)
  have i1_0 : in32 a1_0 = true := in32_iff.2 (wf_u32 w1_0)
  have i1_1 : in32 a1_1 = true := in32_iff.2 (wf_u32 w1_1)
  have i1_2 : in32 a1_2 = true := in32_iff.2 (wf_u32 w1_2)
  have i1_3 : in32 a1_3 = true := in32_iff.2 (wf_u32 w1_3)
  have i1_4 : in32 a1_4 = true := in32_iff.2 (wf_u32 w1_4)
  have i1_5 : in32 a1_5 = true := in32_iff.2 (wf_u32 w1_5)
  have i1_6 : in32 a1_6 = true := in32_iff.2 (wf_u32 w1_6)
  have i1_7 : in32 a1_7 = true := in32_iff.2 (wf_u32 w1_7)
  have i2 : in8 a2 = true := in8_iff.2 (wf_u8 w2)
  have i3 : in8 a3 = true := in8_iff.2 (wf_u8 w3)
  have tx1 : in8 x1 = true := by rw [ex1, bitsL_eq]; exact in8_or i3 rfl
  have tx2 : x2 = true := by rw [ex2]; simp [i0_0, i0_1, i0_2, i0_3, i0_4, i0_5, i0_6, i0_7, i1_0, i1_1, i1_2, i1_3, i1_4, i1_5, i1_6, i1_7, i2, i3, tx1]
  have tx8 : sansT x8 = sansT x7 := by rw [ex8, ex7]; exact strsP48b_T 16384 4096 false false true 36864 256 true true false _ _ x5 a0_0 a0_1 a0_2 a0_3 a0_4 a0_5 a0_6 a0_7 a0_8 a0_9 a0_10 a0_11 a0_12 a0_13 a0_14 a0_15 a0_16 a0_17 a0_18 a0_19 a0_20 a0_21 a0_22 0 0 0 x6 x6 1 0 0 0 x6 x6 1 0 0 1
  have tx9 : in32 x9 = true := by rw [ex9]; exact stRV_in _ i1_0
  have tx10 : in32 x10 = true := by rw [ex10]; exact stRV_in _ i1_1
  have tx11 : in32 x11 = true := by rw [ex11]; exact stRV_in _ i1_2
  have tx12 : in32 x12 = true := by rw [ex12]; exact stRV_in _ i1_3
  have tx13 : in32 x13 = true := by rw [ex13]; exact stRV_in _ i1_4
  have tx14 : in32 x14 = true := by rw [ex14]; exact stRV_in _ i1_5
  have tx15 : in32 x15 = true := by rw [ex15]; exact stRV_in _ i1_6
  have tx16 : in32 x16 = true := by rw [ex16]; exact stRV_in _ i1_7
  have tx17 : x17 = true := by rw [ex17]; simp [i0_0, i0_1, i0_2, i0_3, i0_4, i0_5, i0_6, i0_7, i1_0, i1_1, i1_2, i1_3, i1_4, i1_5, i1_6, i1_7, i2, i3, tx1, tx2, tx9, tx10, tx11, tx12, tx13, tx14, tx15, tx16]
  have tx27 : sansT x27 = sansT x26 := by rw [ex27, ex26]; exact strsP48b_T 16384 4096 false false true 36864 256 true true false _ _ x5 x9 x10 x11 x12 x13 x14 x15 x16 0 x20 x21 x22 x23 x24 x25 0 0 0 0 0 0 0 0 0 0 0 x6 x6 1 0 0 0 x6 x6 1 0 0 1
  have tx28 : in32 x28 = true := by rw [ex28]; exact stRV_in _ i1_0
  have tx29 : in32 x29 = true := by rw [ex29]; exact stRV_in _ i1_1
  have tx30 : in32 x30 = true := by rw [ex30]; exact stRV_in _ i1_2
  have tx31 : in32 x31 = true := by rw [ex31]; exact stRV_in _ i1_3
  have tx32 : in32 x32 = true := by rw [ex32]; exact stRV_in _ i1_4
  have tx33 : in32 x33 = true := by rw [ex33]; exact stRV_in _ i1_5
  have tx34 : in32 x34 = true := by rw [ex34]; exact stRV_in _ i1_6
  have tx35 : in32 x35 = true := by rw [ex35]; exact stRV_in _ i1_7
  have tx36 : x36 = true := by rw [ex36]; simp [i0_0, i0_1, i0_2, i0_3, i0_4, i0_5, i0_6, i0_7, i1_0, i1_1, i1_2, i1_3, i1_4, i1_5, i1_6, i1_7, i2, i3, tx1, tx2, tx9, tx10, tx11, tx12, tx13, tx14, tx15, tx16, tx17, tx28, tx29, tx30, tx31, tx32, tx33, tx34, tx35]
  have tx40 : sansT x40 = sansT x39 := by rw [ex40, ex39]; exact strsP48b_T 16384 4096 false false true 36864 256 true true false _ _ x5 x28 x29 x30 x31 x32 x33 x34 x35 0 x20 x21 x22 x23 x24 x25 0 0 0 0 0 0 0 0 0 0 0 x6 x6 1 0 0 0 x6 x6 1 0 0 1
  simp only [i0_0, i0_1, i0_2, i0_3, i0_4, i0_5, i0_6, i0_7, i1_0, i1_1, i1_2, i1_3, i1_4, i1_5, i1_6, i1_7, i2, i3, tx1, tx2, tx9, tx10, tx11, tx12, tx13, tx14, tx15, tx16, tx17, tx28, tx29, tx30, tx31, tx32, tx33, tx34, tx35, tx36, ex3, ex4, ex18, ex19, ex37, ex38, Nat.reduceAdd, Nat.reduceBEq, Bool.and_self, Bool.not_false, cond_true]
  simp only [ansI_sans tx8, ansB_sans tx8, ansM_sans tx8, ansI_sans tx27, ansB_sans tx27, ansM_sans tx27, ansI_sans tx40, ansB_sans tx40, ansM_sans tx40, beq_self_eq_true, bne_self_eq_false, alikeV_self, Bool.and_self, Bool.not_true, cond_false]
set_option maxHeartbeats 1000000 in
theorem way5 (a0_0 : Int) (a0_1 : Int) (a0_2 : Int) (a0_3 : Int) (a0_4 : Int) (a0_5 : Int) (a0_6 : Int) (a0_7 : Int) (a0_8 : Int) (a0_9 : Bool) (a0_10 : Bool) (a0_11 : Bool) (a0_12 : Bool) (a0_13 : Bool) (a0_14 : Bool) (a0_15 : Int) (a0_16 : Int) (a0_17 : Int) (a0_18 : Int) (a0_19 : Int) (a0_20 : Int) (a0_21 : Int) (a0_22 : Int) (a1_0 : Int) (a1_1 : Int) (a1_2 : Int) (a1_3 : Int) (a1_4 : Int) (a1_5 : Int) (a1_6 : Int) (a1_7 : Int) (a2 : Int) (a3 : Int) (a4 : Int) (a5 : Int) (w0_0 : (Lit.int .u32 a0_0).wf = true) (w0_1 : (Lit.int .u32 a0_1).wf = true) (w0_2 : (Lit.int .u32 a0_2).wf = true) (w0_3 : (Lit.int .u32 a0_3).wf = true) (w0_4 : (Lit.int .u32 a0_4).wf = true) (w0_5 : (Lit.int .u32 a0_5).wf = true) (w0_6 : (Lit.int .u32 a0_6).wf = true) (w0_7 : (Lit.int .u32 a0_7).wf = true) (w0_8 : (Lit.int .u32 a0_8).wf = true) (w0_15 : (Lit.int .u64 a0_15).wf = true) (w0_16 : (Lit.int .u64 a0_16).wf = true) (w0_17 : (Lit.int .u64 a0_17).wf = true) (w0_18 : (Lit.int .u64 a0_18).wf = true) (w0_19 : (Lit.int .u64 a0_19).wf = true) (w0_20 : (Lit.int .u64 a0_20).wf = true) (w0_21 : (Lit.int .u64 a0_21).wf = true) (w0_22 : (Lit.int .u64 a0_22).wf = true) (w1_0 : (Lit.int .u32 a1_0).wf = true) (w1_1 : (Lit.int .u32 a1_1).wf = true) (w1_2 : (Lit.int .u32 a1_2).wf = true) (w1_3 : (Lit.int .u32 a1_3).wf = true) (w1_4 : (Lit.int .u32 a1_4).wf = true) (w1_5 : (Lit.int .u32 a1_5).wf = true) (w1_6 : (Lit.int .u32 a1_6).wf = true) (w1_7 : (Lit.int .u32 a1_7).wf = true) (w2 : (Lit.int .u8 a2).wf = true) (w3 : (Lit.int .u8 a3).wf = true) (w4 : (Lit.int .u8 a4).wf = true) (w5 : (Lit.int .u32 a5).wf = true) :
    ev Try.prog (ΓSn.add 42 (pureSpec stateS)) 397 (Env.hooks (ΓSn.add 42 (pureSpec stateS)) 9) (postC 3 (Try.f9.body.getD .skip)) (T5 a0_0 a0_1 a0_2 a0_3 a0_4 a0_5 a0_6 a0_7 a0_8 a0_9 a0_10 a0_11 a0_12 a0_13 a0_14 a0_15 a0_16 a0_17 a0_18 a0_19 a0_20 a0_21 a0_22 a1_0 a1_1 a1_2 a1_3 a1_4 a1_5 a1_6 a1_7 a2 a3 a4 a5) (M5 a0_0 a0_1 a0_2 a0_3 a0_4 a0_5 a0_6 a0_7 a0_8 a0_9 a0_10 a0_11 a0_12 a0_13 a0_14 a0_15 a0_16 a0_17 a0_18 a0_19 a0_20 a0_21 a0_22 a1_0 a1_1 a1_2 a1_3 a1_4 a1_5 a1_6 a1_7 a2 a3 a4 a5) (kBody Try.prog Try.f9 isT (fun _ _ => none)) = some true := by
  obtain ⟨x1, ex1⟩ : ∃ x : Int, x = (bitsL BinOp.or IntKind.u8 a3 194) := ⟨_, rfl⟩
  obtain ⟨x2, ex2⟩ : ∃ x : Bool, x = (in32 a0_0 && (in32 a0_1 && (in32 a0_2 && (in32 a0_3 && (in32 a0_4 && (in32 a0_5 && (in32 a0_6 && (in32 a0_7 && true)))))))) := ⟨_, rfl⟩
  obtain ⟨x3, ex3⟩ : ∃ x : Nat, x = (8 + 5) := ⟨_, rfl⟩
  obtain ⟨x4, ex4⟩ : ∃ x : Nat, x = (8 + 1) := ⟨_, rfl⟩
  obtain ⟨x5, ex5⟩ : ∃ x : Int → Int, x = (wrM (fun x => 0) 36864 (rowF (fun x => 0) (fillB a5) 256) 256) := ⟨_, rfl⟩
  obtain ⟨x6, ex6⟩ : ∃ x : Int, x = (-1) := ⟨_, rfl⟩
  obtain ⟨x7, ex7⟩ : ∃ x : Option (Sv × List SObj), x = (strsP48wT 16384 4096 false false true 36864 256 true true false 103 x5 a0_0 a0_1 a0_2 a0_3 a0_4 a0_5 a0_6 a0_7 a0_8 a0_9 a0_10 a0_11 a0_12 a0_13 a0_14 a0_15 a0_16 a0_17 a0_18 a0_19 a0_20 a0_21 a0_22 0 0 0 x6 x6 1 0 0 0 x6 x6 1 0 0 1) := ⟨_, rfl⟩
  obtain ⟨x8, ex8⟩ : ∃ x : Option (Sv × List SObj), x = (strsP48wT 16384 4096 false false true 36864 256 true true false 82 x5 a0_0 a0_1 a0_2 a0_3 a0_4 a0_5 a0_6 a0_7 a0_8 a0_9 a0_10 a0_11 a0_12 a0_13 a0_14 a0_15 a0_16 a0_17 a0_18 a0_19 a0_20 a0_21 a0_22 0 0 0 x6 x6 1 0 0 0 x6 x6 1 0 0 1) := ⟨_, rfl⟩
  obtain ⟨x9, ex9⟩ : ∃ x : Int, x = (stRV (stBit a3 1) a1_0) := ⟨_, rfl⟩
  obtain ⟨x10, ex10⟩ : ∃ x : Int, x = (stRV (stBit a3 2) a1_1) := ⟨_, rfl⟩
  obtain ⟨x11, ex11⟩ : ∃ x : Int, x = (stRV (stBit a3 4) a1_2) := ⟨_, rfl⟩
  obtain ⟨x12, ex12⟩ : ∃ x : Int, x = (stRV (stBit a3 8) a1_3) := ⟨_, rfl⟩
  obtain ⟨x13, ex13⟩ : ∃ x : Int, x = (stRV (stBit a3 16) a1_4) := ⟨_, rfl⟩
  obtain ⟨x14, ex14⟩ : ∃ x : Int, x = (stRV (stBit a3 32) a1_5) := ⟨_, rfl⟩
  obtain ⟨x15, ex15⟩ : ∃ x : Int, x = (stRV (stBit a3 64) a1_6) := ⟨_, rfl⟩
  obtain ⟨x16, ex16⟩ : ∃ x : Int, x = (stRV (stBit a3 128) a1_7) := ⟨_, rfl⟩
  obtain ⟨x17, ex17⟩ : ∃ x : Bool, x = (in32 x9 && (in32 x10 && (in32 x11 && (in32 x12 && (in32 x13 && (in32 x14 && (in32 x15 && (in32 x16 && true)))))))) := ⟨_, rfl⟩
  obtain ⟨x18, ex18⟩ : ∃ x : Nat, x = (24 + 5) := ⟨_, rfl⟩
  obtain ⟨x19, ex19⟩ : ∃ x : Nat, x = (24 + 1) := ⟨_, rfl⟩
  obtain ⟨x20, ex20⟩ : ∃ x : Bool, x = (flagW a2 1) := ⟨_, rfl⟩
  obtain ⟨x21, ex21⟩ : ∃ x : Bool, x = (flagW a2 4) := ⟨_, rfl⟩
  obtain ⟨x22, ex22⟩ : ∃ x : Bool, x = (flagW a2 64) := ⟨_, rfl⟩
  obtain ⟨x23, ex23⟩ : ∃ x : Bool, x = (flagW a2 128) := ⟨_, rfl⟩
  obtain ⟨x24, ex24⟩ : ∃ x : Bool, x = (flagW a2 2048) := ⟨_, rfl⟩
  obtain ⟨x25, ex25⟩ : ∃ x : Bool, x = (flagW a2 1024) := ⟨_, rfl⟩
  obtain ⟨x26, ex26⟩ : ∃ x : Option (Sv × List SObj), x = (strsP48wT 16384 4096 false false true 36864 256 true true false 103 x5 x9 x10 x11 x12 x13 x14 x15 x16 0 x20 x21 x22 x23 x24 x25 0 0 0 0 0 0 0 0 0 0 0 x6 x6 1 0 0 0 x6 x6 1 0 0 1) := ⟨_, rfl⟩
  obtain ⟨x27, ex27⟩ : ∃ x : Option (Sv × List SObj), x = (strsP48wT 16384 4096 false false true 36864 256 true true false 82 x5 x9 x10 x11 x12 x13 x14 x15 x16 0 x20 x21 x22 x23 x24 x25 0 0 0 0 0 0 0 0 0 0 0 x6 x6 1 0 0 0 x6 x6 1 0 0 1) := ⟨_, rfl⟩
  obtain ⟨x28, ex28⟩ : ∃ x : Int, x = (stRV (stBit x1 1) a1_0) := ⟨_, rfl⟩
  obtain ⟨x29, ex29⟩ : ∃ x : Int, x = (stRV (stBit x1 2) a1_1) := ⟨_, rfl⟩
  obtain ⟨x30, ex30⟩ : ∃ x : Int, x = (stRV (stBit x1 4) a1_2) := ⟨_, rfl⟩
  obtain ⟨x31, ex31⟩ : ∃ x : Int, x = (stRV (stBit x1 8) a1_3) := ⟨_, rfl⟩
  obtain ⟨x32, ex32⟩ : ∃ x : Int, x = (stRV (stBit x1 16) a1_4) := ⟨_, rfl⟩
  obtain ⟨x33, ex33⟩ : ∃ x : Int, x = (stRV (stBit x1 32) a1_5) := ⟨_, rfl⟩
  obtain ⟨x34, ex34⟩ : ∃ x : Int, x = (stRV (stBit x1 64) a1_6) := ⟨_, rfl⟩
  obtain ⟨x35, ex35⟩ : ∃ x : Int, x = (stRV (stBit x1 128) a1_7) := ⟨_, rfl⟩
  obtain ⟨x36, ex36⟩ : ∃ x : Bool, x = (in32 x28 && (in32 x29 && (in32 x30 && (in32 x31 && (in32 x32 && (in32 x33 && (in32 x34 && (in32 x35 && true)))))))) := ⟨_, rfl⟩
  obtain ⟨x37, ex37⟩ : ∃ x : Nat, x = (40 + 5) := ⟨_, rfl⟩
  obtain ⟨x38, ex38⟩ : ∃ x : Nat, x = (40 + 1) := ⟨_, rfl⟩
  obtain ⟨x39, ex39⟩ : ∃ x : Option (Sv × List SObj), x = (strsP48wT 16384 4096 false false true 36864 256 true true false 103 x5 x28 x29 x30 x31 x32 x33 x34 x35 0 x20 x21 x22 x23 x24 x25 0 0 0 0 0 0 0 0 0 0 0 x6 x6 1 0 0 0 x6 x6 1 0 0 1) := ⟨_, rfl⟩
  obtain ⟨x40, ex40⟩ : ∃ x : Option (Sv × List SObj), x = (strsP48wT 16384 4096 false false true 36864 256 true true false 82 x5 x28 x29 x30 x31 x32 x33 x34 x35 0 x20 x21 x22 x23 x24 x25 0 0 0 0 0 0 0 0 0 0 0 x6 x6 1 0 0 0 x6 x6 1 0 0 1) := ⟨_, rfl⟩
  have hF : ev Try.prog (ΓSn.add 42 (pureSpec stateS)) 397 (Env.hooks (ΓSn.add 42 (pureSpec stateS)) 9) (postC 3 (Try.f9.body.getD .skip)) (T5 a0_0 a0_1 a0_2 a0_3 a0_4 a0_5 a0_6 a0_7 a0_8 a0_9 a0_10 a0_11 a0_12 a0_13 a0_14 a0_15 a0_16 a0_17 a0_18 a0_19 a0_20 a0_21 a0_22 a1_0 a1_1 a1_2 a1_3 a1_4 a1_5 a1_6 a1_7 a2 a3 a4 a5) (M5 a0_0 a0_1 a0_2 a0_3 a0_4 a0_5 a0_6 a0_7 a0_8 a0_9 a0_10 a0_11 a0_12 a0_13 a0_14 a0_15 a0_16 a0_17 a0_18 a0_19 a0_20 a0_21 a0_22 a1_0 a1_1 a1_2 a1_3 a1_4 a1_5 a1_6 a1_7 a2 a3 a4 a5) (kBody Try.prog Try.f9 isT (fun _ _ => none)) =
    (bif in32 a1_0 && (in32 a1_1 && (in32 a1_2 && (in32 a1_3 && (in32 a1_4 && (in32 a1_5 && (in32 a1_6 && (in32 a1_7 && (true && (true && (true && (true && (true && (true && (true && (true && (in8 a2 && in8 a3)))))))))))))))) then bif in32 a1_0 && (in32 a1_1 && (in32 a1_2 && (in32 a1_3 && (in32 a1_4 && (in32 a1_5 && (in32 a1_6 && (in32 a1_7 && (true && (true && (true && (true && (true && (true && (true && (true && (in8 a2 && in8 x1)))))))))))))))) then bif x2 && !8 + 12 == 8 + 6 then bif x2 && (!x3 == x4 && (!x3 == 8 && !x4 == 8)) then bif !(ansI x7 0 == ansI x8 0 && (ansI x7 1 == ansI x8 1 && (ansI x7 2 == ansI x8 2 && (ansI x7 3 == ansI x8 3 && (ansI x7 4 == ansI x8 4 && (ansI x7 5 == ansI x8 5 && (ansI x7 6 == ansI x8 6 && (ansI x7 7 == ansI x8 7 && true))))))) && (ansI x7 8 == ansI x8 8 && (ansB x7 9 == ansB x8 9 && (ansB x7 10 == ansB x8 10 && (ansB x7 11 == ansB x8 11 && (ansB x7 12 == ansB x8 12 && (ansB x7 13 == ansB x8 13 && (ansB x7 14 == ansB x8 14 && true))))) && (ansI x7 15 == ansI x8 15 && (ansI x7 16 == ansI x8 16 && (ansI x7 17 == ansI x8 17 && (ansI x7 18 == ansI x8 18 && (ansI x7 19 == ansI x8 19 && (ansI x7 20 == ansI x8 20 && (ansI x7 21 == ansI x8 21 && (ansI x7 22 == ansI x8 22 && true))))))) && true)))) then some false else bif ansI x7 23 != ansI x8 23 then some false else bif !ansB x7 24 == ansB x8 24 then some false else bif !alikeV (ansM x7 1) (ansM x8 1) then some false else bif x17 && !24 + 12 == 24 + 6 then bif x17 && (!x18 == x19 && (!x18 == 24 && !x19 == 24)) then bif !(ansI x26 0 == ansI x27 0 && (ansI x26 1 == ansI x27 1 && (ansI x26 2 == ansI x27 2 && (ansI x26 3 == ansI x27 3 && (ansI x26 4 == ansI x27 4 && (ansI x26 5 == ansI x27 5 && (ansI x26 6 == ansI x27 6 && (ansI x26 7 == ansI x27 7 && true))))))) && (ansI x26 8 == ansI x27 8 && (ansB x26 9 == ansB x27 9 && (ansB x26 10 == ansB x27 10 && (ansB x26 11 == ansB x27 11 && (ansB x26 12 == ansB x27 12 && (ansB x26 13 == ansB x27 13 && (ansB x26 14 == ansB x27 14 && true))))) && (ansI x26 15 == ansI x27 15 && (ansI x26 16 == ansI x27 16 && (ansI x26 17 == ansI x27 17 && (ansI x26 18 == ansI x27 18 && (ansI x26 19 == ansI x27 19 && (ansI x26 20 == ansI x27 20 && (ansI x26 21 == ansI x27 21 && (ansI x26 22 == ansI x27 22 && true))))))) && true)))) then some false else bif ansI x26 23 != ansI x27 23 then some false else bif !ansB x26 24 == ansB x27 24 then some false else bif !alikeV (ansM x26 1) (ansM x27 1) then some false else bif x36 && !40 + 12 == 40 + 6 then bif x36 && (!x37 == x38 && (!x37 == 40 && !x38 == 40)) then bif !(ansI x39 0 == ansI x40 0 && (ansI x39 1 == ansI x40 1 && (ansI x39 2 == ansI x40 2 && (ansI x39 3 == ansI x40 3 && (ansI x39 4 == ansI x40 4 && (ansI x39 5 == ansI x40 5 && (ansI x39 6 == ansI x40 6 && (ansI x39 7 == ansI x40 7 && true))))))) && (ansI x39 8 == ansI x40 8 && (ansB x39 9 == ansB x40 9 && (ansB x39 10 == ansB x40 10 && (ansB x39 11 == ansB x40 11 && (ansB x39 12 == ansB x40 12 && (ansB x39 13 == ansB x40 13 && (ansB x39 14 == ansB x40 14 && true))))) && (ansI x39 15 == ansI x40 15 && (ansI x39 16 == ansI x40 16 && (ansI x39 17 == ansI x40 17 && (ansI x39 18 == ansI x40 18 && (ansI x39 19 == ansI x40 19 && (ansI x39 20 == ansI x40 20 && (ansI x39 21 == ansI x40 21 && (ansI x39 22 == ansI x40 22 && true))))))) && true)))) then some false else bif ansI x39 23 != ansI x40 23 then some false else bif !ansB x39 24 == ansB x40 24 then some false else bif !alikeV (ansM x39 1) (ansM x40 1) then some false else some true else none else none else none else none else none else none else none else none) := by
    subst ex1
    subst ex2
    subst ex3
    subst ex4
    subst ex5
    subst ex6
    subst ex7
    subst ex8
    subst ex9
    subst ex10
    subst ex11
    subst ex12
    subst ex13
    subst ex14
    subst ex15
    subst ex16
    subst ex17
    subst ex18
    subst ex19
    subst ex20
    subst ex21
    subst ex22
    subst ex23
    subst ex24
    subst ex25
    subst ex26
    subst ex27
    subst ex28
    subst ex29
    subst ex30
    subst ex31
    subst ex32
    subst ex33
    subst ex34
    subst ex35
    subst ex36
    subst ex37
    subst ex38
    subst ex39
    subst ex40
    kernel_rfl
  rw [hF]
  have i0_0 : in32 a0_0 = true := in32_iff.2 (wf_u32 w0_0)
  have i0_1 : in32 a0_1 = true := in32_iff.2 (wf_u32 w0_1)
  have i0_2 : in32 a0_2 = true := in32_iff.2 (wf_u32 w0_2)
  have i0_3 : in32 a0_3 = true := in32_iff.2 (wf_u32 w0_3)
  have i0_4 : in32 a0_4 = true := in32_iff.2 (wf_u32 w0_4)
  have i0_5 : in32 a0_5 = true := in32_iff.2 (wf_u32 w0_5)
  have i0_6 : in32 a0_6 = true := in32_iff.2 (wf_u32 w0_6)
  have i0_7 : in32 a0_7 = true := in32_iff.2 (wf_u32 w0_7)
  have i1_0 : in32 a1_0 = true := in32_iff.2 (wf_u32 w1_0)
  have i1_1 : in32 a1_1 = true := in32_iff.2 (wf_u32 w1_1)
  have i1_2 : in32 a1_2 = true := in32_iff.2 (wf_u32 w1_2)
  have i1_3 : in32 a1_3 = true := in32_iff.2 (wf_u32 w1_3)
  have i1_4 : in32 a1_4 = true := in32_iff.2 (wf_u32 w1_4)
  have i1_5 : in32 a1_5 = true := in32_iff.2 (wf_u32 w1_5)
  have i1_6 : in32 a1_6 = true := in32_iff.2 (wf_u32 w1_6)
  have i1_7 : in32 a1_7 = true := in32_iff.2 (wf_u32 w1_7)
  have i2 : in8 a2 = true := in8_iff.2 (wf_u8 w2)
  have i3 : in8 a3 = true := in8_iff.2 (wf_u8 w3)
  have tx1 : in8 x1 = true := by rw [ex1, bitsL_eq]; exact in8_or i3 rfl
  have tx2 : x2 = true := by rw [ex2]; simp [i0_0, i0_1, i0_2, i0_3, i0_4, i0_5, i0_6, i0_7, i1_0, i1_1, i1_2, i1_3, i1_4, i1_5, i1_6, i1_7, i2, i3, tx1]
  have tx8 : sansT x8 = sansT x7 := by rw [ex8, ex7]; exact strsP48w_T 16384 4096 false false true 36864 256 true true false _ _ x5 a0_0 a0_1 a0_2 a0_3 a0_4 a0_5 a0_6 a0_7 a0_8 a0_9 a0_10 a0_11 a0_12 a0_13 a0_14 a0_15 a0_16 a0_17 a0_18 a0_19 a0_20 a0_21 a0_22 0 0 0 x6 x6 1 0 0 0 x6 x6 1 0 0 1
  have tx9 : in32 x9 = true := by rw [ex9]; exact stRV_in _ i1_0
  have tx10 : in32 x10 = true := by rw [ex10]; exact stRV_in _ i1_1
  have tx11 : in32 x11 = true := by rw [ex11]; exact stRV_in _ i1_2
  have tx12 : in32 x12 = true := by rw [ex12]; exact stRV_in _ i1_3
  have tx13 : in32 x13 = true := by rw [ex13]; exact stRV_in _ i1_4
  have tx14 : in32 x14 = true := by rw [ex14]; exact stRV_in _ i1_5
  have tx15 : in32 x15 = true := by rw [ex15]; exact stRV_in _ i1_6
  have tx16 : in32 x16 = true := by rw [ex16]; exact stRV_in _ i1_7
  have tx17 : x17 = true := by rw [ex17]; simp [i0_0, i0_1, i0_2, i0_3, i0_4, i0_5, i0_6, i0_7, i1_0, i1_1, i1_2, i1_3, i1_4, i1_5, i1_6, i1_7, i2, i3, tx1, tx2, tx9, tx10, tx11, tx12, tx13, tx14, tx15, tx16]
  have tx27 : sansT x27 = sansT x26 := by rw [ex27, ex26]; exact strsP48w_T 16384 4096 false false true 36864 256 true true false _ _ x5 x9 x10 x11 x12 x13 x14 x15 x16 0 x20 x21 x22 x23 x24 x25 0 0 0 0 0 0 0 0 0 0 0 x6 x6 1 0 0 0 x6 x6 1 0 0 1
  have tx28 : in32 x28 = true := by rw [ex28]; exact stRV_in _ i1_0
  have tx29 : in32 x29 = true := by rw [ex29]; exact stRV_in _ i1_1
  have tx30 : in32 x30 = true := by rw [ex30]; exact stRV_in _ i1_2
  have tx31 : in32 x31 = true := by rw [ex31]; exact stRV_in _ i1_3
  have tx32 : in32 x32 = true := by rw [ex32]; exact stRV_in _ i1_4
  have tx33 : in32 x33 = true := by rw [ex33]; exact stRV_in _ i1_5
  have tx34 : in32 x34 = true := by rw [ex34]; exact stRV_in _ i1_6
  have tx35 : in32 x35 = true := by rw [ex35]; exact stRV_in _ i1_7
  have tx36 : x36 = true := by rw [ex36]; simp [i0_0, i0_1, i0_2, i0_3, i0_4, i0_5, i0_6, i0_7, i1_0, i1_1, i1_2, i1_3, i1_4, i1_5, i1_6, i1_7, i2, i3, tx1, tx2, tx9, tx10, tx11, tx12, tx13, tx14, tx15, tx16, tx17, tx28, tx29, tx30, tx31, tx32, tx33, tx34, tx35]
  have tx40 : sansT x40 = sansT x39 := by rw [ex40, ex39]; exact strsP48w_T 16384 4096 false false true 36864 256 true true false _ _ x5 x28 x29 x30 x31 x32 x33 x34 x35 0 x20 x21 x22 x23 x24 x25 0 0 0 0 0 0 0 0 0 0 0 x6 x6 1 0 0 0 x6 x6 1 0 0 1
  simp only [i0_0, i0_1, i0_2, i0_3, i0_4, i0_5, i0_6, i0_7, i1_0, i1_1, i1_2, i1_3, i1_4, i1_5, i1_6, i1_7, i2, i3, tx1, tx2, tx9, tx10, tx11, tx12, tx13, tx14, tx15, tx16, tx17, tx28, tx29, tx30, tx31, tx32, tx33, tx34, tx35, tx36, ex3, ex4, ex18, ex19, ex37, ex38, Nat.reduceAdd, Nat.reduceBEq, Bool.and_self, Bool.not_false, cond_true]
  simp only [ansI_sans tx8, ansB_sans tx8, ansM_sans tx8, ansI_sans tx27, ansB_sans tx27, ansM_sans tx27, ansI_sans tx40, ansB_sans tx40, ansM_sans tx40, beq_self_eq_true, bne_self_eq_false, alikeV_self, Bool.and_self, Bool.not_true, cond_false]
set_option maxHeartbeats 1000000 in
theorem way6 (a0_0 : Int) (a0_1 : Int) (a0_2 : Int) (a0_3 : Int) (a0_4 : Int) (a0_5 : Int) (a0_6 : Int) (a0_7 : Int) (a0_8 : Int) (a0_9 : Bool) (a0_10 : Bool) (a0_11 : Bool) (a0_12 : Bool) (a0_13 : Bool) (a0_14 : Bool) (a0_15 : Int) (a0_16 : Int) (a0_17 : Int) (a0_18 : Int) (a0_19 : Int) (a0_20 : Int) (a0_21 : Int) (a0_22 : Int) (a1_0 : Int) (a1_1 : Int) (a1_2 : Int) (a1_3 : Int) (a1_4 : Int) (a1_5 : Int) (a1_6 : Int) (a1_7 : Int) (a2 : Int) (a3 : Int) (a4 : Int) (a5 : Int) (w0_0 : (Lit.int .u32 a0_0).wf = true) (w0_1 : (Lit.int .u32 a0_1).wf = true) (w0_2 : (Lit.int .u32 a0_2).wf = true) (w0_3 : (Lit.int .u32 a0_3).wf = true) (w0_4 : (Lit.int .u32 a0_4).wf = true) (w0_5 : (Lit.int .u32 a0_5).wf = true) (w0_6 : (Lit.int .u32 a0_6).wf = true) (w0_7 : (Lit.int .u32 a0_7).wf = true) (w0_8 : (Lit.int .u32 a0_8).wf = true) (w0_15 : (Lit.int .u64 a0_15).wf = true) (w0_16 : (Lit.int .u64 a0_16).wf = true) (w0_17 : (Lit.int .u64 a0_17).wf = true) (w0_18 : (Lit.int .u64 a0_18).wf = true) (w0_19 : (Lit.int .u64 a0_19).wf = true) (w0_20 : (Lit.int .u64 a0_20).wf = true) (w0_21 : (Lit.int .u64 a0_21).wf = true) (w0_22 : (Lit.int .u64 a0_22).wf = true) (w1_0 : (Lit.int .u32 a1_0).wf = true) (w1_1 : (Lit.int .u32 a1_1).wf = true) (w1_2 : (Lit.int .u32 a1_2).wf = true) (w1_3 : (Lit.int .u32 a1_3).wf = true) (w1_4 : (Lit.int .u32 a1_4).wf = true) (w1_5 : (Lit.int .u32 a1_5).wf = true) (w1_6 : (Lit.int .u32 a1_6).wf = true) (w1_7 : (Lit.int .u32 a1_7).wf = true) (w2 : (Lit.int .u8 a2).wf = true) (w3 : (Lit.int .u8 a3).wf = true) (w4 : (Lit.int .u8 a4).wf = true) (w5 : (Lit.int .u32 a5).wf = true) :
    ev Try.prog (ΓSn.add 42 (pureSpec stateS)) 397 (Env.hooks (ΓSn.add 42 (pureSpec stateS)) 9) (postC 3 (Try.f9.body.getD .skip)) (T6 a0_0 a0_1 a0_2 a0_3 a0_4 a0_5 a0_6 a0_7 a0_8 a0_9 a0_10 a0_11 a0_12 a0_13 a0_14 a0_15 a0_16 a0_17 a0_18 a0_19 a0_20 a0_21 a0_22 a1_0 a1_1 a1_2 a1_3 a1_4 a1_5 a1_6 a1_7 a2 a3 a4 a5) (M6 a0_0 a0_1 a0_2 a0_3 a0_4 a0_5 a0_6 a0_7 a0_8 a0_9 a0_10 a0_11 a0_12 a0_13 a0_14 a0_15 a0_16 a0_17 a0_18 a0_19 a0_20 a0_21 a0_22 a1_0 a1_1 a1_2 a1_3 a1_4 a1_5 a1_6 a1_7 a2 a3 a4 a5) (kBody Try.prog Try.f9 isT (fun _ _ => none)) = some true := by
  obtain ⟨x1, ex1⟩ : ∃ x : Int, x = (bitsL BinOp.or IntKind.u8 a3 194) := ⟨_, rfl⟩
  obtain ⟨x2, ex2⟩ : ∃ x : Bool, x = (in32 a0_0 && (in32 a0_1 && (in32 a0_2 && (in32 a0_3 && (in32 a0_4 && (in32 a0_5 && (in32 a0_6 && (in32 a0_7 && true)))))))) := ⟨_, rfl⟩
  obtain ⟨x3, ex3⟩ : ∃ x : Nat, x = (8 + 5) := ⟨_, rfl⟩
  obtain ⟨x4, ex4⟩ : ∃ x : Nat, x = (8 + 1) := ⟨_, rfl⟩
  obtain ⟨x5, ex5⟩ : ∃ x : Int → Int, x = (wrM (fun x => 0) 36864 (rowF (fun x => 0) (fillB a5) 256) 256) := ⟨_, rfl⟩
  obtain ⟨x6, ex6⟩ : ∃ x : Int, x = (-1) := ⟨_, rfl⟩
  obtain ⟨x7, ex7⟩ : ∃ x : Option (Sv × List SObj), x = (strsP46rbT 16384 4096 false false true 36864 256 true true false 103 x5 a0_0 a0_1 a0_2 a0_3 a0_4 a0_5 a0_6 a0_7 a0_8 a0_9 a0_10 a0_11 a0_12 a0_13 a0_14 a0_15 a0_16 a0_17 a0_18 a0_19 a0_20 a0_21 a0_22 0 0 0 x6 x6 1 0 0 0 x6 x6 1 0 0 2) := ⟨_, rfl⟩
  obtain ⟨x8, ex8⟩ : ∃ x : Option (Sv × List SObj), x = (strsP46rbT 16384 4096 false false true 36864 256 true true false 82 x5 a0_0 a0_1 a0_2 a0_3 a0_4 a0_5 a0_6 a0_7 a0_8 a0_9 a0_10 a0_11 a0_12 a0_13 a0_14 a0_15 a0_16 a0_17 a0_18 a0_19 a0_20 a0_21 a0_22 0 0 0 x6 x6 1 0 0 0 x6 x6 1 0 0 2) := ⟨_, rfl⟩
  obtain ⟨x9, ex9⟩ : ∃ x : Int, x = (stRV (stBit a3 1) a1_0) := ⟨_, rfl⟩
  obtain ⟨x10, ex10⟩ : ∃ x : Int, x = (stRV (stBit a3 2) a1_1) := ⟨_, rfl⟩
  obtain ⟨x11, ex11⟩ : ∃ x : Int, x = (stRV (stBit a3 4) a1_2) := ⟨_, rfl⟩
  obtain ⟨x12, ex12⟩ : ∃ x : Int, x = (stRV (stBit a3 8) a1_3) := ⟨_, rfl⟩
  obtain ⟨x13, ex13⟩ : ∃ x : Int, x = (stRV (stBit a3 16) a1_4) := ⟨_, rfl⟩
  obtain ⟨x14, ex14⟩ : ∃ x : Int, x = (stRV (stBit a3 32) a1_5) := ⟨_, rfl⟩
  obtain ⟨x15, ex15⟩ : ∃ x : Int, x = (stRV (stBit a3 64) a1_6) := ⟨_, rfl⟩
  obtain ⟨x16, ex16⟩ : ∃ x : Int, x = (stRV (stBit a3 128) a1_7) := ⟨_, rfl⟩
  obtain ⟨x17, ex17⟩ : ∃ x : Bool, x = (in32 x9 && (in32 x10 && (in32 x11 && (in32 x12 && (in32 x13 && (in32 x14 && (in32 x15 && (in32 x16 && true)))))))) := ⟨_, rfl⟩
  obtain ⟨x18, ex18⟩ : ∃ x : Nat, x = (24 + 5) := ⟨_, rfl⟩
  obtain ⟨x19, ex19⟩ : ∃ x : Nat, x = (24 + 1) := ⟨_, rfl⟩
  obtain ⟨x20, ex20⟩ : ∃ x : Bool, x = (flagW a2 1) := ⟨_, rfl⟩
  obtain ⟨x21, ex21⟩ : ∃ x : Bool, x = (flagW a2 4) := ⟨_, rfl⟩
  obtain ⟨x22, ex22⟩ : ∃ x : Bool, x = (flagW a2 64) := ⟨_, rfl⟩
  obtain ⟨x23, ex23⟩ : ∃ x : Bool, x = (flagW a2 128) := ⟨_, rfl⟩
  obtain ⟨x24, ex24⟩ : ∃ x : Bool, x = (flagW a2 2048) := ⟨_, rfl⟩
  obtain ⟨x25, ex25⟩ : ∃ x : Bool, x = (flagW a2 1024) := ⟨_, rfl⟩
  obtain ⟨x26, ex26⟩ : ∃ x : Option (Sv × List SObj), x = (strsP46rbT 16384 4096 false false true 36864 256 true true false 103 x5 x9 x10 x11 x12 x13 x14 x15 x16 0 x20 x21 x22 x23 x24 x25 0 0 0 0 0 0 0 0 0 0 0 x6 x6 1 0 0 0 x6 x6 1 0 0 2) := ⟨_, rfl⟩
  obtain ⟨x27, ex27⟩ : ∃ x : Option (Sv × List SObj), x = (strsP46rbT 16384 4096 false false true 36864 256 true true false 82 x5 x9 x10 x11 x12 x13 x14 x15 x16 0 x20 x21 x22 x23 x24 x25 0 0 0 0 0 0 0 0 0 0 0 x6 x6 1 0 0 0 x6 x6 1 0 0 2) := ⟨_, rfl⟩
  obtain ⟨x28, ex28⟩ : ∃ x : Int, x = (stRV (stBit x1 1) a1_0) := ⟨_, rfl⟩
  obtain ⟨x29, ex29⟩ : ∃ x : Int, x = (stRV (stBit x1 2) a1_1) := ⟨_, rfl⟩
  obtain ⟨x30, ex30⟩ : ∃ x : Int, x = (stRV (stBit x1 4) a1_2) := ⟨_, rfl⟩
  obtain ⟨x31, ex31⟩ : ∃ x : Int, x = (stRV (stBit x1 8) a1_3) := ⟨_, rfl⟩
  obtain ⟨x32, ex32⟩ : ∃ x : Int, x = (stRV (stBit x1 16) a1_4) := ⟨_, rfl⟩
  obtain ⟨x33, ex33⟩ : ∃ x : Int, x = (stRV (stBit x1 32) a1_5) := ⟨_, rfl⟩
  obtain ⟨x34, ex34⟩ : ∃ x : Int, x = (stRV (stBit x1 64) a1_6) := ⟨_, rfl⟩
  obtain ⟨x35, ex35⟩ : ∃ x : Int, x = (stRV (stBit x1 128) a1_7) := ⟨_, rfl⟩
  obtain ⟨x36, ex36⟩ : ∃ x : Bool, x = (in32 x28 && (in32 x29 && (in32 x30 && (in32 x31 && (in32 x32 && (in32 x33 && (in32 x34 && (in32 x35 && true)))))))) := ⟨_, rfl⟩
  obtain ⟨x37, ex37⟩ : ∃ x : Nat, x = (40 + 5) := ⟨_, rfl⟩
  obtain ⟨x38, ex38⟩ : ∃ x : Nat, x = (40 + 1) := ⟨_, rfl⟩
  obtain ⟨x39, ex39⟩ : ∃ x : Option (Sv × List SObj), x = (strsP46rbT 16384 4096 false false true 36864 256 true true false 103 x5 x28 x29 x30 x31 x32 x33 x34 x35 0 x20 x21 x22 x23 x24 x25 0 0 0 0 0 0 0 0 0 0 0 x6 x6 1 0 0 0 x6 x6 1 0 0 2) := ⟨_, rfl⟩
  obtain ⟨x40, ex40⟩ : ∃ x : Option (Sv × List SObj), x = (strsP46rbT 16384 4096 false false true 36864 256 true true false 82 x5 x28 x29 x30 x31 x32 x33 x34 x35 0 x20 x21 x22 x23 x24 x25 0 0 0 0 0 0 0 0 0 0 0 x6 x6 1 0 0 0 x6 x6 1 0 0 2) := ⟨_, rfl⟩
  have hF : ev Try.prog (ΓSn.add 42 (pureSpec stateS)) 397 (Env.hooks (ΓSn.add 42 (pureSpec stateS)) 9) (postC 3 (Try.f9.body.getD .skip)) (T6 a0_0 a0_1 a0_2 a0_3 a0_4 a0_5 a0_6 a0_7 a0_8 a0_9 a0_10 a0_11 a0_12 a0_13 a0_14 a0_15 a0_16 a0_17 a0_18 a0_19 a0_20 a0_21 a0_22 a1_0 a1_1 a1_2 a1_3 a1_4 a1_5 a1_6 a1_7 a2 a3 a4 a5) (M6 a0_0 a0_1 a0_2 a0_3 a0_4 a0_5 a0_6 a0_7 a0_8 a0_9 a0_10 a0_11 a0_12 a0_13 a0_14 a0_15 a0_16 a0_17 a0_18 a0_19 a0_20 a0_21 a0_22 a1_0 a1_1 a1_2 a1_3 a1_4 a1_5 a1_6 a1_7 a2 a3 a4 a5) (kBody Try.prog Try.f9 isT (fun _ _ => none)) =
    (bif in32 a1_0 && (in32 a1_1 && (in32 a1_2 && (in32 a1_3 && (in32 a1_4 && (in32 a1_5 && (in32 a1_6 && (in32 a1_7 && (true && (true && (true && (true && (true && (true && (true && (true && (in8 a2 && in8 a3)))))))))))))))) then bif in32 a1_0 && (in32 a1_1 && (in32 a1_2 && (in32 a1_3 && (in32 a1_4 && (in32 a1_5 && (in32 a1_6 && (in32 a1_7 && (true && (true && (true && (true && (true && (true && (true && (true && (in8 a2 && in8 x1)))))))))))))))) then bif x2 && !8 + 12 == 8 + 6 then bif x2 && (!x3 == x4 && (!x3 == 8 && !x4 == 8)) then bif !(ansI x7 0 == ansI x8 0 && (ansI x7 1 == ansI x8 1 && (ansI x7 2 == ansI x8 2 && (ansI x7 3 == ansI x8 3 && (ansI x7 4 == ansI x8 4 && (ansI x7 5 == ansI x8 5 && (ansI x7 6 == ansI x8 6 && (ansI x7 7 == ansI x8 7 && true))))))) && (ansI x7 8 == ansI x8 8 && (ansB x7 9 == ansB x8 9 && (ansB x7 10 == ansB x8 10 && (ansB x7 11 == ansB x8 11 && (ansB x7 12 == ansB x8 12 && (ansB x7 13 == ansB x8 13 && (ansB x7 14 == ansB x8 14 && true))))) && (ansI x7 15 == ansI x8 15 && (ansI x7 16 == ansI x8 16 && (ansI x7 17 == ansI x8 17 && (ansI x7 18 == ansI x8 18 && (ansI x7 19 == ansI x8 19 && (ansI x7 20 == ansI x8 20 && (ansI x7 21 == ansI x8 21 && (ansI x7 22 == ansI x8 22 && true))))))) && true)))) then some false else bif ansI x7 23 != ansI x8 23 then some false else bif !ansB x7 24 == ansB x8 24 then some false else bif !alikeV (ansM x7 1) (ansM x8 1) then some false else bif x17 && !24 + 12 == 24 + 6 then bif x17 && (!x18 == x19 && (!x18 == 24 && !x19 == 24)) then bif !(ansI x26 0 == ansI x27 0 && (ansI x26 1 == ansI x27 1 && (ansI x26 2 == ansI x27 2 && (ansI x26 3 == ansI x27 3 && (ansI x26 4 == ansI x27 4 && (ansI x26 5 == ansI x27 5 && (ansI x26 6 == ansI x27 6 && (ansI x26 7 == ansI x27 7 && true))))))) && (ansI x26 8 == ansI x27 8 && (ansB x26 9 == ansB x27 9 && (ansB x26 10 == ansB x27 10 && (ansB x26 11 == ansB x27 11 && (ansB x26 12 == ansB x27 12 && (ansB x26 13 == ansB x27 13 && (ansB x26 14 == ansB x27 14 && true))))) && (ansI x26 15 == ansI x27 15 && (ansI x26 16 == ansI x27 16 && (ansI x26 17 == ansI x27 17 && (ansI x26 18 == ansI x27 18 && (ansI x26 19 == ansI x27 19 && (ansI x26 20 == ansI x27 20 && (ansI x26 21 == ansI x27 21 && (ansI x26 22 == ansI x27 22 && true))))))) && true)))) then some false else bif ansI x26 23 != ansI x27 23 then some false else bif !ansB x26 24 == ansB x27 24 then some false else bif !alikeV (ansM x26 1) (ansM x27 1) then some false else bif x36 && !40 + 12 == 40 + 6 then bif x36 && (!x37 == x38 && (!x37 == 40 && !x38 == 40)) then bif !(ansI x39 0 == ansI x40 0 && (ansI x39 1 == ansI x40 1 && (ansI x39 2 == ansI x40 2 && (ansI x39 3 == ansI x40 3 && (ansI x39 4 == ansI x40 4 && (ansI x39 5 == ansI x40 5 && (ansI x39 6 == ansI x40 6 && (ansI x39 7 == ansI x40 7 && true))))))) && (ansI x39 8 == ansI x40 8 && (ansB x39 9 == ansB x40 9 && (ansB x39 10 == ansB x40 10 && (ansB x39 11 == ansB x40 11 && (ansB x39 12 == ansB x40 12 && (ansB x39 13 == ansB x40 13 && (ansB x39 14 == ansB x40 14 && true))))) && (ansI x39 15 == ansI x40 15 && (ansI x39 16 == ansI x40 16 && (ansI x39 17 == ansI x40 17 && (ansI x39 18 == ansI x40 18 && (ansI x39 19 == ansI x40 19 && (ansI x39 20 == ansI x40 20 && (ansI x39 21 == ansI x40 21 && (ansI x39 22 == ansI x40 22 && true))))))) && true)))) then some false else bif ansI x39 23 != ansI x40 23 then some false else bif !ansB x39 24 == ansB x40 24 then some false else bif !alikeV (ansM x39 1) (ansM x40 1) then some false else some true else none else none else none else none else none else none else none else none) := by
    subst ex1
    subst ex2
    subst ex3
    subst ex4
    subst ex5
    subst ex6
    subst ex7
    subst ex8
    subst ex9
    subst ex10
    subst ex11
    subst ex12
    subst ex13
    subst ex14
    subst ex15
    subst ex16
    subst ex17
    subst ex18
    subst ex19
    subst ex20
    subst ex21
    subst ex22
    subst ex23
    subst ex24
    subst ex25
    subst ex26
    subst ex27
    subst ex28
    subst ex29
    subst ex30
    subst ex31
    subst ex32
    subst ex33
    subst ex34
    subst ex35
    subst ex36
    subst ex37
    subst ex38
    subst ex39
    subst ex40
    kernel_rfl
  rw [hF]
  have i0_0 : in32 a0_0 = true := in32_iff.2 (wf_u32 w0_0)
  have i0_1 : in32 a0_1 = true := in32_iff.2 (wf_u32 w0_1)
  have i0_2 : in32 a0_2 = true := in32_iff.2 (wf_u32 w0_2)
  have i0_3 : in32 a0_3 = true := in32_iff.2 (wf_u32 w0_3)
  have i0_4 : in32 a0_4 = true := in32_iff.2 (wf_u32 w0_4)
  have i0_5 : in32 a0_5 = true := in32_iff.2 (wf_u32 w0_5)
  have i0_6 : in32 a0_6 = true := in32_iff.2 (wf_u32 w0_6)
  have i0_7 : in32 a0_7 = true := in32_iff.2 (wf_u32 w0_7)
  have i1_0 : in32 a1_0 = true := in32_iff.2 (wf_u32 w1_0)
  have i1_1 : in32 a1_1 = true := in32_iff.2 (wf_u32 w1_1)
  have i1_2 : in32 a1_2 = true := in32_iff.2 (wf_u32 w1_2)
  have i1_3 : in32 a1_3 = true := in32_iff.2 (wf_u32 w1_3)
  have i1_4 : in32 a1_4 = true := in32_iff.2 (wf_u32 w1_4)
  have i1_5 : in32 a1_5 = true := in32_iff.2 (wf_u32 w1_5)
  have i1_6 : in32 a1_6 = true := in32_iff.2 (wf_u32 w1_6)
  have i1_7 : in32 a1_7 = true := in32_iff.2 (wf_u32 w1_7)
  have i2 : in8 a2 = true := in8_iff.2 (wf_u8 w2)
  have i3 : in8 a3 = true := in8_iff.2 (wf_u8 w3)
  have tx1 : in8 x1 = true := by rw [ex1, bitsL_eq]; exact in8_or i3 rfl
  have tx2 : x2 = true := by rw [ex2]; simp [i0_0, i0_1, i0_2, i0_3, i0_4, i0_5, i0_6, i0_7, i1_0, i1_1, i1_2, i1_3, i1_4, i1_5, i1_6, i1_7, i2, i3, tx1]
  have tx8 : sansT x8 = sansT x7 := by rw [ex8, ex7]; exact strsP46rb_T 16384 4096 false false true 36864 256 true true false _ _ x5 a0_0 a0_1 a0_2 a0_3 a0_4 a0_5 a0_6 a0_7 a0_8 a0_9 a0_10 a0_11 a0_12 a0_13 a0_14 a0_15 a0_16 a0_17 a0_18 a0_19 a0_20 a0_21 a0_22 0 0 0 x6 x6 1 0 0 0 x6 x6 1 0 0 2
  have tx9 : in32 x9 = true := by rw [ex9]; exact stRV_in _ i1_0
  have tx10 : in32 x10 = true := by rw [ex10]; exact stRV_in _ i1_1
  have tx11 : in32 x11 = true := by rw [ex11]; exact stRV_in _ i1_2
  have tx12 : in32 x12 = true := by rw [ex12]; exact stRV_in _ i1_3
  have tx13 : in32 x13 = true := by rw [ex13]; exact stRV_in _ i1_4
  have tx14 : in32 x14 = true := by rw [ex14]; exact stRV_in _ i1_5
  have tx15 : in32 x15 = true := by rw [ex15]; exact stRV_in _ i1_6
  have tx16 : in32 x16 = true := by rw [ex16]; exact stRV_in _ i1_7
  have tx17 : x17 = true := by rw [ex17]; simp [i0_0, i0_1, i0_2, i0_3, i0_4, i0_5, i0_6, i0_7, i1_0, i1_1, i1_2, i1_3, i1_4, i1_5, i1_6, i1_7, i2, i3, tx1, tx2, tx9, tx10, tx11, tx12, tx13, tx14, tx15, tx16]
  have tx27 : sansT x27 = sansT x26 := by rw [ex27, ex26]; exact strsP46rb_T 16384 4096 false false true 36864 256 true true false _ _ x5 x9 x10 x11 x12 x13 x14 x15 x16 0 x20 x21 x22 x23 x24 x25 0 0 0 0 0 0 0 0 0 0 0 x6 x6 1 0 0 0 x6 x6 1 0 0 2
  have tx28 : in32 x28 = true := by rw [ex28]; exact stRV_in _ i1_0
  have tx29 : in32 x29 = true := by rw [ex29]; exact stRV_in _ i1_1
  have tx30 : in32 x30 = true := by rw [ex30]; exact stRV_in _ i1_2
  have tx31 : in32 x31 = true := by rw [ex31]; exact stRV_in _ i1_3
  have tx32 : in32 x32 = true := by rw [ex32]; exact stRV_in _ i1_4
  have tx33 : in32 x33 = true := by rw [ex33]; exact stRV_in _ i1_5
  have tx34 : in32 x34 = true := by rw [ex34]; exact stRV_in _ i1_6
  have tx35 : in32 x35 = true := by rw [ex35]; exact stRV_in _ i1_7
  have tx36 : x36 = true := by rw [ex36]; simp [i0_0, i0_1, i0_2, i0_3, i0_4, i0_5, i0_6, i0_7, i1_0, i1_1, i1_2, i1_3, i1_4, i1_5, i1_6, i1_7, i2, i3, tx1, tx2, tx9, tx10, tx11, tx12, tx13, tx14, tx15, tx16, tx17, tx28, tx29, tx30, tx31, tx32, tx33, tx34, tx35]
  have tx40 : sansT x40 = sansT x39 := by rw [ex40, ex39]; exact strsP46rb_T 16384 4096 false false true 36864 256 true true false _ _ x5 x28 x29 x30 x31 x32 x33 x34 x35 0 x20 x21 x22 x23 x24 x25 0 0 0 0 0 0 0 0 0 0 0 x6 x6 1 0 0 0 x6 x6 1 0 0 2
  simp only [i0_0, i0_1, i0_2, i0_3, i0_4, i0_5, i0_6, i0_7, i1_0, i1_1, i1_2, i1_3, i1_4, i1_5, i1_6, i1_7, i2, i3, tx1, tx2, tx9, tx10, tx11, tx12, tx13, tx14, tx15, tx16, tx17, tx28, tx29, tx30, tx31, tx32, tx33, tx34, tx35, tx36, ex3, ex4, ex18, ex19, ex37, ex38, Nat.reduceAdd, Nat.reduceBEq, Bool.and_self, Bool.not_false, cond_true]
  simp only [ansI_sans tx8, ansB_sans tx8, ansM_sans tx8, ansI_sans tx27, ansB_sans tx27, ansM_sans tx27, ansI_sans tx40, ansB_sans tx40, ansM_sans tx40, beq_self_eq_true, bne_self_eq_false, alikeV_self, Bool.and_self, Bool.not_true, cond_false]
set_option maxHeartbeats 1000000 in
theorem way7 (a0_0 : Int) (a0_1 : Int) (a0_2 : Int) (a0_3 : Int) (a0_4 : Int) (a0_5 : Int) (a0_6 : Int) (a0_7 : Int) (a0_8 : Int) (a0_9 : Bool) (a0_10 : Bool) (a0_11 : Bool) (a0_12 : Bool) (a0_13 : Bool) (a0_14 : Bool) (a0_15 : Int) (a0_16 : Int) (a0_17 : Int) (a0_18 : Int) (a0_19 : Int) (a0_20 : Int) (a0_21 : Int) (a0_22 : Int) (a1_0 : Int) (a1_1 : Int) (a1_2 : Int) (a1_3 : Int) (a1_4 : Int) (a1_5 : Int) (a1_6 : Int) (a1_7 : Int) (a2 : Int) (a3 : Int) (a4 : Int) (a5 : Int) (w0_0 : (Lit.int .u32 a0_0).wf = true) (w0_1 : (Lit.int .u32 a0_1).wf = true) (w0_2 : (Lit.int .u32 a0_2).wf = true) (w0_3 : (Lit.int .u32 a0_3).wf = true) (w0_4 : (Lit.int .u32 a0_4).wf = true) (w0_5 : (Lit.int .u32 a0_5).wf = true) (w0_6 : (Lit.int .u32 a0_6).wf = true) (w0_7 : (Lit.int .u32 a0_7).wf = true) (w0_8 : (Lit.int .u32 a0_8).wf = true) (w0_15 : (Lit.int .u64 a0_15).wf = true) (w0_16 : (Lit.int .u64 a0_16).wf = true) (w0_17 : (Lit.int .u64 a0_17).wf = true) (w0_18 : (Lit.int .u64 a0_18).wf = true) (w0_19 : (Lit.int .u64 a0_19).wf = true) (w0_20 : (Lit.int .u64 a0_20).wf = true) (w0_21 : (Lit.int .u64 a0_21).wf = true) (w0_22 : (Lit.int .u64 a0_22).wf = true) (w1_0 : (Lit.int .u32 a1_0).wf = true) (w1_1 : (Lit.int .u32 a1_1).wf = true) (w1_2 : (Lit.int .u32 a1_2).wf = true) (w1_3 : (Lit.int .u32 a1_3).wf = true) (w1_4 : (Lit.int .u32 a1_4).wf = true) (w1_5 : (Lit.int .u32 a1_5).wf = true) (w1_6 : (Lit.int .u32 a1_6).wf = true) (w1_7 : (Lit.int .u32 a1_7).wf = true) (w2 : (Lit.int .u8 a2).wf = true) (w3 : (Lit.int .u8 a3).wf = true) (w4 : (Lit.int .u8 a4).wf = true) (w5 : (Lit.int .u32 a5).wf = true) :
    ev Try.prog (ΓSn.add 42 (pureSpec stateS)) 397 (Env.hooks (ΓSn.add 42 (pureSpec stateS)) 9) (postC 3 (Try.f9.body.getD .skip)) (T7 a0_0 a0_1 a0_2 a0_3 a0_4 a0_5 a0_6 a0_7 a0_8 a0_9 a0_10 a0_11 a0_12 a0_13 a0_14 a0_15 a0_16 a0_17 a0_18 a0_19 a0_20 a0_21 a0_22 a1_0 a1_1 a1_2 a1_3 a1_4 a1_5 a1_6 a1_7 a2 a3 a4 a5) (M7 a0_0 a0_1 a0_2 a0_3 a0_4 a0_5 a0_6 a0_7 a0_8 a0_9 a0_10 a0_11 a0_12 a0_13 a0_14 a0_15 a0_16 a0_17 a0_18 a0_19 a0_20 a0_21 a0_22 a1_0 a1_1 a1_2 a1_3 a1_4 a1_5 a1_6 a1_7 a2 a3 a4 a5) (kBody Try.prog Try.f9 isT (fun _ _ => none)) = some true := by
  obtain ⟨x1, ex1⟩ : ∃ x : Int, x = (bitsL BinOp.or IntKind.u8 a3 194) := ⟨_, rfl⟩
  obtain ⟨x2, ex2⟩ : ∃ x : Bool, x = (in32 a0_0 && (in32 a0_1 && (in32 a0_2 && (in32 a0_3 && (in32 a0_4 && (in32 a0_5 && (in32 a0_6 && (in32 a0_7 && true)))))))) := ⟨_, rfl⟩
  obtain ⟨x3, ex3⟩ : ∃ x : Nat, x = (8 + 5) := ⟨_, rfl⟩
  obtain ⟨x4, ex4⟩ : ∃ x : Nat, x = (8 + 1) := ⟨_, rfl⟩
  obtain ⟨x5, ex5⟩ : ∃ x : Int → Int, x = (wrM (fun x => 0) 36864 (rowF (fun x => 0) (fillB a5) 256) 256) := ⟨_, rfl⟩
  obtain ⟨x6, ex6⟩ : ∃ x : Int, x = (-1) := ⟨_, rfl⟩
  obtain ⟨x7, ex7⟩ : ∃ x : Option (Sv × List SObj), x = (strsP46rwT 16384 4096 false false true 36864 256 true true false 103 x5 a0_0 a0_1 a0_2 a0_3 a0_4 a0_5 a0_6 a0_7 a0_8 a0_9 a0_10 a0_11 a0_12 a0_13 a0_14 a0_15 a0_16 a0_17 a0_18 a0_19 a0_20 a0_21 a0_22 0 0 0 x6 x6 1 0 0 0 x6 x6 1 0 0 2) := ⟨_, rfl⟩
  obtain ⟨x8, ex8⟩ : ∃ x : Option (Sv × List SObj), x = (strsP46rwT 16384 4096 false false true 36864 256 true true false 82 x5 a0_0 a0_1 a0_2 a0_3 a0_4 a0_5 a0_6 a0_7 a0_8 a0_9 a0_10 a0_11 a0_12 a0_13 a0_14 a0_15 a0_16 a0_17 a0_18 a0_19 a0_20 a0_21 a0_22 0 0 0 x6 x6 1 0 0 0 x6 x6 1 0 0 2) := ⟨_, rfl⟩
  obtain ⟨x9, ex9⟩ : ∃ x : Int, x = (stRV (stBit a3 1) a1_0) := ⟨_, rfl⟩
  obtain ⟨x10, ex10⟩ : ∃ x : Int, x = (stRV (stBit a3 2) a1_1) := ⟨_, rfl⟩
  obtain ⟨x11, ex11⟩ : ∃ x : Int, x = (stRV (stBit a3 4) a1_2) := ⟨_, rfl⟩
  obtain ⟨x12, ex12⟩ : ∃ x : Int, x = (stRV (stBit a3 8) a1_3) := ⟨_, rfl⟩
  obtain ⟨x13, ex13⟩ : ∃ x : Int, x = (stRV (stBit a3 16) a1_4) := ⟨_, rfl⟩
  obtain ⟨x14, ex14⟩ : ∃ x : Int, x = (stRV (stBit a3 32) a1_5) := ⟨_, rfl⟩
  obtain ⟨x15, ex15⟩ : ∃ x : Int, x = (stRV (stBit a3 64) a1_6) := ⟨_, rfl⟩
  obtain ⟨x16, ex16⟩ : ∃ x : Int, x = (stRV (stBit a3 128) a1_7) := ⟨_, rfl⟩
  obtain ⟨x17, ex17⟩ : ∃ x : Bool, x = (in32 x9 && (in32 x10 && (in32 x11 && (in32 x12 && (in32 x13 && (in32 x14 && (in32 x15 && (in32 x16 && true)))))))) := ⟨_, rfl⟩
  obtain ⟨x18, ex18⟩ : ∃ x : Nat, x = (24 + 5) := ⟨_, rfl⟩
  obtain ⟨x19, ex19⟩ : ∃ x : Nat, x = (24 + 1) := ⟨_, rfl⟩
  obtain ⟨x20, ex20⟩ : ∃ x : Bool, x = (flagW a2 1) := ⟨_, rfl⟩
  obtain ⟨x21, ex21⟩ : ∃ x : Bool, x = (flagW a2 4) := ⟨_, rfl⟩
  obtain ⟨x22, ex22⟩ : ∃ x : Bool, x = (flagW a2 64) := ⟨_, rfl⟩
  obtain ⟨x23, ex23⟩ : ∃ x : Bool, x = (flagW a2 128) := ⟨_, rfl⟩
  obtain ⟨x24, ex24⟩ : ∃ x : Bool, x = (flagW a2 2048) := ⟨_, rfl⟩
  obtain ⟨x25, ex25⟩ : ∃ x : Bool, x = (flagW a2 1024) := ⟨_, rfl⟩
  obtain ⟨x26, ex26⟩ : ∃ x : Option (Sv × List SObj), x = (strsP46rwT 16384 4096 false false true 36864 256 true true false 103 x5 x9 x10 x11 x12 x13 x14 x15 x16 0 x20 x21 x22 x23 x24 x25 0 0 0 0 0 0 0 0 0 0 0 x6 x6 1 0 0 0 x6 x6 1 0 0 2) := ⟨_, rfl⟩
  obtain ⟨x27, ex27⟩ : ∃ x : Option (Sv × List SObj), x = (strsP46rwT 16384 4096 false false true 36864 256 true true false 82 x5 x9 x10 x11 x12 x13 x14 x15 x16 0 x20 x21 x22 x23 x24 x25 0 0 0 0 0 0 0 0 0 0 0 x6 x6 1 0 0 0 x6 x6 1 0 0 2) := ⟨_, rfl⟩
  obtain ⟨x28, ex28⟩ : ∃ x : Int, x = (stRV (stBit x1 1) a1_0) := ⟨_, rfl⟩
  obtain ⟨x29, ex29⟩ : ∃ x : Int, x = (stRV (stBit x1 2) a1_1) := ⟨_, rfl⟩
  obtain ⟨x30, ex30⟩ : ∃ x : Int, x = (stRV (stBit x1 4) a1_2) := ⟨_, rfl⟩
  obtain ⟨x31, ex31⟩ : ∃ x : Int, x = (stRV (stBit x1 8) a1_3) := ⟨_, rfl⟩
  obtain ⟨x32, ex32⟩ : ∃ x : Int, x = (stRV (stBit x1 16) a1_4) := ⟨_, rfl⟩
  obtain ⟨x33, ex33⟩ : ∃ x : Int, x = (stRV (stBit x1 32) a1_5) := ⟨_, rfl⟩
  obtain ⟨x34, ex34⟩ : ∃ x : Int, x = (stRV (stBit x1 64) a1_6) := ⟨_, rfl⟩
  obtain ⟨x35, ex35⟩ : ∃ x : Int, x = (stRV (stBit x1 128) a1_7) := ⟨_, rfl⟩
  obtain ⟨x36, ex36⟩ : ∃ x : Bool, x = (in32 x28 && (in32 x29 && (in32 x30 && (in32 x31 && (in32 x32 && (in32 x33 && (in32 x34 && (in32 x35 && true)))))))) := ⟨_, rfl⟩
  obtain ⟨x37, ex37⟩ : ∃ x : Nat, x = (40 + 5) := ⟨_, rfl⟩
  obtain ⟨x38, ex38⟩ : ∃ x : Nat, x = (40 + 1) := ⟨_, rfl⟩
  obtain ⟨x39, ex39⟩ : ∃ x : Option (Sv × List SObj), x = (strsP46rwT 16384 4096 false false true 36864 256 true true false 103 x5 x28 x29 x30 x31 x32 x33 x34 x35 0 x20 x21 x22 x23 x24 x25 0 0 0 0 0 0 0 0 0 0 0 x6 x6 1 0 0 0 x6 x6 1 0 0 2) := ⟨_, rfl⟩
  obtain ⟨x40, ex40⟩ : ∃ x : Option (Sv × List SObj), x = (strsP46rwT 16384 4096 false false true 36864 256 true true false 82 x5 x28 x29 x30 x31 x32 x33 x34 x35 0 x20 x21 x22 x23 x24 x25 0 0 0 0 0 0 0 0 0 0 0 x6 x6 1 0 0 0 x6 x6 1 0 0 2) := ⟨_, rfl⟩
  have hF : ev Try.prog (ΓSn.add 42 (pureSpec stateS)) 397 (Env.hooks (ΓSn.add 42 (pureSpec stateS)) 9) (postC 3 (Try.f9.body.getD .skip)) (T7 a0_0 a0_1 a0_2 a0_3 a0_4 a0_5 a0_6 a0_7 a0_8 a0_9 a0_10 a0_11 a0_12 a0_13 a0_14 a0_15 a0_16 a0_17 a0_18 a0_19 a0_20 a0_21 a0_22 a1_0 a1_1 a1_2 a1_3 a1_4 a1_5 a1_6 a1_7 a2 a3 a4 a5) (M7 a0_0 a0_1 a0_2 a0_3 a0_4 a0_5 a0_6 a0_7 a0_8 a0_9 a0_10 a0_11 a0_12 a0_13 a0_14 a0_15 a0_16 a0_17 a0_18 a0_19 a0_20 a0_21 a0_22 a1_0 a1_1 a1_2 a1_3 a1_4 a1_5 a1_6 a1_7 a2 a3 a4 a5) (kBody Try.prog Try.f9 isT (fun _ _ => none)) =
    (bif in32 a1_0 && (in32 a1_1 && (in32 a1_2 && (in32 a1_3 && (in32 a1_4 && (in32 a1_5 && (in32 a1_6 && (in32 a1_7 && (true && (true && (true && (true && (true && (true && (true && (true && (in8 a2 && in8 a3)))))))))))))))) then bif in32 a1_0 && (in32 a1_1 && (in32 a1_2 && (in32 a1_3 && (in32 a1_4 && (in32 a1_5 && (in32 a1_6 && (in32 a1_7 && (true && (true && (true && (true && (true && (true && (true && (true && (in8 a2 && in8 x1)))))))))))))))) then bif x2 && !8 + 12 == 8 + 6 then bif x2 && (!x3 == x4 && (!x3 == 8 && !x4 == 8)) then bif !(ansI x7 0 == ansI x8 0 && (ansI x7 1 == ansI x8 1 && (ansI x7 2 == ansI x8 2 && (ansI x7 3 == ansI x8 3 && (ansI x7 4 == ansI x8 4 && (ansI x7 5 == ansI x8 5 && (ansI x7 6 == ansI x8 6 && (ansI x7 7 == ansI x8 7 && true))))))) && (ansI x7 8 == ansI x8 8 && (ansB x7 9 == ansB x8 9 && (ansB x7 10 == ansB x8 10 && (ansB x7 11 == ansB x8 11 && (ansB x7 12 == ansB x8 12 && (ansB x7 13 == ansB x8 13 && (ansB x7 14 == ansB x8 14 && true))))) && (ansI x7 15 == ansI x8 15 && (ansI x7 16 == ansI x8 16 && (ansI x7 17 == ansI x8 17 && (ansI x7 18 == ansI x8 18 && (ansI x7 19 == ansI x8 19 && (ansI x7 20 == ansI x8 20 && (ansI x7 21 == ansI x8 21 && (ansI x7 22 == ansI x8 22 && true))))))) && true)))) then some false else bif ansI x7 23 != ansI x8 23 then some false else bif !ansB x7 24 == ansB x8 24 then some false else bif !alikeV (ansM x7 1) (ansM x8 1) then some false else bif x17 && !24 + 12 == 24 + 6 then bif x17 && (!x18 == x19 && (!x18 == 24 && !x19 == 24)) then bif !(ansI x26 0 == ansI x27 0 && (ansI x26 1 == ansI x27 1 && (ansI x26 2 == ansI x27 2 && (ansI x26 3 == ansI x27 3 && (ansI x26 4 == ansI x27 4 && (ansI x26 5 == ansI x27 5 && (ansI x26 6 == ansI x27 6 && (ansI x26 7 == ansI x27 7 && true))))))) && (ansI x26 8 == ansI x27 8 && (ansB x26 9 == ansB x27 9 && (ansB x26 10 == ansB x27 10 && (ansB x26 11 == ansB x27 11 && (ansB x26 12 == ansB x27 12 && (ansB x26 13 == ansB x27 13 && (ansB x26 14 == ansB x27 14 && true))))) && (ansI x26 15 == ansI x27 15 && (ansI x26 16 == ansI x27 16 && (ansI x26 17 == ansI x27 17 && (ansI x26 18 == ansI x27 18 && (ansI x26 19 == ansI x27 19 && (ansI x26 20 == ansI x27 20 && (ansI x26 21 == ansI x27 21 && (ansI x26 22 == ansI x27 22 && true))))))) && true)))) then some false else bif ansI x26 23 != ansI x27 23 then some false else bif !ansB x26 24 == ansB x27 24 then some false else bif !alikeV (ansM x26 1) (ansM x27 1) then some false else bif x36 && !40 + 12 == 40 + 6 then bif x36 && (!x37 == x38 && (!x37 == 40 && !x38 == 40)) then bif !(ansI x39 0 == ansI x40 0 && (ansI x39 1 == ansI x40 1 && (ansI x39 2 == ansI x40 2 && (ansI x39 3 == ansI x40 3 && (ansI x39 4 == ansI x40 4 && (ansI x39 5 == ansI x40 5 && (ansI x39 6 == ansI x40 6 && (ansI x39 7 == ansI x40 7 && true))))))) && (ansI x39 8 == ansI x40 8 && (ansB x39 9 == ansB x40 9 && (ansB x39 10 == ansB x40 10 && (ansB x39 11 == ansB x40 11 && (ansB x39 12 == ansB x40 12 && (ansB x39 13 == ansB x40 13 && (ansB x39 14 == ansB x40 14 && true))))) && (ansI x39 15 == ansI x40 15 && (ansI x39 16 == ansI x40 16 && (ansI x39 17 == ansI x40 17 && (ansI x39 18 == ansI x40 18 && (ansI x39 19 == ansI x40 19 && (ansI x39 20 == ansI x40 20 && (ansI x39 21 == ansI x40 21 && (ansI x39 22 == ansI x40 22 && true))))))) && true)))) then some false else bif ansI x39 23 != ansI x40 23 then some false else bif !ansB x39 24 == ansB x40 24 then some false else bif !alikeV (ansM x39 1) (ansM x40 1) then some false else some true else none else none else none else none else none else none else none else none) := by
    subst ex1
    subst ex2
    subst ex3
    subst ex4
    subst ex5
    subst ex6
    subst ex7
    subst ex8
    subst ex9
    subst ex10
    subst ex11
    subst ex12
    subst ex13
    subst ex14
    subst ex15
    subst ex16
    subst ex17
    subst ex18
    subst ex19
    subst ex20
    subst ex21
    subst ex22
    subst ex23
    subst ex24
    subst ex25
    subst ex26
    subst ex27
    subst ex28
    subst ex29
    subst ex30
    subst ex31
    subst ex32
    subst ex33
    subst ex34
    subst ex35
    subst ex36
    subst ex37
    subst ex38
    subst ex39
    subst ex40
    kernel_rfl
  rw [hF]
  have i0_0 : in32 a0_0 = true := in32_iff.2 (wf_u32 w0_0)
  have i0_1 : in32 a0_1 = true := in32_iff.2 (wf_u32 w0_1)
  have i0_2 : in32 a0_2 = true := in32_iff.2 (wf_u32 w0_2)
  have i0_3 : in32 a0_3 = true := in32_iff.2 (wf_u32 w0_3)
  have i0_4 : in32 a0_4 = true := in32_iff.2 (wf_u32 w0_4)
  have i0_5 : in32 a0_5 = true := in32_iff.2 (wf_u32 w0_5)
  have i0_6 : in32 a0_6 = true := in32_iff.2 (wf_u32 w0_6)
  have i0_7 : in32 a0_7 = true := in32_iff.2 (wf_u32 w0_7)
  have i1_0 : in32 a1_0 = true := in32_iff.2 (wf_u32 w1_0)
  have i1_1 : in32 a1_1 = true := in32_iff.2 (wf_u32 w1_1)
  have i1_2 : in32 a1_2 = true := in32_iff.2 (wf_u32 w1_2)
  have i1_3 : in32 a1_3 = true := in32_iff.2 (wf_u32 w1_3)
  have i1_4 : in32 a1_4 = true := in32_iff.2 (wf_u32 w1_4)
  have i1_5 : in32 a1_5 = true := in32_iff.2 (wf_u32 w1_5)
  have i1_6 : in32 a1_6 = true := in32_iff.2 (wf_u32 w1_6)
  have i1_7 : in32 a1_7 = true := in32_iff.2 (wf_u32 w1_7)
  have i2 : in8 a2 = true := in8_iff.2 (wf_u8 w2)
  have i3 : in8 a3 = true := in8_iff.2 (wf_u8 w3)
  have tx1 : in8 x1 = true := by rw [ex1, bitsL_eq]; exact in8_or i3 rfl
  have tx2 : x2 = true := by rw [ex2]; simp [i0_0, i0_1, i0_2, i0_3, i0_4, i0_5, i0_6, i0_7, i1_0, i1_1, i1_2, i1_3, i1_4, i1_5, i1_6, i1_7, i2, i3, tx1]
  have tx8 : sansT x8 = sansT x7 := by rw [ex8, ex7]; exact strsP46rw_T 16384 4096 false false true 36864 256 true true false _ _ x5 a0_0 a0_1 a0_2 a0_3 a0_4 a0_5 a0_6 a0_7 a0_8 a0_9 a0_10 a0_11 a0_12 a0_13 a0_14 a0_15 a0_16 a0_17 a0_18 a0_19 a0_20 a0_21 a0_22 0 0 0 x6 x6 1 0 0 0 x6 x6 1 0 0 2
  have tx9 : in32 x9 = true := by rw [ex9]; exact stRV_in _ i1_0
  have tx10 : in32 x10 = true := by rw [ex10]; exact stRV_in _ i1_1
  have tx11 : in32 x11 = true := by rw [ex11]; exact stRV_in _ i1_2
  have tx12 : in32 x12 = true := by rw [ex12]; exact stRV_in _ i1_3
  have tx13 : in32 x13 = true := by rw [ex13]; exact stRV_in _ i1_4
  have tx14 : in32 x14 = true := by rw [ex14]; exact stRV_in _ i1_5
  have tx15 : in32 x15 = true := by rw [ex15]; exact stRV_in _ i1_6
  have tx16 : in32 x16 = true := by rw [ex16]; exact stRV_in _ i1_7
  have tx17 : x17 = true := by rw [ex17]; simp [i0_0, i0_1, i0_2, i0_3, i0_4, i0_5, i0_6, i0_7, i1_0, i1_1, i1_2, i1_3, i1_4, i1_5, i1_6, i1_7, i2, i3, tx1, tx2, tx9, tx10, tx11, tx12, tx13, tx14, tx15, tx16]
  have tx27 : sansT x27 = sansT x26 := by rw [ex27, ex26]; exact strsP46rw_T 16384 4096 false false true 36864 256 true true false _ _ x5 x9 x10 x11 x12 x13 x14 x15 x16 0 x20 x21 x22 x23 x24 x25 0 0 0 0 0 0 0 0 0 0 0 x6 x6 1 0 0 0 x6 x6 1 0 0 2
  have tx28 : in32 x28 = true := by rw [ex28]; exact stRV_in _ i1_0
  have tx29 : in32 x29 = true := by rw [ex29]; exact stRV_in _ i1_1
  have tx30 : in32 x30 = true := by rw [ex30]; exact stRV_in _ i1_2
  have tx31 : in32 x31 = true := by rw [ex31]; exact stRV_in _ i1_3
  have tx32 : in32 x32 = true := by rw [ex32]; exact stRV_in _ i1_4
  have tx33 : in32 x33 = true := by rw [ex33]; exact stRV_in _ i1_5
  have tx34 : in32 x34 = true := by rw [ex34]; exact stRV_in _ i1_6
  have tx35 : in32 x35 = true := by rw [ex35]; exact stRV_in _ i1_7
  have tx36 : x36 = true := by rw [ex36]; simp [i0_0, i0_1, i0_2, i0_3, i0_4, i0_5, i0_6, i0_7, i1_0, i1_1, i1_2, i1_3, i1_4, i1_5, i1_6, i1_7, i2, i3, tx1, tx2, tx9, tx10, tx11, tx12, tx13, tx14, tx15, tx16, tx17, tx28, tx29, tx30, tx31, tx32, tx33, tx34, tx35]
  have tx40 : sansT x40 = sansT x39 := by rw [ex40, ex39]; exact strsP46rw_T 16384 4096 false false true 36864 256 true true false _ _ x5 x28 x29 x30 x31 x32 x33 x34 x35 0 x20 x21 x22 x23 x24 x25 0 0 0 0 0 0 0 0 0 0 0 x6 x6 1 0 0 0 x6 x6 1 0 0 2
  simp only [i0_0, i0_1, i0_2, i0_3, i0_4, i0_5, i0_6, i0_7, i1_0, i1_1, i1_2, i1_3, i1_4, i1_5, i1_6, i1_7, i2, i3, tx1, tx2, tx9, tx10, tx11, tx12, tx13, tx14, tx15, tx16, tx17, tx28, tx29, tx30, tx31, tx32, tx33, tx34, tx35, tx36, ex3, ex4, ex18, ex19, ex37, ex38, Nat.reduceAdd, Nat.reduceBEq, Bool.and_self, Bool.not_false, cond_true]
  simp only [ansI_sans tx8, ansB_sans tx8, ansM_sans tx8, ansI_sans tx27, ansB_sans tx27, ansM_sans tx27, ansI_sans tx40, ansB_sans tx40, ansM_sans tx40, beq_self_eq_true, bne_self_eq_false, alikeV_self, Bool.and_self, Bool.not_true, cond_false]
set_option maxHeartbeats 1000000 in
theorem way8 (a0_0 : Int) (a0_1 : Int) (a0_2 : Int) (a0_3 : Int) (a0_4 : Int) (a0_5 : Int) (a0_6 : Int) (a0_7 : Int) (a0_8 : Int) (a0_9 : Bool) (a0_10 : Bool) (a0_11 : Bool) (a0_12 : Bool) (a0_13 : Bool) (a0_14 : Bool) (a0_15 : Int) (a0_16 : Int) (a0_17 : Int) (a0_18 : Int) (a0_19 : Int) (a0_20 : Int) (a0_21 : Int) (a0_22 : Int) (a1_0 : Int) (a1_1 : Int) (a1_2 : Int) (a1_3 : Int) (a1_4 : Int) (a1_5 : Int) (a1_6 : Int) (a1_7 : Int) (a2 : Int) (a3 : Int) (a4 : Int) (a5 : Int) (w0_0 : (Lit.int .u32 a0_0).wf = true) (w0_1 : (Lit.int .u32 a0_1).wf = true) (w0_2 : (Lit.int .u32 a0_2).wf = true) (w0_3 : (Lit.int .u32 a0_3).wf = true) (w0_4 : (Lit.int .u32 a0_4).wf = true) (w0_5 : (Lit.int .u32 a0_5).wf = true) (w0_6 : (Lit.int .u32 a0_6).wf = true) (w0_7 : (Lit.int .u32 a0_7).wf = true) (w0_8 : (Lit.int .u32 a0_8).wf = true) (w0_15 : (Lit.int .u64 a0_15).wf = true) (w0_16 : (Lit.int .u64 a0_16).wf = true) (w0_17 : (Lit.int .u64 a0_17).wf = true) (w0_18 : (Lit.int .u64 a0_18).wf = true) (w0_19 : (Lit.int .u64 a0_19).wf = true) (w0_20 : (Lit.int .u64 a0_20).wf = true) (w0_21 : (Lit.int .u64 a0_21).wf = true) (w0_22 : (Lit.int .u64 a0_22).wf = true) (w1_0 : (Lit.int .u32 a1_0).wf = true) (w1_1 : (Lit.int .u32 a1_1).wf = true) (w1_2 : (Lit.int .u32 a1_2).wf = true) (w1_3 : (Lit.int .u32 a1_3).wf = true) (w1_4 : (Lit.int .u32 a1_4).wf = true) (w1_5 : (Lit.int .u32 a1_5).wf = true) (w1_6 : (Lit.int .u32 a1_6).wf = true) (w1_7 : (Lit.int .u32 a1_7).wf = true) (w2 : (Lit.int .u8 a2).wf = true) (w3 : (Lit.int .u8 a3).wf = true) (w4 : (Lit.int .u8 a4).wf = true) (w5 : (Lit.int .u32 a5).wf = true) :
    ev Try.prog (ΓSn.add 42 (pureSpec stateS)) 397 (Env.hooks (ΓSn.add 42 (pureSpec stateS)) 9) (postC 3 (Try.f9.body.getD .skip)) (T8 a0_0 a0_1 a0_2 a0_3 a0_4 a0_5 a0_6 a0_7 a0_8 a0_9 a0_10 a0_11 a0_12 a0_13 a0_14 a0_15 a0_16 a0_17 a0_18 a0_19 a0_20 a0_21 a0_22 a1_0 a1_1 a1_2 a1_3 a1_4 a1_5 a1_6 a1_7 a2 a3 a4 a5) (M8 a0_0 a0_1 a0_2 a0_3 a0_4 a0_5 a0_6 a0_7 a0_8 a0_9 a0_10 a0_11 a0_12 a0_13 a0_14 a0_15 a0_16 a0_17 a0_18 a0_19 a0_20 a0_21 a0_22 a1_0 a1_1 a1_2 a1_3 a1_4 a1_5 a1_6 a1_7 a2 a3 a4 a5) (kBody Try.prog Try.f9 isT (fun _ _ => none)) = some true := by
  obtain ⟨x1, ex1⟩ : ∃ x : Int, x = (bitsL BinOp.or IntKind.u8 a3 194) := ⟨_, rfl⟩
  obtain ⟨x2, ex2⟩ : ∃ x : Bool, x = (in32 a0_0 && (in32 a0_1 && (in32 a0_2 && (in32 a0_3 && (in32 a0_4 && (in32 a0_5 && (in32 a0_6 && (in32 a0_7 && true)))))))) := ⟨_, rfl⟩
  obtain ⟨x3, ex3⟩ : ∃ x : Nat, x = (8 + 5) := ⟨_, rfl⟩
  obtain ⟨x4, ex4⟩ : ∃ x : Nat, x = (8 + 1) := ⟨_, rfl⟩
  obtain ⟨x5, ex5⟩ : ∃ x : Int → Int, x = (wrM (fun x => 0) 36864 (rowF (fun x => 0) (fillB a5) 256) 256) := ⟨_, rfl⟩
  obtain ⟨x6, ex6⟩ : ∃ x : Int, x = (-1) := ⟨_, rfl⟩
  obtain ⟨x7, ex7⟩ : ∃ x : Option (Sv × List SObj), x = (strsP47rbT 16384 4096 false false true 36864 256 true true false 103 x5 a0_0 a0_1 a0_2 a0_3 a0_4 a0_5 a0_6 a0_7 a0_8 a0_9 a0_10 a0_11 a0_12 a0_13 a0_14 a0_15 a0_16 a0_17 a0_18 a0_19 a0_20 a0_21 a0_22 0 0 0 x6 x6 1 0 0 0 x6 x6 1 0 0 2) := ⟨_, rfl⟩
  obtain ⟨x8, ex8⟩ : ∃ x : Option (Sv × List SObj), x = (strsP47rbT 16384 4096 false false true 36864 256 true true false 82 x5 a0_0 a0_1 a0_2 a0_3 a0_4 a0_5 a0_6 a0_7 a0_8 a0_9 a0_10 a0_11 a0_12 a0_13 a0_14 a0_15 a0_16 a0_17 a0_18 a0_19 a0_20 a0_21 a0_22 0 0 0 x6 x6 1 0 0 0 x6 x6 1 0 0 2) := ⟨_, rfl⟩
  obtain ⟨x9, ex9⟩ : ∃ x : Int, x = (stRV (stBit a3 1) a1_0) := ⟨_, rfl⟩
  obtain ⟨x10, ex10⟩ : ∃ x : Int, x = (stRV (stBit a3 2) a1_1) := ⟨_, rfl⟩
  obtain ⟨x11, ex11⟩ : ∃ x : Int, x = (stRV (stBit a3 4) a1_2) := ⟨_, rfl⟩
  obtain ⟨x12, ex12⟩ : ∃ x : Int, x = (stRV (stBit a3 8) a1_3) := ⟨_, rfl⟩
  obtain ⟨x13, ex13⟩ : ∃ x : Int, x = (stRV (stBit a3 16) a1_4) := ⟨_, rfl⟩
  obtain ⟨x14, ex14⟩ : ∃ x : Int, x = (stRV (stBit a3 32) a1_5) := ⟨_, rfl⟩
  obtain ⟨x15, ex15⟩ : ∃ x : Int, x = (stRV (stBit a3 64) a1_6) := ⟨_, rfl⟩
  obtain ⟨x16, ex16⟩ : ∃ x : Int, x = (stRV (stBit a3 128) a1_7) := ⟨_, rfl⟩
  obtain ⟨x17, ex17⟩ : ∃ x : Bool, x = (in32 x9 && (in32 x10 && (in32 x11 && (in32 x12 && (in32 x13 && (in32 x14 && (in32 x15 && (in32 x16 && true)))))))) := ⟨_, rfl⟩
  obtain ⟨x18, ex18⟩ : ∃ x : Nat, x = (24 + 5) := ⟨_, rfl⟩
  obtain ⟨x19, ex19⟩ : ∃ x : Nat, x = (24 + 1) := ⟨_, rfl⟩
  obtain ⟨x20, ex20⟩ : ∃ x : Bool, x = (flagW a2 1) := ⟨_, rfl⟩
  obtain ⟨x21, ex21⟩ : ∃ x : Bool, x = (flagW a2 4) := ⟨_, rfl⟩
  obtain ⟨x22, ex22⟩ : ∃ x : Bool, x = (flagW a2 64) := ⟨_, rfl⟩
  obtain ⟨x23, ex23⟩ : ∃ x : Bool, x = (flagW a2 128) := ⟨_, rfl⟩
  obtain ⟨x24, ex24⟩ : ∃ x : Bool, x = (flagW a2 2048) := ⟨_, rfl⟩
  obtain ⟨x25, ex25⟩ : ∃ x : Bool, x = (flagW a2 1024) := ⟨_, rfl⟩
  obtain ⟨x26, ex26⟩ : ∃ x : Option (Sv × List SObj), x = (strsP47rbT 16384 4096 false false true 36864 256 true true false 103 x5 x9 x10 x11 x12 x13 x14 x15 x16 0 x20 x21 x22 x23 x24 x25 0 0 0 0 0 0 0 0 0 0 0 x6 x6 1 0 0 0 x6 x6 1 0 0 2) := ⟨_, rfl⟩
  obtain ⟨x27, ex27⟩ : ∃ x : Option (Sv × List SObj), x = (strsP47rbT 16384 4096 false false true 36864 256 true true false 82 x5 x9 x10 x11 x12 x13 x14 x15 x16 0 x20 x21 x22 x23 x24 x25 0 0 0 0 0 0 0 0 0 0 0 x6 x6 1 0 0 0 x6 x6 1 0 0 2) := ⟨_, rfl⟩
  obtain ⟨x28, ex28⟩ : ∃ x : Int, x = (stRV (stBit x1 1) a1_0) := ⟨_, rfl⟩
  obtain ⟨x29, ex29⟩ : ∃ x : Int, x = (stRV (stBit x1 2) a1_1) := ⟨_, rfl⟩
  obtain ⟨x30, ex30⟩ : ∃ x : Int, x = (stRV (stBit x1 4) a1_2) := ⟨_, rfl⟩
  obtain ⟨x31, ex31⟩ : ∃ x : Int, x = (stRV (stBit x1 8) a1_3) := ⟨_, rfl⟩
  obtain ⟨x32, ex32⟩ : ∃ x : Int, x = (stRV (stBit x1 16) a1_4) := ⟨_, rfl⟩
  obtain ⟨x33, ex33⟩ : ∃ x : Int, x = (stRV (stBit x1 32) a1_5) := ⟨_, rfl⟩
  obtain ⟨x34, ex34⟩ : ∃ x : Int, x = (stRV (stBit x1 64) a1_6) := ⟨_, rfl⟩
  obtain ⟨x35, ex35⟩ : ∃ x : Int, x = (stRV (stBit x1 128) a1_7) := ⟨_, rfl⟩
  obtain ⟨x36, ex36⟩ : ∃ x : Bool, x = (in32 x28 && (in32 x29 && (in32 x30 && (in32 x31 && (in32 x32 && (in32 x33 && (in32 x34 && (in32 x35 && true)))))))) := ⟨_, rfl⟩
  obtain ⟨x37, ex37⟩ : ∃ x : Nat, x = (40 + 5) := ⟨_, rfl⟩
  obtain ⟨x38, ex38⟩ : ∃ x : Nat, x = (40 + 1) := ⟨_, rfl⟩
  obtain ⟨x39, ex39⟩ : ∃ x : Option (Sv × List SObj), x = (strsP47rbT 16384 4096 false false true 36864 256 true true false 103 x5 x28 x29 x30 x31 x32 x33 x34 x35 0 x20 x21 x22 x23 x24 x25 0 0 0 0 0 0 0 0 0 0 0 x6 x6 1 0 0 0 x6 x6 1 0 0 2) := ⟨_, rfl⟩
  obtain ⟨x40, ex40⟩ : ∃ x : Option (Sv × List SObj), x = (strsP47rbT 16384 4096 false false true 36864 256 true true false 82 x5 x28 x29 x30 x31 x32 x33 x34 x35 0 x20 x21 x22 x23 x24 x25 0 0 0 0 0 0 0 0 0 0 0 x6 x6 1 0 0 0 x6 x6 1 0 0 2) := ⟨_, rfl⟩
  have hF : ev Try.prog (ΓSn.add 42 (pureSpec stateS)) 397 (Env.hooks (ΓSn.add 42 (pureSpec stateS)) 9) (postC 3 (Try.f9.body.getD .skip)) (T8 a0_0 a0_1 a0_2 a0_3 a0_4 a0_5 a0_6 a0_7 a0_8 a0_9 a0_10 a0_11 a0_12 a0_13 a0_14 a0_15 a0_16 a0_17 a0_18 a0_19 a0_20 a0_21 a0_22 a1_0 a1_1 a1_2 a1_3 a1_4 a1_5 a1_6 a1_7 a2 a3 a4 a5) (M8 a0_0 a0_1 a0_2 a0_3 a0_4 a0_5 a0_6 a0_7 a0_8 a0_9 a0_10 a0_11 a0_12 a0_13 a0_14 a0_15 a0_16 a0_17 a0_18 a0_19 a0_20 a0_21 a0_22 a1_0 a1_1 a1_2 a1_3 a1_4 a1_5 a1_6 a1_7 a2 a3 a4 a5) (kBody Try.prog Try.f9 isT (fun _ _ => none)) =
    (bif in32 a1_0 && (in32 a1_1 && (in32 a1_2 && (in32 a1_3 && (in32 a1_4 && (in32 a1_5 && (in32 a1_6 && (in32 a1_7 && (true && (true && (true && (true && (true && (true && (true && (true && (in8 a2 && in8 a3)))))))))))))))) then bif in32 a1_0 && (in32 a1_1 && (in32 a1_2 && (in32 a1_3 && (in32 a1_4 && (in32 a1_5 && (in32 a1_6 && (in32 a1_7 && (true && (true && (true && (true && (true && (true && (true && (true && (in8 a2 && in8 x1)))))))))))))))) then bif x2 && !8 + 12 == 8 + 6 then bif x2 && (!x3 == x4 && (!x3 == 8 && !x4 == 8)) then bif !(ansI x7 0 == ansI x8 0 && (ansI x7 1 == ansI x8 1 && (ansI x7 2 == ansI x8 2 && (ansI x7 3 == ansI x8 3 && (ansI x7 4 == ansI x8 4 && (ansI x7 5 == ansI x8 5 && (ansI x7 6 == ansI x8 6 && (ansI x7 7 == ansI x8 7 && true))))))) && (ansI x7 8 == ansI x8 8 && (ansB x7 9 == ansB x8 9 && (ansB x7 10 == ansB x8 10 && (ansB x7 11 == ansB x8 11 && (ansB x7 12 == ansB x8 12 && (ansB x7 13 == ansB x8 13 && (ansB x7 14 == ansB x8 14 && true))))) && (ansI x7 15 == ansI x8 15 && (ansI x7 16 == ansI x8 16 && (ansI x7 17 == ansI x8 17 && (ansI x7 18 == ansI x8 18 && (ansI x7 19 == ansI x8 19 && (ansI x7 20 == ansI x8 20 && (ansI x7 21 == ansI x8 21 && (ansI x7 22 == ansI x8 22 && true))))))) && true)))) then some false else bif ansI x7 23 != ansI x8 23 then some false else bif !ansB x7 24 == ansB x8 24 then some false else bif !alikeV (ansM x7 1) (ansM x8 1) then some false else bif x17 && !24 + 12 == 24 + 6 then bif x17 && (!x18 == x19 && (!x18 == 24 && !x19 == 24)) then bif !(ansI x26 0 == ansI x27 0 && (ansI x26 1 == ansI x27 1 && (ansI x26 2 == ansI x27 2 && (ansI x26 3 == ansI x27 3 && (ansI x26 4 == ansI x27 4 && (ansI x26 5 == ansI x27 5 && (ansI x26 6 == ansI x27 6 && (ansI x26 7 == ansI x27 7 && true))))))) && (ansI x26 8 == ansI x27 8 && (ansB x26 9 == ansB x27 9 && (ansB x26 10 == ansB x27 10 && (ansB x26 11 == ansB x27 11 && (ansB x26 12 == ansB x27 12 && (ansB x26 13 == ansB x27 13 && (ansB x26 14 == ansB x27 14 && true))))) && (ansI x26 15 == ansI x27 15 && (ansI x26 16 == ansI x27 16 && (ansI x26 17 == ansI x27 17 && (ansI x26 18 == ansI x27 18 && (ansI x26 19 == ansI x27 19 && (ansI x26 20 == ansI x27 20 && (ansI x26 21 == ansI x27 21 && (ansI x26 22 == ansI x27 22 && true))))))) && true)))) then some false else bif ansI x26 23 != ansI x27 23 then some false else bif !ansB x26 24 == ansB x27 24 then some false else bif !alikeV (ansM x26 1) (ansM x27 1) then some false else bif x36 && !40 + 12 == 40 + 6 then bif x36 && (!x37 == x38 && (!x37 == 40 && !x38 == 40)) then bif !(ansI x39 0 == ansI x40 0 && (ansI x39 1 == ansI x40 1 && (ansI x39 2 == ansI x40 2 && (ansI x39 3 == ansI x40 3 && (ansI x39 4 == ansI x40 4 && (ansI x39 5 == ansI x40 5 && (ansI x39 6 == ansI x40 6 && (ansI x39 7 == ansI x40 7 && true))))))) && (ansI x39 8 == ansI x40 8 && (ansB x39 9 == ansB x40 9 && (ansB x39 10 == ansB x40 10 && (ansB x39 11 == ansB x40 11 && (ansB x39 12 == ansB x40 12 && (ansB x39 13 == ansB x40 13 && (ansB x39 14 == ansB x40 14 && true))))) && (ansI x39 15 == ansI x40 15 && (ansI x39 16 == ansI x40 16 && (ansI x39 17 == ansI x40 17 && (ansI x39 18 == ansI x40 18 && (ansI x39 19 == ansI x40 19 && (ansI x39 20 == ansI x40 20 && (ansI x39 21 == ansI x40 21 && (ansI x39 22 == ansI x40 22 && true))))))) && true)))) then some false else bif ansI x39 23 != ansI x40 23 then some false else bif !ansB x39 24 == ansB x40 24 then some false else bif !alikeV (ansM x39 1) (ansM x40 1) then some false else some true else none else none else none else none else none else none else none else none) := by
    subst ex1
    subst ex2
    subst ex3
    subst ex4
    subst ex5
    subst ex6
    subst ex7
    subst ex8
    subst ex9
    subst ex10
    subst ex11
    subst ex12
    subst ex13
    subst ex14
    subst ex15
    subst ex16
    subst ex17
    subst ex18
    subst ex19
    subst ex20
    subst ex21
    subst ex22
    subst ex23
    subst ex24
    subst ex25
    subst ex26
    subst ex27
    subst ex28
    subst ex29
    subst ex30
    subst ex31
    subst ex32
    subst ex33
    subst ex34
    subst ex35
    subst ex36
    subst ex37
    subst ex38
    subst ex39
    subst ex40
    kernel_rfl
  rw [hF]
  have i0_0 : in32 a0_0 = true := in32_iff.2 (wf_u32 w0_0)
  have i0_1 : in32 a0_1 = true := in32_iff.2 (wf_u32 w0_1)
  have i0_2 : in32 a0_2 = true := in32_iff.2 (wf_u32 w0_2)
  have i0_3 : in32 a0_3 = true := in32_iff.2 (wf_u32 w0_3)
  have i0_4 : in32 a0_4 = true := in32_iff.2 (wf_u32 w0_4)
  have i0_5 : in32 a0_5 = true := in32_iff.2 (wf_u32 w0_5)
  have i0_6 : in32 a0_6 = true := in32_iff.2 (wf_u32 w0_6)
  have i0_7 : in32 a0_7 = true := in32_iff.2 (wf_u32 w0_7)
  have i1_0 : in32 a1_0 = true := in32_iff.2 (wf_u32 w1_0)
  have i1_1 : in32 a1_1 = true := in32_iff.2 (wf_u32 w1_1)
  have i1_2 : in32 a1_2 = true := in32_iff.2 (wf_u32 w1_2)
  have i1_3 : in32 a1_3 = true := in32_iff.2 (wf_u32 w1_3)
  have i1_4 : in32 a1_4 = true := in32_iff.2 (wf_u32 w1_4)
  have i1_5 : in32 a1_5 = true := in32_iff.2 (wf_u32 w1_5)
  have i1_6 : in32 a1_6 = true := in32_iff.2 (wf_u32 w1_6)
  have i1_7 : in32 a1_7 = true := in32_iff.2 (wf_u32 w1_7)
  have i2 : in8 a2 = true := in8_iff.2 (wf_u8 w2)
  have i3 : in8 a3 = true := in8_iff.2 (wf_u8 w3)
  have tx1 : in8 x1 = true := by rw [ex1, bitsL_eq]; exact in8_or i3 rfl
  have tx2 : x2 = true := by rw [ex2]; simp [i0_0, i0_1, i0_2, i0_3, i0_4, i0_5, i0_6, i0_7, i1_0, i1_1, i1_2, i1_3, i1_4, i1_5, i1_6, i1_7, i2, i3, tx1]
  have tx8 : sansT x8 = sansT x7 := by rw [ex8, ex7]; exact strsP47rb_T 16384 4096 false false true 36864 256 true true false _ _ x5 a0_0 a0_1 a0_2 a0_3 a0_4 a0_5 a0_6 a0_7 a0_8 a0_9 a0_10 a0_11 a0_12 a0_13 a0_14 a0_15 a0_16 a0_17 a0_18 a0_19 a0_20 a0_21 a0_22 0 0 0 x6 x6 1 0 0 0 x6 x6 1 0 0 2
  have tx9 : in32 x9 = true := by rw [ex9]; exact stRV_in _ i1_0
  have tx10 : in32 x10 = true := by rw [ex10]; exact stRV_in _ i1_1
  have tx11 : in32 x11 = true := by rw [ex11]; exact stRV_in _ i1_2
  have tx12 : in32 x12 = true := by rw [ex12]; exact stRV_in _ i1_3
  have tx13 : in32 x13 = true := by rw [ex13]; exact stRV_in _ i1_4
  have tx14 : in32 x14 = true := by rw [ex14]; exact stRV_in _ i1_5
  have tx15 : in32 x15 = true := by rw [ex15]; exact stRV_in _ i1_6
  have tx16 : in32 x16 = true := by rw [ex16]; exact stRV_in _ i1_7
  have tx17 : x17 = true := by rw [ex17]; simp [i0_0, i0_1, i0_2, i0_3, i0_4, i0_5, i0_6, i0_7, i1_0, i1_1, i1_2, i1_3, i1_4, i1_5, i1_6, i1_7, i2, i3, tx1, tx2, tx9, tx10, tx11, tx12, tx13, tx14, tx15, tx16]
  have tx27 : sansT x27 = sansT x26 := by rw [ex27, ex26]; exact strsP47rb_T 16384 4096 false false true 36864 256 true true false _ _ x5 x9 x10 x11 x12 x13 x14 x15 x16 0 x20 x21 x22 x23 x24 x25 0 0 0 0 0 0 0 0 0 0 0 x6 x6 1 0 0 0 x6 x6 1 0 0 2
  have tx28 : in32 x28 = true := by rw [ex28]; exact stRV_in _ i1_0
  have tx29 : in32 x29 = true := by rw [ex29]; exact stRV_in _ i1_1
  have tx30 : in32 x30 = true := by rw [ex30]; exact stRV_in _ i1_2
  have tx31 : in32 x31 = true := by rw [ex31]; exact stRV_in _ i1_3
  have tx32 : in32 x32 = true := by rw [ex32]; exact stRV_in _ i1_4
  have tx33 : in32 x33 = true := by rw [ex33]; exact stRV_in _ i1_5
  have tx34 : in32 x34 = true := by rw [ex34]; exact stRV_in _ i1_6
  have tx35 : in32 x35 = true := by rw [ex35]; exact stRV_in _ i1_7
  have tx36 : x36 = true := by rw [ex36]; simp [i0_0, i0_1, i0_2, i0_3, i0_4, i0_5, i0_6, i0_7, i1_0, i1_1, i1_2, i1_3, i1_4, i1_5, i1_6, i1_7, i2, i3, tx1, tx2, tx9, tx10, tx11, tx12, tx13, tx14, tx15, tx16, tx17, tx28, tx29, tx30, tx31, tx32, tx33, tx34, tx35]
  have tx40 : sansT x40 = sansT x39 := by rw [ex40, ex39]; exact strsP47rb_T 16384 4096 false false true 36864 256 true true false _ _ x5 x28 x29 x30 x31 x32 x33 x34 x35 0 x20 x21 x22 x23 x24 x25 0 0 0 0 0 0 0 0 0 0 0 x6 x6 1 0 0 0 x6 x6 1 0 0 2
  simp only [i0_0, i0_1, i0_2, i0_3, i0_4, i0_5, i0_6, i0_7, i1_0, i1_1, i1_2, i1_3, i1_4, i1_5, i1_6, i1_7, i2, i3, tx1, tx2, tx9, tx10, tx11, tx12, tx13, tx14, tx15, tx16, tx17, tx28, tx29, tx30, tx31, tx32, tx33, tx34, tx35, tx36, ex3, ex4, ex18, ex19, ex37, ex38, Nat.reduceAdd, Nat.reduceBEq, Bool.and_self, Bool.not_false, cond_true]
  simp only [ansI_sans tx8, ansB_sans tx8, ansM_sans tx8, ansI_sans tx27, ansB_sans tx27, ansM_sans tx27, ansI_sans tx40, ansB_sans tx40, ansM_sans tx40, beq_self_eq_true, bne_self_eq_false, alikeV_self, Bool.and_self, Bool.not_true, cond_false]
set_option maxHeartbeats 1000000 in
theorem way9 (a0_0 : Int) (a0_1 : Int) (a0_2 : Int) (a0_3 : Int) (a0_4 : Int) (a0_5 : Int) (a0_6 : Int) (a0_7 : Int) (a0_8 : Int) (a0_9 : Bool) (a0_10 : Bool) (a0_11 : Bool) (a0_12 : Bool) (a0_13 : Bool) (a0_14 : Bool) (a0_15 : Int) (a0_16 : Int) (a0_17 : Int) (a0_18 : Int) (a0_19 : Int) (a0_20 : Int) (a0_21 : Int) (a0_22 : Int) (a1_0 : Int) (a1_1 : Int) (a1_2 : Int) (a1_3 : Int) (a1_4 : Int) (a1_5 : Int) (a1_6 : Int) (a1_7 : Int) (a2 : Int) (a3 : Int) (a4 : Int) (a5 : Int) (w0_0 : (Lit.int .u32 a0_0).wf = true) (w0_1 : (Lit.int .u32 a0_1).wf = true) (w0_2 : (Lit.int .u32 a0_2).wf = true) (w0_3 : (Lit.int .u32 a0_3).wf = true) (w0_4 : (Lit.int .u32 a0_4).wf = true) (w0_5 : (Lit.int .u32 a0_5).wf = true) (w0_6 : (Lit.int .u32 a0_6).wf = true) (w0_7 : (Lit.int .u32 a0_7).wf = true) (w0_8 : (Lit.int .u32 a0_8).wf = true) (w0_15 : (Lit.int .u64 a0_15).wf = true) (w0_16 : (Lit.int .u64 a0_16).wf = true) (w0_17 : (Lit.int .u64 a0_17).wf = true) (w0_18 : (Lit.int .u64 a0_18).wf = true) (w0_19 : (Lit.int .u64 a0_19).wf = true) (w0_20 : (Lit.int .u64 a0_20).wf = true) (w0_21 : (Lit.int .u64 a0_21).wf = true) (w0_22 : (Lit.int .u64 a0_22).wf = true) (w1_0 : (Lit.int .u32 a1_0).wf = true) (w1_1 : (Lit.int .u32 a1_1).wf = true) (w1_2 : (Lit.int .u32 a1_2).wf = true) (w1_3 : (Lit.int .u32 a1_3).wf = true) (w1_4 : (Lit.int .u32 a1_4).wf = true) (w1_5 : (Lit.int .u32 a1_5).wf = true) (w1_6 : (Lit.int .u32 a1_6).wf = true) (w1_7 : (Lit.int .u32 a1_7).wf = true) (w2 : (Lit.int .u8 a2).wf = true) (w3 : (Lit.int .u8 a3).wf = true) (w4 : (Lit.int .u8 a4).wf = true) (w5 : (Lit.int .u32 a5).wf = true) :
    ev Try.prog (ΓSn.add 42 (pureSpec stateS)) 397 (Env.hooks (ΓSn.add 42 (pureSpec stateS)) 9) (postC 3 (Try.f9.body.getD .skip)) (T9 a0_0 a0_1 a0_2 a0_3 a0_4 a0_5 a0_6 a0_7 a0_8 a0_9 a0_10 a0_11 a0_12 a0_13 a0_14 a0_15 a0_16 a0_17 a0_18 a0_19 a0_20 a0_21 a0_22 a1_0 a1_1 a1_2 a1_3 a1_4 a1_5 a1_6 a1_7 a2 a3 a4 a5) (M9 a0_0 a0_1 a0_2 a0_3 a0_4 a0_5 a0_6 a0_7 a0_8 a0_9 a0_10 a0_11 a0_12 a0_13 a0_14 a0_15 a0_16 a0_17 a0_18 a0_19 a0_20 a0_21 a0_22 a1_0 a1_1 a1_2 a1_3 a1_4 a1_5 a1_6 a1_7 a2 a3 a4 a5) (kBody Try.prog Try.f9 isT (fun _ _ => none)) = some true := by
  obtain ⟨x1, ex1⟩ : ∃ x : Int, x = (bitsL BinOp.or IntKind.u8 a3 194) := ⟨_, rfl⟩
  obtain ⟨x2, ex2⟩ : ∃ x : Bool, x = (in32 a0_0 && (in32 a0_1 && (in32 a0_2 && (in32 a0_3 && (in32 a0_4 && (in32 a0_5 && (in32 a0_6 && (in32 a0_7 && true)))))))) := ⟨_, rfl⟩
  obtain ⟨x3, ex3⟩ : ∃ x : Nat, x = (8 + 5) := ⟨_, rfl⟩
  obtain ⟨x4, ex4⟩ : ∃ x : Nat, x = (8 + 1) := ⟨_, rfl⟩
  obtain ⟨x5, ex5⟩ : ∃ x : Int → Int, x = (wrM (fun x => 0) 36864 (rowF (fun x => 0) (fillB a5) 256) 256) := ⟨_, rfl⟩
  obtain ⟨x6, ex6⟩ : ∃ x : Int, x = (-1) := ⟨_, rfl⟩
  obtain ⟨x7, ex7⟩ : ∃ x : Option (Sv × List SObj), x = (strsP47rwT 16384 4096 false false true 36864 256 true true false 103 x5 a0_0 a0_1 a0_2 a0_3 a0_4 a0_5 a0_6 a0_7 a0_8 a0_9 a0_10 a0_11 a0_12 a0_13 a0_14 a0_15 a0_16 a0_17 a0_18 a0_19 a0_20 a0_21 a0_22 0 0 0 x6 x6 1 0 0 0 x6 x6 1 0 0 2) := ⟨_, rfl⟩
  obtain ⟨x8, ex8⟩ : ∃ x : Option (Sv × List SObj), x = (strsP47rwT 16384 4096 false false true 36864 256 true true false 82 x5 a0_0 a0_1 a0_2 a0_3 a0_4 a0_5 a0_6 a0_7 a0_8 a0_9 a0_10 a0_11 a0_12 a0_13 a0_14 a0_15 a0_16 a0_17 a0_18 a0_19 a0_20 a0_21 a0_22 0 0 0 x6 x6 1 0 0 0 x6 x6 1 0 0 2) := ⟨_, rfl⟩
  obtain ⟨x9, ex9⟩ : ∃ x : Int, x = (stRV (stBit a3 1) a1_0) := ⟨_, rfl⟩
  obtain ⟨x10, ex10⟩ : ∃ x : Int, x = (stRV (stBit a3 2) a1_1) := ⟨_, rfl⟩
  obtain ⟨x11, ex11⟩ : ∃ x : Int, x = (stRV (stBit a3 4) a1_2) := ⟨_, rfl⟩
  obtain ⟨x12, ex12⟩ : ∃ x : Int, x = (stRV (stBit a3 8) a1_3) := ⟨_, rfl⟩
  obtain ⟨x13, ex13⟩ : ∃ x : Int, x = (stRV (stBit a3 16) a1_4) := ⟨_, rfl⟩
  obtain ⟨x14, ex14⟩ : ∃ x : Int, x = (stRV (stBit a3 32) a1_5) := ⟨_, rfl⟩
  obtain ⟨x15, ex15⟩ : ∃ x : Int, x = (stRV (stBit a3 64) a1_6) := ⟨_, rfl⟩
  obtain ⟨x16, ex16⟩ : ∃ x : Int, x = (stRV (stBit a3 128) a1_7) := ⟨_, rfl⟩
  obtain ⟨x17, ex17⟩ : ∃ x : Bool, x = (in32 x9 && (in32 x10 && (in32 x11 && (in32 x12 && (in32 x13 && (in32 x14 && (in32 x15 && (in32 x16 && true)))))))) := ⟨_, rfl⟩
  obtain ⟨x18, ex18⟩ : ∃ x : Nat, x = (24 + 5) := ⟨_, rfl⟩
  obtain ⟨x19, ex19⟩ : ∃ x : Nat, x = (24 + 1) := ⟨_, rfl⟩
  obtain ⟨x20, ex20⟩ : ∃ x : Bool, x = (flagW a2 1) := ⟨_, rfl⟩
  obtain ⟨x21, ex21⟩ : ∃ x : Bool, x = (flagW a2 4) := ⟨_, rfl⟩
  obtain ⟨x22, ex22⟩ : ∃ x : Bool, x = (flagW a2 64) := ⟨_, rfl⟩
  obtain ⟨x23, ex23⟩ : ∃ x : Bool, x = (flagW a2 128) := ⟨_, rfl⟩
  obtain ⟨x24, ex24⟩ : ∃ x : Bool, x = (flagW a2 2048) := ⟨_, rfl⟩
  obtain ⟨x25, ex25⟩ : ∃ x : Bool, x = (flagW a2 1024) := ⟨_, rfl⟩
  obtain ⟨x26, ex26⟩ : ∃ x : Option (Sv × List SObj), x = (strsP47rwT 16384 4096 false false true 36864 256 true true false 103 x5 x9 x10 x11 x12 x13 x14 x15 x16 0 x20 x21 x22 x23 x24 x25 0 0 0 0 0 0 0 0 0 0 0 x6 x6 1 0 0 0 x6 x6 1 0 0 2) := ⟨_, rfl⟩
  obtain ⟨x27, ex27⟩ : ∃ x : Option (Sv × List SObj), x = (strsP47rwT 16384 4096 false false true 36864 256 true true false 82 x5 x9 x10 x11 x12 x13 x14 x15 x16 0 x20 x21 x22 x23 x24 x25 0 0 0 0 0 0 0 0 0 0 0 x6 x6 1 0 0 0 x6 x6 1 0 0 2) := ⟨_, rfl⟩
  obtain ⟨x28, ex28⟩ : ∃ x : Int, x = (stRV (stBit x1 1) a1_0) := ⟨_, rfl⟩
  obtain ⟨x29, ex29⟩ : ∃ x : Int, x = (stRV (stBit x1 2) a1_1) := ⟨_, rfl⟩
  obtain ⟨x30, ex30⟩ : ∃ x : Int, x = (stRV (stBit x1 4) a1_2) := ⟨_, rfl⟩
  obtain ⟨x31, ex31⟩ : ∃ x : Int, x = (stRV (stBit x1 8) a1_3) := ⟨_, rfl⟩
  obtain ⟨x32, ex32⟩ : ∃ x : Int, x = (stRV (stBit x1 16) a1_4) := ⟨_, rfl⟩
  obtain ⟨x33, ex33⟩ : ∃ x : Int, x = (stRV (stBit x1 32) a1_5) := ⟨_, rfl⟩
  obtain ⟨x34, ex34⟩ : ∃ x : Int, x = (stRV (stBit x1 64) a1_6) := ⟨_, rfl⟩
  obtain ⟨x35, ex35⟩ : ∃ x : Int, x = (stRV (stBit x1 128) a1_7) := ⟨_, rfl⟩
  obtain ⟨x36, ex36⟩ : ∃ x : Bool, x = (in32 x28 && (in32 x29 && (in32 x30 && (in32 x31 && (in32 x32 && (in32 x33 && (in32 x34 && (in32 x35 && true)))))))) := ⟨_, rfl⟩
  obtain ⟨x37, ex37⟩ : ∃ x : Nat, x = (40 + 5) := ⟨_, rfl⟩
  obtain ⟨x38, ex38⟩ : ∃ x : Nat, x = (40 + 1) := ⟨_, rfl⟩
  obtain ⟨x39, ex39⟩ : ∃ x : Option (Sv × List SObj), x = (strsP47rwT 16384 4096 false false true 36864 256 true true false 103 x5 x28 x29 x30 x31 x32 x33 x34 x35 0 x20 x21 x22 x23 x24 x25 0 0 0 0 0 0 0 0 0 0 0 x6 x6 1 0 0 0 x6 x6 1 0 0 2) := ⟨_, rfl⟩
  obtain ⟨x40, ex40⟩ : ∃ x : Option (Sv × List SObj), x = (strsP47rwT 16384 4096 false false true 36864 256 true true false 82 x5 x28 x29 x30 x31 x32 x33 x34 x35 0 x20 x21 x22 x23 x24 x25 0 0 0 0 0 0 0 0 0 0 0 x6 x6 1 0 0 0 x6 x6 1 0 0 2) := ⟨_, rfl⟩
  have hF : ev Try.prog (ΓSn.add 42 (pureSpec stateS)) 397 (Env.hooks (ΓSn.add 42 (pureSpec stateS)) 9) (postC 3 (Try.f9.body.getD .skip)) (T9 a0_0 a0_1 a0_2 a0_3 a0_4 a0_5 a0_6 a0_7 a0_8 a0_9 a0_10 a0_11 a0_12 a0_13 a0_14 a0_15 a0_16 a0_17 a0_18 a0_19 a0_20 a0_21 a0_22 a1_0 a1_1 a1_2 a1_3 a1_4 a1_5 a1_6 a1_7 a2 a3 a4 a5) (M9 a0_0 a0_1 a0_2 a0_3 a0_4 a0_5 a0_6 a0_7 a0_8 a0_9 a0_10 a0_11 a0_12 a0_13 a0_14 a0_15 a0_16 a0_17 a0_18 a0_19 a0_20 a0_21 a0_22 a1_0 a1_1 a1_2 a1_3 a1_4 a1_5 a1_6 a1_7 a2 a3 a4 a5) (kBody Try.prog Try.f9 isT (fun _ _ => none)) =
    (bif in32 a1_0 && (in32 a1_1 && (in32 a1_2 && (in32 a1_3 && (in32 a1_4 && (in32 a1_5 && (in32 a1_6 && (in32 a1_7 && (true && (true && (true && (true && (true && (true && (true && (true && (in8 a2 && in8 a3)))))))))))))))) then bif in32 a1_0 && (in32 a1_1 && (in32 a1_2 && (in32 a1_3 && (in32 a1_4 && (in32 a1_5 && (in32 a1_6 && (in32 a1_7 && (true && (true && (true && (true && (true && (true && (true && (true && (in8 a2 && in8 x1)))))))))))))))) then bif x2 && !8 + 12 == 8 + 6 then bif x2 && (!x3 == x4 && (!x3 == 8 && !x4 == 8)) then bif !(ansI x7 0 == ansI x8 0 && (ansI x7 1 == ansI x8 1 && (ansI x7 2 == ansI x8 2 && (ansI x7 3 == ansI x8 3 && (ansI x7 4 == ansI x8 4 && (ansI x7 5 == ansI x8 5 && (ansI x7 6 == ansI x8 6 && (ansI x7 7 == ansI x8 7 && true))))))) && (ansI x7 8 == ansI x8 8 && (ansB x7 9 == ansB x8 9 && (ansB x7 10 == ansB x8 10 && (ansB x7 11 == ansB x8 11 && (ansB x7 12 == ansB x8 12 && (ansB x7 13 == ansB x8 13 && (ansB x7 14 == ansB x8 14 && true))))) && (ansI x7 15 == ansI x8 15 && (ansI x7 16 == ansI x8 16 && (ansI x7 17 == ansI x8 17 && (ansI x7 18 == ansI x8 18 && (ansI x7 19 == ansI x8 19 && (ansI x7 20 == ansI x8 20 && (ansI x7 21 == ansI x8 21 && (ansI x7 22 == ansI x8 22 && true))))))) && true)))) then some false else bif ansI x7 23 != ansI x8 23 then some false else bif !ansB x7 24 == ansB x8 24 then some false else bif !alikeV (ansM x7 1) (ansM x8 1) then some false else bif x17 && !24 + 12 == 24 + 6 then bif x17 && (!x18 == x19 && (!x18 == 24 && !x19 == 24)) then bif !(ansI x26 0 == ansI x27 0 && (ansI x26 1 == ansI x27 1 && (ansI x26 2 == ansI x27 2 && (ansI x26 3 == ansI x27 3 && (ansI x26 4 == ansI x27 4 && (ansI x26 5 == ansI x27 5 && (ansI x26 6 == ansI x27 6 && (ansI x26 7 == ansI x27 7 && true))))))) && (ansI x26 8 == ansI x27 8 && (ansB x26 9 == ansB x27 9 && (ansB x26 10 == ansB x27 10 && (ansB x26 11 == ansB x27 11 && (ansB x26 12 == ansB x27 12 && (ansB x26 13 == ansB x27 13 && (ansB x26 14 == ansB x27 14 && true))))) && (ansI x26 15 == ansI x27 15 && (ansI x26 16 == ansI x27 16 && (ansI x26 17 == ansI x27 17 && (ansI x26 18 == ansI x27 18 && (ansI x26 19 == ansI x27 19 && (ansI x26 20 == ansI x27 20 && (ansI x26 21 == ansI x27 21 && (ansI x26 22 == ansI x27 22 && true))))))) && true)))) then some false else bif ansI x26 23 != ansI x27 23 then some false else bif !ansB x26 24 == ansB x27 24 then some false else bif !alikeV (ansM x26 1) (ansM x27 1) then some false else bif x36 && !40 + 12 == 40 + 6 then bif x36 && (!x37 == x38 && (!x37 == 40 && !x38 == 40)) then bif !(ansI x39 0 == ansI x40 0 && (ansI x39 1 == ansI x40 1 && (ansI x39 2 == ansI x40 2 && (ansI x39 3 == ansI x40 3 && (ansI x39 4 == ansI x40 4 && (ansI x39 5 == ansI x40 5 && (ansI x39 6 == ansI x40 6 && (ansI x39 7 == ansI x40 7 && true))))))) && (ansI x39 8 == ansI x40 8 && (ansB x39 9 == ansB x40 9 && (ansB x39 10 == ansB x40 10 && (ansB x39 11 == ansB x40 11 && (ansB x39 12 == ansB x40 12 && (ansB x39 13 == ansB x40 13 && (ansB x39 14 == ansB x40 14 && true))))) && (ansI x39 15 == ansI x40 15 && (ansI x39 16 == ansI x40 16 && (ansI x39 17 == ansI x40 17 && (ansI x39 18 == ansI x40 18 && (ansI x39 19 == ansI x40 19 && (ansI x39 20 == ansI x40 20 && (ansI x39 21 == ansI x40 21 && (ansI x39 22 == ansI x40 22 && true))))))) && true)))) then some false else bif ansI x39 23 != ansI x40 23 then some false else bif !ansB x39 24 == ansB x40 24 then some false else bif !alikeV (ansM x39 1) (ansM x40 1) then some false else some true else none else none else none else none else none else none else none else none) := by
    subst ex1
    subst ex2
    subst ex3
    subst ex4
    subst ex5
    subst ex6
    subst ex7
    subst ex8
    subst ex9
    subst ex10
    subst ex11
    subst ex12
    subst ex13
    subst ex14
    subst ex15
    subst ex16
    subst ex17
    subst ex18
    subst ex19
    subst ex20
    subst ex21
    subst ex22
    subst ex23
    subst ex24
    subst ex25
    subst ex26
    subst ex27
    subst ex28
    subst ex29
    subst ex30
    subst ex31
    subst ex32
    subst ex33
    subst ex34
    subst ex35
    subst ex36
    subst ex37
    subst ex38
    subst ex39
    subst ex40
    kernel_rfl
  rw [hF]
  have i0_0 : in32 a0_0 = true := in32_iff.2 (wf_u32 w0_0)
  have i0_1 : in32 a0_1 = true := in32_iff.2 (wf_u32 w0_1)
  have i0_2 : in32 a0_2 = true := in32_iff.2 (wf_u32 w0_2)
  have i0_3 : in32 a0_3 = true := in32_iff.2 (wf_u32 w0_3)
  have i0_4 : in32 a0_4 = true := in32_iff.2 (wf_u32 w0_4)
  have i0_5 : in32 a0_5 = true := in32_iff.2 (wf_u32 w0_5)
  have i0_6 : in32 a0_6 = true := in32_iff.2 (wf_u32 w0_6)
  have i0_7 : in32 a0_7 = true := in32_iff.2 (wf_u32 w0_7)
  have i1_0 : in32 a1_0 = true := in32_iff.2 (wf_u32 w1_0)
  have i1_1 : in32 a1_1 = true := in32_iff.2 (wf_u32 w1_1)
  have i1_2 : in32 a1_2 = true := in32_iff.2 (wf_u32 w1_2)
  have i1_3 : in32 a1_3 = true := in32_iff.2 (wf_u32 w1_3)
  have i1_4 : in32 a1_4 = true := in32_iff.2 (wf_u32 w1_4)
  have i1_5 : in32 a1_5 = true := in32_iff.2 (wf_u32 w1_5)
  have i1_6 : in32 a1_6 = true := in32_iff.2 (wf_u32 w1_6)
  have i1_7 : in32 a1_7 = true := in32_iff.2 (wf_u32 w1_7)
  have i2 : in8 a2 = true := in8_iff.2 (wf_u8 w2)
  have i3 : in8 a3 = true := in8_iff.2 (wf_u8 w3)
  have tx1 : in8 x1 = true := by rw [ex1, bitsL_eq]; exact in8_or i3 rfl
  have tx2 : x2 = true := by rw [ex2]; simp [i0_0, i0_1, i0_2, i0_3, i0_4, i0_5, i0_6, i0_7, i1_0, i1_1, i1_2, i1_3, i1_4, i1_5, i1_6, i1_7, i2, i3, tx1]
  have tx8 : sansT x8 = sansT x7 := by rw [ex8, ex7]; exact strsP47rw_T 16384 4096 false false true 36864 256 true true false _ _ x5 a0_0 a0_1 a0_2 a0_3 a0_4 a0_5 a0_6 a0_7 a0_8 a0_9 a0_10 a0_11 a0_12 a0_13 a0_14 a0_15 a0_16 a0_17 a0_18 a0_19 a0_20 a0_21 a0_22 0 0 0 x6 x6 1 0 0 0 x6 x6 1 0 0 2
  have tx9 : in32 x9 = true := by rw [ex9]; exact stRV_in _ i1_0
  have tx10 : in32 x10 = true := by rw [ex10]; exact stRV_in _ i1_1
  have tx11 : in32 x11 = true := by rw [ex11]; exact stRV_in _ i1_2
  have tx12 : in32 x12 = true := by rw [ex12]; exact stRV_in _ i1_3
  have tx13 : in32 x13 = true := by rw [ex13]; exact stRV_in _ i1_4
  have tx14 : in32 x14 = true := by rw [ex14]; exact stRV_in _ i1_5
  have tx15 : in32 x15 = true := by rw [ex15]; exact stRV_in _ i1_6
  have tx16 : in32 x16 = true := by rw [ex16]; exact stRV_in _ i1_7
  have tx17 : x17 = true := by rw [ex17]; simp [i0_0, i0_1, i0_2, i0_3, i0_4, i0_5, i0_6, i0_7, i1_0, i1_1, i1_2, i1_3, i1_4, i1_5, i1_6, i1_7, i2, i3, tx1, tx2, tx9, tx10, tx11, tx12, tx13, tx14, tx15, tx16]
  have tx27 : sansT x27 = sansT x26 := by rw [ex27, ex26]; exact strsP47rw_T 16384 4096 false false true 36864 256 true true false _ _ x5 x9 x10 x11 x12 x13 x14 x15 x16 0 x20 x21 x22 x23 x24 x25 0 0 0 0 0 0 0 0 0 0 0 x6 x6 1 0 0 0 x6 x6 1 0 0 2
  have tx28 : in32 x28 = true := by rw [ex28]; exact stRV_in _ i1_0
  have tx29 : in32 x29 = true := by rw [ex29]; exact stRV_in _ i1_1
  have tx30 : in32 x30 = true := by rw [ex30]; exact stRV_in _ i1_2
  have tx31 : in32 x31 = true := by rw [ex31]; exact stRV_in _ i1_3
  have tx32 : in32 x32 = true := by rw [ex32]; exact stRV_in _ i1_4
  have tx33 : in32 x33 = true := by rw [ex33]; exact stRV_in _ i1_5
  have tx34 : in32 x34 = true := by rw [ex34]; exact stRV_in _ i1_6
  have tx35 : in32 x35 = true := by rw [ex35]; exact stRV_in _ i1_7
  have tx36 : x36 = true := by rw [ex36]; simp [i0_0, i0_1, i0_2, i0_3, i0_4, i0_5, i0_6, i0_7, i1_0, i1_1, i1_2, i1_3, i1_4, i1_5, i1_6, i1_7, i2, i3, tx1, tx2, tx9, tx10, tx11, tx12, tx13, tx14, tx15, tx16, tx17, tx28, tx29, tx30, tx31, tx32, tx33, tx34, tx35]
  have tx40 : sansT x40 = sansT x39 := by rw [ex40, ex39]; exact strsP47rw_T 16384 4096 false false true 36864 256 true true false _ _ x5 x28 x29 x30 x31 x32 x33 x34 x35 0 x20 x21 x22 x23 x24 x25 0 0 0 0 0 0 0 0 0 0 0 x6 x6 1 0 0 0 x6 x6 1 0 0 2
  simp only [i0_0, i0_1, i0_2, i0_3, i0_4, i0_5, i0_6, i0_7, i1_0, i1_1, i1_2, i1_3, i1_4, i1_5, i1_6, i1_7, i2, i3, tx1, tx2, tx9, tx10, tx11, tx12, tx13, tx14, tx15, tx16, tx17, tx28, tx29, tx30, tx31, tx32, tx33, tx34, tx35, tx36, ex3, ex4, ex18, ex19, ex37, ex38, Nat.reduceAdd, Nat.reduceBEq, Bool.and_self, Bool.not_false, cond_true]
  simp only [ansI_sans tx8, ansB_sans tx8, ansM_sans tx8, ansI_sans tx27, ansB_sans tx27, ansM_sans tx27, ansI_sans tx40, ansB_sans tx40, ansM_sans tx40, beq_self_eq_true, bne_self_eq_false, alikeV_self, Bool.and_self, Bool.not_true, cond_false]
end Go.Proofs.Ytjcbgjakomalaaa.strsTell
