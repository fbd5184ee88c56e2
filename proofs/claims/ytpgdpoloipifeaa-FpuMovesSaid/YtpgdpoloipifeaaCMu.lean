/- Doubles moved, in closed form. -/
import Derived.Test.YtpgdpoloipifeaaEvV
import Derived.Test.YtpgdpoloipifeaaCKn19
import Derived.Test.YtpgdpoloipifeaaNHold
namespace Go.Proofs.Ytpgdpoloipifeaa
open Go Go.Ev
set_option linter.unusedVariables false
set_option linter.unusedSimpArgs false
set_option maxRecDepth 100000
set_option maxHeartbeats 4000000 in
theorem mvS_ev (cb cs : Int) (cr cw cx : Bool) (db ds : Int) (dr dw dx : Bool) (T : TypeId) (M : Int → Int) (r0 r1 r2 r3 r4 r5 r6 r7 ip : Int) (fc fp fz fs fo fd : Bool) (x0 x1 x2 x3 x4 x5 x6 x7 : Int) (op cond size : Int) (ak ar ab ai aq ad bk br bb bi bq bd c : Int) (rep : Bool) (len : Int) (hg : (in32 r0 && (in32 r1 && (in32 r2 && (in32 r3 && (in32 r4 && (in32 r5 && (in32 r6 && (in32 r7 && (in32 db && (in32 ds && (in32 ad && (in32 bd && (in64 x0 && (in64 x1 && (in64 x2 && (in64 x3 && (in64 x4 && (in64 x5 && (in64 x6 && (in64 x7 && (fpG op size ak && ((op == 51) && ((size == 8) && ((ak == 3) && ((bk == 5)))))))))))))))))))))))))) = true) : evF Try.prog ΓFe 400 26 [.ptr 0 0, .agg [.v (.int .u32 r0), .v (.int .u32 r1), .v (.int .u32 r2), .v (.int .u32 r3), .v (.int .u32 r4), .v (.int .u32 r5), .v (.int .u32 r6), .v (.int .u32 r7), .v (.int .u32 ip), .v (.bool fc), .v (.bool fp), .v (.bool fz), .v (.bool fs), .v (.bool fo), .v (.bool fd), .v (.int .u64 x0), .v (.int .u64 x1), .v (.int .u64 x2), .v (.int .u64 x3), .v (.int .u64 x4), .v (.int .u64 x5), .v (.int .u64 x6), .v (.int .u64 x7)], .agg [.v (.int .i64 op), .v (.int .i64 cond), .v (.int .i64 size), .v (.int .i64 ak), .v (.int .i64 ar), .v (.int .i64 ab), .v (.int .i64 ai), .v (.int .i64 aq), .v (.int .u32 ad), .v (.int .i64 bk), .v (.int .i64 br), .v (.int .i64 bb), .v (.int .i64 bi), .v (.int .i64 bq), .v (.int .u32 bd), .v (.int .u32 c), .v (.bool rep), .v (.int .i64 len)]] [.cells [.ptr 1 0, .v (.int .u32 cb), .v (.int .u32 cs), .v (.bool cr), .v (.bool cw), .v (.bool cx), .v (.int .u32 db), .v (.int .u32 ds), .v (.bool dr), .v (.bool dw), .v (.bool dx)] T, .ext 0 M] (kTk 2) kNo = some (.tup [.agg [.v (.int .u32 r0), .v (.int .u32 r1), .v (.int .u32 r2), .v (.int .u32 r3), .v (.int .u32 r4), .v (.int .u32 r5), .v (.int .u32 r6), .v (.int .u32 r7), .v (.int .u32 ip), .v (.bool fc), .v (.bool fp), .v (.bool fz), .v (.bool fs), .v (.bool fo), .v (.bool fd), .v (.int .u64 x0), .v (.int .u64 x1), .v (.int .u64 x2), .v (.int .u64 x3), .v (.int .u64 x4), .v (.int .u64 x5), .v (.int .u64 x6), .v (.int .u64 x7)], .v (.int .i64 (endF (segE db ds (ofV ab ai aq ad [r0, r1, r2, r3, r4, r5, r6, r7]) 8 (mayV dr dw dx 1) == 0)))], [.cells [.ptr 1 0, .v (.int .u32 cb), .v (.int .u32 cs), .v (.bool cr), .v (.bool cw), .v (.bool cx), .v (.int .u32 db), .v (.int .u32 ds), .v (.bool dr), .v (.bool dw), .v (.bool dx)] T, .ext 0 (stV M db ds (ofV ab ai aq ad [r0, r1, r2, r3, r4, r5, r6, r7]) 8 (getV bk br bd r0 r1 r2 r3 r4 r5 r6 r7 x0 x1 x2 x3 x4 x5 x6 x7) (mayV dr dw dx 1))]) := by
  refine (fpP_ev cb cs cr cw cx db ds dr dw dx T M r0 r1 r2 r3 r4 r5 r6 r7 ip fc fp fz fs fo fd x0 x1 x2 x3 x4 x5 x6 x7 op cond size ak ar ab ai aq ad bk br bb bi bq bd c rep len (by simp only [Bool.and_eq_true] at hg ⊢; simp only [hg, and_self])).trans ?_
  simp only [Bool.and_eq_true] at hg
  have hk := hg.2.2.2.2.2.2.2.2.2.2.2.2.2.2.2.2.2.2.2.2.2
  simp only [beq_iff_eq] at hk
  obtain ⟨rfl, rfl, rfl, rfl⟩ := hk
  have ht := fpP_tree cb cs cr cw cx db ds dr dw dx T M r0 r1 r2 r3 r4 r5 r6 r7 ip fc fp fz fs fo fd x0 x1 x2 x3 x4 x5 x6 x7 51 cond 8 3 ar ab ai aq ad 5 br bb bi bq bd c rep len
  have er5 : ∀ e : Int, erW 5 e = 0 := fun _ => rfl
  have er3 : ∀ e : Int, erW 3 e = e := fun _ => rfl
  have ld5 : ∀ x y : Int, ldW 5 x y = y := fun _ _ => rfl
  have ld3 : ∀ x y : Int, ldW 3 x y = x := fun _ _ => rfl
  have mw3 : ∀ M N : Int → Int, memW 3 M N = M := fun _ _ => rfl
  have mw5 : ∀ M N : Int → Int, memW 5 M N = N := fun _ _ => rfl
  have hd : ∀ x y : Int, doV 51 x y = y := fun _ _ => rfl
  have sA : ∀ r i x v : Int, setA 5 r i x v = x := fun _ _ _ _ => rfl
  have sB : ∀ r i x v : Int, setB 5 r i x v = x := fun _ _ _ _ => rfl
  have sX : ∀ r i x v : Int, setX 5 r i x v = bif r == i then v else x := fun _ _ _ _ => rfl
  have h0 : in64 0 = true := rfl
  have hi : ini64 51 = true := rfl
  simp only [hg, ofV_in, in32_wr, in64_wr, ldW_in64, ldV_in64, getV_in64, doV_in64, fromV_in, toV_in, show ((51 : Int) == 59) = false from rfl, show ((51 : Int) == 60) = false from rfl, show ((51 : Int) == 61) = false from rfl, show ((3 : Int) == 5) = false from rfl, show ((5 : Int) == 5) = true from rfl, er5, er3, ld5, ld3, mw3, mw5, hd, sA, sB, sX, h0, hi, bne, beq_self_eq_true, Bool.not_true, Bool.not_false, Bool.and_self, Bool.and_true, Bool.true_and, cond_true, cond_false] at ht
  cases hE : (segE db ds (ofV ab ai aq ad [r0, r1, r2, r3, r4, r5, r6, r7]) 8 (mayV dr dw dx 1) == 0) <;> rw [hE] at ht <;> simp only [Bool.not_true, Bool.not_false, cond_true, cond_false] at ht <;> rw [ht] <;> first | rfl | (unfold stV; rw [show ((bytesN 8 : Nat) : Int) = 8 from rfl, hE]; rfl)
set_option maxHeartbeats 4000000 in
theorem mvL_ev (cb cs : Int) (cr cw cx : Bool) (db ds : Int) (dr dw dx : Bool) (T : TypeId) (M : Int → Int) (r0 r1 r2 r3 r4 r5 r6 r7 ip : Int) (fc fp fz fs fo fd : Bool) (x0 x1 x2 x3 x4 x5 x6 x7 : Int) (op cond size : Int) (ak ar ab ai aq ad bk br bb bi bq bd c : Int) (rep : Bool) (len : Int) (hg : (in32 r0 && (in32 r1 && (in32 r2 && (in32 r3 && (in32 r4 && (in32 r5 && (in32 r6 && (in32 r7 && (in32 db && (in32 ds && (in32 ad && (in32 bd && (in64 x0 && (in64 x1 && (in64 x2 && (in64 x3 && (in64 x4 && (in64 x5 && (in64 x6 && (in64 x7 && (fpG op size ak && ((op == 51) && ((size == 8) && ((ak == 5) && ((bk == 3)))))))))))))))))))))))))) = true) : evF Try.prog ΓFe 400 26 [.ptr 0 0, .agg [.v (.int .u32 r0), .v (.int .u32 r1), .v (.int .u32 r2), .v (.int .u32 r3), .v (.int .u32 r4), .v (.int .u32 r5), .v (.int .u32 r6), .v (.int .u32 r7), .v (.int .u32 ip), .v (.bool fc), .v (.bool fp), .v (.bool fz), .v (.bool fs), .v (.bool fo), .v (.bool fd), .v (.int .u64 x0), .v (.int .u64 x1), .v (.int .u64 x2), .v (.int .u64 x3), .v (.int .u64 x4), .v (.int .u64 x5), .v (.int .u64 x6), .v (.int .u64 x7)], .agg [.v (.int .i64 op), .v (.int .i64 cond), .v (.int .i64 size), .v (.int .i64 ak), .v (.int .i64 ar), .v (.int .i64 ab), .v (.int .i64 ai), .v (.int .i64 aq), .v (.int .u32 ad), .v (.int .i64 bk), .v (.int .i64 br), .v (.int .i64 bb), .v (.int .i64 bi), .v (.int .i64 bq), .v (.int .u32 bd), .v (.int .u32 c), .v (.bool rep), .v (.int .i64 len)]] [.cells [.ptr 1 0, .v (.int .u32 cb), .v (.int .u32 cs), .v (.bool cr), .v (.bool cw), .v (.bool cx), .v (.int .u32 db), .v (.int .u32 ds), .v (.bool dr), .v (.bool dw), .v (.bool dx)] T, .ext 0 M] (kTk 2) kNo = some (.tup [.agg [.v (.int .u32 r0), .v (.int .u32 r1), .v (.int .u32 r2), .v (.int .u32 r3), .v (.int .u32 r4), .v (.int .u32 r5), .v (.int .u32 r6), .v (.int .u32 r7), .v (.int .u32 ip), .v (.bool fc), .v (.bool fp), .v (.bool fz), .v (.bool fs), .v (.bool fo), .v (.bool fd), .v (.int .u64 (bif (segE db ds (ofV bb bi bq bd [r0, r1, r2, r3, r4, r5, r6, r7]) 8 (mayV dr dw dx 0) == 0) then (bif ar == 0 then (ldV M db ds (ofV bb bi bq bd [r0, r1, r2, r3, r4, r5, r6, r7]) 8 (mayV dr dw dx 0)) else x0) else x0)), .v (.int .u64 (bif (segE db ds (ofV bb bi bq bd [r0, r1, r2, r3, r4, r5, r6, r7]) 8 (mayV dr dw dx 0) == 0) then (bif ar == 1 then (ldV M db ds (ofV bb bi bq bd [r0, r1, r2, r3, r4, r5, r6, r7]) 8 (mayV dr dw dx 0)) else x1) else x1)), .v (.int .u64 (bif (segE db ds (ofV bb bi bq bd [r0, r1, r2, r3, r4, r5, r6, r7]) 8 (mayV dr dw dx 0) == 0) then (bif ar == 2 then (ldV M db ds (ofV bb bi bq bd [r0, r1, r2, r3, r4, r5, r6, r7]) 8 (mayV dr dw dx 0)) else x2) else x2)), .v (.int .u64 (bif (segE db ds (ofV bb bi bq bd [r0, r1, r2, r3, r4, r5, r6, r7]) 8 (mayV dr dw dx 0) == 0) then (bif ar == 3 then (ldV M db ds (ofV bb bi bq bd [r0, r1, r2, r3, r4, r5, r6, r7]) 8 (mayV dr dw dx 0)) else x3) else x3)), .v (.int .u64 (bif (segE db ds (ofV bb bi bq bd [r0, r1, r2, r3, r4, r5, r6, r7]) 8 (mayV dr dw dx 0) == 0) then (bif ar == 4 then (ldV M db ds (ofV bb bi bq bd [r0, r1, r2, r3, r4, r5, r6, r7]) 8 (mayV dr dw dx 0)) else x4) else x4)), .v (.int .u64 (bif (segE db ds (ofV bb bi bq bd [r0, r1, r2, r3, r4, r5, r6, r7]) 8 (mayV dr dw dx 0) == 0) then (bif ar == 5 then (ldV M db ds (ofV bb bi bq bd [r0, r1, r2, r3, r4, r5, r6, r7]) 8 (mayV dr dw dx 0)) else x5) else x5)), .v (.int .u64 (bif (segE db ds (ofV bb bi bq bd [r0, r1, r2, r3, r4, r5, r6, r7]) 8 (mayV dr dw dx 0) == 0) then (bif ar == 6 then (ldV M db ds (ofV bb bi bq bd [r0, r1, r2, r3, r4, r5, r6, r7]) 8 (mayV dr dw dx 0)) else x6) else x6)), .v (.int .u64 (bif (segE db ds (ofV bb bi bq bd [r0, r1, r2, r3, r4, r5, r6, r7]) 8 (mayV dr dw dx 0) == 0) then (bif ar == 7 then (ldV M db ds (ofV bb bi bq bd [r0, r1, r2, r3, r4, r5, r6, r7]) 8 (mayV dr dw dx 0)) else x7) else x7))], .v (.int .i64 (endF (segE db ds (ofV bb bi bq bd [r0, r1, r2, r3, r4, r5, r6, r7]) 8 (mayV dr dw dx 0) == 0)))], [.cells [.ptr 1 0, .v (.int .u32 cb), .v (.int .u32 cs), .v (.bool cr), .v (.bool cw), .v (.bool cx), .v (.int .u32 db), .v (.int .u32 ds), .v (.bool dr), .v (.bool dw), .v (.bool dx)] T, .ext 0 M]) := by
  refine (fpP_ev cb cs cr cw cx db ds dr dw dx T M r0 r1 r2 r3 r4 r5 r6 r7 ip fc fp fz fs fo fd x0 x1 x2 x3 x4 x5 x6 x7 op cond size ak ar ab ai aq ad bk br bb bi bq bd c rep len (by simp only [Bool.and_eq_true] at hg ⊢; simp only [hg, and_self])).trans ?_
  simp only [Bool.and_eq_true] at hg
  have hk := hg.2.2.2.2.2.2.2.2.2.2.2.2.2.2.2.2.2.2.2.2.2
  simp only [beq_iff_eq] at hk
  obtain ⟨rfl, rfl, rfl, rfl⟩ := hk
  have ht := fpP_tree cb cs cr cw cx db ds dr dw dx T M r0 r1 r2 r3 r4 r5 r6 r7 ip fc fp fz fs fo fd x0 x1 x2 x3 x4 x5 x6 x7 51 cond 8 5 ar ab ai aq ad 3 br bb bi bq bd c rep len
  have er5 : ∀ e : Int, erW 5 e = 0 := fun _ => rfl
  have er3 : ∀ e : Int, erW 3 e = e := fun _ => rfl
  have ld5 : ∀ x y : Int, ldW 5 x y = y := fun _ _ => rfl
  have ld3 : ∀ x y : Int, ldW 3 x y = x := fun _ _ => rfl
  have mw3 : ∀ M N : Int → Int, memW 3 M N = M := fun _ _ => rfl
  have mw5 : ∀ M N : Int → Int, memW 5 M N = N := fun _ _ => rfl
  have hd : ∀ x y : Int, doV 51 x y = y := fun _ _ => rfl
  have sA : ∀ r i x v : Int, setA 5 r i x v = x := fun _ _ _ _ => rfl
  have sB : ∀ r i x v : Int, setB 5 r i x v = x := fun _ _ _ _ => rfl
  have sX : ∀ r i x v : Int, setX 5 r i x v = bif r == i then v else x := fun _ _ _ _ => rfl
  have h0 : in64 0 = true := rfl
  have hi : ini64 51 = true := rfl
  simp only [hg, ofV_in, in32_wr, in64_wr, ldW_in64, ldV_in64, getV_in64, doV_in64, fromV_in, toV_in, show ((51 : Int) == 59) = false from rfl, show ((51 : Int) == 60) = false from rfl, show ((51 : Int) == 61) = false from rfl, show ((3 : Int) == 5) = false from rfl, show ((5 : Int) == 5) = true from rfl, er5, er3, ld5, ld3, mw3, mw5, hd, sA, sB, sX, h0, hi, bne, beq_self_eq_true, Bool.not_true, Bool.not_false, Bool.and_self, Bool.and_true, Bool.true_and, cond_true, cond_false] at ht
  cases hE : (segE db ds (ofV bb bi bq bd [r0, r1, r2, r3, r4, r5, r6, r7]) 8 (mayV dr dw dx 0) == 0) <;> rw [hE] at ht <;> simp only [Bool.not_true, Bool.not_false, cond_true, cond_false] at ht <;> rw [ht] <;> rfl
noncomputable def mvSB (R : Type) (m : List SObj) (k : Sv → List SObj → Option R) (b : Nat) (g : Nat) (cb : Int) (cs : Int) (cr : Bool) (cw : Bool) (cx : Bool) (db : Int) (ds : Int) (dr : Bool) (dw : Bool) (dx : Bool) (T : TypeId) (M : Int → Int) (r0 : Int) (r1 : Int) (r2 : Int) (r3 : Int) (r4 : Int) (r5 : Int) (r6 : Int) (r7 : Int) (ip : Int) (fc : Bool) (fp : Bool) (fz : Bool) (fs : Bool) (fo : Bool) (fd : Bool) (x0 : Int) (x1 : Int) (x2 : Int) (x3 : Int) (x4 : Int) (x5 : Int) (x6 : Int) (x7 : Int) (op : Int) (cond : Int) (size : Int) (ak : Int) (ar : Int) (ab : Int) (ai : Int) (aq : Int) (ad : Int) (bk : Int) (br : Int) (bb : Int) (bi : Int) (bq : Int) (bd : Int) (c : Int) (rep : Bool) (len : Int) : Option R :=
  bif (in32 r0 && (in32 r1 && (in32 r2 && (in32 r3 && (in32 r4 && (in32 r5 && (in32 r6 && (in32 r7 && (in32 db && (in32 ds && (in32 ad && (in32 bd && (in64 x0 && (in64 x1 && (in64 x2 && (in64 x3 && (in64 x4 && (in64 x5 && (in64 x6 && (in64 x7 && (fpG op size ak && ((op == 51) && ((size == 8) && ((ak == 3) && ((bk == 5)))))))))))))))))))))))))) && !(b == g) then k (.tup [.agg [.v (.int .u32 r0), .v (.int .u32 r1), .v (.int .u32 r2), .v (.int .u32 r3), .v (.int .u32 r4), .v (.int .u32 r5), .v (.int .u32 r6), .v (.int .u32 r7), .v (.int .u32 ip), .v (.bool fc), .v (.bool fp), .v (.bool fz), .v (.bool fs), .v (.bool fo), .v (.bool fd), .v (.int .u64 x0), .v (.int .u64 x1), .v (.int .u64 x2), .v (.int .u64 x3), .v (.int .u64 x4), .v (.int .u64 x5), .v (.int .u64 x6), .v (.int .u64 x7)], .v (.int .i64 (endF (segE db ds (ofV ab ai aq ad [r0, r1, r2, r3, r4, r5, r6, r7]) 8 (mayV dr dw dx 1) == 0)))]) (((m.set b (.cells [.ptr g 0, .v (.int .u32 cb), .v (.int .u32 cs), .v (.bool cr), .v (.bool cw), .v (.bool cx), .v (.int .u32 db), .v (.int .u32 ds), .v (.bool dr), .v (.bool dw), .v (.bool dx)] T)).set g (.ext 0 (stV M db ds (ofV ab ai aq ad [r0, r1, r2, r3, r4, r5, r6, r7]) 8 (getV bk br bd r0 r1 r2 r3 r4 r5 r6 r7 x0 x1 x2 x3 x4 x5 x6 x7) (mayV dr dw dx 1)))) ++ []) else none
noncomputable def mvSS : Ev.Spec := fun R args m k kp => match args with
  | [.ptr b 0, .agg A0, .agg A1] => (match A0 with
    | [.v (.int .u32 r0), .v (.int .u32 r1), .v (.int .u32 r2), .v (.int .u32 r3), .v (.int .u32 r4), .v (.int .u32 r5), .v (.int .u32 r6), .v (.int .u32 r7), .v (.int .u32 ip), .v (.bool fc), .v (.bool fp), .v (.bool fz), .v (.bool fs), .v (.bool fo), .v (.bool fd), .v (.int .u64 x0), .v (.int .u64 x1), .v (.int .u64 x2), .v (.int .u64 x3), .v (.int .u64 x4), .v (.int .u64 x5), .v (.int .u64 x6), .v (.int .u64 x7)] => (match A1 with
    | [.v (.int .i64 op), .v (.int .i64 cond), .v (.int .i64 size), .v (.int .i64 ak), .v (.int .i64 ar), .v (.int .i64 ab), .v (.int .i64 ai), .v (.int .i64 aq), .v (.int .u32 ad), .v (.int .i64 bk), .v (.int .i64 br), .v (.int .i64 bb), .v (.int .i64 bi), .v (.int .i64 bq), .v (.int .u32 bd), .v (.int .u32 c), .v (.bool rep), .v (.int .i64 len)] => (match m[b]? with
    | some (.cells [.ptr g 0, .v (.int .u32 cb), .v (.int .u32 cs), .v (.bool cr), .v (.bool cw), .v (.bool cx), .v (.int .u32 db), .v (.int .u32 ds), .v (.bool dr), .v (.bool dw), .v (.bool dx)] T) => (match m[g]? with
      | some (.ext 0 M) => mvSB R m k b g cb cs cr cw cx db ds dr dw dx T M r0 r1 r2 r3 r4 r5 r6 r7 ip fc fp fz fs fo fd x0 x1 x2 x3 x4 x5 x6 x7 op cond size ak ar ab ai aq ad bk br bb bi bq bd c rep len
      | _ => none)
    | _ => none)
    | _ => none)
    | _ => none)
  | _ => none
set_option maxHeartbeats 4000000 in
theorem mvSS_ok : SpecOk Try.prog XM 26 mvSS := by
  intro R args m k kp r h
  unfold mvSS at h
  split at h
  · split at h
    · split at h
      · split at h
        · split at h
          · rename_i _ b _ r0 r1 r2 r3 r4 r5 r6 r7 ip fc fp fz fs fo fd x0 x1 x2 x3 x4 x5 x6 x7 _ op cond size ak ar ab ai aq ad bk br bb bi bq bd c rep len _ g cb cs cr cw cx db ds dr dw dx T hb _ M hg
            unfold mvSB at h
            obtain ⟨hc, h⟩ := cond_some h
            rw [Bool.and_eq_true] at hc
            have hbg : ¬ b = g := by simpa using hc.2
            exact .inl ⟨_, _, h, (callR_evT ΓFe_ok (by kernel_rfl) (mvS_ev cb cs cr cw cx db ds dr dw dx T M r0 r1 r2 r3 r4 r5 r6 r7 ip fc fp fz fs fo fd x0 x1 x2 x3 x4 x5 x6 x7 op cond size ak ar ab ai aq ad bk br bb bi bq bd c rep len hc.1) rfl rfl rfl rfl).frameL [b, g] (by simpa using hbg) ⟨hb, hg, trivial⟩ rfl rfl rfl rfl rfl rfl rfl⟩
          · cases h
        · cases h
      · cases h
    · cases h
  · cases h
noncomputable def mvLB (R : Type) (m : List SObj) (k : Sv → List SObj → Option R) (b : Nat) (g : Nat) (cb : Int) (cs : Int) (cr : Bool) (cw : Bool) (cx : Bool) (db : Int) (ds : Int) (dr : Bool) (dw : Bool) (dx : Bool) (T : TypeId) (M : Int → Int) (r0 : Int) (r1 : Int) (r2 : Int) (r3 : Int) (r4 : Int) (r5 : Int) (r6 : Int) (r7 : Int) (ip : Int) (fc : Bool) (fp : Bool) (fz : Bool) (fs : Bool) (fo : Bool) (fd : Bool) (x0 : Int) (x1 : Int) (x2 : Int) (x3 : Int) (x4 : Int) (x5 : Int) (x6 : Int) (x7 : Int) (op : Int) (cond : Int) (size : Int) (ak : Int) (ar : Int) (ab : Int) (ai : Int) (aq : Int) (ad : Int) (bk : Int) (br : Int) (bb : Int) (bi : Int) (bq : Int) (bd : Int) (c : Int) (rep : Bool) (len : Int) : Option R :=
  bif (in32 r0 && (in32 r1 && (in32 r2 && (in32 r3 && (in32 r4 && (in32 r5 && (in32 r6 && (in32 r7 && (in32 db && (in32 ds && (in32 ad && (in32 bd && (in64 x0 && (in64 x1 && (in64 x2 && (in64 x3 && (in64 x4 && (in64 x5 && (in64 x6 && (in64 x7 && (fpG op size ak && ((op == 51) && ((size == 8) && ((ak == 5) && ((bk == 3)))))))))))))))))))))))))) && !(b == g) then k (.tup [.agg [.v (.int .u32 r0), .v (.int .u32 r1), .v (.int .u32 r2), .v (.int .u32 r3), .v (.int .u32 r4), .v (.int .u32 r5), .v (.int .u32 r6), .v (.int .u32 r7), .v (.int .u32 ip), .v (.bool fc), .v (.bool fp), .v (.bool fz), .v (.bool fs), .v (.bool fo), .v (.bool fd), .v (.int .u64 (bif (segE db ds (ofV bb bi bq bd [r0, r1, r2, r3, r4, r5, r6, r7]) 8 (mayV dr dw dx 0) == 0) then (bif ar == 0 then (ldV M db ds (ofV bb bi bq bd [r0, r1, r2, r3, r4, r5, r6, r7]) 8 (mayV dr dw dx 0)) else x0) else x0)), .v (.int .u64 (bif (segE db ds (ofV bb bi bq bd [r0, r1, r2, r3, r4, r5, r6, r7]) 8 (mayV dr dw dx 0) == 0) then (bif ar == 1 then (ldV M db ds (ofV bb bi bq bd [r0, r1, r2, r3, r4, r5, r6, r7]) 8 (mayV dr dw dx 0)) else x1) else x1)), .v (.int .u64 (bif (segE db ds (ofV bb bi bq bd [r0, r1, r2, r3, r4, r5, r6, r7]) 8 (mayV dr dw dx 0) == 0) then (bif ar == 2 then (ldV M db ds (ofV bb bi bq bd [r0, r1, r2, r3, r4, r5, r6, r7]) 8 (mayV dr dw dx 0)) else x2) else x2)), .v (.int .u64 (bif (segE db ds (ofV bb bi bq bd [r0, r1, r2, r3, r4, r5, r6, r7]) 8 (mayV dr dw dx 0) == 0) then (bif ar == 3 then (ldV M db ds (ofV bb bi bq bd [r0, r1, r2, r3, r4, r5, r6, r7]) 8 (mayV dr dw dx 0)) else x3) else x3)), .v (.int .u64 (bif (segE db ds (ofV bb bi bq bd [r0, r1, r2, r3, r4, r5, r6, r7]) 8 (mayV dr dw dx 0) == 0) then (bif ar == 4 then (ldV M db ds (ofV bb bi bq bd [r0, r1, r2, r3, r4, r5, r6, r7]) 8 (mayV dr dw dx 0)) else x4) else x4)), .v (.int .u64 (bif (segE db ds (ofV bb bi bq bd [r0, r1, r2, r3, r4, r5, r6, r7]) 8 (mayV dr dw dx 0) == 0) then (bif ar == 5 then (ldV M db ds (ofV bb bi bq bd [r0, r1, r2, r3, r4, r5, r6, r7]) 8 (mayV dr dw dx 0)) else x5) else x5)), .v (.int .u64 (bif (segE db ds (ofV bb bi bq bd [r0, r1, r2, r3, r4, r5, r6, r7]) 8 (mayV dr dw dx 0) == 0) then (bif ar == 6 then (ldV M db ds (ofV bb bi bq bd [r0, r1, r2, r3, r4, r5, r6, r7]) 8 (mayV dr dw dx 0)) else x6) else x6)), .v (.int .u64 (bif (segE db ds (ofV bb bi bq bd [r0, r1, r2, r3, r4, r5, r6, r7]) 8 (mayV dr dw dx 0) == 0) then (bif ar == 7 then (ldV M db ds (ofV bb bi bq bd [r0, r1, r2, r3, r4, r5, r6, r7]) 8 (mayV dr dw dx 0)) else x7) else x7))], .v (.int .i64 (endF (segE db ds (ofV bb bi bq bd [r0, r1, r2, r3, r4, r5, r6, r7]) 8 (mayV dr dw dx 0) == 0)))]) (((m.set b (.cells [.ptr g 0, .v (.int .u32 cb), .v (.int .u32 cs), .v (.bool cr), .v (.bool cw), .v (.bool cx), .v (.int .u32 db), .v (.int .u32 ds), .v (.bool dr), .v (.bool dw), .v (.bool dx)] T)).set g (.ext 0 M)) ++ []) else none
noncomputable def mvLS : Ev.Spec := fun R args m k kp => match args with
  | [.ptr b 0, .agg A0, .agg A1] => (match A0 with
    | [.v (.int .u32 r0), .v (.int .u32 r1), .v (.int .u32 r2), .v (.int .u32 r3), .v (.int .u32 r4), .v (.int .u32 r5), .v (.int .u32 r6), .v (.int .u32 r7), .v (.int .u32 ip), .v (.bool fc), .v (.bool fp), .v (.bool fz), .v (.bool fs), .v (.bool fo), .v (.bool fd), .v (.int .u64 x0), .v (.int .u64 x1), .v (.int .u64 x2), .v (.int .u64 x3), .v (.int .u64 x4), .v (.int .u64 x5), .v (.int .u64 x6), .v (.int .u64 x7)] => (match A1 with
    | [.v (.int .i64 op), .v (.int .i64 cond), .v (.int .i64 size), .v (.int .i64 ak), .v (.int .i64 ar), .v (.int .i64 ab), .v (.int .i64 ai), .v (.int .i64 aq), .v (.int .u32 ad), .v (.int .i64 bk), .v (.int .i64 br), .v (.int .i64 bb), .v (.int .i64 bi), .v (.int .i64 bq), .v (.int .u32 bd), .v (.int .u32 c), .v (.bool rep), .v (.int .i64 len)] => (match m[b]? with
    | some (.cells [.ptr g 0, .v (.int .u32 cb), .v (.int .u32 cs), .v (.bool cr), .v (.bool cw), .v (.bool cx), .v (.int .u32 db), .v (.int .u32 ds), .v (.bool dr), .v (.bool dw), .v (.bool dx)] T) => (match m[g]? with
      | some (.ext 0 M) => mvLB R m k b g cb cs cr cw cx db ds dr dw dx T M r0 r1 r2 r3 r4 r5 r6 r7 ip fc fp fz fs fo fd x0 x1 x2 x3 x4 x5 x6 x7 op cond size ak ar ab ai aq ad bk br bb bi bq bd c rep len
      | _ => none)
    | _ => none)
    | _ => none)
    | _ => none)
  | _ => none
set_option maxHeartbeats 4000000 in
theorem mvLS_ok : SpecOk Try.prog XM 26 mvLS := by
  intro R args m k kp r h
  unfold mvLS at h
  split at h
  · split at h
    · split at h
      · split at h
        · split at h
          · rename_i _ b _ r0 r1 r2 r3 r4 r5 r6 r7 ip fc fp fz fs fo fd x0 x1 x2 x3 x4 x5 x6 x7 _ op cond size ak ar ab ai aq ad bk br bb bi bq bd c rep len _ g cb cs cr cw cx db ds dr dw dx T hb _ M hg
            unfold mvLB at h
            obtain ⟨hc, h⟩ := cond_some h
            rw [Bool.and_eq_true] at hc
            have hbg : ¬ b = g := by simpa using hc.2
            exact .inl ⟨_, _, h, (callR_evT ΓFe_ok (by kernel_rfl) (mvL_ev cb cs cr cw cx db ds dr dw dx T M r0 r1 r2 r3 r4 r5 r6 r7 ip fc fp fz fs fo fd x0 x1 x2 x3 x4 x5 x6 x7 op cond size ak ar ab ai aq ad bk br bb bi bq bd c rep len hc.1) rfl rfl rfl rfl).frameL [b, g] (by simpa using hbg) ⟨hb, hg, trivial⟩ rfl rfl rfl rfl rfl rfl rfl⟩
          · cases h
        · cases h
      · cases h
    · cases h
  · cases h
def isStore : List Sv → List SObj → Bool := fun args m => match args with
  | [_, _, .agg (_ :: _ :: _ :: .v (.int _ k) :: _)] => k == 3
  | _ => false
noncomputable def mvB : Ev.Spec := orSpec isStore mvSS mvLS
theorem mvB_ok : SpecOk Try.prog XM 26 mvB := orSpec_ok mvSS_ok mvLS_ok
end Go.Proofs.Ytpgdpoloipifeaa
