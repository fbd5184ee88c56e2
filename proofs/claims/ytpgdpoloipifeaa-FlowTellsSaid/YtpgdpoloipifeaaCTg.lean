/- Contracts: where jumps lead. -/
import Derived.Test.YtpgdpoloipifeaaEvV
import Derived.Test.YtpgdpoloipifeaaCFw
import Derived.Test.YtpgdpoloipifeaaCKn18
import Derived.Test.YtpgdpoloipifeaaCSt3
import Derived.Test.YtpgdpoloipifeaaNSans
namespace Go.Proofs.Ytpgdpoloipifeaa
open Go Go.Ev
set_option linter.unusedVariables false
set_option linter.unusedSimpArgs false
set_option maxRecDepth 100000
theorem tgP_form (p : Int) (i_0 : Int) (i_1 : Int) (i_2 : Int) (i_3 : Int) (i_4 : Int) (i_5 : Int) (i_6 : Int) (i_7 : Int) (i_8 : Int) (i_9 : Int) (i_10 : Int) (i_11 : Int) (i_12 : Int) (i_13 : Int) (i_14 : Int) (i_15 : Int) (i_16 : Bool) (i_17 : Int) :
    evF Try.prog ΓFw 400 19 [.v (.int .u32 p), .agg [.v (.int .i64 i_0), .v (.int .i64 i_1), .v (.int .i64 i_2), .v (.int .i64 i_3), .v (.int .i64 i_4), .v (.int .i64 i_5), .v (.int .i64 i_6), .v (.int .i64 i_7), .v (.int .u32 i_8), .v (.int .i64 i_9), .v (.int .i64 i_10), .v (.int .i64 i_11), .v (.int .i64 i_12), .v (.int .i64 i_13), .v (.int .u32 i_14), .v (.int .u32 i_15), .v (.bool i_16), .v (.int .i64 i_17)]] [] (fun x _ => some x) (fun _ _ => none) =
    (bif decide (i_0 < 31) then some (Sv.tup [vw 0, vb false])
    else
    bif decide (i_0 > 33) then some (Sv.tup [vw 0, vb false])
    else
    bif i_3 != 4 then some (Sv.tup [vw 0, vb false])
    else
    some
    (Sv.tup
    [Sv.v
    (Value.int IntKind.u32 (IntKind.wrap IntKind.u32 (IntKind.wrap IntKind.u32 (p + IntKind.wrap IntKind.u32 i_17) + i_8))),
    vb true])) := by kernel_rfl
theorem tgP_nice (p : Int) (i_0 : Int) (i_1 : Int) (i_2 : Int) (i_3 : Int) (i_4 : Int) (i_5 : Int) (i_6 : Int) (i_7 : Int) (i_8 : Int) (i_9 : Int) (i_10 : Int) (i_11 : Int) (i_12 : Int) (i_13 : Int) (i_14 : Int) (i_15 : Int) (i_16 : Bool) (i_17 : Int) (hg : (true) = true) :
    evF Try.prog ΓFw 400 19 [.v (.int .u32 p), .agg [.v (.int .i64 i_0), .v (.int .i64 i_1), .v (.int .i64 i_2), .v (.int .i64 i_3), .v (.int .i64 i_4), .v (.int .i64 i_5), .v (.int .i64 i_6), .v (.int .i64 i_7), .v (.int .u32 i_8), .v (.int .i64 i_9), .v (.int .i64 i_10), .v (.int .i64 i_11), .v (.int .i64 i_12), .v (.int .i64 i_13), .v (.int .u32 i_14), .v (.int .u32 i_15), .v (.bool i_16), .v (.int .i64 i_17)]] [] (fun x _ => some x) (fun _ _ => none) = some (.tup [.v (.int .u32 (tgV i_0 i_3 p i_17 i_8)), .v (.bool (tgB i_0 i_3))]) := by
  rw [tgP_form]
  try simp only [bitsL_eq]
  unfold tgV tgB
  by_cases q1 : i_0 = 31
  · subst q1; cases hk : (i_3 == 4) <;> (simp only [hk, bne, Bool.not_true, Bool.not_false, cond_true, cond_false]; rfl)
  by_cases q2 : i_0 = 32
  · subst q2; cases hk : (i_3 == 4) <;> (simp only [hk, bne, Bool.not_true, Bool.not_false, cond_true, cond_false]; rfl)
  by_cases q3 : i_0 = 33
  · subst q3; cases hk : (i_3 == 4) <;> (simp only [hk, bne, Bool.not_true, Bool.not_false, cond_true, cond_false]; rfl)
  have e1 : (i_0 == 31) = false := beq_eq_false_iff_ne.2 q1
  have e2 : (i_0 == 32) = false := beq_eq_false_iff_ne.2 q2
  have e3 : (i_0 == 33) = false := beq_eq_false_iff_ne.2 q3
  by_cases q5 : i_0 < 31
  · simp only [e1, e2, e3, bne, Bool.not_false, Bool.or_self, Bool.false_and, show decide (i_0 < 31) = true from decide_eq_true q5, cond_true, cond_false]
  · simp only [e1, e2, e3, bne, Bool.not_false, Bool.or_self, Bool.false_and, show decide (i_0 < 31) = false from decide_eq_false q5, show decide (i_0 > 33) = true from decide_eq_true (by omega), cond_true, cond_false]
def tgPS : Nice := fun R args kv => match args with
  | [.v (.int .u32 p), .agg [.v (.int .i64 i_0), .v (.int .i64 i_1), .v (.int .i64 i_2), .v (.int .i64 i_3), .v (.int .i64 i_4), .v (.int .i64 i_5), .v (.int .i64 i_6), .v (.int .i64 i_7), .v (.int .u32 i_8), .v (.int .i64 i_9), .v (.int .i64 i_10), .v (.int .i64 i_11), .v (.int .i64 i_12), .v (.int .i64 i_13), .v (.int .u32 i_14), .v (.int .u32 i_15), .v (.bool i_16), .v (.int .i64 i_17)]] => bif true then kv (.tup [.v (.int .u32 (tgV i_0 i_3 p i_17 i_8)), .v (.bool (tgB i_0 i_3))]) else none
  | _ => none
theorem tgPS_ok : NiceOk Try.prog ΓFw 400 19 tgPS := by
  intro R args kv r h
  unfold tgPS at h
  split at h
  · obtain ⟨hg, h⟩ := cond_some h
    exact ⟨_, h, rfl, rfl, tgP_nice _ _ _ _ _ _ _ _ _ _ _ _ _ _ _ _ _ _ _ hg⟩
  · cases h
theorem tgR_form (p : Int) (i_0 : Int) (i_1 : Int) (i_2 : Int) (i_3 : Int) (i_4 : Int) (i_5 : Int) (i_6 : Int) (i_7 : Int) (i_8 : Int) (i_9 : Int) (i_10 : Int) (i_11 : Int) (i_12 : Int) (i_13 : Int) (i_14 : Int) (i_15 : Int) (i_16 : Bool) (i_17 : Int) :
    evF Try.prog ΓFw 400 20 [.v (.int .u32 p), .agg [.v (.int .i64 i_0), .v (.int .i64 i_1), .v (.int .i64 i_2), .v (.int .i64 i_3), .v (.int .i64 i_4), .v (.int .i64 i_5), .v (.int .i64 i_6), .v (.int .i64 i_7), .v (.int .u32 i_8), .v (.int .i64 i_9), .v (.int .i64 i_10), .v (.int .i64 i_11), .v (.int .i64 i_12), .v (.int .i64 i_13), .v (.int .u32 i_14), .v (.int .u32 i_15), .v (.bool i_16), .v (.int .i64 i_17)]] [] (fun x _ => some x) (fun _ _ => none) =
    (bif i_0 != 31 then
    bif i_0 != 32 then
    bif i_0 != 33 then some (Sv.tup [vw 0, vb false])
    else
    bif i_3 != 4 then some (Sv.tup [vw 0, vb false])
    else
    some
    (Sv.tup
    [Sv.v
    (Value.int IntKind.u32 (IntKind.wrap IntKind.u32 (IntKind.wrap IntKind.u32 (p + IntKind.wrap IntKind.u32 i_17) + i_8))),
    vb true])
    else
    bif i_3 != 4 then some (Sv.tup [vw 0, vb false])
    else
    some
    (Sv.tup
    [Sv.v
    (Value.int IntKind.u32 (IntKind.wrap IntKind.u32 (IntKind.wrap IntKind.u32 (p + IntKind.wrap IntKind.u32 i_17) + i_8))),
    vb true])
    else
    bif i_3 != 4 then some (Sv.tup [vw 0, vb false])
    else
    some
    (Sv.tup
    [Sv.v
    (Value.int IntKind.u32 (IntKind.wrap IntKind.u32 (IntKind.wrap IntKind.u32 (p + IntKind.wrap IntKind.u32 i_17) + i_8))),
    vb true])) := by kernel_rfl
theorem tgR_nice (p : Int) (i_0 : Int) (i_1 : Int) (i_2 : Int) (i_3 : Int) (i_4 : Int) (i_5 : Int) (i_6 : Int) (i_7 : Int) (i_8 : Int) (i_9 : Int) (i_10 : Int) (i_11 : Int) (i_12 : Int) (i_13 : Int) (i_14 : Int) (i_15 : Int) (i_16 : Bool) (i_17 : Int) (hg : (true) = true) :
    evF Try.prog ΓFw 400 20 [.v (.int .u32 p), .agg [.v (.int .i64 i_0), .v (.int .i64 i_1), .v (.int .i64 i_2), .v (.int .i64 i_3), .v (.int .i64 i_4), .v (.int .i64 i_5), .v (.int .i64 i_6), .v (.int .i64 i_7), .v (.int .u32 i_8), .v (.int .i64 i_9), .v (.int .i64 i_10), .v (.int .i64 i_11), .v (.int .i64 i_12), .v (.int .i64 i_13), .v (.int .u32 i_14), .v (.int .u32 i_15), .v (.bool i_16), .v (.int .i64 i_17)]] [] (fun x _ => some x) (fun _ _ => none) = some (.tup [.v (.int .u32 (tgV i_0 i_3 p i_17 i_8)), .v (.bool (tgB i_0 i_3))]) := by
  rw [tgR_form]
  try simp only [bitsL_eq]
  unfold tgV tgB
  by_cases q1 : i_0 = 31
  · subst q1; cases hk : (i_3 == 4) <;> (simp only [hk, bne, Bool.not_true, Bool.not_false, cond_true, cond_false]; rfl)
  by_cases q2 : i_0 = 32
  · subst q2; cases hk : (i_3 == 4) <;> (simp only [hk, bne, Bool.not_true, Bool.not_false, cond_true, cond_false]; rfl)
  by_cases q3 : i_0 = 33
  · subst q3; cases hk : (i_3 == 4) <;> (simp only [hk, bne, Bool.not_true, Bool.not_false, cond_true, cond_false]; rfl)
  have e1 : (i_0 == 31) = false := beq_eq_false_iff_ne.2 q1
  have e2 : (i_0 == 32) = false := beq_eq_false_iff_ne.2 q2
  have e3 : (i_0 == 33) = false := beq_eq_false_iff_ne.2 q3
  by_cases q5 : i_0 < 31
  · simp only [e1, e2, e3, bne, Bool.not_false, Bool.or_self, Bool.false_and, show decide (i_0 < 31) = true from decide_eq_true q5, cond_true, cond_false]
  · simp only [e1, e2, e3, bne, Bool.not_false, Bool.or_self, Bool.false_and, show decide (i_0 < 31) = false from decide_eq_false q5, show decide (i_0 > 33) = true from decide_eq_true (by omega), cond_true, cond_false]
def tgRS : Nice := fun R args kv => match args with
  | [.v (.int .u32 p), .agg [.v (.int .i64 i_0), .v (.int .i64 i_1), .v (.int .i64 i_2), .v (.int .i64 i_3), .v (.int .i64 i_4), .v (.int .i64 i_5), .v (.int .i64 i_6), .v (.int .i64 i_7), .v (.int .u32 i_8), .v (.int .i64 i_9), .v (.int .i64 i_10), .v (.int .i64 i_11), .v (.int .i64 i_12), .v (.int .i64 i_13), .v (.int .u32 i_14), .v (.int .u32 i_15), .v (.bool i_16), .v (.int .i64 i_17)]] => bif true then kv (.tup [.v (.int .u32 (tgV i_0 i_3 p i_17 i_8)), .v (.bool (tgB i_0 i_3))]) else none
  | _ => none
theorem tgRS_ok : NiceOk Try.prog ΓFw 400 20 tgRS := by
  intro R args kv r h
  unfold tgRS at h
  split at h
  · obtain ⟨hg, h⟩ := cond_some h
    exact ⟨_, h, rfl, rfl, tgR_nice _ _ _ _ _ _ _ _ _ _ _ _ _ _ _ _ _ _ _ hg⟩
  · cases h
noncomputable def ΓTg : Env := ((ΓFw.add 19 (pureSpec tgPS)).add 20 (pureSpec tgRS))
theorem ΓTg_ok : EnvOk Try.prog X0 ΓTg := ((ΓFw_ok.add (by kernel_rfl) (specOk_of_nice ΓFw_ok tgPS_ok)).add (by kernel_rfl) (specOk_of_nice ΓFw_ok tgRS_ok))
theorem flP_T (cb cs : Int) (cr cw cx : Bool) (db ds : Int) (dr dw dx : Bool) (T T2 : TypeId) (M : Int → Int) (r0 r1 r2 r3 r4 r5 r6 r7 ip : Int) (fc fp fz fs fo fd : Bool) (x0 x1 x2 x3 x4 x5 x6 x7 : Int) (op cond size : Int) (ak ar ab ai aq ad bk br bb bi bq bd c : Int) (rep : Bool) (len : Int) : sansT (flPT cb cs cr cw cx db ds dr dw dx T M r0 r1 r2 r3 r4 r5 r6 r7 ip fc fp fz fs fo fd x0 x1 x2 x3 x4 x5 x6 x7 op cond size ak ar ab ai aq ad bk br bb bi bq bd c rep len) = sansT (flPT cb cs cr cw cx db ds dr dw dx T2 M r0 r1 r2 r3 r4 r5 r6 r7 ip fc fp fz fs fo fd x0 x1 x2 x3 x4 x5 x6 x7 op cond size ak ar ab ai aq ad bk br bb bi bq bd c rep len) := by
  rw [flP_tree, flP_tree]
  simp only [sansT_cond]
  rfl
noncomputable def ΓFt : Env := (((ΓTg.add 12 (pureSpec known18S)).add 17 (pureSpec stateS)))
theorem ΓFt_ok : EnvOk Try.prog X0 ΓFt := (((ΓTg_ok.add (by kernel_rfl) (specOk_of_nice ΓFw_ok known18S_ok)).add (by kernel_rfl) (specOk_of_nice ΓSth_ok stateS_ok)))
end Go.Proofs.Ytpgdpoloipifeaa
