/- Registers that go on by a size. -/
import Derived.Test.YtjcbgjakomalaaaEvV
import Derived.Test.YtjcbgjakomalaaaCMm6
import Derived.Test.YtjcbgjakomalaaaNSeat
namespace Go.Proofs.Ytjcbgjakomalaaa
open Go Go.Ev
set_option linter.unusedVariables false
set_option maxRecDepth 100000
theorem on6_form (r0 r1 r2 r3 r4 r5 r6 r7 ip : Int) (fc fp fz fs fo fd : Bool) (x0 x1 x2 x3 x4 x5 x6 x7 : Int) (size : Int) :
    evF (R := Sv) Try.prog ΓM6 400 106 [.agg [.v (.int .u32 r0), .v (.int .u32 r1), .v (.int .u32 r2), .v (.int .u32 r3), .v (.int .u32 r4), .v (.int .u32 r5), .v (.int .u32 r6), .v (.int .u32 r7), .v (.int .u32 ip), .v (.bool fc), .v (.bool fp), .v (.bool fz), .v (.bool fs), .v (.bool fo), .v (.bool fd), .v (.int .u64 x0), .v (.int .u64 x1), .v (.int .u64 x2), .v (.int .u64 x3), .v (.int .u64 x4), .v (.int .u64 x5), .v (.int .u64 x6), .v (.int .u64 x7)], .v (.int .i64 6), .v (.int .i64 size)] [] (fun x _ => some x) (fun _ _ => none) =
    (bif fd then
some
(Sv.agg
[vw r0, vw r1, vw r2,
vw r3, vw r4, vw r5,
Sv.v
(Value.int IntKind.u32 (IntKind.wrap IntKind.u32 (r6 + IntKind.wrap IntKind.u32 (0 - IntKind.wrap IntKind.u32 size)))),
vw r7, vw ip, vb fc, vb fp,
vb fz, vb fs, vb fo, vb fd, vd x0,
vd x1, vd x2, vd x3,
vd x4, vd x5, vd x6,
vd x7])
else
some
(Sv.agg
[vw r0, vw r1, vw r2,
vw r3, vw r4, vw r5,
vw ((IntKind.wrap IntKind.u32 (r6 + IntKind.wrap IntKind.u32 size))),
vw r7, vw ip, vb fc, vb fp,
vb fz, vb fs, vb fo, vb fd, vd x0,
vd x1, vd x2, vd x3,
vd x4, vd x5, vd x6,
vd x7])) := by kernel_rfl
theorem on6_ev (r0 r1 r2 r3 r4 r5 r6 r7 ip : Int) (fc fp fz fs fo fd : Bool) (x0 x1 x2 x3 x4 x5 x6 x7 : Int) (size : Int) : evF (R := Sv) Try.prog ΓM6 400 106 [.agg [.v (.int .u32 r0), .v (.int .u32 r1), .v (.int .u32 r2), .v (.int .u32 r3), .v (.int .u32 r4), .v (.int .u32 r5), .v (.int .u32 r6), .v (.int .u32 r7), .v (.int .u32 ip), .v (.bool fc), .v (.bool fp), .v (.bool fz), .v (.bool fs), .v (.bool fo), .v (.bool fd), .v (.int .u64 x0), .v (.int .u64 x1), .v (.int .u64 x2), .v (.int .u64 x3), .v (.int .u64 x4), .v (.int .u64 x5), .v (.int .u64 x6), .v (.int .u64 x7)], .v (.int .i64 6), .v (.int .i64 size)] [] (fun x _ => some x) (fun _ _ => none) = some (.agg [.v (.int .u32 r0), .v (.int .u32 r1), .v (.int .u32 r2), .v (.int .u32 r3), .v (.int .u32 r4), .v (.int .u32 r5), .v (.int .u32 (onV fd r6 size)), .v (.int .u32 r7), .v (.int .u32 ip), .v (.bool fc), .v (.bool fp), .v (.bool fz), .v (.bool fs), .v (.bool fo), .v (.bool fd), .v (.int .u64 x0), .v (.int .u64 x1), .v (.int .u64 x2), .v (.int .u64 x3), .v (.int .u64 x4), .v (.int .u64 x5), .v (.int .u64 x6), .v (.int .u64 x7)]) := by
  rw [on6_form]
  unfold onV
  cases fd <;> rfl
theorem on7_form (r0 r1 r2 r3 r4 r5 r6 r7 ip : Int) (fc fp fz fs fo fd : Bool) (x0 x1 x2 x3 x4 x5 x6 x7 : Int) (size : Int) :
    evF (R := Sv) Try.prog ΓM6 400 106 [.agg [.v (.int .u32 r0), .v (.int .u32 r1), .v (.int .u32 r2), .v (.int .u32 r3), .v (.int .u32 r4), .v (.int .u32 r5), .v (.int .u32 r6), .v (.int .u32 r7), .v (.int .u32 ip), .v (.bool fc), .v (.bool fp), .v (.bool fz), .v (.bool fs), .v (.bool fo), .v (.bool fd), .v (.int .u64 x0), .v (.int .u64 x1), .v (.int .u64 x2), .v (.int .u64 x3), .v (.int .u64 x4), .v (.int .u64 x5), .v (.int .u64 x6), .v (.int .u64 x7)], .v (.int .i64 7), .v (.int .i64 size)] [] (fun x _ => some x) (fun _ _ => none) =
    (bif fd then
some
(Sv.agg
[vw r0, vw r1, vw r2,
vw r3, vw r4, vw r5,
vw r6,
Sv.v
(Value.int IntKind.u32 (IntKind.wrap IntKind.u32 (r7 + IntKind.wrap IntKind.u32 (0 - IntKind.wrap IntKind.u32 size)))),
vw ip, vb fc, vb fp, vb fz, vb fs,
vb fo, vb fd, vd x0, vd x1,
vd x2, vd x3, vd x4,
vd x5, vd x6, vd x7])
else
some
(Sv.agg
[vw r0, vw r1, vw r2,
vw r3, vw r4, vw r5,
vw r6,
vw ((IntKind.wrap IntKind.u32 (r7 + IntKind.wrap IntKind.u32 size))),
vw ip, vb fc, vb fp, vb fz, vb fs,
vb fo, vb fd, vd x0, vd x1,
vd x2, vd x3, vd x4,
vd x5, vd x6, vd x7])) := by kernel_rfl
theorem on7_ev (r0 r1 r2 r3 r4 r5 r6 r7 ip : Int) (fc fp fz fs fo fd : Bool) (x0 x1 x2 x3 x4 x5 x6 x7 : Int) (size : Int) : evF (R := Sv) Try.prog ΓM6 400 106 [.agg [.v (.int .u32 r0), .v (.int .u32 r1), .v (.int .u32 r2), .v (.int .u32 r3), .v (.int .u32 r4), .v (.int .u32 r5), .v (.int .u32 r6), .v (.int .u32 r7), .v (.int .u32 ip), .v (.bool fc), .v (.bool fp), .v (.bool fz), .v (.bool fs), .v (.bool fo), .v (.bool fd), .v (.int .u64 x0), .v (.int .u64 x1), .v (.int .u64 x2), .v (.int .u64 x3), .v (.int .u64 x4), .v (.int .u64 x5), .v (.int .u64 x6), .v (.int .u64 x7)], .v (.int .i64 7), .v (.int .i64 size)] [] (fun x _ => some x) (fun _ _ => none) = some (.agg [.v (.int .u32 r0), .v (.int .u32 r1), .v (.int .u32 r2), .v (.int .u32 r3), .v (.int .u32 r4), .v (.int .u32 r5), .v (.int .u32 r6), .v (.int .u32 (onV fd r7 size)), .v (.int .u32 ip), .v (.bool fc), .v (.bool fp), .v (.bool fz), .v (.bool fs), .v (.bool fo), .v (.bool fd), .v (.int .u64 x0), .v (.int .u64 x1), .v (.int .u64 x2), .v (.int .u64 x3), .v (.int .u64 x4), .v (.int .u64 x5), .v (.int .u64 x6), .v (.int .u64 x7)]) := by
  rw [on7_form]
  unfold onV
  cases fd <;> rfl
def onS : Nice := fun R args kv => match args with
  | [.agg [.v (.int .u32 r0), .v (.int .u32 r1), .v (.int .u32 r2), .v (.int .u32 r3), .v (.int .u32 r4), .v (.int .u32 r5), .v (.int .u32 r6), .v (.int .u32 r7), .v (.int .u32 ip), .v (.bool fc), .v (.bool fp), .v (.bool fz), .v (.bool fs), .v (.bool fo), .v (.bool fd), .v (.int .u64 x0), .v (.int .u64 x1), .v (.int .u64 x2), .v (.int .u64 x3), .v (.int .u64 x4), .v (.int .u64 x5), .v (.int .u64 x6), .v (.int .u64 x7)], .v (.int .i64 n), .v (.int .i64 size)] => bif n == 6 then kv (.agg [.v (.int .u32 r0), .v (.int .u32 r1), .v (.int .u32 r2), .v (.int .u32 r3), .v (.int .u32 r4), .v (.int .u32 r5), .v (.int .u32 (onV fd r6 size)), .v (.int .u32 r7), .v (.int .u32 ip), .v (.bool fc), .v (.bool fp), .v (.bool fz), .v (.bool fs), .v (.bool fo), .v (.bool fd), .v (.int .u64 x0), .v (.int .u64 x1), .v (.int .u64 x2), .v (.int .u64 x3), .v (.int .u64 x4), .v (.int .u64 x5), .v (.int .u64 x6), .v (.int .u64 x7)]) else bif n == 7 then kv (.agg [.v (.int .u32 r0), .v (.int .u32 r1), .v (.int .u32 r2), .v (.int .u32 r3), .v (.int .u32 r4), .v (.int .u32 r5), .v (.int .u32 r6), .v (.int .u32 (onV fd r7 size)), .v (.int .u32 ip), .v (.bool fc), .v (.bool fp), .v (.bool fz), .v (.bool fs), .v (.bool fo), .v (.bool fd), .v (.int .u64 x0), .v (.int .u64 x1), .v (.int .u64 x2), .v (.int .u64 x3), .v (.int .u64 x4), .v (.int .u64 x5), .v (.int .u64 x6), .v (.int .u64 x7)]) else none
  | _ => none
theorem onS_ok : NiceOk Try.prog ΓM6 400 106 onS := by
  intro R args kv r h
  unfold onS at h
  split at h
  · rename_i _ r0 r1 r2 r3 r4 r5 r6 r7 ip fc fp fz fs fo fd x0 x1 x2 x3 x4 x5 x6 x7 n size
    rcases cond_two h with ⟨hq, h⟩ | ⟨hq, h⟩
    · obtain rfl := eq_of_beq hq
      exact ⟨_, h, rfl, rfl, on6_ev r0 r1 r2 r3 r4 r5 r6 r7 ip fc fp fz fs fo fd x0 x1 x2 x3 x4 x5 x6 x7 size⟩
    rcases cond_two h with ⟨hq, h⟩ | ⟨hq, h⟩
    · obtain rfl := eq_of_beq hq
      exact ⟨_, h, rfl, rfl, on7_ev r0 r1 r2 r3 r4 r5 r6 r7 ip fc fp fz fs fo fd x0 x1 x2 x3 x4 x5 x6 x7 size⟩
    cases h
  · cases h
def ΓSo : Env := ΓM6.add 106 (pureSpec onS)
theorem ΓSo_ok : EnvOk Try.prog X0 ΓSo := ΓM6_ok.add (by kernel_rfl) (specOk_of_nice ΓM6_ok onS_ok)
end Go.Proofs.Ytjcbgjakomalaaa
