/- Sizes, segments: what they come to. -/
import Derived.Test.YtpgdpoloipifeaaEvV
import Derived.Test.YtpgdpoloipifeaaCMm0
namespace Go.Proofs.Ytpgdpoloipifeaa
open Go Go.Ev
set_option linter.unusedVariables false
set_option linter.unusedSimpArgs false
set_option maxRecDepth 100000

theorem bytes_form (s : Int) :
    evF Try.prog ΓM0 400 71 [.v (.int .i64 s)] [] (fun x _ => some x) (fun _ _ => none) =
    (bif s == 1 then bif s == 1 then some (vi s) else some (vi 4)
else
bif s == 2 then bif s == 2 then some (vi s) else some (vi 4)
else bif s == 8 then some (vi s) else some (vi 4)) := by kernel_rfl
theorem bytes_ev (s : Int) :
    evF Try.prog ΓM0 400 71 [.v (.int .i64 s)] [] (fun x _ => some x) (fun _ _ => none) = some (.v (.int .i64 (bytesN s : Int))) := by
  rw [bytes_form]
  unfold bytesN
  by_cases h1 : s = 1
  · subst h1; rfl
  · by_cases h2 : s = 2
    · subst h2; rfl
    · by_cases h8 : s = 8
      · subst h8; rfl
      · have e1 : (s == 1) = false := by simpa using h1
        have e2 : (s == 2) = false := by simpa using h2
        have e8 : (s == 8) = false := by simpa using h8
        rw [e1, e2, e8]; rfl
def bytesS : Nice := fun R args kv => match args with
  | [.v (.int .i64 s)] => bif s == 1 then kv (.v (.int .i64 1)) else bif s == 2 then kv (.v (.int .i64 2)) else bif s == 8 then kv (.v (.int .i64 8)) else kv (.v (.int .i64 4))
  | _ => none
theorem bytesS_ok : NiceOk Try.prog ΓM0 400 71 bytesS := by
  intro R args kv r h
  unfold bytesS at h
  split at h
  · rename_i s
    have key : ∀ k : Int, (bytesN s : Int) = k → kv (.v (.int .i64 k)) = some r → ∃ x, kv x = some r ∧ grL [Sv.v (.int .i64 s)] = true ∧ gr x = true ∧ evF (R := Sv) Try.prog ΓM0 400 71 [.v (.int .i64 s)] [] (fun x _ => some x) (fun _ _ => none) = some x :=
      fun k hk h => ⟨_, h, rfl, rfl, by rw [← hk]; exact bytes_ev s⟩
    unfold bytesN at key
    cases h1 : s == 1 <;> rw [h1] at h key
    · cases h2 : s == 2 <;> rw [h2] at h key
      · cases h8 : s == 8 <;> rw [h8] at h key
        · exact key 4 rfl h
        · exact key 8 rfl h
      · exact key 2 rfl h
    · exact key 1 rfl h
  · cases h
theorem width_form (s : Int) :
    evF Try.prog ΓM0 400 131 [.v (.int .i64 s)] [] (fun x _ => some x) (fun _ _ => none) =
    (bif s == 1 then some (vi s)
else
bif s == 2 then some (vi s)
else bif s == 8 then some (vi s) else some (vi 4)) := by kernel_rfl
theorem width_ev (s : Int) :
    evF Try.prog ΓM0 400 131 [.v (.int .i64 s)] [] (fun x _ => some x) (fun _ _ => none) = some (.v (.int .i64 (bytesN s : Int))) := by
  rw [width_form]
  unfold bytesN
  by_cases h1 : s = 1
  · subst h1; rfl
  · by_cases h2 : s = 2
    · subst h2; rfl
    · by_cases h8 : s = 8
      · subst h8; rfl
      · have e1 : (s == 1) = false := by simpa using h1
        have e2 : (s == 2) = false := by simpa using h2
        have e8 : (s == 8) = false := by simpa using h8
        rw [e1, e2, e8]; rfl
def widthS : Nice := fun R args kv => match args with
  | [.v (.int .i64 s)] => bif s == 1 then kv (.v (.int .i64 1)) else bif s == 2 then kv (.v (.int .i64 2)) else bif s == 8 then kv (.v (.int .i64 8)) else kv (.v (.int .i64 4))
  | _ => none
theorem widthS_ok : NiceOk Try.prog ΓM0 400 131 widthS := by
  intro R args kv r h
  unfold widthS at h
  split at h
  · rename_i s
    have key : ∀ k : Int, (bytesN s : Int) = k → kv (.v (.int .i64 k)) = some r → ∃ x, kv x = some r ∧ grL [Sv.v (.int .i64 s)] = true ∧ gr x = true ∧ evF (R := Sv) Try.prog ΓM0 400 131 [.v (.int .i64 s)] [] (fun x _ => some x) (fun _ _ => none) = some x :=
      fun k hk h => ⟨_, h, rfl, rfl, by rw [← hk]; exact width_ev s⟩
    unfold bytesN at key
    cases h1 : s == 1 <;> rw [h1] at h key
    · cases h2 : s == 2 <;> rw [h2] at h key
      · cases h8 : s == 8 <;> rw [h8] at h key
        · exact key 4 rfl h
        · exact key 8 rfl h
      · exact key 2 rfl h
    · exact key 1 rfl h
  · cases h
theorem segAt_form (b s off n what : Int) (r w x : Bool) :
    evF Try.prog ΓM0 400 72 [.agg [.v (.int .u32 b), .v (.int .u32 s), .v (.bool r), .v (.bool w), .v (.bool x)], .v (.int .u32 off), .v (.int .i64 n), .v (.int .i64 what)] [] (fun x _ => some x) (fun _ _ => none) =
    (bif what == 0 then
bif r then
bif
decide
(IntKind.wrap IntKind.u64
(IntKind.wrap IntKind.u64 off +
IntKind.wrap IntKind.u64 (if 16 < if 1 > n then 1 else n then 16 else if 1 > n then 1 else n)) >
IntKind.wrap IntKind.u64 s) then
some (Sv.tup [vw 0, vi 24])
else
bif !decide (IntKind.wrap IntKind.u64 (IntKind.wrap IntKind.u64 b + IntKind.wrap IntKind.u64 s) ≤ 4294967296) then
some (Sv.tup [vw 0, vi 24])
else some (Sv.tup [vw ((IntKind.wrap IntKind.u32 (b + off))), vi 0])
else
bif what == 1 then
bif w then
bif
decide
(IntKind.wrap IntKind.u64
(IntKind.wrap IntKind.u64 off +
IntKind.wrap IntKind.u64 (if 16 < if 1 > n then 1 else n then 16 else if 1 > n then 1 else n)) >
IntKind.wrap IntKind.u64 s) then
some (Sv.tup [vw 0, vi 24])
else
bif !decide (IntKind.wrap IntKind.u64 (IntKind.wrap IntKind.u64 b + IntKind.wrap IntKind.u64 s) ≤ 4294967296) then
some (Sv.tup [vw 0, vi 24])
else some (Sv.tup [vw ((IntKind.wrap IntKind.u32 (b + off))), vi 0])
else
bif what == 2 then
bif !x then some (Sv.tup [vw 0, vi 25])
else
bif
decide
(IntKind.wrap IntKind.u64
(IntKind.wrap IntKind.u64 off +
IntKind.wrap IntKind.u64 (if 16 < if 1 > n then 1 else n then 16 else if 1 > n then 1 else n)) >
IntKind.wrap IntKind.u64 s) then
some (Sv.tup [vw 0, vi 24])
else
bif !decide (IntKind.wrap IntKind.u64 (IntKind.wrap IntKind.u64 b + IntKind.wrap IntKind.u64 s) ≤ 4294967296) then
some (Sv.tup [vw 0, vi 24])
else some (Sv.tup [vw ((IntKind.wrap IntKind.u32 (b + off))), vi 0])
else some (Sv.tup [vw 0, vi 25])
else
bif what == 2 then
bif !x then some (Sv.tup [vw 0, vi 25])
else
bif
decide
(IntKind.wrap IntKind.u64
(IntKind.wrap IntKind.u64 off +
IntKind.wrap IntKind.u64 (if 16 < if 1 > n then 1 else n then 16 else if 1 > n then 1 else n)) >
IntKind.wrap IntKind.u64 s) then
some (Sv.tup [vw 0, vi 24])
else
bif !decide (IntKind.wrap IntKind.u64 (IntKind.wrap IntKind.u64 b + IntKind.wrap IntKind.u64 s) ≤ 4294967296) then
some (Sv.tup [vw 0, vi 24])
else some (Sv.tup [vw ((IntKind.wrap IntKind.u32 (b + off))), vi 0])
else some (Sv.tup [vw 0, vi 25])
else
bif what == 1 then
bif w then
bif
decide
(IntKind.wrap IntKind.u64
(IntKind.wrap IntKind.u64 off +
IntKind.wrap IntKind.u64 (if 16 < if 1 > n then 1 else n then 16 else if 1 > n then 1 else n)) >
IntKind.wrap IntKind.u64 s) then
some (Sv.tup [vw 0, vi 24])
else
bif !decide (IntKind.wrap IntKind.u64 (IntKind.wrap IntKind.u64 b + IntKind.wrap IntKind.u64 s) ≤ 4294967296) then
some (Sv.tup [vw 0, vi 24])
else some (Sv.tup [vw ((IntKind.wrap IntKind.u32 (b + off))), vi 0])
else
bif what == 2 then
bif !x then some (Sv.tup [vw 0, vi 25])
else
bif
decide
(IntKind.wrap IntKind.u64
(IntKind.wrap IntKind.u64 off +
IntKind.wrap IntKind.u64 (if 16 < if 1 > n then 1 else n then 16 else if 1 > n then 1 else n)) >
IntKind.wrap IntKind.u64 s) then
some (Sv.tup [vw 0, vi 24])
else
bif !decide (IntKind.wrap IntKind.u64 (IntKind.wrap IntKind.u64 b + IntKind.wrap IntKind.u64 s) ≤ 4294967296) then
some (Sv.tup [vw 0, vi 24])
else some (Sv.tup [vw ((IntKind.wrap IntKind.u32 (b + off))), vi 0])
else some (Sv.tup [vw 0, vi 25])
else
bif what == 2 then
bif !x then some (Sv.tup [vw 0, vi 25])
else
bif
decide
(IntKind.wrap IntKind.u64
(IntKind.wrap IntKind.u64 off +
IntKind.wrap IntKind.u64 (if 16 < if 1 > n then 1 else n then 16 else if 1 > n then 1 else n)) >
IntKind.wrap IntKind.u64 s) then
some (Sv.tup [vw 0, vi 24])
else
bif !decide (IntKind.wrap IntKind.u64 (IntKind.wrap IntKind.u64 b + IntKind.wrap IntKind.u64 s) ≤ 4294967296) then
some (Sv.tup [vw 0, vi 24])
else some (Sv.tup [vw ((IntKind.wrap IntKind.u32 (b + off))), vi 0])
else some (Sv.tup [vw 0, vi 25])) := by kernel_rfl
theorem segAt_nice (b s off n what : Int) (r w x : Bool) (hb : in32 b = true) (hs : in32 s = true) (ho : in32 off = true) :
    evF Try.prog ΓM0 400 72 [.agg [.v (.int .u32 b), .v (.int .u32 s), .v (.bool r), .v (.bool w), .v (.bool x)], .v (.int .u32 off), .v (.int .i64 n), .v (.int .i64 what)] [] (fun x _ => some x) (fun _ _ => none) = some (.tup [.v (.int .u32 (segA b s off n (mayV r w x what))), .v (.int .i64 (segE b s off n (mayV r w x what)))]) := by
  rw [segAt_form]
  obtain ⟨c1, c2⟩ := seg_conds hb hs ho n
  have := seg_all (r := r) (w := w) (x := x) (what := what) c1 c2 (fun a e => some (Sv.tup [.v (.int .u32 a), .v (.int .i64 e)]))
  rw [← this]
  unfold mayV
  cases what == 0 <;> cases what == 1 <;> cases what == 2 <;> cases r <;> cases w <;> cases x <;> rfl
def segAtS : Nice := fun R args kv => match args with
  | [.agg [.v (.int .u32 b), .v (.int .u32 s), .v (.bool r), .v (.bool w), .v (.bool x)], .v (.int .u32 off), .v (.int .i64 n), .v (.int .i64 what)] => bif in32 b && (in32 s && in32 off) then kv (.tup [.v (.int .u32 (segA b s off n (mayV r w x what))), .v (.int .i64 (segE b s off n (mayV r w x what)))]) else none
  | _ => none
theorem segAtS_ok : NiceOk Try.prog ΓM0 400 72 segAtS := by
  intro R args kv r h
  unfold segAtS at h
  split at h
  · obtain ⟨hg, h⟩ := cond_some h
    simp only [Bool.and_eq_true] at hg
    exact ⟨_, h, rfl, rfl, segAt_nice _ _ _ _ _ _ _ _ hg.1 hg.2.1 hg.2.2⟩
  · cases h
theorem refAt_form (b s off n what : Int) (r w x : Bool) :
    evF Try.prog ΓM0 400 132 [.agg [.v (.int .u32 b), .v (.int .u32 s), .v (.bool r), .v (.bool w), .v (.bool x)], .v (.int .u32 off), .v (.int .i64 n), .v (.int .i64 what)] [] (fun x _ => some x) (fun _ _ => none) =
    (bif what == 0 then
bif r then
bif !decide (IntKind.wrap IntKind.u64 (IntKind.wrap IntKind.u64 b + IntKind.wrap IntKind.u64 s) ≤ 4294967296) then
some (Sv.tup [vw 0, vi 24])
else
bif
decide
(IntKind.wrap IntKind.u64
(IntKind.wrap IntKind.u64 off +
IntKind.wrap IntKind.u64 (if 16 < if 1 > n then 1 else n then 16 else if 1 > n then 1 else n)) >
IntKind.wrap IntKind.u64 s) then
some (Sv.tup [vw 0, vi 24])
else some (Sv.tup [vw ((IntKind.wrap IntKind.u32 (b + off))), vi 0])
else
bif what == 1 then
bif w then
bif !decide (IntKind.wrap IntKind.u64 (IntKind.wrap IntKind.u64 b + IntKind.wrap IntKind.u64 s) ≤ 4294967296) then
some (Sv.tup [vw 0, vi 24])
else
bif
decide
(IntKind.wrap IntKind.u64
(IntKind.wrap IntKind.u64 off +
IntKind.wrap IntKind.u64 (if 16 < if 1 > n then 1 else n then 16 else if 1 > n then 1 else n)) >
IntKind.wrap IntKind.u64 s) then
some (Sv.tup [vw 0, vi 24])
else some (Sv.tup [vw ((IntKind.wrap IntKind.u32 (b + off))), vi 0])
else
bif what == 2 then
bif !x then some (Sv.tup [vw 0, vi 25])
else
bif !decide (IntKind.wrap IntKind.u64 (IntKind.wrap IntKind.u64 b + IntKind.wrap IntKind.u64 s) ≤ 4294967296) then
some (Sv.tup [vw 0, vi 24])
else
bif
decide
(IntKind.wrap IntKind.u64
(IntKind.wrap IntKind.u64 off +
IntKind.wrap IntKind.u64 (if 16 < if 1 > n then 1 else n then 16 else if 1 > n then 1 else n)) >
IntKind.wrap IntKind.u64 s) then
some (Sv.tup [vw 0, vi 24])
else some (Sv.tup [vw ((IntKind.wrap IntKind.u32 (b + off))), vi 0])
else some (Sv.tup [vw 0, vi 25])
else
bif what == 2 then
bif !x then some (Sv.tup [vw 0, vi 25])
else
bif !decide (IntKind.wrap IntKind.u64 (IntKind.wrap IntKind.u64 b + IntKind.wrap IntKind.u64 s) ≤ 4294967296) then
some (Sv.tup [vw 0, vi 24])
else
bif
decide
(IntKind.wrap IntKind.u64
(IntKind.wrap IntKind.u64 off +
IntKind.wrap IntKind.u64 (if 16 < if 1 > n then 1 else n then 16 else if 1 > n then 1 else n)) >
IntKind.wrap IntKind.u64 s) then
some (Sv.tup [vw 0, vi 24])
else some (Sv.tup [vw ((IntKind.wrap IntKind.u32 (b + off))), vi 0])
else some (Sv.tup [vw 0, vi 25])
else
bif what == 1 then
bif w then
bif !decide (IntKind.wrap IntKind.u64 (IntKind.wrap IntKind.u64 b + IntKind.wrap IntKind.u64 s) ≤ 4294967296) then
some (Sv.tup [vw 0, vi 24])
else
bif
decide
(IntKind.wrap IntKind.u64
(IntKind.wrap IntKind.u64 off +
IntKind.wrap IntKind.u64 (if 16 < if 1 > n then 1 else n then 16 else if 1 > n then 1 else n)) >
IntKind.wrap IntKind.u64 s) then
some (Sv.tup [vw 0, vi 24])
else some (Sv.tup [vw ((IntKind.wrap IntKind.u32 (b + off))), vi 0])
else
bif what == 2 then
bif !x then some (Sv.tup [vw 0, vi 25])
else
bif !decide (IntKind.wrap IntKind.u64 (IntKind.wrap IntKind.u64 b + IntKind.wrap IntKind.u64 s) ≤ 4294967296) then
some (Sv.tup [vw 0, vi 24])
else
bif
decide
(IntKind.wrap IntKind.u64
(IntKind.wrap IntKind.u64 off +
IntKind.wrap IntKind.u64 (if 16 < if 1 > n then 1 else n then 16 else if 1 > n then 1 else n)) >
IntKind.wrap IntKind.u64 s) then
some (Sv.tup [vw 0, vi 24])
else some (Sv.tup [vw ((IntKind.wrap IntKind.u32 (b + off))), vi 0])
else some (Sv.tup [vw 0, vi 25])
else
bif what == 2 then
bif !x then some (Sv.tup [vw 0, vi 25])
else
bif !decide (IntKind.wrap IntKind.u64 (IntKind.wrap IntKind.u64 b + IntKind.wrap IntKind.u64 s) ≤ 4294967296) then
some (Sv.tup [vw 0, vi 24])
else
bif
decide
(IntKind.wrap IntKind.u64
(IntKind.wrap IntKind.u64 off +
IntKind.wrap IntKind.u64 (if 16 < if 1 > n then 1 else n then 16 else if 1 > n then 1 else n)) >
IntKind.wrap IntKind.u64 s) then
some (Sv.tup [vw 0, vi 24])
else some (Sv.tup [vw ((IntKind.wrap IntKind.u32 (b + off))), vi 0])
else some (Sv.tup [vw 0, vi 25])) := by kernel_rfl
theorem refAt_nice (b s off n what : Int) (r w x : Bool) (hb : in32 b = true) (hs : in32 s = true) (ho : in32 off = true) :
    evF Try.prog ΓM0 400 132 [.agg [.v (.int .u32 b), .v (.int .u32 s), .v (.bool r), .v (.bool w), .v (.bool x)], .v (.int .u32 off), .v (.int .i64 n), .v (.int .i64 what)] [] (fun x _ => some x) (fun _ _ => none) = some (.tup [.v (.int .u32 (segA b s off n (mayV r w x what))), .v (.int .i64 (segE b s off n (mayV r w x what)))]) := by
  rw [refAt_form]
  obtain ⟨c1, c2⟩ := seg_conds hb hs ho n
  have := seg_all' (r := r) (w := w) (x := x) (what := what) c1 c2 (fun a e => some (Sv.tup [.v (.int .u32 a), .v (.int .i64 e)]))
  rw [← this]
  unfold mayV
  cases what == 0 <;> cases what == 1 <;> cases what == 2 <;> cases r <;> cases w <;> cases x <;> rfl
def refAtS : Nice := fun R args kv => match args with
  | [.agg [.v (.int .u32 b), .v (.int .u32 s), .v (.bool r), .v (.bool w), .v (.bool x)], .v (.int .u32 off), .v (.int .i64 n), .v (.int .i64 what)] => bif in32 b && (in32 s && in32 off) then kv (.tup [.v (.int .u32 (segA b s off n (mayV r w x what))), .v (.int .i64 (segE b s off n (mayV r w x what)))]) else none
  | _ => none
theorem refAtS_ok : NiceOk Try.prog ΓM0 400 132 refAtS := by
  intro R args kv r h
  unfold refAtS at h
  split at h
  · obtain ⟨hg, h⟩ := cond_some h
    simp only [Bool.and_eq_true] at hg
    exact ⟨_, h, rfl, rfl, refAt_nice _ _ _ _ _ _ _ _ hg.1 hg.2.1 hg.2.2⟩
  · cases h
def ΓM1 : Env := ((((ΓM0.add 71 (pureSpec bytesS)).add 131 (pureSpec widthS)).add 72 (pureSpec segAtS)).add 132 (pureSpec refAtS))
theorem ΓM1_ok : EnvOk Try.prog X0 ΓM1 := ((((ΓM0_ok.add (by kernel_rfl) (specOk_of_nice ΓM0_ok bytesS_ok)).add (by kernel_rfl) (specOk_of_nice ΓM0_ok widthS_ok)).add (by kernel_rfl) (specOk_of_nice ΓM0_ok segAtS_ok)).add (by kernel_rfl) (specOk_of_nice ΓM0_ok refAtS_ok))
end Go.Proofs.Ytpgdpoloipifeaa
