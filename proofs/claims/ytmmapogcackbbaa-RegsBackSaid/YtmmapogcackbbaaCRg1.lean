/- The word of flags, flags of a word: whatever order the map of places is gone through. -/
import Derived.Test.YtmmapogcackbbaaCRg0
namespace Go.Proofs.Ytmmapogcackbbaa
open Go Go.Ev
set_option linter.unusedVariables false
set_option linter.unusedSimpArgs false
set_option maxRecDepth 100000

theorem wd_0 (x : Int) (c p z s o d : Bool) (e : TypeId) (g : List Sv) :
    evOps Try.prog Γ0.wide (callE Try.prog Γ0 (ev Try.prog Γ0 60)) Lw.R4.toList Lw.es4 (setN (fr 21 [3, 7] [.v (.int .u32 x), .ptr 2 0] g) Lw.te (.tup [.v (.int .u64 0), .ptr 0 0])) [.cells [.v (.bool c), .v (.bool p), .v (.bool z), .v (.bool s), .v (.bool o), .v (.bool d)] e, .dead, .dead] (fun t' m' => ev Try.prog Γ0 60 (fun _ => none) Lw.rest t' m' (liveK [3, 7])) (fun _ _ _ => none) =
    some (0, 21, [.v (.int .u32 (bif c then bitsL .or .u32 x 1 else x)), .ptr 2 0], [.cells [.v (.bool c), .v (.bool p), .v (.bool z), .v (.bool s), .v (.bool o), .v (.bool d)] e, .dead, .dead]) := by
  have h : evOps Try.prog Γ0.wide (callE Try.prog Γ0 (ev Try.prog Γ0 60)) Lw.R4.toList Lw.es4 (setN (fr 21 [3, 7] [.v (.int .u32 x), .ptr 2 0] g) Lw.te (.tup [.v (.int .u64 0), .ptr 0 0])) [.cells [.v (.bool c), .v (.bool p), .v (.bool z), .v (.bool s), .v (.bool o), .v (.bool d)] e, .dead, .dead] (fun t' m' => ev Try.prog Γ0 60 (fun _ => none) Lw.rest t' m' (liveK [3, 7])) (fun _ _ _ => none) =
    (bif c then
    some
    (0, 21, [Sv.v (Value.int IntKind.u32 (bitsL BinOp.or IntKind.u32 x 1)), Sv.ptr 2 0],
    [SObj.cells
    [Sv.v (Value.bool c), Sv.v (Value.bool p), Sv.v (Value.bool z), Sv.v (Value.bool s), Sv.v (Value.bool o),
    Sv.v (Value.bool d)]
    e,
    SObj.dead, SObj.dead])
    else
    some
    (0, 21, [Sv.v (Value.int IntKind.u32 x), Sv.ptr 2 0],
    [SObj.cells
    [Sv.v (Value.bool c), Sv.v (Value.bool p), Sv.v (Value.bool z), Sv.v (Value.bool s), Sv.v (Value.bool o),
    Sv.v (Value.bool d)]
    e,
    SObj.dead, SObj.dead])) := by kernel_rfl
  rw [h]; cases c <;> rfl
theorem wd_2 (x : Int) (c p z s o d : Bool) (e : TypeId) (g : List Sv) :
    evOps Try.prog Γ0.wide (callE Try.prog Γ0 (ev Try.prog Γ0 60)) Lw.R4.toList Lw.es4 (setN (fr 21 [3, 7] [.v (.int .u32 x), .ptr 2 0] g) Lw.te (.tup [.v (.int .u64 2), .ptr 0 1])) [.cells [.v (.bool c), .v (.bool p), .v (.bool z), .v (.bool s), .v (.bool o), .v (.bool d)] e, .dead, .dead] (fun t' m' => ev Try.prog Γ0 60 (fun _ => none) Lw.rest t' m' (liveK [3, 7])) (fun _ _ _ => none) =
    some (0, 21, [.v (.int .u32 (bif p then bitsL .or .u32 x 4 else x)), .ptr 2 0], [.cells [.v (.bool c), .v (.bool p), .v (.bool z), .v (.bool s), .v (.bool o), .v (.bool d)] e, .dead, .dead]) := by
  have h : evOps Try.prog Γ0.wide (callE Try.prog Γ0 (ev Try.prog Γ0 60)) Lw.R4.toList Lw.es4 (setN (fr 21 [3, 7] [.v (.int .u32 x), .ptr 2 0] g) Lw.te (.tup [.v (.int .u64 2), .ptr 0 1])) [.cells [.v (.bool c), .v (.bool p), .v (.bool z), .v (.bool s), .v (.bool o), .v (.bool d)] e, .dead, .dead] (fun t' m' => ev Try.prog Γ0 60 (fun _ => none) Lw.rest t' m' (liveK [3, 7])) (fun _ _ _ => none) =
    (bif p then
    some
    (0, 21, [Sv.v (Value.int IntKind.u32 (bitsL BinOp.or IntKind.u32 x 4)), Sv.ptr 2 0],
    [SObj.cells
    [Sv.v (Value.bool c), Sv.v (Value.bool p), Sv.v (Value.bool z), Sv.v (Value.bool s), Sv.v (Value.bool o),
    Sv.v (Value.bool d)]
    e,
    SObj.dead, SObj.dead])
    else
    some
    (0, 21, [Sv.v (Value.int IntKind.u32 x), Sv.ptr 2 0],
    [SObj.cells
    [Sv.v (Value.bool c), Sv.v (Value.bool p), Sv.v (Value.bool z), Sv.v (Value.bool s), Sv.v (Value.bool o),
    Sv.v (Value.bool d)]
    e,
    SObj.dead, SObj.dead])) := by kernel_rfl
  rw [h]; cases p <;> rfl
theorem wd_6 (x : Int) (c p z s o d : Bool) (e : TypeId) (g : List Sv) :
    evOps Try.prog Γ0.wide (callE Try.prog Γ0 (ev Try.prog Γ0 60)) Lw.R4.toList Lw.es4 (setN (fr 21 [3, 7] [.v (.int .u32 x), .ptr 2 0] g) Lw.te (.tup [.v (.int .u64 6), .ptr 0 2])) [.cells [.v (.bool c), .v (.bool p), .v (.bool z), .v (.bool s), .v (.bool o), .v (.bool d)] e, .dead, .dead] (fun t' m' => ev Try.prog Γ0 60 (fun _ => none) Lw.rest t' m' (liveK [3, 7])) (fun _ _ _ => none) =
    some (0, 21, [.v (.int .u32 (bif z then bitsL .or .u32 x 64 else x)), .ptr 2 0], [.cells [.v (.bool c), .v (.bool p), .v (.bool z), .v (.bool s), .v (.bool o), .v (.bool d)] e, .dead, .dead]) := by
  have h : evOps Try.prog Γ0.wide (callE Try.prog Γ0 (ev Try.prog Γ0 60)) Lw.R4.toList Lw.es4 (setN (fr 21 [3, 7] [.v (.int .u32 x), .ptr 2 0] g) Lw.te (.tup [.v (.int .u64 6), .ptr 0 2])) [.cells [.v (.bool c), .v (.bool p), .v (.bool z), .v (.bool s), .v (.bool o), .v (.bool d)] e, .dead, .dead] (fun t' m' => ev Try.prog Γ0 60 (fun _ => none) Lw.rest t' m' (liveK [3, 7])) (fun _ _ _ => none) =
    (bif z then
    some
    (0, 21, [Sv.v (Value.int IntKind.u32 (bitsL BinOp.or IntKind.u32 x 64)), Sv.ptr 2 0],
    [SObj.cells
    [Sv.v (Value.bool c), Sv.v (Value.bool p), Sv.v (Value.bool z), Sv.v (Value.bool s), Sv.v (Value.bool o),
    Sv.v (Value.bool d)]
    e,
    SObj.dead, SObj.dead])
    else
    some
    (0, 21, [Sv.v (Value.int IntKind.u32 x), Sv.ptr 2 0],
    [SObj.cells
    [Sv.v (Value.bool c), Sv.v (Value.bool p), Sv.v (Value.bool z), Sv.v (Value.bool s), Sv.v (Value.bool o),
    Sv.v (Value.bool d)]
    e,
    SObj.dead, SObj.dead])) := by kernel_rfl
  rw [h]; cases z <;> rfl
theorem wd_7 (x : Int) (c p z s o d : Bool) (e : TypeId) (g : List Sv) :
    evOps Try.prog Γ0.wide (callE Try.prog Γ0 (ev Try.prog Γ0 60)) Lw.R4.toList Lw.es4 (setN (fr 21 [3, 7] [.v (.int .u32 x), .ptr 2 0] g) Lw.te (.tup [.v (.int .u64 7), .ptr 0 3])) [.cells [.v (.bool c), .v (.bool p), .v (.bool z), .v (.bool s), .v (.bool o), .v (.bool d)] e, .dead, .dead] (fun t' m' => ev Try.prog Γ0 60 (fun _ => none) Lw.rest t' m' (liveK [3, 7])) (fun _ _ _ => none) =
    some (0, 21, [.v (.int .u32 (bif s then bitsL .or .u32 x 128 else x)), .ptr 2 0], [.cells [.v (.bool c), .v (.bool p), .v (.bool z), .v (.bool s), .v (.bool o), .v (.bool d)] e, .dead, .dead]) := by
  have h : evOps Try.prog Γ0.wide (callE Try.prog Γ0 (ev Try.prog Γ0 60)) Lw.R4.toList Lw.es4 (setN (fr 21 [3, 7] [.v (.int .u32 x), .ptr 2 0] g) Lw.te (.tup [.v (.int .u64 7), .ptr 0 3])) [.cells [.v (.bool c), .v (.bool p), .v (.bool z), .v (.bool s), .v (.bool o), .v (.bool d)] e, .dead, .dead] (fun t' m' => ev Try.prog Γ0 60 (fun _ => none) Lw.rest t' m' (liveK [3, 7])) (fun _ _ _ => none) =
    (bif s then
    some
    (0, 21, [Sv.v (Value.int IntKind.u32 (bitsL BinOp.or IntKind.u32 x 128)), Sv.ptr 2 0],
    [SObj.cells
    [Sv.v (Value.bool c), Sv.v (Value.bool p), Sv.v (Value.bool z), Sv.v (Value.bool s), Sv.v (Value.bool o),
    Sv.v (Value.bool d)]
    e,
    SObj.dead, SObj.dead])
    else
    some
    (0, 21, [Sv.v (Value.int IntKind.u32 x), Sv.ptr 2 0],
    [SObj.cells
    [Sv.v (Value.bool c), Sv.v (Value.bool p), Sv.v (Value.bool z), Sv.v (Value.bool s), Sv.v (Value.bool o),
    Sv.v (Value.bool d)]
    e,
    SObj.dead, SObj.dead])) := by kernel_rfl
  rw [h]; cases s <;> rfl
theorem wd_10 (x : Int) (c p z s o d : Bool) (e : TypeId) (g : List Sv) :
    evOps Try.prog Γ0.wide (callE Try.prog Γ0 (ev Try.prog Γ0 60)) Lw.R4.toList Lw.es4 (setN (fr 21 [3, 7] [.v (.int .u32 x), .ptr 2 0] g) Lw.te (.tup [.v (.int .u64 10), .ptr 0 5])) [.cells [.v (.bool c), .v (.bool p), .v (.bool z), .v (.bool s), .v (.bool o), .v (.bool d)] e, .dead, .dead] (fun t' m' => ev Try.prog Γ0 60 (fun _ => none) Lw.rest t' m' (liveK [3, 7])) (fun _ _ _ => none) =
    some (0, 21, [.v (.int .u32 (bif d then bitsL .or .u32 x 1024 else x)), .ptr 2 0], [.cells [.v (.bool c), .v (.bool p), .v (.bool z), .v (.bool s), .v (.bool o), .v (.bool d)] e, .dead, .dead]) := by
  have h : evOps Try.prog Γ0.wide (callE Try.prog Γ0 (ev Try.prog Γ0 60)) Lw.R4.toList Lw.es4 (setN (fr 21 [3, 7] [.v (.int .u32 x), .ptr 2 0] g) Lw.te (.tup [.v (.int .u64 10), .ptr 0 5])) [.cells [.v (.bool c), .v (.bool p), .v (.bool z), .v (.bool s), .v (.bool o), .v (.bool d)] e, .dead, .dead] (fun t' m' => ev Try.prog Γ0 60 (fun _ => none) Lw.rest t' m' (liveK [3, 7])) (fun _ _ _ => none) =
    (bif d then
    some
    (0, 21, [Sv.v (Value.int IntKind.u32 (bitsL BinOp.or IntKind.u32 x 1024)), Sv.ptr 2 0],
    [SObj.cells
    [Sv.v (Value.bool c), Sv.v (Value.bool p), Sv.v (Value.bool z), Sv.v (Value.bool s), Sv.v (Value.bool o),
    Sv.v (Value.bool d)]
    e,
    SObj.dead, SObj.dead])
    else
    some
    (0, 21, [Sv.v (Value.int IntKind.u32 x), Sv.ptr 2 0],
    [SObj.cells
    [Sv.v (Value.bool c), Sv.v (Value.bool p), Sv.v (Value.bool z), Sv.v (Value.bool s), Sv.v (Value.bool o),
    Sv.v (Value.bool d)]
    e,
    SObj.dead, SObj.dead])) := by kernel_rfl
  rw [h]; cases d <;> rfl
theorem wd_11 (x : Int) (c p z s o d : Bool) (e : TypeId) (g : List Sv) :
    evOps Try.prog Γ0.wide (callE Try.prog Γ0 (ev Try.prog Γ0 60)) Lw.R4.toList Lw.es4 (setN (fr 21 [3, 7] [.v (.int .u32 x), .ptr 2 0] g) Lw.te (.tup [.v (.int .u64 11), .ptr 0 4])) [.cells [.v (.bool c), .v (.bool p), .v (.bool z), .v (.bool s), .v (.bool o), .v (.bool d)] e, .dead, .dead] (fun t' m' => ev Try.prog Γ0 60 (fun _ => none) Lw.rest t' m' (liveK [3, 7])) (fun _ _ _ => none) =
    some (0, 21, [.v (.int .u32 (bif o then bitsL .or .u32 x 2048 else x)), .ptr 2 0], [.cells [.v (.bool c), .v (.bool p), .v (.bool z), .v (.bool s), .v (.bool o), .v (.bool d)] e, .dead, .dead]) := by
  have h : evOps Try.prog Γ0.wide (callE Try.prog Γ0 (ev Try.prog Γ0 60)) Lw.R4.toList Lw.es4 (setN (fr 21 [3, 7] [.v (.int .u32 x), .ptr 2 0] g) Lw.te (.tup [.v (.int .u64 11), .ptr 0 4])) [.cells [.v (.bool c), .v (.bool p), .v (.bool z), .v (.bool s), .v (.bool o), .v (.bool d)] e, .dead, .dead] (fun t' m' => ev Try.prog Γ0 60 (fun _ => none) Lw.rest t' m' (liveK [3, 7])) (fun _ _ _ => none) =
    (bif o then
    some
    (0, 21, [Sv.v (Value.int IntKind.u32 (bitsL BinOp.or IntKind.u32 x 2048)), Sv.ptr 2 0],
    [SObj.cells
    [Sv.v (Value.bool c), Sv.v (Value.bool p), Sv.v (Value.bool z), Sv.v (Value.bool s), Sv.v (Value.bool o),
    Sv.v (Value.bool d)]
    e,
    SObj.dead, SObj.dead])
    else
    some
    (0, 21, [Sv.v (Value.int IntKind.u32 x), Sv.ptr 2 0],
    [SObj.cells
    [Sv.v (Value.bool c), Sv.v (Value.bool p), Sv.v (Value.bool z), Sv.v (Value.bool s), Sv.v (Value.bool o),
    Sv.v (Value.bool d)]
    e,
    SObj.dead, SObj.dead])) := by kernel_rfl
  rw [h]; cases o <;> rfl
structure WdS where
  c : Bool
  p : Bool
  z : Bool
  s : Bool
  o : Bool
  d : Bool
  e : TypeId
def wdA : RangeSpec WdS where
  len := 21
  slots := [3, 7]
  q := .u64
  b := 1
  c := 2
  es := fun _ => [(0, .ptr 0 0), (2, .ptr 0 1), (6, .ptr 0 2), (7, .ptr 0 3), (10, .ptr 0 5), (11, .ptr 0 4)]
  vals := fun a S => [.v (.int .u32 (wv (S 0 && a.c) (S 2 && a.p) (S 6 && a.z) (S 7 && a.s) (S 11 && a.o) (S 10 && a.d))), .ptr 2 0]
  ms := fun a _ => [.cells [.v (.bool a.c), .v (.bool a.p), .v (.bool a.z), .v (.bool a.s), .v (.bool a.o), .v (.bool a.d)] a.e, .dead, .dead]
  m0 := fun a => [.cells [.v (.bool a.c), .v (.bool a.p), .v (.bool a.z), .v (.bool a.s), .v (.bool a.o), .v (.bool a.d)] a.e, .pm .u64 [(0, .ptr 0 0), (2, .ptr 0 1), (6, .ptr 0 2), (7, .ptr 0 3), (10, .ptr 0 5), (11, .ptr 0 4)], .it 1 6]
  valsF := fun a => [.v (.int .u32 (wv a.c a.p a.z a.s a.o a.d)), .ptr 2 0]
  msF := fun a => [.cells [.v (.bool a.c), .v (.bool a.p), .v (.bool a.z), .v (.bool a.s), .v (.bool a.o), .v (.bool a.d)] a.e, .dead, .dead]
theorem Lw_slots : Lw.tn = 8 ∧ Lw.x = 9 ∧ Lw.it = 7 ∧ Lw.te = 10 := by
  have h := Lw_sl
  simp only [Prod.mk.injEq] at h
  exact h
theorem wdA_ok : wdA.Ok Try.prog Γ0 60 Lw where
  code := Lw_ok
  it := fun a S t h => by
    have h1 : [3, 7].map (nth t) = [.v (.int .u32 (wv (S 0 && a.c) (S 2 && a.p) (S 6 && a.z) (S 7 && a.s) (S 11 && a.o) (S 10 && a.d))), .ptr 2 0] := h
    simp only [List.map_cons, List.map_nil, List.cons.injEq, and_true] at h1
    rw [Lw_slots.2.2.1]; exact h1.2
  s1 := by rw [Lw_slots.1]; decide
  s2 := by rw [Lw_slots.2.1]; decide
  lx := by rw [Lw_slots.2.1]; decide
  ltn := by rw [Lw_slots.1]; decide
  ro := fun a S x hx => by
    simp only [wdA, List.mem_cons, List.not_mem_nil, or_false] at hx
    rcases hx with rfl | rfl | rfl <;> rfl
  nd := fun a => by show ([0, 2, 6, 7, 10, 11] : List Int).Nodup; decide
  bc := by decide
  mb := fun a => rfl
  mc := fun a => rfl
  start := fun a => rfl
  fin := fun a S h => by
    have hk : ∀ k i, (k, Sv.ptr 0 i) ∈ wdA.es a → S k = true := fun k i hm => h _ hm
    have h0 := hk 0 0 (by simp [wdA]); have h2 := hk 2 1 (by simp [wdA]); have h6 := hk 6 2 (by simp [wdA]); have h7 := hk 7 3 (by simp [wdA]); have h10 := hk 10 5 (by simp [wdA]); have h11 := hk 11 4 (by simp [wdA])
    refine ⟨?_, rfl⟩
    show [Sv.v (.int .u32 (wv (S 0 && a.c) (S 2 && a.p) (S 6 && a.z) (S 7 && a.s) (S 11 && a.o) (S 10 && a.d))), Sv.ptr 2 0] = [Sv.v (.int .u32 (wv a.c a.p a.z a.s a.o a.d)), Sv.ptr 2 0]
    rw [h0, h2, h6, h7, h10, h11]; rfl
  round := fun a S t k v hl hv hm hS => by
    have ht : fr 21 [3, 7] (wdA.vals a S) t = t := by rw [← hv]; exact fr_self hl
    simp only [wdA, List.mem_cons, Prod.mk.injEq, List.not_mem_nil, or_false] at hm
    rcases hm with ⟨rfl, rfl⟩ | ⟨rfl, rfl⟩ | ⟨rfl, rfl⟩ | ⟨rfl, rfl⟩ | ⟨rfl, rfl⟩ | ⟨rfl, rfl⟩
    · have h := wd_0 (wv (S 0 && a.c) (S 2 && a.p) (S 6 && a.z) (S 7 && a.s) (S 11 && a.o) (S 10 && a.d)) a.c a.p a.z a.s a.o a.d a.e t
      have ht2 : fr 21 [3, 7] [.v (.int .u32 (wv (S 0 && a.c) (S 2 && a.p) (S 6 && a.z) (S 7 && a.s) (S 11 && a.o) (S 10 && a.d))), .ptr 2 0] t = t := ht
      rw [ht2] at h
      refine h.trans ?_
      have e1 : (bif a.c then bitsL .or .u32 (wv (S 0 && a.c) (S 2 && a.p) (S 6 && a.z) (S 7 && a.s) (S 11 && a.o) (S 10 && a.d)) 1 else (wv (S 0 && a.c) (S 2 && a.p) (S 6 && a.z) (S 7 && a.s) (S 11 && a.o) (S 10 && a.d))) = wv (true && a.c) (S 2 && a.p) (S 6 && a.z) (S 7 && a.s) (S 11 && a.o) (S 10 && a.d) := by
        rw [bitsL_eq, hS]
        cases a.c
        · simp only [cond_false, Bool.and_false]
        · simp only [cond_true, Bool.false_and, Bool.and_true]; exact or_wv0 _ _ _ _ _
      rw [e1]; rfl
    · have h := wd_2 (wv (S 0 && a.c) (S 2 && a.p) (S 6 && a.z) (S 7 && a.s) (S 11 && a.o) (S 10 && a.d)) a.c a.p a.z a.s a.o a.d a.e t
      have ht2 : fr 21 [3, 7] [.v (.int .u32 (wv (S 0 && a.c) (S 2 && a.p) (S 6 && a.z) (S 7 && a.s) (S 11 && a.o) (S 10 && a.d))), .ptr 2 0] t = t := ht
      rw [ht2] at h
      refine h.trans ?_
      have e1 : (bif a.p then bitsL .or .u32 (wv (S 0 && a.c) (S 2 && a.p) (S 6 && a.z) (S 7 && a.s) (S 11 && a.o) (S 10 && a.d)) 4 else (wv (S 0 && a.c) (S 2 && a.p) (S 6 && a.z) (S 7 && a.s) (S 11 && a.o) (S 10 && a.d))) = wv (S 0 && a.c) (true && a.p) (S 6 && a.z) (S 7 && a.s) (S 11 && a.o) (S 10 && a.d) := by
        rw [bitsL_eq, hS]
        cases a.p
        · simp only [cond_false, Bool.and_false]
        · simp only [cond_true, Bool.false_and, Bool.and_true]; exact or_wv2 _ _ _ _ _
      rw [e1]; rfl
    · have h := wd_6 (wv (S 0 && a.c) (S 2 && a.p) (S 6 && a.z) (S 7 && a.s) (S 11 && a.o) (S 10 && a.d)) a.c a.p a.z a.s a.o a.d a.e t
      have ht2 : fr 21 [3, 7] [.v (.int .u32 (wv (S 0 && a.c) (S 2 && a.p) (S 6 && a.z) (S 7 && a.s) (S 11 && a.o) (S 10 && a.d))), .ptr 2 0] t = t := ht
      rw [ht2] at h
      refine h.trans ?_
      have e1 : (bif a.z then bitsL .or .u32 (wv (S 0 && a.c) (S 2 && a.p) (S 6 && a.z) (S 7 && a.s) (S 11 && a.o) (S 10 && a.d)) 64 else (wv (S 0 && a.c) (S 2 && a.p) (S 6 && a.z) (S 7 && a.s) (S 11 && a.o) (S 10 && a.d))) = wv (S 0 && a.c) (S 2 && a.p) (true && a.z) (S 7 && a.s) (S 11 && a.o) (S 10 && a.d) := by
        rw [bitsL_eq, hS]
        cases a.z
        · simp only [cond_false, Bool.and_false]
        · simp only [cond_true, Bool.false_and, Bool.and_true]; exact or_wv6 _ _ _ _ _
      rw [e1]; rfl
    · have h := wd_7 (wv (S 0 && a.c) (S 2 && a.p) (S 6 && a.z) (S 7 && a.s) (S 11 && a.o) (S 10 && a.d)) a.c a.p a.z a.s a.o a.d a.e t
      have ht2 : fr 21 [3, 7] [.v (.int .u32 (wv (S 0 && a.c) (S 2 && a.p) (S 6 && a.z) (S 7 && a.s) (S 11 && a.o) (S 10 && a.d))), .ptr 2 0] t = t := ht
      rw [ht2] at h
      refine h.trans ?_
      have e1 : (bif a.s then bitsL .or .u32 (wv (S 0 && a.c) (S 2 && a.p) (S 6 && a.z) (S 7 && a.s) (S 11 && a.o) (S 10 && a.d)) 128 else (wv (S 0 && a.c) (S 2 && a.p) (S 6 && a.z) (S 7 && a.s) (S 11 && a.o) (S 10 && a.d))) = wv (S 0 && a.c) (S 2 && a.p) (S 6 && a.z) (true && a.s) (S 11 && a.o) (S 10 && a.d) := by
        rw [bitsL_eq, hS]
        cases a.s
        · simp only [cond_false, Bool.and_false]
        · simp only [cond_true, Bool.false_and, Bool.and_true]; exact or_wv7 _ _ _ _ _
      rw [e1]; rfl
    · have h := wd_10 (wv (S 0 && a.c) (S 2 && a.p) (S 6 && a.z) (S 7 && a.s) (S 11 && a.o) (S 10 && a.d)) a.c a.p a.z a.s a.o a.d a.e t
      have ht2 : fr 21 [3, 7] [.v (.int .u32 (wv (S 0 && a.c) (S 2 && a.p) (S 6 && a.z) (S 7 && a.s) (S 11 && a.o) (S 10 && a.d))), .ptr 2 0] t = t := ht
      rw [ht2] at h
      refine h.trans ?_
      have e1 : (bif a.d then bitsL .or .u32 (wv (S 0 && a.c) (S 2 && a.p) (S 6 && a.z) (S 7 && a.s) (S 11 && a.o) (S 10 && a.d)) 1024 else (wv (S 0 && a.c) (S 2 && a.p) (S 6 && a.z) (S 7 && a.s) (S 11 && a.o) (S 10 && a.d))) = wv (S 0 && a.c) (S 2 && a.p) (S 6 && a.z) (S 7 && a.s) (S 11 && a.o) (true && a.d) := by
        rw [bitsL_eq, hS]
        cases a.d
        · simp only [cond_false, Bool.and_false]
        · simp only [cond_true, Bool.false_and, Bool.and_true]; exact or_wv10 _ _ _ _ _
      rw [e1]; rfl
    · have h := wd_11 (wv (S 0 && a.c) (S 2 && a.p) (S 6 && a.z) (S 7 && a.s) (S 11 && a.o) (S 10 && a.d)) a.c a.p a.z a.s a.o a.d a.e t
      have ht2 : fr 21 [3, 7] [.v (.int .u32 (wv (S 0 && a.c) (S 2 && a.p) (S 6 && a.z) (S 7 && a.s) (S 11 && a.o) (S 10 && a.d))), .ptr 2 0] t = t := ht
      rw [ht2] at h
      refine h.trans ?_
      have e1 : (bif a.o then bitsL .or .u32 (wv (S 0 && a.c) (S 2 && a.p) (S 6 && a.z) (S 7 && a.s) (S 11 && a.o) (S 10 && a.d)) 2048 else (wv (S 0 && a.c) (S 2 && a.p) (S 6 && a.z) (S 7 && a.s) (S 11 && a.o) (S 10 && a.d))) = wv (S 0 && a.c) (S 2 && a.p) (S 6 && a.z) (S 7 && a.s) (true && a.o) (S 10 && a.d) := by
        rw [bitsL_eq, hS]
        cases a.o
        · simp only [cond_false, Bool.and_false]
        · simp only [cond_true, Bool.false_and, Bool.and_true]; exact or_wv11 _ _ _ _ _
      rw [e1]; rfl
def wdDec : (R : Type) → List Sv → List SObj → (WdS → Option R) → Option R := fun R l m k => match l with
  | [.v (.int .u32 x), .ptr ic io] => (match m with
    | [.cells [.v (.bool c), .v (.bool p), .v (.bool z), .v (.bool s), .v (.bool o), .v (.bool d)] e, .pm .u64 [(k0, .ptr b0 o0), (k2, .ptr b2 o2), (k6, .ptr b6 o6), (k7, .ptr b7 o7), (k10, .ptr b10 o10), (k11, .ptr b11 o11)], .it ib n6] => bif ((x == 2) && (decide (ic = 2) && (decide (io = 0) && ((k0 == 0) && ((k2 == 2) && ((k6 == 6) && ((k7 == 7) && ((k10 == 10) && ((k11 == 11) && (decide (b0 = 0) && (decide (b2 = 0) && (decide (b6 = 0) && (decide (b7 = 0) && (decide (b10 = 0) && (decide (b11 = 0) && (decide (o0 = 0) && (decide (o2 = 1) && (decide (o6 = 2) && (decide (o7 = 3) && (decide (o10 = 5) && (decide (o11 = 4) && (decide (ib = 1) && decide (n6 = 6))))))))))))))))))))))) then k ⟨c, p, z, s, o, d, e⟩ else none
    | _ => none)
  | _ => none
theorem wdDec_ok : ∀ (R : Type) l m (k : WdS → Option R) r, wdDec R l m k = some r → ∃ a, k a = some r ∧ l = wdA.vals a (fun _ => false) ∧ m = wdA.m0 a := by
  intro R l m k r h
  unfold wdDec at h
  split at h
  · split at h
    · obtain ⟨hg, h2⟩ := cond_some h
      clear h
      simp only [Bool.and_eq_true, decide_eq_true_eq, beq_iff_eq] at hg
      obtain ⟨rfl, rfl, rfl, rfl, rfl, rfl, rfl, rfl, rfl, rfl, rfl, rfl, rfl, rfl, rfl, rfl, rfl, rfl, rfl, rfl, rfl, rfl, rfl⟩ := hg
      exact ⟨_, h2, rfl, rfl⟩
    · cases h
  · cases h
theorem fw_0 (x : Int) (c p z s o d : Bool) (e0 e : TypeId) (g : List Sv) :
    evOps Try.prog Γ0.wide (callE Try.prog Γ0 (ev Try.prog Γ0 60)) Lf.R4.toList Lf.es4 (setN (fr 21 [0, 2, 3, 7] [.v (.int .u32 x), .ptr 0 0, .ptr 1 0, .ptr 3 0] g) Lf.te (.tup [.v (.int .u64 0), .ptr 1 0])) [.cells [.v (.bool false), .v (.bool false), .v (.bool false), .v (.bool false), .v (.bool false), .v (.bool false)] e0, .cells [.v (.bool c), .v (.bool p), .v (.bool z), .v (.bool s), .v (.bool o), .v (.bool d)] e, .dead, .dead] (fun t' m' => ev Try.prog Γ0 60 (fun _ => none) Lf.rest t' m' (liveK [0, 2, 3, 7])) (fun _ _ _ => none) =
    (some
    (0, 21, [Sv.v (Value.int IntKind.u32 x), Sv.ptr 0 0, Sv.ptr 1 0, Sv.ptr 3 0],
    [SObj.cells
    [Sv.v (Value.bool false), Sv.v (Value.bool false), Sv.v (Value.bool false), Sv.v (Value.bool false),
    Sv.v (Value.bool false), Sv.v (Value.bool false)]
    e0,
    SObj.cells
    [Sv.v (Value.bool (bitsL BinOp.and IntKind.u32 (Int.fdiv x 1) 1 == 1)), Sv.v (Value.bool p), Sv.v (Value.bool z),
    Sv.v (Value.bool s), Sv.v (Value.bool o), Sv.v (Value.bool d)]
    e,
    SObj.dead, SObj.dead])) := by kernel_rfl
theorem fw_2 (x : Int) (c p z s o d : Bool) (e0 e : TypeId) (g : List Sv) :
    evOps Try.prog Γ0.wide (callE Try.prog Γ0 (ev Try.prog Γ0 60)) Lf.R4.toList Lf.es4 (setN (fr 21 [0, 2, 3, 7] [.v (.int .u32 x), .ptr 0 0, .ptr 1 0, .ptr 3 0] g) Lf.te (.tup [.v (.int .u64 2), .ptr 1 1])) [.cells [.v (.bool false), .v (.bool false), .v (.bool false), .v (.bool false), .v (.bool false), .v (.bool false)] e0, .cells [.v (.bool c), .v (.bool p), .v (.bool z), .v (.bool s), .v (.bool o), .v (.bool d)] e, .dead, .dead] (fun t' m' => ev Try.prog Γ0 60 (fun _ => none) Lf.rest t' m' (liveK [0, 2, 3, 7])) (fun _ _ _ => none) =
    (some
    (0, 21, [Sv.v (Value.int IntKind.u32 x), Sv.ptr 0 0, Sv.ptr 1 0, Sv.ptr 3 0],
    [SObj.cells
    [Sv.v (Value.bool false), Sv.v (Value.bool false), Sv.v (Value.bool false), Sv.v (Value.bool false),
    Sv.v (Value.bool false), Sv.v (Value.bool false)]
    e0,
    SObj.cells
    [Sv.v (Value.bool c), Sv.v (Value.bool (bitsL BinOp.and IntKind.u32 (Int.fdiv x 4) 1 == 1)), Sv.v (Value.bool z),
    Sv.v (Value.bool s), Sv.v (Value.bool o), Sv.v (Value.bool d)]
    e,
    SObj.dead, SObj.dead])) := by kernel_rfl
theorem fw_6 (x : Int) (c p z s o d : Bool) (e0 e : TypeId) (g : List Sv) :
    evOps Try.prog Γ0.wide (callE Try.prog Γ0 (ev Try.prog Γ0 60)) Lf.R4.toList Lf.es4 (setN (fr 21 [0, 2, 3, 7] [.v (.int .u32 x), .ptr 0 0, .ptr 1 0, .ptr 3 0] g) Lf.te (.tup [.v (.int .u64 6), .ptr 1 2])) [.cells [.v (.bool false), .v (.bool false), .v (.bool false), .v (.bool false), .v (.bool false), .v (.bool false)] e0, .cells [.v (.bool c), .v (.bool p), .v (.bool z), .v (.bool s), .v (.bool o), .v (.bool d)] e, .dead, .dead] (fun t' m' => ev Try.prog Γ0 60 (fun _ => none) Lf.rest t' m' (liveK [0, 2, 3, 7])) (fun _ _ _ => none) =
    (some
    (0, 21, [Sv.v (Value.int IntKind.u32 x), Sv.ptr 0 0, Sv.ptr 1 0, Sv.ptr 3 0],
    [SObj.cells
    [Sv.v (Value.bool false), Sv.v (Value.bool false), Sv.v (Value.bool false), Sv.v (Value.bool false),
    Sv.v (Value.bool false), Sv.v (Value.bool false)]
    e0,
    SObj.cells
    [Sv.v (Value.bool c), Sv.v (Value.bool p), Sv.v (Value.bool (bitsL BinOp.and IntKind.u32 (Int.fdiv x 64) 1 == 1)),
    Sv.v (Value.bool s), Sv.v (Value.bool o), Sv.v (Value.bool d)]
    e,
    SObj.dead, SObj.dead])) := by kernel_rfl
theorem fw_7 (x : Int) (c p z s o d : Bool) (e0 e : TypeId) (g : List Sv) :
    evOps Try.prog Γ0.wide (callE Try.prog Γ0 (ev Try.prog Γ0 60)) Lf.R4.toList Lf.es4 (setN (fr 21 [0, 2, 3, 7] [.v (.int .u32 x), .ptr 0 0, .ptr 1 0, .ptr 3 0] g) Lf.te (.tup [.v (.int .u64 7), .ptr 1 3])) [.cells [.v (.bool false), .v (.bool false), .v (.bool false), .v (.bool false), .v (.bool false), .v (.bool false)] e0, .cells [.v (.bool c), .v (.bool p), .v (.bool z), .v (.bool s), .v (.bool o), .v (.bool d)] e, .dead, .dead] (fun t' m' => ev Try.prog Γ0 60 (fun _ => none) Lf.rest t' m' (liveK [0, 2, 3, 7])) (fun _ _ _ => none) =
    (some
    (0, 21, [Sv.v (Value.int IntKind.u32 x), Sv.ptr 0 0, Sv.ptr 1 0, Sv.ptr 3 0],
    [SObj.cells
    [Sv.v (Value.bool false), Sv.v (Value.bool false), Sv.v (Value.bool false), Sv.v (Value.bool false),
    Sv.v (Value.bool false), Sv.v (Value.bool false)]
    e0,
    SObj.cells
    [Sv.v (Value.bool c), Sv.v (Value.bool p), Sv.v (Value.bool z),
    Sv.v (Value.bool (bitsL BinOp.and IntKind.u32 (Int.fdiv x 128) 1 == 1)), Sv.v (Value.bool o), Sv.v (Value.bool d)]
    e,
    SObj.dead, SObj.dead])) := by kernel_rfl
theorem fw_10 (x : Int) (c p z s o d : Bool) (e0 e : TypeId) (g : List Sv) :
    evOps Try.prog Γ0.wide (callE Try.prog Γ0 (ev Try.prog Γ0 60)) Lf.R4.toList Lf.es4 (setN (fr 21 [0, 2, 3, 7] [.v (.int .u32 x), .ptr 0 0, .ptr 1 0, .ptr 3 0] g) Lf.te (.tup [.v (.int .u64 10), .ptr 1 5])) [.cells [.v (.bool false), .v (.bool false), .v (.bool false), .v (.bool false), .v (.bool false), .v (.bool false)] e0, .cells [.v (.bool c), .v (.bool p), .v (.bool z), .v (.bool s), .v (.bool o), .v (.bool d)] e, .dead, .dead] (fun t' m' => ev Try.prog Γ0 60 (fun _ => none) Lf.rest t' m' (liveK [0, 2, 3, 7])) (fun _ _ _ => none) =
    (some
    (0, 21, [Sv.v (Value.int IntKind.u32 x), Sv.ptr 0 0, Sv.ptr 1 0, Sv.ptr 3 0],
    [SObj.cells
    [Sv.v (Value.bool false), Sv.v (Value.bool false), Sv.v (Value.bool false), Sv.v (Value.bool false),
    Sv.v (Value.bool false), Sv.v (Value.bool false)]
    e0,
    SObj.cells
    [Sv.v (Value.bool c), Sv.v (Value.bool p), Sv.v (Value.bool z), Sv.v (Value.bool s), Sv.v (Value.bool o),
    Sv.v (Value.bool (bitsL BinOp.and IntKind.u32 (Int.fdiv x 1024) 1 == 1))]
    e,
    SObj.dead, SObj.dead])) := by kernel_rfl
theorem fw_11 (x : Int) (c p z s o d : Bool) (e0 e : TypeId) (g : List Sv) :
    evOps Try.prog Γ0.wide (callE Try.prog Γ0 (ev Try.prog Γ0 60)) Lf.R4.toList Lf.es4 (setN (fr 21 [0, 2, 3, 7] [.v (.int .u32 x), .ptr 0 0, .ptr 1 0, .ptr 3 0] g) Lf.te (.tup [.v (.int .u64 11), .ptr 1 4])) [.cells [.v (.bool false), .v (.bool false), .v (.bool false), .v (.bool false), .v (.bool false), .v (.bool false)] e0, .cells [.v (.bool c), .v (.bool p), .v (.bool z), .v (.bool s), .v (.bool o), .v (.bool d)] e, .dead, .dead] (fun t' m' => ev Try.prog Γ0 60 (fun _ => none) Lf.rest t' m' (liveK [0, 2, 3, 7])) (fun _ _ _ => none) =
    (some
    (0, 21, [Sv.v (Value.int IntKind.u32 x), Sv.ptr 0 0, Sv.ptr 1 0, Sv.ptr 3 0],
    [SObj.cells
    [Sv.v (Value.bool false), Sv.v (Value.bool false), Sv.v (Value.bool false), Sv.v (Value.bool false),
    Sv.v (Value.bool false), Sv.v (Value.bool false)]
    e0,
    SObj.cells
    [Sv.v (Value.bool c), Sv.v (Value.bool p), Sv.v (Value.bool z), Sv.v (Value.bool s),
    Sv.v (Value.bool (bitsL BinOp.and IntKind.u32 (Int.fdiv x 2048) 1 == 1)), Sv.v (Value.bool d)]
    e,
    SObj.dead, SObj.dead])) := by kernel_rfl
structure FwS where
  x : Int
  e0 : TypeId
  e : TypeId
def fwA : RangeSpec FwS where
  len := 21
  slots := [0, 2, 3, 7]
  q := .u64
  b := 2
  c := 3
  es := fun _ => [(0, .ptr 1 0), (2, .ptr 1 1), (6, .ptr 1 2), (7, .ptr 1 3), (10, .ptr 1 5), (11, .ptr 1 4)]
  vals := fun a S => [.v (.int .u32 a.x), .ptr 0 0, .ptr 1 0, .ptr 3 0]
  ms := fun a S => [.cells [.v (.bool false), .v (.bool false), .v (.bool false), .v (.bool false), .v (.bool false), .v (.bool false)] a.e0, .cells [.v (.bool (S 0 && fb a.x 1)), .v (.bool (S 2 && fb a.x 4)), .v (.bool (S 6 && fb a.x 64)), .v (.bool (S 7 && fb a.x 128)), .v (.bool (S 11 && fb a.x 2048)), .v (.bool (S 10 && fb a.x 1024))] a.e, .dead, .dead]
  m0 := fun a => [.cells [.v (.bool false), .v (.bool false), .v (.bool false), .v (.bool false), .v (.bool false), .v (.bool false)] a.e0, .cells [.v (.bool false), .v (.bool false), .v (.bool false), .v (.bool false), .v (.bool false), .v (.bool false)] a.e, .pm .u64 [(0, .ptr 1 0), (2, .ptr 1 1), (6, .ptr 1 2), (7, .ptr 1 3), (10, .ptr 1 5), (11, .ptr 1 4)], .it 2 6]
  valsF := fun a => [.v (.int .u32 a.x), .ptr 0 0, .ptr 1 0, .ptr 3 0]
  msF := fun a => [.cells [.v (.bool false), .v (.bool false), .v (.bool false), .v (.bool false), .v (.bool false), .v (.bool false)] a.e0, .cells [.v (.bool (fb a.x 1)), .v (.bool (fb a.x 4)), .v (.bool (fb a.x 64)), .v (.bool (fb a.x 128)), .v (.bool (fb a.x 2048)), .v (.bool (fb a.x 1024))] a.e, .dead, .dead]
theorem Lf_slots : Lf.tn = 8 ∧ Lf.x = 9 ∧ Lf.it = 7 ∧ Lf.te = 10 := by
  have h := Lf_sl
  simp only [Prod.mk.injEq] at h
  exact h
theorem fwA_ok : fwA.Ok Try.prog Γ0 60 Lf where
  code := Lf_ok
  it := fun a S t h => by
    have h1 : [0, 2, 3, 7].map (nth t) = [.v (.int .u32 a.x), .ptr 0 0, .ptr 1 0, .ptr 3 0] := h
    simp only [List.map_cons, List.map_nil, List.cons.injEq, and_true] at h1
    rw [Lf_slots.2.2.1]; exact h1.2.2.2
  s1 := by rw [Lf_slots.1]; decide
  s2 := by rw [Lf_slots.2.1]; decide
  lx := by rw [Lf_slots.2.1]; decide
  ltn := by rw [Lf_slots.1]; decide
  ro := fun a S x hx => by
    simp only [fwA, List.mem_cons, List.not_mem_nil, or_false] at hx
    rcases hx with rfl | rfl | rfl | rfl <;> rfl
  nd := fun a => by show ([0, 2, 6, 7, 10, 11] : List Int).Nodup; decide
  bc := by decide
  mb := fun a => rfl
  mc := fun a => rfl
  start := fun a => rfl
  fin := fun a S h => by
    have hk : ∀ k i, (k, Sv.ptr 1 i) ∈ fwA.es a → S k = true := fun k i hm => h _ hm
    have h0 := hk 0 0 (by simp [fwA]); have h2 := hk 2 1 (by simp [fwA]); have h6 := hk 6 2 (by simp [fwA]); have h7 := hk 7 3 (by simp [fwA]); have h10 := hk 10 5 (by simp [fwA]); have h11 := hk 11 4 (by simp [fwA])
    refine ⟨rfl, ?_⟩
    simp only [fwA, h0, h2, h6, h7, h10, h11, Bool.true_and]
  round := fun a S t k v hl hv hm hS => by
    have ht : fr 21 [0, 2, 3, 7] (fwA.vals a S) t = t := by rw [← hv]; exact fr_self hl
    simp only [fwA, List.mem_cons, Prod.mk.injEq, List.not_mem_nil, or_false] at hm
    rcases hm with ⟨rfl, rfl⟩ | ⟨rfl, rfl⟩ | ⟨rfl, rfl⟩ | ⟨rfl, rfl⟩ | ⟨rfl, rfl⟩ | ⟨rfl, rfl⟩
    · have h := fw_0 a.x (S 0 && fb a.x 1) (S 2 && fb a.x 4) (S 6 && fb a.x 64) (S 7 && fb a.x 128) (S 11 && fb a.x 2048) (S 10 && fb a.x 1024) a.e0 a.e t
      have ht2 : fr 21 [0, 2, 3, 7] [.v (.int .u32 a.x), .ptr 0 0, .ptr 1 0, .ptr 3 0] t = t := ht
      rw [ht2] at h
      simp only [bitsL_eq] at h
      exact h
    · have h := fw_2 a.x (S 0 && fb a.x 1) (S 2 && fb a.x 4) (S 6 && fb a.x 64) (S 7 && fb a.x 128) (S 11 && fb a.x 2048) (S 10 && fb a.x 1024) a.e0 a.e t
      have ht2 : fr 21 [0, 2, 3, 7] [.v (.int .u32 a.x), .ptr 0 0, .ptr 1 0, .ptr 3 0] t = t := ht
      rw [ht2] at h
      simp only [bitsL_eq] at h
      exact h
    · have h := fw_6 a.x (S 0 && fb a.x 1) (S 2 && fb a.x 4) (S 6 && fb a.x 64) (S 7 && fb a.x 128) (S 11 && fb a.x 2048) (S 10 && fb a.x 1024) a.e0 a.e t
      have ht2 : fr 21 [0, 2, 3, 7] [.v (.int .u32 a.x), .ptr 0 0, .ptr 1 0, .ptr 3 0] t = t := ht
      rw [ht2] at h
      simp only [bitsL_eq] at h
      exact h
    · have h := fw_7 a.x (S 0 && fb a.x 1) (S 2 && fb a.x 4) (S 6 && fb a.x 64) (S 7 && fb a.x 128) (S 11 && fb a.x 2048) (S 10 && fb a.x 1024) a.e0 a.e t
      have ht2 : fr 21 [0, 2, 3, 7] [.v (.int .u32 a.x), .ptr 0 0, .ptr 1 0, .ptr 3 0] t = t := ht
      rw [ht2] at h
      simp only [bitsL_eq] at h
      exact h
    · have h := fw_10 a.x (S 0 && fb a.x 1) (S 2 && fb a.x 4) (S 6 && fb a.x 64) (S 7 && fb a.x 128) (S 11 && fb a.x 2048) (S 10 && fb a.x 1024) a.e0 a.e t
      have ht2 : fr 21 [0, 2, 3, 7] [.v (.int .u32 a.x), .ptr 0 0, .ptr 1 0, .ptr 3 0] t = t := ht
      rw [ht2] at h
      simp only [bitsL_eq] at h
      exact h
    · have h := fw_11 a.x (S 0 && fb a.x 1) (S 2 && fb a.x 4) (S 6 && fb a.x 64) (S 7 && fb a.x 128) (S 11 && fb a.x 2048) (S 10 && fb a.x 1024) a.e0 a.e t
      have ht2 : fr 21 [0, 2, 3, 7] [.v (.int .u32 a.x), .ptr 0 0, .ptr 1 0, .ptr 3 0] t = t := ht
      rw [ht2] at h
      simp only [bitsL_eq] at h
      exact h
def fwDec : (R : Type) → List Sv → List SObj → (FwS → Option R) → Option R := fun R l m k => match l with
  | [.v (.int .u32 x), .ptr p0 p1, .ptr p2 p3, .ptr p4 p5] => (match m with
    | [.cells [.v (.bool z0), .v (.bool z1), .v (.bool z2), .v (.bool z3), .v (.bool z4), .v (.bool z5)] e0, .cells [.v (.bool y0), .v (.bool y1), .v (.bool y2), .v (.bool y3), .v (.bool y4), .v (.bool y5)] e, .pm .u64 [(k0, .ptr b0 o0), (k2, .ptr b2 o2), (k6, .ptr b6 o6), (k7, .ptr b7 o7), (k10, .ptr b10 o10), (k11, .ptr b11 o11)], .it ib n6] => bif (decide (p0 = 0) && (decide (p1 = 0) && (decide (p2 = 1) && (decide (p3 = 0) && (decide (p4 = 3) && (decide (p5 = 0) && (!z0 && (!z1 && (!z2 && (!z3 && (!z4 && (!z5 && (!y0 && (!y1 && (!y2 && (!y3 && (!y4 && (!y5 && ((k0 == 0) && ((k2 == 2) && ((k6 == 6) && ((k7 == 7) && ((k10 == 10) && ((k11 == 11) && (decide (b0 = 1) && (decide (b2 = 1) && (decide (b6 = 1) && (decide (b7 = 1) && (decide (b10 = 1) && (decide (b11 = 1) && (decide (o0 = 0) && (decide (o2 = 1) && (decide (o6 = 2) && (decide (o7 = 3) && (decide (o10 = 5) && (decide (o11 = 4) && (decide (ib = 2) && decide (n6 = 6)))))))))))))))))))))))))))))))))))))) then k ⟨x, e0, e⟩ else none
    | _ => none)
  | _ => none
theorem fwDec_ok : ∀ (R : Type) l m (k : FwS → Option R) r, fwDec R l m k = some r → ∃ a, k a = some r ∧ l = fwA.vals a (fun _ => false) ∧ m = fwA.m0 a := by
  intro R l m k r h
  unfold fwDec at h
  split at h
  · split at h
    · obtain ⟨hg, h2⟩ := cond_some h
      clear h
      simp only [Bool.and_eq_true, decide_eq_true_eq, beq_iff_eq, Bool.not_eq_true'] at hg
      obtain ⟨rfl, rfl, rfl, rfl, rfl, rfl, rfl, rfl, rfl, rfl, rfl, rfl, rfl, rfl, rfl, rfl, rfl, rfl, rfl, rfl, rfl, rfl, rfl, rfl, rfl, rfl, rfl, rfl, rfl, rfl, rfl, rfl, rfl, rfl, rfl, rfl, rfl, rfl⟩ := hg
      exact ⟨_, h2, rfl, rfl⟩
    · cases h
  · cases h
def ΓRg1 : Env := (Γ0.hook 19 0 (rangeHook wdA wdDec)).hook 21 0 (rangeHook fwA fwDec)
theorem wd_hook : HookOk Try.prog X0 (.block 0 (.loop (roundOf Try.prog 19 0))) (rangeHook wdA wdDec) := by
  have h := rangeHook_ok (X := X0) Γ0_ok wdA_ok wdDec_ok
  rw [Lw_code, Lw_id] at h; exact h
theorem fw_hook : HookOk Try.prog X0 (.block 0 (.loop (roundOf Try.prog 21 0))) (rangeHook fwA fwDec) := by
  have h := rangeHook_ok (X := X0) Γ0_ok fwA_ok fwDec_ok
  rw [Lf_code, Lf_id] at h; exact h
theorem ΓRg1_ok : EnvOk Try.prog X0 ΓRg1 := (Γ0_ok.hook (a := .loop (roundOf Try.prog 19 0)) (by kernel_rfl) wd_hook).hook (a := .loop (roundOf Try.prog 21 0)) (by kernel_rfl) fw_hook
end Go.Proofs.Ytmmapogcackbbaa
