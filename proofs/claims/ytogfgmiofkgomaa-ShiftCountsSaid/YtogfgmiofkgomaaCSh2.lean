/- The loop of the document's shift, bit by bit. -/
import Derived.Test.YtogfgmiofkgomaaCSh1
namespace Go.Proofs.Ytogfgmiofkgomaa
open Go Go.Ev
set_option linter.unusedVariables false
set_option linter.unusedSimpArgs false
set_option maxRecDepth 100000
theorem sh_form (op v n w i : Int) (c : Bool) (p5 p9 : Sv) (m : List SObj) (g : List Sv) :
    ev Try.prog ΓSh1 60 (fun _ => none) (roundOf Try.prog 31 0) (fr 125 [0, 2, 3, 5, 9, 10, 11, 12] [.v (.int .i64 op), .v (.int .u32 v), .v (.int .u32 n), p5, p9, .v (.int .u32 w), .v (.bool c), .v (.int .u32 i)] g) m (liveK [0, 2, 3, 5, 9, 10, 11, 12]) =
    (bif decide (i < n) then
    bif op == 28 then
    some
    (0, 125,
    [Sv.v (Value.int IntKind.i64 op), Sv.v (Value.int IntKind.u32 v), Sv.v (Value.int IntKind.u32 n), p5, p9,
    Sv.v (Value.int IntKind.u32 (IntKind.wrap IntKind.u32 (w * 2))), Sv.v (Value.bool (Int.fdiv w 2147483648 == 1)),
    Sv.v (Value.int IntKind.u32 (IntKind.wrap IntKind.u32 (i + 1)))],
    m)
    else
    bif op == 29 then
    some
    (0, 125,
    [Sv.v (Value.int IntKind.i64 op), Sv.v (Value.int IntKind.u32 v), Sv.v (Value.int IntKind.u32 n), p5, p9,
    Sv.v (Value.int IntKind.u32 (Int.fdiv w 2)), Sv.v (Value.bool (bitsL BinOp.and IntKind.u32 w 1 == 1)),
    Sv.v (Value.int IntKind.u32 (IntKind.wrap IntKind.u32 (i + 1)))],
    m)
    else
    bif op == 30 then
    some
    (0, 125,
    [Sv.v (Value.int IntKind.i64 op), Sv.v (Value.int IntKind.u32 v), Sv.v (Value.int IntKind.u32 n), p5, p9,
    Sv.v
    (Value.int IntKind.u32
    (bitsL BinOp.or IntKind.u32 (Int.fdiv w 2) (IntKind.wrap IntKind.u32 (Int.fdiv w 2147483648 * 2147483648)))),
    Sv.v (Value.bool (bitsL BinOp.and IntKind.u32 w 1 == 1)),
    Sv.v (Value.int IntKind.u32 (IntKind.wrap IntKind.u32 (i + 1)))],
    m)
    else
    bif op == 26 then
    some
    (0, 125,
    [Sv.v (Value.int IntKind.i64 op), Sv.v (Value.int IntKind.u32 v), Sv.v (Value.int IntKind.u32 n), p5, p9,
    Sv.v (Value.int IntKind.u32 (bitsL BinOp.or IntKind.u32 (IntKind.wrap IntKind.u32 (w * 2)) (Int.fdiv w 2147483648))),
    Sv.v
    (Value.bool
    (bitsL BinOp.and IntKind.u32 (bitsL BinOp.or IntKind.u32 (IntKind.wrap IntKind.u32 (w * 2)) (Int.fdiv w 2147483648))
    1 ==
    1)),
    Sv.v (Value.int IntKind.u32 (IntKind.wrap IntKind.u32 (i + 1)))],
    m)
    else
    some
    (0, 125,
    [Sv.v (Value.int IntKind.i64 op), Sv.v (Value.int IntKind.u32 v), Sv.v (Value.int IntKind.u32 n), p5, p9,
    Sv.v
    (Value.int IntKind.u32
    (bitsL BinOp.or IntKind.u32 (Int.fdiv w 2) (IntKind.wrap IntKind.u32 (bitsL BinOp.and IntKind.u32 w 1 * 2147483648)))),
    Sv.v
    (Value.bool
    (Int.fdiv
    (bitsL BinOp.or IntKind.u32 (Int.fdiv w 2) (IntKind.wrap IntKind.u32 (bitsL BinOp.and IntKind.u32 w 1 * 2147483648)))
    2147483648 ==
    1)),
    Sv.v (Value.int IntKind.u32 (IntKind.wrap IntKind.u32 (i + 1)))],
    m)
    else
    some
    (2, 125,
    [Sv.v (Value.int IntKind.i64 op), Sv.v (Value.int IntKind.u32 v), Sv.v (Value.int IntKind.u32 n), p5, p9,
    Sv.v (Value.int IntKind.u32 w), Sv.v (Value.bool c), Sv.v (Value.int IntKind.u32 i)],
    m)) := by kernel_rfl
theorem sh_round (op v n w i : Int) (c : Bool) (p5 p9 : Sv) (m : List SObj) (g : List Sv) (ho : knownV op = true) (h0 : 0 ≤ w) (h1 : w < 4294967296) (hc : decide (i < n) = true) :
    ev Try.prog ΓSh1 60 (fun _ => none) (roundOf Try.prog 31 0) (fr 125 [0, 2, 3, 5, 9, 10, 11, 12] [.v (.int .i64 op), .v (.int .u32 v), .v (.int .u32 n), p5, p9, .v (.int .u32 w), .v (.bool c), .v (.int .u32 i)] g) m (liveK [0, 2, 3, 5, 9, 10, 11, 12]) =
    some (0, 125, [.v (.int .i64 op), .v (.int .u32 v), .v (.int .u32 n), p5, p9, .v (.int .u32 (stW op w)), .v (.bool (stC op w)), .v (.int .u32 (IntKind.u32.wrap (i + 1)))], m) := by
  rw [sh_form, hc, cond_true]
  simp only [bitsL_eq, fdiv2, fdiv31, and_1 h0 h1]
  rcases knownV_cases ho with rfl | rfl | rfl | rfl | rfl
  · rw [show ((28 : Int) == 28) = true from rfl, cond_true, wr_u32]; rfl
  · rw [show ((29 : Int) == 28) = false from rfl, cond_false, show ((29 : Int) == 29) = true from rfl, cond_true]; rfl
  · rw [show ((30 : Int) == 28) = false from rfl, cond_false, show ((30 : Int) == 29) = false from rfl, cond_false, show ((30 : Int) == 30) = true from rfl, cond_true, or_sar h0 h1]; rfl
  · rw [show ((26 : Int) == 28) = false from rfl, cond_false, show ((26 : Int) == 29) = false from rfl, cond_false, show ((26 : Int) == 30) = false from rfl, cond_false, show ((26 : Int) == 26) = true from rfl, cond_true, or_rol h0 h1,
      and_1 (x := w * 2 % 4294967296 + w / 2147483648) (by omega) (by omega)]; rfl
  · rw [show ((27 : Int) == 28) = false from rfl, cond_false, show ((27 : Int) == 29) = false from rfl, cond_false, show ((27 : Int) == 30) = false from rfl, cond_false, show ((27 : Int) == 26) = false from rfl, cond_false, or_ror h0 h1]; rfl
structure ShS where
  op : Int
  v : Int
  n : Int
  p5 : Sv
  p9 : Sv
  w0 : Int
  m : List SObj
  i : Nat
def shVals (s : ShS) : List Sv := [.v (.int .i64 s.op), .v (.int .u32 s.v), .v (.int .u32 s.n), s.p5, s.p9, .v (.int .u32 (shW s.op s.w0 s.i)), .v (.bool (shC s.op s.w0 s.i)), .v (.int .u32 (s.i : Int))]
def shL : Rounds ShS ShS where
  len := 125
  slots := [0, 2, 3, 5, 9, 10, 11, 12]
  vals := shVals
  ms := fun s => s.m
  Inv := fun s => knownV s.op = true ∧ (0 ≤ s.w0 ∧ s.w0 < 4294967296) ∧ s.n ≤ 31 ∧ (s.i : Int) ≤ s.n
  cond := fun s => decide ((s.i : Int) < s.n)
  next := fun s => { s with i := s.i + 1 }
  μ := fun s => s.n.toNat - s.i
  out := fun s => s
  ex := fun _ => 1
  vals2 := shVals
  ms2 := fun s => s.m
theorem shL_ok : shL.Ok Try.prog ΓSh1 60 (roundOf Try.prog 31 0) where
  more := by
    intro s g ⟨ho, ⟨h0, h1⟩, hn, hi⟩ hc
    have hlt : (s.i : Int) < s.n := of_decide_eq_true hc
    have hb := sh_bd ho h0 h1 s.i (by omega)
    obtain ⟨e1, e2⟩ := st_next ho h0 h1 s.i (by omega)
    have h := sh_round s.op s.v s.n (shW s.op s.w0 s.i) s.i (shC s.op s.w0 s.i) s.p5 s.p9 s.m g ho hb.1 hb.2 hc
    rw [e1, e2, wr_u32_id (by omega) (by omega)] at h
    exact h
  done := by
    intro s g ⟨ho, ⟨h0, h1⟩, hn, hi⟩ hc
    have h := sh_form s.op s.v s.n (shW s.op s.w0 s.i) s.i (shC s.op s.w0 s.i) s.p5 s.p9 s.m g
    have hc' : decide ((s.i : Int) < s.n) = false := hc
    rw [hc', cond_false] at h
    exact h
  inv := by
    intro s ⟨ho, hw, hn, hi⟩ hc
    have hlt : (s.i : Int) < s.n := of_decide_eq_true hc
    refine ⟨⟨ho, hw, hn, ?_⟩, ?_⟩
    · show ((s.i + 1 : Nat) : Int) ≤ s.n; omega
    · show s.n.toNat - (s.i + 1) < s.n.toNat - s.i; omega
def shDec : (R : Type) → List Sv → List SObj → (ShS → Option R) → Option R := fun R l m k => match l with
  | [.v (.int .i64 op), .v (.int .u32 v), .v (.int .u32 n), p5, p9, .v (.int .u32 w), .v (.bool c), .v (.int .u32 i)] =>
    bif knownV op && (in32 w && (decide (n ≤ 31) && (decide (0 ≤ n) && (!c && (i == 0))))) then k ⟨op, v, n, p5, p9, w, m, 0⟩ else none
  | _ => none
def shFin (s : ShS) : ShS := { s with i := s.n.toNat }
theorem sh_iter : ∀ (k : Nat) (s : ShS), s.n.toNat - s.i = k → (s.i : Int) ≤ s.n → iterN shL.cond shL.next k s = shFin s
  | 0, s, hk, hi => by
    have e : s.i = s.n.toNat := by omega
    cases s
    simp only at e
    subst e
    rfl
  | k + 1, s, hk, hi => by
    have hc : shL.cond s = true := by show decide ((s.i : Int) < s.n) = true; rw [decide_eq_true_eq]; omega
    simp only [iterN, hc, cond_true]
    rw [sh_iter k (shL.next s) (by show s.n.toNat - (s.i + 1) = k; omega) (by show ((s.i + 1 : Nat) : Int) ≤ s.n; omega)]
    rfl
theorem shDec_ok : ∀ (R : Type) l m (k : ShS → Option R) r, shDec R l m k = some r → ∃ s, k s = some r ∧ l = shL.vals s ∧ m = shL.ms s ∧ shL.Inv s := by
  intro R l m k r h
  unfold shDec at h
  split at h
  · rename_i op v n p5 p9 w c i
    obtain ⟨hg, h2⟩ := cond_some h
    clear h
    simp only [Bool.and_eq_true, decide_eq_true_eq, in32_iff, beq_iff_eq, Bool.not_eq_true'] at hg
    obtain ⟨ho, hw, hn, hn0, rfl, rfl⟩ := hg
    refine ⟨_, h2, ?_, rfl, ho, hw, hn, hn0⟩
    show _ = shVals _
    unfold shVals
    rw [sh0 hw.1 hw.2, shC0]; rfl
  · cases h
noncomputable def ΓSh2 : Env := ΓSh1.hook 31 0 (loopHook Try.prog X0 shL 0 (roundOf Try.prog 31 0) shDec shFin)
theorem ΓSh2_ok : EnvOk Try.prog X0 ΓSh2 := ΓSh1_ok.hook (a := .loop (roundOf Try.prog 31 0)) (by kernel_rfl) (loopHook_ok ΓSh1_ok shL_ok shDec_ok fun s hi => sh_iter _ s rfl hi.2.2.2)
end Go.Proofs.Ytogfgmiofkgomaa
