/- Conditions, in plain Lean. -/
import Derived.Test.YtpgdpoloipifeaaEv8
namespace Go.Ev
open Go
/-- Does a condition hold? -/
def evenV (k : Int) (fc fp fz fs fo : Bool) : Bool := bif k == 0 then fo else bif k == 1 then fc else bif k == 2 then fz else bif k == 3 then (fc || fz) else bif k == 4 then fs else bif k == 5 then fp else bif k == 6 then (fs != fo) else (fz || (fs != fo))
def holdsV (c : Int) (fc fp fz fs fo : Bool) : Bool := (decide (0 ≤ c) && decide (c < 16)) && (evenV (c / 2) fc fp fz fs fo == (c % 2 == 0))
theorem cond16 {c : Int} (h0 : 0 ≤ c) (h1 : c < 16) : c = 0 ∨ c = 1 ∨ c = 2 ∨ c = 3 ∨ c = 4 ∨ c = 5 ∨ c = 6 ∨ c = 7 ∨ c = 8 ∨ c = 9 ∨ c = 10 ∨ c = 11 ∨ c = 12 ∨ c = 13 ∨ c = 14 ∨ c = 15 := by omega
/-- Where a jump by an immediate leads. -/
def tgB (op ak : Int) : Bool := (op == 31 || (op == 32 || op == 33)) && ak == 4
def tgV (op ak ip len ad : Int) : Int := bif tgB op ak then IntKind.wrap .u32 (IntKind.wrap .u32 (ip + IntKind.wrap .u32 len) + ad) else 0
/-- Two contracts of one function, chosen by the first byte of a row. -/
def headIs (h : Int) : List Sv → List SObj → Bool := fun args m => match args with
  | [.sa b _ _ _] => (match m[b]? with
    | some (.buf _ (.v (.int _ x) :: _) _) => x == h
    | _ => false)
  | [.sl b _ _ _] => (match m[b]? with
    | some (.cells (.v (.int _ x) :: _) _) => x == h
    | _ => false)
  | _ => false
def headIs2 (h g : Int) : List Sv → List SObj → Bool := fun args m => match args with
  | [.sa b _ _ _] => (match m[b]? with
    | some (.buf _ (.v (.int _ x) :: .v (.int _ y) :: _) _) => x == h && y == g
    | _ => false)
  | [.sl b _ _ _] => (match m[b]? with
    | some (.cells (.v (.int _ x) :: .v (.int _ y) :: _) _) => x == h && y == g
    | _ => false)
  | _ => false
def orSpec (sel : List Sv → List SObj → Bool) (a b : Spec) : Spec := fun R args m k kp => bif sel args m then a R args m k kp else b R args m k kp
theorem orSpec_ok {P : Program} {X : Ext} {f : FuncId} {sel : List Sv → List SObj → Bool} {a b : Spec} (ha : SpecOk P X f a) (hb : SpecOk P X f b) : SpecOk P X f (orSpec sel a b) := by
  intro R args m k kp r h
  unfold orSpec at h
  cases hs : sel args m
  · rw [hs] at h; exact hb R args m k kp r h
  · rw [hs] at h; exact ha R args m k kp r h
def headIn (l : List Int) : List Sv → List SObj → Bool := fun args m => l.any fun h => headIs h args m
/-- A contract that answers at some calls alone. -/
def onlySpec (sel : List Sv → List SObj → Bool) (a : Spec) : Spec := fun R args m k kp => bif sel args m then a R args m k kp else none
theorem onlySpec_ok {P : Program} {X : Ext} {f : FuncId} {sel : List Sv → List SObj → Bool} {a : Spec} (ha : SpecOk P X f a) : SpecOk P X f (onlySpec sel a) := by
  intro R args m k kp r h
  unfold onlySpec at h
  cases hs : sel args m
  · rw [hs] at h; cases h
  · rw [hs] at h; exact ha R args m k kp r h
end Go.Ev
namespace Go.Ev
/-- Which operations reckon. -/
def isAluV (op : Int) : Bool := bif op == 23 then false else bif op == 24 then false else bif op == 35 then true else bif op == 36 then true else bif op == 37 then true else bif op == 38 then true else bif op == 41 then true else bif op == 42 then true else bif op == 43 then true else bif op == 44 then true else bif op == 45 then true else bif op == 50 then true else (decide (1 ≤ op) && decide (op ≤ 30))
end Go.Ev
