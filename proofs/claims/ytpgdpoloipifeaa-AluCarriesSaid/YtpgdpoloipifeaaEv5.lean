/- The reckoning itself: code, loops, calls, and its soundness. -/
import Derived.Test.YtpgdpoloipifeaaEv4
import Derived.Test.YtpgdpoloipifeaaEvT
namespace Go.Ev
set_option linter.unusedVariables false
open Go

inductive SEx where
  | normal
  | exit (id : Nat)
  | ret
  | panic (ch : List PanicEntry)

def SEx.toExit : SEx → Exit
  | .normal => .normal
  | .exit id => .exit id
  | .ret => .ret
  | .panic ch => .panic ch

def put (t : List Sv) (d : Option Tmp) (x : Sv) : List Sv :=
  match d with
  | some d => setN t d x
  | none => t

/-- What a call is reckoned by: the function, what it is handed, the memory; what goes on with its answer, with its panic. -/
abbrev CallE (R : Type) := Bool → FuncId → List Sv → List SObj → (Sv → List SObj → Option R) → (List PanicEntry → List SObj → Option R) → Option R

section
variable {R : Type}

def pureE (E : CallE R) : FuncId → List Sv → List SObj → (Sv → Option R) → Option R := fun f args m kv =>
  bif grL args then E false f args [] (fun s _ => bif gr s then kv s else none) (fun _ _ => none) else E true f args m (fun s _ => kv s) (fun _ _ => none)

def one : Sv → Bool
  | .v x => x.oneCell'
  | .ptr _ _ => true
  | .sl _ _ _ _ => true
  | .mp _ => true
  | .nan _ => true
  | .sa _ _ _ _ => true
  | .pix _ _ _ _ => true
  | _ => false
def oneL : List Sv → Bool
  | [] => true
  | x :: l => one x && oneL l

/-- The cells of a value: none: it has none of its own. -/
def cellsS : Sv → Option (List Sv)
  | .agg cs => bif oneL cs then some cs else none
  | x => bif one x then some [x] else none

/-- A row, again and again. -/
def repl : Nat → List Sv → List Sv
  | 0, _ => []
  | n + 1, z => z ++ repl n z

def sizeS (P : Program) (t : TypeId) (n : Nat) : Bool :=
  match P.info? t with
  | some i => Nat.beq n i.size
  | none => false

/-- Is a key none of these? -/
def fresh (a : Int) : List (Int × Sv) → Bool
  | [] => true
  | (b, _) :: es => !(a == b) && fresh a es
/-- An entry, laid where its key belongs. -/
def insS (x : Int × Sv) : List (Int × Sv) → List (Int × Sv)
  | [] => [x]
  | y :: es => bif decide (x.1 < y.1) then x :: y :: es else y :: insS x es
/-- A new key's value is laid into a map whose keys are all told. -/
def updS (P : Program) (T : TypeId) (mv kv xv : Sv) (m : List SObj) (k : Nat → List SObj → Option R) : Option R :=
  match mv with
  | .mp b => match kv with
    | .v (.int q a) => match m[b]? with
      | some (.pm q' es) => bif keyKind P T q && (decide (q' = q) && fresh a es) then k b (m.set b (.pm q' (insS (a, xv) es))) else none
      | _ => none
    | _ => none
  | _ => none
/-- A number is laid into a map of numbers. -/
def updB (P : Program) (T : TypeId) (mv kv xv : Sv) (m : List SObj) (k : List SObj → Option R) : Option R :=
  match mv with
  | .mp b => match m[b]? with
    | some (.bm q qe M) => match kv, xv with
      | .v (.int q' a), .v (.int qe' v) => bif keyKind P T q && (decide (q' = q) && decide (qe' = qe)) then k (m.set b (.bm q qe (updM M a v))) else none
      | _, _ => none
    | some (.m1 q a es clk p nw) => match kv with
      | .v (.int q' a') => match p with
        | none => bif keyKind P T q && (decide (q' = q) && (a' == a)) then k (m.set b (.m1 q a es clk (some xv) true)) else none
        | some _ => none
      | _ => none
    | _ => updS P T mv kv xv m fun _ m' => k m'
  | _ => none
/-- A new map. -/
def mkS (P : Program) (T : TypeId) (m : List SObj) (k : Sv → List SObj → Option R) : Option R := match P.underlying T with
  | some (.map kt et) => (match P.underlying kt with
    | some (.int q) => (match P.underlying et with
      | some (.int .u8) => k (.mp m.length) (m ++ [.bm q .u8 (fun _ => 0)])
      | _ => k (.mp m.length) (m ++ [.pm q []]))
    | _ => none)
  | _ => none

/-- Noughts of one kind. -/
def zerosGo (q : IntKind) : List Sv → Nat → Bool
  | [], 0 => true
  | .v (.int q' x) :: l, n + 1 => match decide (q' = q) && (x == 0) with
    | true => zerosGo q l n
    | false => false
  | _, _ => false
/-- Is it a great row of noughts? -/
def bigZ (P : Program) (e : TypeId) (z : List Sv) : Option (IntKind × Nat) := match P.underlying e with
  | some (.array n et) => match Nat.ble 1024 n with
    | true => match P.underlying et with
      | some (.int q) => match zerosGo q z n with
        | true => some (q, n)
        | false => none
      | _ => none
    | false => none
  | _ => none
def bigB (P : Program) (e : TypeId) : Sv → Option (IntKind × Nat)
  | .agg cs => bigZ P e cs
  | _ => none
/-- A number laid into a row of which a function tells the cells. -/
def storeArr (P : Program) (T : TypeId) (b : Nat) (q : IntKind) (e : TypeId) (n : Nat) (F : Int → Int) (j : Int) (xv : Sv) (m : List SObj) (k : List SObj → Option R) : Option R := match xv with
  | .v (.int q' v) => bif sizeS P T 1 && (decide (q' = q) && decide (j < (n : Int))) then k (m.set b (.arr q e n (updM F j v))) else none
  | _ => none
def zeroIs (ie : TypeInfo) (q : IntKind) : Bool := match ie.zero with
  | some (.int q' z) => decide (q' = q) && (z == 0)
  | _ => false
def zeroOne (ie : TypeInfo) : Bool := match ie.zero with
  | some z => Nat.beq z.cells.size 1
  | none => false
def zeroN (ie : TypeInfo) : Bool := match ie.zero with
  | some z => Nat.beq z.cells.size ie.size
  | none => false
/-- A new row of noughts. -/
def mkRow (P : Program) (T : TypeId) (l c : Sv) (m : List SObj) (k : Sv → List SObj → Option R) : Option R := match P.underlying T with
  | some (.slice e) => match P.underlying e with
    | some (.int q) => match P.info? e with
      | some ie => match l with
        | .v (.int _ a) => match c with
          | .v (.int _ c) => bif Nat.ble ie.bytes 8 && (Nat.beq ie.size 1 && (zeroIs ie q && (decide (0 ≤ a) && (decide (a ≤ c) && decide (c ≤ 1099511627776))))) then
              k (.sl m.length 0 a.toNat c.toNat) (m ++ [.arr q e c.toNat (fun _ => 0)]) else none
          | _ => none
        | _ => none
      | none => none
    | _ => none
  | _ => none
/-- What a slice holds, told one by one. -/
def srcS (m : List SObj) (x : Sv) (sz : Nat) : Option (Nat × List Sv) := match x with
  | .v (.slice none _ _) => some (0, [])
  | .sl b off n _ => match m[b]? with
    | some (.cells cs _) => (match seg cs off (n * sz) with
      | some xs => some (n, xs)
      | none => none)
    | some (.buf _ cs _) => (match seg cs off (n * sz) with
      | some xs => some (n, xs)
      | none => none)
    | _ => none
  | .sa b _ off n => match m[b]? with
    | some (.buf _ cs _) => (match seg cs off (n * sz) with
      | some xs => some (n, xs)
      | none => none)
    | _ => none
  | _ => none
def killO (m : List SObj) : Option Nat → List SObj
  | none => m
  | some b => m.set b .dead
/-- To what something is appended: its row (if it may grow in place), its length, what it holds. -/
def dstS (m : List SObj) (s : Sv) (n sz : Nat) (e : TypeId) : Option (Option Nat × Nat × List Sv) := match s with
  | .v (.slice none 0 0) => some (none, 0, [])
  | .sa b c 0 len => match m[b]? with
    | some (.buf c' cs e') => match Nat.beq c c' && (Nat.beq cs.length (len * sz) && Nat.beq e e') with
      | true => some (some b, len, cs)
      | false => none
    | _ => none
  | .sl b off len cap => match m[b]? with
    | some (.cells cs _) => match Nat.blt cap (len + n) with
      | true => (match seg cs off (len * sz) with
        | some xs => some (none, len, xs)
        | none => none)
      | false => none
    | _ => none
  | _ => none
/-- A row of structs that is told so far (z cells each), and grows. -/
def dstZ (m : List SObj) (s : Sv) (sz : Nat) (e : TypeId) : Option (Nat × Nat × List Sv) := match s with
  | .sa b c 0 len => match m[b]? with
    | some (.bufz z c' cs e') => match Nat.beq c c' && (Nat.beq cs.length (len * sz) && (Nat.beq e e' && Nat.beq z sz)) with
      | true => some (b, len, cs)
      | false => none
    | _ => none
  | _ => none
def appS (P : Program) (ts : Array TypeId) (args : List Sv) (m : List SObj) (k : Sv → List SObj → Option R) : Option R := match ts.toList with
  | [t, t'] => match Nat.beq t t' with
    | true => match P.underlying t with
      | some (.slice e) => match P.info? e with
        | some ie => match args with
          | [s, x] => match srcS m x ie.size with
            | some (n, xs) => match dstS m s n ie.size e with
              | some (ob, len, cs) => match Nat.blt 0 n && (Nat.ble ((len + n) * ie.bytes) 1099511627776 && (Nat.ble (len + n) 1099511627776 && (oneL xs && (Nat.beq ie.size 1 && zeroOne ie)))) with
                | true => k (.sa m.length (m.length + 1) 0 (len + n)) (killO m ob ++ [.buf (m.length + 1) (cs ++ xs) e, .dead])
                | false => match s with
                  | .v (.slice none 0 0) => match Nat.blt 0 n && (Nat.ble (n * ie.bytes) 1099511627776 && (Nat.ble n 1099511627776 && zeroN ie)) with
                    | true => k (.sa m.length (m.length + 1) 0 n) (m ++ [.bufz ie.size (m.length + 1) xs e, .dead, .dead])
                    | false => none
                  | _ => none
              | none => match dstZ m s ie.size e with
                | some (b, len, cs) => match Nat.blt 0 n && (Nat.ble ((len + n) * ie.bytes) 1099511627776 && (Nat.ble (len + n) 1099511627776 && (oneL xs && zeroN ie))) with
                  | true => k (.sa m.length (m.length + 1) 0 (len + n)) (m.set b .dead ++ [.bufz ie.size (m.length + 1) (cs ++ xs) e, .dead])
                  | false => none
                | none => none
            | none => none
          | _ => none
        | none => none
      | _ => none
    | false => none
  | _ => none
/-- The bytes of a string. -/
def strB (s : ByteArray) : List Sv := s.data.toList.map fun b => .v (.int .u8 (b.toNat : Int))
def toBytes (P : Program) (src dst : TypeId) (s : ByteArray) (m : List SObj) (k : Sv → List SObj → Option R) : Option R := match P.underlying src with
  | some .string => match P.underlying dst with
    | some (.slice e) => match P.underlying e with
      | some (.int .u8) => k (.sa m.length (m.length + 1) 0 s.size) (m ++ [.buf (m.length + 1) (strB s) e, .dead])
      | _ => none
    | _ => none
  | _ => none
def isSlT (P : Program) (t : TypeId) : Bool := match P.underlying t with
  | some (.slice _) => true
  | _ => false

/-- A number laid into a row at a place that is not told. -/
def storePix (P : Program) (T : TypeId) (b off len : Nat) (i : Int) (xv : Sv) (m : List SObj) (k : List SObj → Option R) : Option R :=
  match m[b]? with
  | some (.cells cs e) => match xv with
    | .v (.int q v) => match seg cs off len with
      | some l => match intsOf l with
        | some (q', xs) => bif sizeS P T 1 && decide (q = q') then
            (match setSeg cs off ((setSel i v 0 xs).map fun x => .v (.int q' x)) with
            | some cs' => k (m.set b (.cells cs' e))
            | none => none) else none
        | none => none
      | none => none
    | _ => none
  | some (.arr q e n F) => storeArr P T b q e n F (offI off i) xv m k
  | some (.buf c cs e) => match xv with
    | .v (.int q v) => match seg cs off len with
      | some l => match intsOf l with
        | some (q', xs) => bif sizeS P T 1 && decide (q = q') then
            (match setSeg cs off ((setSel i v 0 xs).map fun x => .v (.int q' x)) with
            | some cs' => k (m.set b (.buf c cs' e))
            | none => none) else none
        | none => none
      | none => none
    | _ => none
  | _ => none

/-- One operation, of any kind. 'wide': functions that are handed the memory though they take values alone. -/
def eop (P : Program) (wide : FuncId → Bool) (E : CallE R) (o : Oper) (t : List Sv) (m : List SObj) (k : Sv → List SObj → Option R) (kp : List PanicEntry → List SObj → Option R) : Option R :=
  match o.op with
  | .alloc e => match zeroS P e with
    | some z => match bigZ P e z with
      | some (q, n) => k (.ptr m.length 0) (m ++ [.arr q e n (fun _ => 0)])
      | none => k (.ptr m.length 0) (m ++ [.cells z e])
    | none => none
  | .box e x => match bigB P e (get t x) with
    | some (q, n) => k (.ptr m.length 0) (m ++ [.arr q e n (fun _ => 0)])
    | none => match cellsS (get t x) with
      | some cs => k (.ptr m.length 0) (m ++ [.cells cs e])
      | none => none
  | .makeSlice T l c => mkRow P T (get t l) (get t c) m k
  | .convert src dst x => match isSlT P dst with
    | true => match get t x with
      | .v (.string s) => toBytes P src dst s m k
      | _ => none
    | false => qop P (pureE E) o t m (fun s => k s m)
  | .buildSlice T len parts => match P.underlying T with
    | some (.slice e) => match P.info? e with
      | some ie => match zeroS P e with
        | some z => bif Nat.ble (len * ie.size) 4096 && (!Nat.beq ie.size 0 && Nat.beq z.length ie.size) then
            (match fillS (fun i => some (i * ie.size, ie.size)) (repl len z) (parts.toList.map fun p => (p.1, get t p.2)) with
            | some cs => k (.sl m.length 0 len len) (m ++ [.cells cs e])
            | none => none) else none
        | none => none
      | none => none
    | _ => none
  | .store T a x => match get t a with
    | .ptr b off => match m[b]? with
      | some (.cells cs e) => match cellsS (get t x) with
        | some xs => bif sizeS P T xs.length then (match setSeg cs off xs with
            | some cs' => k (.v undef) (m.set b (.cells cs' e))
            | none => none) else none
        | none => none
      | some (.arr q e n F) => storeArr P T b q e n F (off : Int) (get t x) m fun m' => k (.v undef) m'
      | some (.buf c cs e) => match cellsS (get t x) with
        | some xs => bif sizeS P T xs.length then (match setSeg cs off xs with
            | some cs' => k (.v undef) (m.set b (.buf c cs' e))
            | none => none) else none
        | none => none
      | _ => none
    | .pix b off len i => storePix P T b off len i (get t x) m fun m' => k (.v undef) m'
    | _ => none
  | .makeMap T r => match r with
    | none => mkS P T m k
    | some _ => none
  | .insert T a i x => updS P T (get t a) (get t i) (get t x) m fun _ m' => k (.v undef) m'
  | .mapUpdate T a i x => updB P T (get t a) (get t i) (get t x) m fun m' => k (.v undef) m'
  | .range T x => match get t x with
    | .mp b => match m[b]? with
      | some (.pm q es) => bif keyKind P T q then k (.ptr m.length 0) (m ++ [.it b es.length]) else none
      | _ => none
    | _ => none
  | .panic x => match get t x with
    | .v (.iface T v) => kp [{ v := .iface T v, recovered := false }] m
    | _ => none
  | .binOp op xT x y yT => match fopS op (get t x) (get t y) with
    | some (a, b) => bif fok op a b then k (.v (.float .f64 (fval op a b))) m else k (.nan m.length) (m ++ [.dead])
    | none => qop P (pureE E) o t m (fun s => k s m)
  | .call c => match c.callee with
    | .value f => match get t f with
      | .v (.func (.func fid) first cap) =>
        let args := first.toList.map .v ++ c.args.toList.map (get t) ++ cap.toList.map .v
        bif grL args && !wide fid then E false fid args [] (fun s _ => bif gr s then k s m else none) (fun ch _ => kp ch m)
        else E false fid args m k kp
      | _ => none
    | .builtin .append => appS P c.argTypes (c.args.toList.map (get t)) m k
    | _ => qop P (pureE E) o t m (fun s => k s m)
  | _ => qop P (pureE E) o t m (fun s => k s m)

/-- The same, its spine told. -/
noncomputable def forceL {α : Type} (l : List Sv) : (List Sv → α) → α :=
  List.rec (motive := fun _ => (List Sv → α) → α) (fun k => k []) (fun a _ ih k => ih (fun l' => k (a :: l'))) l
theorem forceL_eq {α : Type} : ∀ (l : List Sv) (k : List Sv → α), forceL l k = k l
  | [], k => rfl
  | a :: l, k => forceL_eq l (fun l' => k (a :: l'))

/-- The bool that a guard looks at. -/
def gbit (ops : List Oper) (j : Nat) (t : List Sv) : Option (Nat × Bool) :=
  match ops[j]? with
  | some g => match g.dst with
    | some d => match t[d]? with
      | some (.v (.bool b)) => some (d, b)
      | _ => none
    | none => none
  | none => none

/-- Is it told that there is none? -/
def gno (ops : List Oper) (j : Nat) (t : List Sv) : Bool :=
  match ops[j]? with
  | some g => match g.dst with
    | some d => match t[d]? with
      | some (.unk _ _) => false
      | _ => true
    | none => true
  | none => true

def gbr (b want : Bool) (x y : Option R) : Option R :=
  match want with
  | true => bif b then x else y
  | false => bif b then y else x

noncomputable def evOps (P : Program) (wide : FuncId → Bool) (E : CallE R) (ops : List Oper) : List Oper → List Sv → List SObj → (List Sv → List SObj → Option R) → (List PanicEntry → List Sv → List SObj → Option R) → Option R
  | [], t, m, k, _ => k t m
  | o :: rest, t, m, k, kp => match o.guard with
    | none => eop P wide E o t m (fun x m' => forceL (put t o.dst x) (fun t => evOps P wide E ops rest t m' k kp)) (fun ch m' => kp ch t m')
    | some (j, want) => match gbit ops j t with
      | some (d, b) => gbr b want
        (eop P wide E o (setN t d (.v (.bool want))) m (fun x m' => forceL (put (setN t d (.v (.bool want))) o.dst x) (fun t => evOps P wide E ops rest t m' k kp)) (fun ch m' => kp ch (setN t d (.v (.bool want))) m'))
        (forceL (put (setN t d (.v (.bool !want))) o.dst (.v undef)) (fun t => evOps P wide E ops rest t m k kp))
      | none => bif gno ops j t then forceL (put t o.dst (.v undef)) (fun t => evOps P wide E ops rest t m k kp) else none

/-- The same where the order is open: operations that leave memory alone. -/
noncomputable def evQ (P : Program) (E : CallE R) (ops : List Oper) (m : List SObj) : List Oper → List Sv → (List Sv → Option R) → Option R
  | [], t, k => k t
  | o :: rest, t, k => match o.guard with
    | none => qop P (pureE E) o t m (fun x => forceL (put t o.dst x) (fun t => evQ P E ops m rest t k))
    | some (j, want) => match gbit ops j t with
      | some (d, b) => gbr b want
        (qop P (pureE E) o (setN t d (.v (.bool want))) m (fun x => forceL (put (setN t d (.v (.bool want))) o.dst x) (fun t => evQ P E ops m rest t k)))
        (forceL (put (setN t d (.v (.bool !want))) o.dst (.v undef)) (fun t => evQ P E ops m rest t k))
      | none => bif gno ops j t then forceL (put t o.dst (.v undef)) (fun t => evQ P E ops m rest t k) else none

/-- Does an operation touch memory, by its look? -/
def effOp (wide : FuncId → Bool) (o : Oper) : Bool :=
  match o.op with
  | .store _ _ _ => true
  | .alloc _ => true
  | .box _ _ => true
  | .buildSlice _ _ _ => true
  | .mapUpdate _ _ _ _ => true
  | .insert _ _ _ _ => true
  | .range _ _ => true
  | .next _ _ => true
  | .makeMap _ _ => true
  | .makeSlice _ _ _ => true
  | .panic _ => true
  | .call c => match c.callee with
    | .builtin .append => true
    | .builtin .copy => true
    | .value (.func f) => wide f
    | _ => false
  | _ => false

/-! ### Where the order is open and there are effects -/
def memN : List Nat → Nat → Bool
  | [], _ => false
  | x :: l, n => Nat.beq x n || memN l n
/-- Memory without some of its objects. -/
def maskD (D : List Nat) : Nat → List SObj → List SObj
  | _, [] => []
  | k, o :: m => (match memN D k with
    | true => (match o with
      | .arr _ _ _ _ => .rowd
      | .ro _ _ _ => .rowd
      | _ => .dead)
    | false => o) :: maskD D (k + 1) m

/-- An effect that touches only these objects, or a new one. -/
def eopO (P : Program) (D : List Nat) (L : Nat) (o : Oper) (t : List Sv) (m : List SObj) (k : Sv → List SObj → Option R) : Option R :=
  match o.op with
  | .alloc e => match zeroS P e with
    | some z => k (.ptr m.length 0) (m ++ [.cells z e])
    | none => none
  | .box e x => match cellsS (get t x) with
    | some cs => k (.ptr m.length 0) (m ++ [.cells cs e])
    | none => none
  | .buildSlice T len parts => match P.underlying T with
    | some (.slice e) => match P.info? e with
      | some ie => match zeroS P e with
        | some z => bif Nat.ble (len * ie.size) 4096 && (!Nat.beq ie.size 0 && Nat.beq z.length ie.size) then
            (match fillS (fun i => some (i * ie.size, ie.size)) (repl len z) (parts.toList.map fun p => (p.1, get t p.2)) with
            | some cs => k (.sl m.length 0 len len) (m ++ [.cells cs e])
            | none => none) else none
        | none => none
      | none => none
    | _ => none
  | .store T a x => match get t a with
    | .ptr b off => match m[b]? with
      | some (.cells cs e) => match cellsS (get t x) with
        | some xs => bif (memN D b || Nat.ble L b) && sizeS P T xs.length then (match setSeg cs off xs with
            | some cs' => k (.v undef) (m.set b (.cells cs' e))
            | none => none) else none
        | none => none
      | _ => none
    | .pix b off len i => storePix P T b off len i (get t x) m fun m' => bif memN D b || Nat.ble L b then k (.v undef) m' else none
    | _ => none
  | .makeMap T r => match r with
    | none => mkS P T m k
    | some _ => none
  | .insert T a i x => updS P T (get t a) (get t i) (get t x) m fun b m' => bif memN D b || Nat.ble L b then k (.v undef) m' else none
  | _ => none

def findDef (d : Nat) : List Oper → Option Oper
  | [] => none
  | o :: l => match o.dst with
    | some e => (match Nat.beq d e with
      | true => some o
      | false => findDef d l)
    | none => findDef d l

/-- A guess at what an operand will be (nothing hangs on it). -/
def peek (P : Program) (ops : List Oper) (m : List SObj) (t : List Sv) : Nat → Operand → Option Sv
  | 0, _ => none
  | f + 1, x => match x with
    | .tmp d => match findDef d ops with
      | some o =>
        let via (y : Operand) : Option Sv := match peek P ops m t f y with
          | some s => qop P (fun _ _ _ _ => none) o (match y with
            | .tmp e => setN t e s
            | _ => t) m some
          | none => none
        match o.op with
        | .fieldAddr _ y _ => via y
        | .load _ y => via y
        | .nilCheck y => via y
        | .move y => via y
        | .assign y => via y
        | .indexAddr _ y _ => peek P ops m t f y
        | _ => none
      | none => some (nth t d)
    | x => some (get t x)

/-- The objects that a region's stores touch. -/
def storesAt (P : Program) (ops : List Oper) (m : List SObj) (t : List Sv) : List Oper → List Nat
  | [] => []
  | o :: l => match o.op with
    | .store _ a _ => (match peek P ops m t 20 a with
      | some (.ptr b _) => b :: storesAt P ops m t l
      | some (.sl b _ _ _) => b :: storesAt P ops m t l
      | _ => storesAt P ops m t l)
    | _ => storesAt P ops m t l

/-- A function's answer out of its frame. -/
def resS (P : Program) (t : List Sv) (m : List SObj) : List ResultVar → Option (List Sv)
  | [] => some []
  | .tmp i :: rs => match resS P t m rs with
    | some l => some (nth t i :: l)
    | none => none
  | .cell a T :: rs => match nth t a with
    | .ptr b off => match m[b]? with
      | some (.cells cs _) => match partS P T cs off, resS P t m rs with
        | some s, some l => some (s :: l)
        | _, _ => none
      | _ => none
    | _ => none

def tupS : List Sv → Sv
  | [x] => x
  | l => .tup l

abbrev Spec := (R : Type) → List Sv → List SObj → (Sv → List SObj → Option R) → (List PanicEntry → List SObj → Option R) → Option R

/-! ### Functions of floats that have no text -/
def bitsX : Spec := fun R args m k kp => match args with
  | [.v (.float .f64 b)] => k (.v (.int .u64 b)) m
  | _ => none
def frombitsX : Spec := fun R args m k kp => match args with
  | [.v (.int .u64 n)] => k (.v (.float .f64 n.toNat)) m
  | _ => none
def sqrtX : Spec := fun R args m k kp => match args with
  | [.v (.float .f64 a)] => bif fsqok a then k (.v (.float .f64 (fsqrt a))) m else k (.nan m.length) (m ++ [.dead])
  | _ => none
def truncX : Spec := fun R args m k kp => match args with
  | [.v (.float .f64 a)] => bif fnan a then k (.nan m.length) (m ++ [.dead]) else k (.v (.float .f64 (ftrunc a))) m
  | _ => none

/-- What is known of a block of code. -/
abbrev Hook := (R : Type) → List Sv → List SObj → (SEx → List Sv → List SObj → Option R) → Option R

/-- The contract of a call that only lays new objects: its answer, the new ones. -/
abbrev NSpec := (R : Type) → List Sv → List SObj → (Sv → List SObj → Option R) → Option R
/-- The contract of a call that turns one object: its answer, which one, what it is then. -/
abbrev WSpec := (R : Type) → List Sv → List SObj → (Sv → Nat → SObj → Option R) → Option R
/-- The contract of a call that turns some objects, or panics and leaves all as it was. -/
abbrev PSpec := (R : Type) → List Sv → List SObj → (Sv → List (Nat × SObj) → Option R) → (List PanicEntry → Option R) → Option R
/-- The contract of a call that leaves memory as it was, or panics: it may float. -/
abbrev QPSpec := (R : Type) → List Sv → List SObj → (Sv → Option R) → (List PanicEntry → Option R) → Option R
inductive NW where
  | n (s : NSpec)
  | w (s : WSpec)
  | p (s : PSpec)
  | q (s : QPSpec)
def upds (m : List SObj) : List (Nat × SObj) → List SObj
  | [] => m
  | (g, o) :: l => upds (m.set g o) l
/-- Slots of which nothing is told. -/
def unkL (b : Nat) : Nat → Nat → List Sv
  | 0, _ => []
  | n + 1, j => .unk b j :: unkL b n (j + 1)

/-- What is known of functions: their answers by contract; which are handed memory; slots told by value; their blocks. -/
structure Env where
  specs : FuncId → Option Spec
  wide : FuncId → Bool
  split : List (Nat × Nat × Nat) := []
  hooks : FuncId → Nat → Option Hook := fun _ _ => none
  quiets : FuncId → Option Spec := fun _ => none
  news : FuncId → Option NW := fun _ => none

/-- A number in a named slot of a frame of so many slots is told by its value, if that lies below a bound. -/
def splitT : List (Nat × Nat × Nat) → List Sv → (List Sv → Option R) → Option R
  | [], t, k => k t
  | (n, d, b) :: l, t, k => match Nat.beq t.length n with
    | true => match nth t d with
      | .v (.int q a) => brIdx b 0 a (fun j => splitT l (setN t d (.v (.int q j))) k)
      | _ => splitT l t k
    | false => splitT l t k

noncomputable def callE (P : Program) (Γ : Env) (E : (Nat → Option Hook) → Code → List Sv → List SObj → (SEx → List Sv → List SObj → Option R) → Option R) : CallE R := fun q f args m k kp => match q with
  | true => (match Γ.quiets f with
    | some s => s R args m k kp
    | none => none)
  | false => match Γ.specs f with
  | some s => s R args m k kp
  | none => match P.funcs[f]? with
    | some fn => match fn.body with
      | some c => E (Γ.hooks f) c (args ++ List.replicate (fn.ntmps - args.length) (.v undef)) m (fun e t' m' =>
        match e with
        | .normal => (match resS P t' m' fn.results.toList with
          | some l => k (tupS l) m'
          | none => none)
        | .ret => (match resS P t' m' fn.results.toList with
          | some l => k (tupS l) m'
          | none => none)
        | .panic ch => kp ch m'
        | _ => none)
      | none => none
    | none => none

def effN (wide : FuncId → Bool) (ops : Array Oper) (i : Nat) : Bool := match ops[i]? with
  | some o => effOp wide o
  | none => false

/-- Does one wait for another, by way of others? -/
def waitsS (md : Region.Mode) (ops : Array Oper) : Nat → Nat → Nat → Bool
  | 0, _, _ => false
  | f + 1, j, i => match ops[j]? with
    | some oj => oj.after.toList.any fun e => Region.binds md e && (Nat.beq e.on i || waitsS md ops f e.on i)
    | none => false
/-- Does one lay an entry into a map? These go in any order. -/
def insOp (o : Oper) : Bool := match o.op with
  | .insert _ _ _ _ => true
  | _ => false
def insN (ops : Array Oper) (i : Nat) : Bool := match ops[i]? with
  | some o => insOp o
  | none => false
def chainS (md : Region.Mode) (ops : Array Oper) (eff ins : Nat → Bool) : Bool :=
  (List.range ops.size).all fun i => !eff i || (List.range ops.size).all fun j => !eff j || (Nat.ble j i || (ins i && ins j || waitsS md ops ops.size j i))

/-- Does each effect wait for it, or it for each? -/
def allE (md : Region.Mode) (ops : Array Oper) (eff : Nat → Bool) (i : Nat) : Bool := (List.range ops.size).all fun e => !eff e || (waitsS md ops ops.size i e || waitsS md ops ops.size e i)
def isLook (o : Oper) : Bool := match o.op with
  | .lookup .. => true
  | _ => false
/-- Such a lookup looks at all that stands. -/
def visB (md : Region.Mode) (ops : Array Oper) (eff : Nat → Bool) (i : Nat) (o : Oper) : Bool := match isLook o with
  | true => allE md ops eff i
  | false => false
def visE (v : Bool) (m mq : List SObj) : List SObj := match v with
  | true => m
  | false => mq
/-- Is it a call with a contract by which it may float? -/
def qN (N : FuncId → Option NW) (o : Oper) (t : List Sv) : Option (QPSpec × List Sv) := match o.op with
  | .call c => match c.callee with
    | .value f => match get t f with
      | .v (.func (.func fid) first cap) => match N fid with
        | some (.q s) => some (s, first.toList.map .v ++ c.args.toList.map (get t) ++ cap.toList.map .v)
        | _ => none
      | _ => none
    | _ => none
  | _ => none
def qopN (P : Program) (E : CallE R) (N : FuncId → Option NW) (o : Oper) (t : List Sv) (mq : List SObj) (k : Sv → Option R) (kp : List PanicEntry → Option R) : Option R := match qN N o t with
  | some (s, args) => s R args mq k kp
  | none => qop P (pureE E) o t mq k
/-- Is it an allocation of which nothing is seen but by those who wait for that call? -/
def floatB (P : Program) (ops : Array Oper) (p e : Nat) : Bool := match ops[e]? with
  | some o => (match o.op with
    | .alloc T => (match zeroS P T with
      | some _ => (match o.guard with
        | none => (match o.dst with
          | some d => (List.range ops.size).all fun i => waitsS .any ops ops.size i p || (match ops[i]? with
            | some oi => !(oi.looksAt ops).contains d
            | none => true)
          | none => false)
        | some _ => false)
      | none => false)
    | _ => false)
  | none => false
def okZ (P : Program) (ops : Array Oper) (eff : Nat → Bool) (p : Nat) : Bool := !eff p && (((List.range ops.size).all fun e => !eff e || (waitsS .any ops ops.size e p || floatB P ops p e)) && ((List.range ops.size).all fun i => match ops[i]? with
  | some o => !visB .any ops eff i o
  | none => true))
/-- Behind a call that panics, where allocations float: what doesn't wait for it may have been done already. -/
noncomputable def evZ (P : Program) (wide : FuncId → Bool) (N : FuncId → Option NW) (E : CallE R) (ops : Array Oper) (p : Nat) (mq : List SObj) : Nat → List Oper → List Sv → Option R → Option R
  | _, [], t, r => r
  | j, o :: rest, t, r => match waitsS .any ops ops.size j p with
    | true => evZ P wide N E ops p mq (j + 1) rest t r
    | false => match effOp wide o with
      | true => evZ P wide N E ops p mq (j + 1) rest t r
      | false => (match o.guard with
        | none => qopN P E N o t mq (fun x => forceL (put t o.dst x) (fun t => evZ P wide N E ops p mq (j + 1) rest t r)) (fun _ => none)
        | some (i, want) => match gbit ops.toList i t with
          | some (d, b) => gbr b want
            (qopN P E N o (setN t d (.v (.bool want))) mq (fun x => forceL (put (setN t d (.v (.bool want))) o.dst x) (fun t => evZ P wide N E ops p mq (j + 1) rest t r)) (fun _ => none))
            (forceL (put (setN t d (.v (.bool !want))) o.dst (.v undef)) (fun t => evZ P wide N E ops p mq (j + 1) rest t r))
          | none => bif gno ops.toList i t then forceL (put t o.dst (.v undef)) (fun t => evZ P wide N E ops p mq (j + 1) rest t r) else none)
noncomputable def evO (P : Program) (wide : FuncId → Bool) (N : FuncId → Option NW) (E : CallE R) (ops : Array Oper) (D : List Nat) (m0 mq : List SObj) : Nat → List Oper → List Sv → List SObj → (List Sv → List SObj → Option R) → (List PanicEntry → List Sv → List SObj → Option R) → Option R
  | _, [], t, m, k, _ => k t m
  | j, o :: rest, t, m, k, kp => match effOp wide o with
    | true => (match o.guard with
      | none => eopO P D mq.length o t m (fun x m' => forceL (put t o.dst x) (fun t => evO P wide N E ops D m0 mq (j + 1) rest t m' k kp))
      | some _ => none)
    | false => (match o.guard with
      | none => qopN P E N o t (visE (visB .any ops (effN wide ops) j o) m mq) (fun x => forceL (put t o.dst x) (fun t => evO P wide N E ops D m0 mq (j + 1) rest t m k kp)) (fun ch => bif okZ P ops (effN wide ops) j then evZ P wide N E ops j mq (j + 1) rest t (kp ch (unkL m0.length t.length 0) (m0 ++ [.dead])) else none)
      | some (i, want) => match gbit ops.toList i t with
        | some (d, b) => gbr b want
          (qopN P E N o (setN t d (.v (.bool want))) (visE (visB .any ops (effN wide ops) j o) m mq) (fun x => forceL (put (setN t d (.v (.bool want))) o.dst x) (fun t => evO P wide N E ops D m0 mq (j + 1) rest t m k kp)) (fun ch => bif okZ P ops (effN wide ops) j then evZ P wide N E ops j mq (j + 1) rest (setN t d (.v (.bool want))) (kp ch (unkL m0.length t.length 0) (m0 ++ [.dead])) else none))
          (forceL (put (setN t d (.v (.bool !want))) o.dst (.v undef)) (fun t => evO P wide N E ops D m0 mq (j + 1) rest t m k kp))
        | none => bif gno ops.toList i t then forceL (put t o.dst (.v undef)) (fun t => evO P wide N E ops D m0 mq (j + 1) rest t m k kp) else none)

/-- What a floating operation may look at. -/
def visC (ops : Array Oper) (mq0 : List SObj) (j : Nat) : List (Nat × List SObj) → List SObj
  | [] => mq0
  | (e, mq) :: l => match waitsS .any ops ops.size j e with
    | true => mq
    | false => visC ops mq0 j l
/-- Does every effect wait for it? -/
def allW (ops : Array Oper) (eff : Nat → Bool) (i : Nat) : Bool := (List.range ops.size).all fun e => !eff e || waitsS .any ops ops.size e i
/-- What every effect waits for looks at all that stands. -/
def visM (ops : Array Oper) (eff : Nat → Bool) (i : Nat) (m mq : List SObj) : List SObj := match allW ops eff i with
  | true => m
  | false => mq
def inD (D : List Nat) : List (Nat × SObj) → Bool
  | [] => true
  | (g, _) :: l => memN D g && inD D l
def callN (N : FuncId → Option NW) (D : List Nat) (o : Oper) (t : List Sv) (m : List SObj) (k : Sv → List SObj → Option R) (kp : List PanicEntry → Option R) : Option R := match o.op with
  | .call c => match c.callee with
    | .value f => match get t f with
      | .v (.func (.func fid) first cap) => match N fid with
        | some (.n s) => s R (first.toList.map .v ++ c.args.toList.map (get t) ++ cap.toList.map .v) m (fun sv ex => k sv (m ++ ex))
        | some (.w s) => s R (first.toList.map .v ++ c.args.toList.map (get t) ++ cap.toList.map .v) m (fun sv g o' => bif memN D g then k sv (m.set g o') else none)
        | some (.p s) => s R (first.toList.map .v ++ c.args.toList.map (get t) ++ cap.toList.map .v) m (fun sv u => bif inD D u then k sv (upds m u) else none) kp
        | _ => none
      | _ => none
    | _ => none
  | _ => none
def isCall (o : Oper) : Bool := match o.op with
  | .call _ => true
  | _ => false
/-- Behind a call that panics: what doesn't wait for it may have been done already. -/
noncomputable def evCp (P : Program) (wide : FuncId → Bool) (N : FuncId → Option NW) (E : CallE R) (ops : Array Oper) (p : Nat) (mq0 : List SObj) (h : List (Nat × List SObj)) (m : List SObj) : Nat → List Oper → List Sv → Option R → Option R
  | _, [], t, r => r
  | j, o :: rest, t, r => match waitsS .any ops ops.size j p with
    | true => evCp P wide N E ops p mq0 h m (j + 1) rest t r
    | false => match effOp wide o with
      | true => none
      | false => (match o.guard with
        | none => qopN P E N o t (visM ops (effN wide ops) j m (visC ops mq0 j h)) (fun x => forceL (put t o.dst x) (fun t => evCp P wide N E ops p mq0 h m (j + 1) rest t r)) (fun _ => none)
        | some (i, want) => match gbit ops.toList i t with
          | some (d, b) => gbr b want
            (qopN P E N o (setN t d (.v (.bool want))) (visM ops (effN wide ops) j m (visC ops mq0 j h)) (fun x => forceL (put (setN t d (.v (.bool want))) o.dst x) (fun t => evCp P wide N E ops p mq0 h m (j + 1) rest t r)) (fun _ => none))
            (forceL (put (setN t d (.v (.bool !want))) o.dst (.v undef)) (fun t => evCp P wide N E ops p mq0 h m (j + 1) rest t r))
          | none => bif gno ops.toList i t then forceL (put t o.dst (.v undef)) (fun t => evCp P wide N E ops p mq0 h m (j + 1) rest t r) else none)
/-- May a call that floats panic: is nothing done ahead of it? -/
def okC (P : Program) (ops : Array Oper) (eff : Nat → Bool) (p : Nat) : Bool := okZ P ops eff p && (List.range ops.size).all fun e => !eff e || Nat.blt p e
/-- A region whose order is open, with calls that lay new objects. -/
noncomputable def evC (P : Program) (wide : FuncId → Bool) (N : FuncId → Option NW) (E : CallE R) (ops : Array Oper) (D : List Nat) (m0 mq0 : List SObj) : Nat → List Oper → List (Nat × List SObj) → List Sv → List SObj → (List Sv → List SObj → Option R) → (List PanicEntry → List Sv → List SObj → Option R) → Option R
  | _, [], _, t, m, k, _ => k t m
  | j, o :: rest, h, t, m, k, kp => match effOp wide o with
    | true => (match isCall o with
      | true => (match o.guard with
        | none => callN N D o t m (fun x m' => forceL (put t o.dst x) (fun t => evC P wide N E ops D m0 mq0 (j + 1) rest ((j, maskD D 0 m') :: h) t m' k kp))
          (fun ch => evCp P wide N E ops j mq0 h m (j + 1) rest t (kp ch (unkL m.length t.length 0) (m ++ [.dead])))
        | some (i, want) => match gbit ops.toList i t with
          | some (d, b) => gbr b want
            (callN N D o (setN t d (.v (.bool want))) m (fun x m' => forceL (put (setN t d (.v (.bool want))) o.dst x) (fun t => evC P wide N E ops D m0 mq0 (j + 1) rest ((j, maskD D 0 m') :: h) t m' k kp))
              (fun ch => evCp P wide N E ops j mq0 h m (j + 1) rest (setN t d (.v (.bool want))) (kp ch (unkL m.length t.length 0) (m ++ [.dead]))))
            (forceL (put (setN t d (.v (.bool !want))) o.dst (.v undef)) (fun t => evC P wide N E ops D m0 mq0 (j + 1) rest ((j, maskD D 0 m) :: h) t m k kp))
          | none => bif gno ops.toList i t then forceL (put t o.dst (.v undef)) (fun t => evC P wide N E ops D m0 mq0 (j + 1) rest ((j, maskD D 0 m) :: h) t m k kp) else none)
      | false => (match o.guard with
        | none => (match insOp o with
          | true => none
          | false => eopO P D (maskD D 0 m).length o t m (fun x m' => forceL (put t o.dst x) (fun t => evC P wide N E ops D m0 mq0 (j + 1) rest ((j, maskD D 0 m') :: h) t m' k kp)))
        | some _ => none))
    | false => (match o.guard with
      | none => qopN P E N o t (visM ops (effN wide ops) j m (visC ops mq0 j h)) (fun x => forceL (put t o.dst x) (fun t => evC P wide N E ops D m0 mq0 (j + 1) rest h t m k kp)) (fun ch => bif okC P ops (effN wide ops) j then evZ P wide N E ops j m0 (j + 1) rest t (kp ch (unkL m0.length t.length 0) (m0 ++ [.dead])) else none)
      | some (i, want) => match gbit ops.toList i t with
        | some (d, b) => gbr b want
          (qopN P E N o (setN t d (.v (.bool want))) (visM ops (effN wide ops) j m (visC ops mq0 j h)) (fun x => forceL (put (setN t d (.v (.bool want))) o.dst x) (fun t => evC P wide N E ops D m0 mq0 (j + 1) rest h t m k kp)) (fun ch => bif okC P ops (effN wide ops) j then evZ P wide N E ops j m0 (j + 1) rest (setN t d (.v (.bool want))) (kp ch (unkL m0.length t.length 0) (m0 ++ [.dead])) else none))
          (forceL (put (setN t d (.v (.bool !want))) o.dst (.v undef)) (fun t => evC P wide N E ops D m0 mq0 (j + 1) rest h t m k kp))
        | none => bif gno ops.toList i t then forceL (put t o.dst (.v undef)) (fun t => evC P wide N E ops D m0 mq0 (j + 1) rest h t m k kp) else none)

def isW (N : FuncId → Option NW) (f : FuncId) : Bool := match N f with
  | some (.w _) => true
  | some (.p _) => true
  | _ => false
/-- Where an object leads. -/
def kidsL : List Sv → List Nat
  | [] => []
  | .ptr b _ :: l => b :: kidsL l
  | .mp b :: l => b :: kidsL l
  | _ :: l => kidsL l
def kidsO (m : List SObj) (b : Nat) : List Nat := match m[b]? with
  | some (.cells cs _) => kidsL cs
  | _ => []
def kidsOf (m : List SObj) : List Nat → List Nat
  | [] => []
  | b :: l => kidsO m b ++ kidsOf m l
def argsAt (P : Program) (ops : List Oper) (m : List SObj) (t : List Sv) : List Operand → List Nat
  | [] => []
  | x :: l => (match peek P ops m t 20 x with
    | some (.ptr b _) => kidsO m b ++ kidsOf m (kidsO m b)
    | _ => []) ++ argsAt P ops m t l
/-- The objects that a region's calls may turn (a guess). -/
def callsAt (P : Program) (N : FuncId → Option NW) (ops : List Oper) (m : List SObj) (t : List Sv) : List Oper → List Nat
  | [] => []
  | o :: l => match o.op with
    | .call c => (match c.callee with
      | .value f => (match get t f with
        | .v (.func (.func fid) _ _) => (match isW N fid with
          | true => argsAt P ops m t c.args.toList ++ callsAt P N ops m t l
          | false => callsAt P N ops m t l)
        | _ => callsAt P N ops m t l)
      | _ => callsAt P N ops m t l)
    | _ => callsAt P N ops m t l

/-- Are there calls among the effects? -/
def callsIn (wide : FuncId → Bool) (ops : Array Oper) : Bool := ops.toList.any fun o => effOp wide o && isCall o

/-- Are rows laid there, but no entries of maps? -/
def hasBS (ops : Array Oper) : Bool := (ops.toList.any fun o => match o.op with
  | .buildSlice _ _ _ => true
  | _ => false) && !(ops.toList.any insOp)
mutual
/-- Does it lead to the first so many objects alone? -/
def ltS (n : Nat) : Sv → Bool
  | .v _ => true
  | .ptr b _ => Nat.blt b n
  | .sl b _ _ _ => Nat.blt b n
  | .sa b c _ _ => Nat.blt b n && Nat.blt c n
  | .mp b => Nat.blt b n
  | .unk b _ => Nat.blt b n
  | .pix b _ _ _ => Nat.blt b n
  | .nan b => Nat.blt b n
  | .agg cs => ltL n cs
  | .tup cs => ltL n cs
def ltL (n : Nat) : List Sv → Bool
  | [] => true
  | c :: cs => ltS n c && ltL n cs
end
/-! ### Where rows and cells are laid in any order -/
/-- Does an operation lay an object whose place is set aside ahead? -/
def creB (ops : Array Oper) (i : Nat) : Bool := match ops[i]? with
  | some o => (match o.guard with
    | none => (match o.dst with
      | some _ => (match o.op with
        | .alloc _ => true
        | .box _ _ => true
        | .buildSlice _ _ _ => true
        | _ => false)
      | none => false)
    | some _ => false)
  | none => false
def rowB (ops : Array Oper) (i : Nat) : Bool := match ops[i]? with
  | some o => (match o.op with
    | .buildSlice _ _ _ => true
    | _ => false)
  | none => false
def crank (ops : Array Oper) (i : Nat) : Nat := (List.range i).countP (creB ops)
/-- The places of those for which it doesn't wait. -/
def unwL (ops : Array Oper) (n0 i : Nat) : List Nat := (List.range ops.size).filterMap fun e => match creB ops e && !waitsS .any ops ops.size i e with
  | true => some (n0 + crank ops e)
  | false => none
/-- The places that effects may touch. -/
def celL (ops : Array Oper) (n0 : Nat) : List Nat := (List.range ops.size).filterMap fun e => match creB ops e && !rowB ops e with
  | true => some (n0 + crank ops e)
  | false => none
def deadU (U : List Nat) : Nat → List SObj → List SObj
  | _, [] => []
  | k, o :: m => (match memN U k with
    | true => .dead
    | false => o) :: deadU U (k + 1) m
def restU (U : List Nat) : Nat → List SObj → List SObj → List SObj
  | k, o :: m, o' :: m' => (match memN U k with
    | true => o
    | false => o') :: restU U (k + 1) m m'
  | _, _, _ => []
/-- Are these dead? -/
def deadAt (U : List Nat) : Nat → List SObj → Bool
  | _, [] => true
  | k, o :: m => (match memN U k with
    | true => (match o with
      | .dead => true
      | _ => false)
    | false => true) && deadAt U (k + 1) m
/-- Rows that are read alone stay what they are. -/
def roB (D : List Nat) : Nat → List SObj → List SObj → Bool
  | k, o :: m, o' :: m' => (match o' with
    | .ro _ _ _ => !memN D k && (match o with
      | .ro _ _ _ => true
      | _ => false)
    | _ => true) && roB D (k + 1) m m'
  | _, [], [] => true
  | _, _, _ => false
def ltO (n : Nat) : SObj → Bool
  | .cells cs _ => ltL n cs
  | .ro _ _ _ => true
  | .ext _ _ => true
  | .bm _ _ _ => true
  | .arr _ _ _ _ => true
  | .buf c cs _ => Nat.blt c n && ltL n cs
  | .bufz _ c cs _ => Nat.blt c n && ltL n cs
  | .rowd => true
  | .dead => true
  | _ => false
def ltM (n : Nat) : List SObj → Bool
  | [] => true
  | o :: m => ltO n o && ltM n m
mutual
/-- Does it not lead to that object? -/
def notS (k : Nat) : Sv → Bool
  | .v _ => true
  | .ptr b _ => !Nat.beq b k
  | .sl b _ _ _ => !Nat.beq b k
  | .sa b c _ _ => !Nat.beq b k && !Nat.beq c k
  | .mp b => !Nat.beq b k
  | .unk b _ => !Nat.beq b k
  | .pix b _ _ _ => !Nat.beq b k
  | .nan b => !Nat.beq b k
  | .agg cs => notL k cs
  | .tup cs => notL k cs
def notL (k : Nat) : List Sv → Bool
  | [] => true
  | c :: cs => notS k c && notL k cs
end
def notU : List Nat → Sv → Bool
  | [], _ => true
  | k :: U, s => notS k s && notU U s
/-- What is laid: its cells, their type, how many elements (none: one thing). -/
def creV (P : Program) (o : Oper) (t : List Sv) : Option (List Sv × TypeId × Option Nat) := match o.op with
  | .alloc e => match zeroS P e with
    | some z => some (z, e, none)
    | none => none
  | .box e x => match cellsS (get t x) with
    | some cs => some (cs, e, none)
    | none => none
  | .buildSlice T len parts => match P.underlying T with
    | some (.slice e) => match P.info? e with
      | some ie => match zeroS P e with
        | some z => bif Nat.ble (len * ie.size) 4096 && (!Nat.beq ie.size 0 && Nat.beq z.length ie.size) then
            (match fillS (fun i => some (i * ie.size, ie.size)) (repl len z) (parts.toList.map fun p => (p.1, get t p.2)) with
            | some cs => some (cs, e, some len)
            | none => none) else none
        | none => none
      | none => none
    | _ => none
  | _ => none
def mkO (k : Nat) : Option Nat → Sv
  | none => .ptr k 0
  | some n => .sl k 0 n n
/-- What an operation may look at: what no effect touches, the rows for which it waits. -/
def visR (ops : Array Oper) (D : List Nat) (n0 i : Nat) (mq0 m : List SObj) : List SObj := mq0 ++ (deadU (unwL ops n0 i ++ D) 0 m).drop n0
noncomputable def evR (P : Program) (wide : FuncId → Bool) (N : FuncId → Option NW) (E : CallE R) (ops : Array Oper) (D : List Nat) (n0 : Nat) (mq0 : List SObj) : Nat → List Oper → List Sv → List SObj → (List Sv → List SObj → Option R) → Option R
  | _, [], t, m, k => k t m
  | j, o :: rest, t, m, k => match creB ops j with
    | true => (match creV P o t with
      | some (cs, e, L) => bif ltL n0 cs then forceL (put t o.dst (mkO (n0 + crank ops j) L)) (fun t => evR P wide N E ops D n0 mq0 (j + 1) rest t (m.set (n0 + crank ops j) (.cells cs e)) k) else none
      | none => none)
    | false => match effOp wide o with
      | true => (match o.guard with
        | none => (match isCall o with
          | true => callN N D o t (deadU (unwL ops n0 j) 0 m) (fun x mh => bif (Nat.beq mh.length m.length && deadAt (unwL ops n0 j) 0 mh) && (roB D 0 (deadU (unwL ops n0 j) 0 m) mh && (ltM n0 mh && notU (unwL ops n0 j) x)) then
              forceL (put t o.dst x) (fun t => evR P wide N E ops D n0 mq0 (j + 1) rest t (restU (unwL ops n0 j) 0 m mh) k) else none) (fun _ => none)
          | false => (match insOp o with
            | true => none
            | false => eopO P D (maskD D 0 (deadU (unwL ops n0 j) 0 m)).length o t (deadU (unwL ops n0 j) 0 m) (fun x mh => bif (Nat.beq mh.length m.length && deadAt (unwL ops n0 j) 0 mh) && (roB D 0 (deadU (unwL ops n0 j) 0 m) mh && (ltM n0 mh && notU (unwL ops n0 j) x)) then
              forceL (put t o.dst x) (fun t => evR P wide N E ops D n0 mq0 (j + 1) rest t (restU (unwL ops n0 j) 0 m mh) k) else none)))
        | some _ => none)
      | false => (match o.guard with
        | none => qopN P E N o t (visR ops D n0 j mq0 m) (fun x => bif notU (unwL ops n0 j) x then forceL (put t o.dst x) (fun t => evR P wide N E ops D n0 mq0 (j + 1) rest t m k) else none) (fun _ => none)
        | some (i, want) => match gbit ops.toList i t with
          | some (d, b) => gbr b want
            (qopN P E N o (setN t d (.v (.bool want))) (visR ops D n0 j mq0 m) (fun x => bif notU (unwL ops n0 j) x then forceL (put (setN t d (.v (.bool want))) o.dst x) (fun t => evR P wide N E ops D n0 mq0 (j + 1) rest t m k) else none) (fun _ => none))
            (forceL (put (setN t d (.v (.bool !want))) o.dst (.v undef)) (fun t => evR P wide N E ops D n0 mq0 (j + 1) rest t m k))
          | none => bif gno ops.toList i t then forceL (put t o.dst (.v undef)) (fun t => evR P wide N E ops D n0 mq0 (j + 1) rest t m k) else none)
/-- Does each effect (but for what is laid) wait for those ahead of it? -/
def effR (wide : FuncId → Bool) (ops : Array Oper) (i : Nat) : Bool := effN wide ops i && !creB ops i
/-- Where a forced tail begins. -/
def tailOf (wide : FuncId → Bool) (ops : Array Oper) : Nat → Nat → Option Nat
  | 0, _ => none
  | g + 1, n => match !((ops.toList.take n).any (effOp wide)) && Region.lexTailB .any ops n with
    | true => some n
    | false => tailOf wide ops g (n - 1)

noncomputable def ev (P : Program) (Γ : Env) : Nat → (Nat → Option Hook) → Code → List Sv → List SObj → (SEx → List Sv → List SObj → Option R) → Option R
  | 0, _, _, _, _, _ => none
  | n + 1, B, c, t, m, k => match c with
    | .skip => k .normal t m
    | .label _ => k .normal t m
    | .region _ ops draw => match draw with
      | false => evOps P Γ.wide (callE P Γ (ev P Γ n)) ops.toList ops.toList t m (fun t' m' => splitT Γ.split t' (fun t' => k .normal t' m')) (fun ch t' m' => k (.panic ch) t' m')
      | true => match Region.lexB .any ops && !ops.toList.any (effOp Γ.wide) with
        | true => evQ P (callE P Γ (ev P Γ n)) ops.toList m ops.toList t (fun t' => splitT Γ.split t' (fun t' => k .normal t' m))
        | false => match tailOf Γ.wide ops 12 (ops.size - 1) with
          | some h => evQ P (callE P Γ (ev P Γ n)) ops.toList m (ops.toList.take h) t (fun t' =>
              evOps P Γ.wide (callE P Γ (ev P Γ n)) ops.toList (ops.toList.drop h) t' m (fun t2 m2 => splitT Γ.split t2 (fun t2 => k .normal t2 m2)) (fun ch t2 m2 => k (.panic ch) t2 m2))
          | none => match Region.lexB .any ops && chainS .any ops (effN Γ.wide ops) (insN ops) with
            | true =>
              let D := callsAt P Γ.news ops.toList m t ops.toList ++ storesAt P ops.toList m t ops.toList
              bif (callsIn Γ.wide ops || hasBS ops) && chainS .any ops (effN Γ.wide ops) (fun _ => false) then
              evC P Γ.wide Γ.news (callE P Γ (ev P Γ n)) ops D m (maskD D 0 m) 0 ops.toList [] t m (fun t2 m2 => splitT Γ.split t2 (fun t2 => k .normal t2 m2)) (fun ch t2 m2 => k (.panic ch) t2 m2) else
              evO P Γ.wide Γ.news (callE P Γ (ev P Γ n)) ops D m (maskD D 0 m) 0 ops.toList t m (fun t2 m2 => splitT Γ.split t2 (fun t2 => k .normal t2 m2)) (fun ch t2 m2 => k (.panic ch) t2 m2)
            | false => match Region.lexB .any ops && (chainS .any ops (effR Γ.wide ops) (fun _ => false) && (ltL m.length t && ltM m.length m)) with
              | true =>
                let D := ((callsAt P Γ.news ops.toList m t ops.toList ++ storesAt P ops.toList m t ops.toList).filter fun b => Nat.blt b m.length) ++ celL ops m.length
                evR P Γ.wide Γ.news (callE P Γ (ev P Γ n)) ops D m.length (maskD D 0 m) 0 ops.toList t (m ++ List.replicate (crank ops ops.size) .dead) (fun t2 m2 => splitT Γ.split t2 (fun t2 => k .normal t2 m2))
              | false => none
    | .seq a b => ev P Γ n B a t m (fun e t' m' => match e with
      | .normal => ev P Γ n B b t' m' k
      | e => k e t' m')
    | .cond x a b => match get t x with
      | .v (.bool c) => bif c then ev P Γ n B a t m k else ev P Γ n B b t m k
      | _ => none
    | .block id a => match B id with
      | some h => h R t m k
      | none => ev P Γ n B a t m (fun e t' m' => match e with
        | .exit id' => bif Nat.beq id' id then k .normal t' m' else k (.exit id') t' m'
        | e => k e t' m')
    | .loop a => ev P Γ n B a t m (fun e t' m' => match e with
      | .normal => ev P Γ n B (.loop a) t' m' k
      | e => k e t' m')
    | .exit id => k (.exit id) t m
    | .ret => k .ret t m
    | _ => none

noncomputable def evF (P : Program) (Γ : Env) (n : Nat) : FuncId → List Sv → List SObj → (Sv → List SObj → Option R) → (List PanicEntry → List SObj → Option R) → Option R := callE P Γ (ev P Γ n) false
end
end Go.Ev
