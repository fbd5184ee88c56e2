/- One operation that only reckons, reads, or calls a function by its values alone. -/
import Derived.Test.YtpgdpoloipifeaaEv2
import Derived.Laws.FloatArith
import Derived.Laws.BytesArg
namespace Go.Ev
set_option linter.unusedVariables false
open Go

section
variable {R : Type}

def pickS (c : Bool) (a b : Sv) (kv : Sv → Option R) : Option R :=
  match a, b with
  | .v (.bool a), .v (.bool b) => kv (.v (.bool (bif c then a else b)))
  | a, b => bif c then kv a else kv b

/-! ### Floats -/
def feq (a b : Nat) : Bool := Ieee.double.order a b == some .eq
def flt (a b : Nat) : Bool := Ieee.double.order a b == some .lt
def fgt (a b : Nat) : Bool := Ieee.double.order a b == some .gt
def fok (op : BinOp) (a b : Nat) : Bool := (floatBits op .f64 a b).isSome
def fval (op : BinOp) (a b : Nat) : Nat := (floatBits op .f64 a b).getD 0
def fnear (n : Int) : Nat := floatOfInt .f64 n
def fiok (b : Nat) (k : IntKind) : Bool := (floatToIntVal .f64 b k).isSome
def fival (b : Nat) (k : IntKind) : Int := (floatToIntVal .f64 b k).getD 0
def fsqok (a : Nat) : Bool := (Ieee.double.sqrt a).isSome
def fsqrt (a : Nat) : Nat := (Ieee.double.sqrt a).getD 0
def fnan (a : Nat) : Bool := (Ieee.double.read a).isNaN
def ftrunc (a : Nat) : Nat := FloatKind.f64.encode ((FloatKind.f64.decode a).integral .zero)

def fcmpS (op : BinOp) (a b : Nat) (kv : Sv → Option R) : Option R := match op with
  | .eql => kv (.v (.bool (feq a b)))
  | .neq => kv (.v (.bool (!feq a b)))
  | .lss => kv (.v (.bool (flt a b)))
  | .leq => kv (.v (.bool (flt a b || feq a b)))
  | .gtr => kv (.v (.bool (fgt a b)))
  | .geq => kv (.v (.bool (fgt a b || feq a b)))
  | _ => none
/-- Where one is not a number. -/
def nanS (op : BinOp) (kv : Sv → Option R) : Option R := match op with
  | .eql => kv (.v (.bool false))
  | .neq => kv (.v (.bool true))
  | .lss => kv (.v (.bool false))
  | .leq => kv (.v (.bool false))
  | .gtr => kv (.v (.bool false))
  | .geq => kv (.v (.bool false))
  | _ => none
/-- The operands of a sum and the like of floats. -/
def fopS (op : BinOp) (x y : Sv) : Option (Nat × Nat) := match x, y with
  | .v (.float .f64 a), .v (.float .f64 b) => (match op with
    | .add => some (a, b)
    | .sub => some (a, b)
    | .mul => some (a, b)
    | .quo => some (a, b)
    | _ => none)
  | _, _ => none

def binS (P : Program) (op : BinOp) (xT : TypeId) (x y : Sv) (kv : Sv → Option R) : Option R :=
  match x, y with
  | .v (.int k a), .v (.int k' b) => match op with
    | .shl => shiftS .shl k a b R kv
    | .shr => shiftS .shr k a b R kv
    | op => if k = k' then intS op k a b R kv else none
  | .v (.bool a), .v (.bool b) => match P.underlying xT with
    | some .bool => match op with
      | .eql => kv (.v (.bool (a == b)))
      | .neq => kv (.v (.bool (!(a == b))))
      | _ => none
    | _ => none
  | .v (.string a), .v (.string b) => match op with
    | .eql => kv (.v (.bool (strEq a b)))
    | .neq => kv (.v (.bool (!(strEq a b))))
    | _ => none
  | .agg xs, .agg ys => match P.eqGuardType P.depth xT with
    | true => none
    | false => match op with
      | .eql => match eqS P 20 xT (.agg xs) (.agg ys) with
        | some r => kv (.v (.bool r))
        | none => none
      | .neq => match eqS P 20 xT (.agg xs) (.agg ys) with
        | some r => kv (.v (.bool (!r)))
        | none => none
      | _ => none
  | .ptr b off, .v (.pointer none) => match P.underlying xT with
    | some (.pointer _) => match op with
      | .eql => kv (.v (.bool false))
      | .neq => kv (.v (.bool true))
      | _ => none
    | _ => none
  | .v (.pointer none), .v (.pointer none) => match P.underlying xT with
    | some (.pointer _) => match op with
      | .eql => kv (.v (.bool true))
      | .neq => kv (.v (.bool false))
      | _ => none
    | _ => none
  | .v (.float .f64 a), .v (.float .f64 b) => fcmpS op a b kv
  | .nan _, .v (.float .f64 _) => nanS op kv
  | .v (.float .f64 _), .nan _ => nanS op kv
  | .nan _, .nan _ => nanS op kv
  | _, _ => none

def unS (op : UnOp) (x : Sv) (kv : Sv → Option R) : Option R :=
  match op, x with
  | .neg, .v (.int k n) => kv (.v (.int k (k.wrap (0 - n))))
  | .xor, .v (.int k n) => kv (.v (.int k (bitsL .xor k (if k.signed then -1 else k.max) n)))
  | .not, .v (.bool b) => kv (.v (.bool !b))
  | _, _ => none

def convS (P : Program) (src dst : TypeId) (x : Sv) (kv : Sv → Option R) : Option R :=
  match P.underlying src, P.underlying dst, x with
  | some _, some (.int k), .v (.int _ n) => kv (.v (.int k (k.wrap n)))
  | some .string, some .string, .v (.string s) => kv (.v (.string s))
  | some _, some (.float .f64), .v (.int _ n) => kv (.v (.float .f64 (fnear n)))
  | some _, some (.int k), .v (.float .f64 b) => bif fiok b k then kv (.v (.int k (fival b k))) else none
  | some _, some (.float .f64), .v (.float .f64 b) => kv (.v (.float .f64 b))
  | some _, some (.float .f64), .nan b => kv (.nan b)
  | _, _, _ => none

def fillS (place : Nat → Option (Nat × Nat)) : List Sv → List (Nat × Sv) → Option (List Sv)
  | cells, [] => some cells
  | cells, (i, x) :: rest => match place i with
    | none => none
    | some (off, size) =>
      match x with
      | .agg xs => if xs.length = size then match setSeg cells off xs with
          | some c => fillS place c rest
          | none => none
        else none
      | .v (.agg _) => none
      | .tup _ => none
      | .unk _ _ => none
      | x => if size = 1 then match setSeg cells off [x] with
          | some c => fillS place c rest
          | none => none
        else none

def zeroS (P : Program) (t : TypeId) : Option (List Sv) :=
  match P.info? t with
  | some i => match i.zero with
    | some z => some (z.cells.toList.map .v)
    | none => none
  | none => none

def buildS (P : Program) (t : TypeId) (parts : List (Nat × Sv)) : Option (List Sv) :=
  match P.underlying t, zeroS P t with
  | some (.array _ e), some z => match P.info? e with
    | some ie => fillS (fun i => some (i * ie.size, ie.size)) z parts
    | none => none
  | some (.struct fields), some z => match fields.toList.mapM (fun f => (P.info? f.type).map fun i => (f.offset, i.size)) with
    | some places => fillS (places[·]?) z parts
    | none => none
  | _, _ => none

def builtinS (P : Program) (b : Builtin) (ts : Array TypeId) (args : List Sv) (kv : Sv → Option R) : Option R :=
  match b, args with
  | .max, [.v (.int k x), .v (.int _ y)] => kv (.v (.int k (if y > x then y else x)))
  | .min, [.v (.int k x), .v (.int _ y)] => kv (.v (.int k (if y < x then y else x)))
  | .len, [x] => match ts[0]? with
    | some t => match P.underlying t, x with
      | some .string, .v (.string s) => kv (.v (.int .i64 s.size))
      | some (.slice _), .sl _ _ n _ => kv (.v (.int .i64 n))
      | some (.slice _), .sa _ _ _ n => kv (.v (.int .i64 n))
      | some (.slice _), .v (.slice _ n _) => kv (.v (.int .i64 n))
      | some (.array n _), _ => kv (.v (.int .i64 n))
      | _, _ => none
    | none => none
  | _, _ => none

/-- An index, place by place. -/
def brIdx : Nat → Nat → Int → (Nat → Option R) → Option R
  | 0, _, _, _ => none
  | n + 1, j, i, f => bif i == (j : Int) then f j else brIdx n (j + 1) i f

/-- An index that lies within: a small row is told place by place. -/
def atIdx (len : Nat) (i : Int) (f : Nat → Option R) : Option R :=
  bif Nat.ble len 128 then brIdx len 0 i f else bif decide (0 ≤ i ∧ i < (len : Int)) then f i.toNat else none

/-- Whole numbers of one kind. -/
def intT (P : Program) (e : TypeId) : Bool := match P.underlying e with
  | some (.int _) => true
  | _ => false
def intsOf : List Sv → Option (IntKind × List Int)
  | [] => none
  | [.v (.int q x)] => some (q, [x])
  | .v (.int q x) :: y :: l => match intsOf (y :: l) with
    | some (q', xs) => if q = q' then some (q, x :: xs) else none
    | none => none
  | _ => none
/-- One of a row, told by its place. -/
def selL (i : Int) : Int → List Int → Int
  | _, [] => 0
  | _, [x] => x
  | j, x :: y :: l => bif i == j then x else selL i (j + 1) (y :: l)
def setSel (i v : Int) : Int → List Int → List Int
  | _, [] => []
  | j, x :: l => (bif i == j then v else x) :: setSel i v (j + 1) l

def indexS (P : Program) (e : TypeId) (len : Nat) (i : Int) (b off : Nat) (kv : Sv → Option R) : Option R :=
  match P.info? e with
  | some ie => match intT P e && (Nat.beq ie.size 1 && Nat.ble len 64) with
    | true => bif decide (0 ≤ i) && decide (i < (len : Int)) then kv (.pix b off len i) else none
    | false => atIdx len i fun j => kv (.ptr b (off + j * ie.size))
  | none => none

/-- Is it a row of which a function tells the cells? -/
def rowAt (m : List SObj) (b : Nat) : Bool := match m[b]? with
  | some (.arr _ _ _ _) => true
  | some (.rowd) => true
  | some (.ro _ _ _) => true
  | _ => false
/-- An index into such a row. -/
def idxR (P : Program) (m : List SObj) (e : TypeId) (len : Nat) (i : Int) (b off : Nat) (kv : Sv → Option R) : Option R :=
  match rowAt m b with
  | true => match P.info? e with
    | some ie => bif Nat.beq ie.size 1 && (decide (0 ≤ i) && decide (i < (len : Int))) then kv (.pix b off len i) else none
    | none => none
  | false => indexS P e len i b off kv
/-- An index into a row that is a value: of numbers one is told by its place. -/
def idxV (P : Program) (e : TypeId) (len : Nat) (cs : List Sv) (i : Int) (kv : Sv → Option R) : Option R := match P.info? e with
  | some ie => match intT P e && (Nat.beq ie.size 1 && Nat.beq cs.length len) with
    | true => (match intsOf cs with
      | some (q, xs) => bif decide (0 ≤ i) && decide (i < (len : Int)) then kv (.v (.int q (selL i 0 xs))) else none
      | none => none)
    | false => atIdx len i fun j => match partS P e cs (j * ie.size) with
      | some s => kv s
      | none => none
  | none => none
def offI (off : Nat) (i : Int) : Int := match off with
  | 0 => i
  | k + 1 => ((k + 1 : Nat) : Int) + i
/-- The bytes of a row. -/
def bstr (F : Int → Int) (off len : Nat) : ByteArray := strOfNums ((List.range len).map fun (i : Nat) => F (offI off (i : Int)))
def u8sOf : List Sv → Option (List Int)
  | [] => some []
  | .v (.int q x) :: l => match u8sOf l with
    | some xs => if q = .u8 then some (x :: xs) else none
    | none => none
  | _ => none
def lstr (cs : List Sv) (off len : Nat) (kv : Sv → Option R) : Option R := match seg cs off len with
  | some l => match u8sOf l with
    | some xs => kv (.v (.string (strOfNums xs)))
    | none => none
  | none => none
def rowStr (m : List SObj) (b off len : Nat) (kv : Sv → Option R) : Option R := match m[b]? with
  | some (.arr q _ n F) => bif decide (q = .u8) && decide (off + len ≤ n) then kv (.v (.string (bstr F off len))) else none
  | some (.cells cs _) => lstr cs off len kv
  | some (.buf _ cs _) => lstr cs off len kv
  | _ => none
/-- A string of bytes. -/
def toStr (P : Program) (src dst : TypeId) (x : Sv) (m : List SObj) (kv : Sv → Option R) : Option R :=
  match P.underlying src with
  | some (.slice e) => match P.underlying e with
    | some (.int .u8) => match P.underlying dst with
      | some .string => match x with
        | .v (.slice none _ _) => kv (.v (.string ByteArray.empty))
        | .sl b off len _ => rowStr m b off len kv
        | .sa b _ off len => rowStr m b off len kv
        | _ => none
      | _ => none
    | _ => none
  | _ => none
/-- A bound of a slice. -/
def bndS (x : Option Sv) (d : Nat) : Option Int := match x with
  | none => some (d : Int)
  | some (.v (.int _ i)) => some i
  | _ => none
/-- A part of a slice, of a string. -/
def sliceS (P : Program) (T : TypeId) (x : Sv) (lo hi : Option Sv) (kv : Sv → Option R) : Option R :=
  match P.underlying T with
  | some (.slice e) => match P.info? e with
    | some ie => match Nat.beq ie.size 1 with
      | true => match x with
        | .sl b off len cap => (match bndS lo 0 with
          | some l => (match bndS hi len with
            | some h => bif decide (0 ≤ l) && (decide (l ≤ h) && (decide (h ≤ (cap : Int)) && (decide (l < (cap : Int)) || l == 0))) then kv (.sl b (off + l.toNat) (h - l).toNat (cap - l.toNat)) else none
            | none => none)
          | none => none)
        | .sa b c off len => (match bndS lo 0 with
          | some l => (match bndS hi len with
            | some h => bif decide (0 ≤ l) && (decide (l ≤ h) && (decide (h ≤ (len : Int)) && (decide (l < (len : Int)) || l == 0))) then kv (.sa b c (off + l.toNat) (h - l).toNat) else none
            | none => none)
          | none => none)
        | _ => none
      | false => none
    | none => none
  | some .string => match x with
    | .v (.string s) => (match bndS lo 0 with
      | some l => (match bndS hi s.size with
        | some h => bif decide (0 ≤ l) && (decide (l ≤ h) && decide (h ≤ (s.size : Int))) then kv (.v (.string (s.extract l.toNat h.toNat))) else none
        | none => none)
      | none => none)
    | _ => none
  | _ => none

/-- A string's byte. -/
def byteAt (s : ByteArray) (n : Nat) : Int := match s[n]? with
  | some b => (b.toNat : Int)
  | none => 0

/-- A map's keys are numbers of this kind. -/
def notK (a : Int) : List (Int × Sv) → Bool
  | [] => true
  | (k, _) :: r => !(a == k) && notK a r
/-- Are a map's keys apart? -/
def distK : List (Int × Sv) → Bool
  | [] => true
  | (k, _) :: r => notK k r && distK r
/-- What a map that is told holds at a key. -/
def lookP {R : Type} : List (Int × Sv) → Int → (Sv → Option R) → Option R
  | [], _, _ => none
  | (k, s) :: r, a, kv => bif a == k then kv s else lookP r a kv
def keyKind (P : Program) (T : TypeId) (q : IntKind) : Bool := match P.underlying T with
  | some (.map kt _) => (match P.underlying kt with
    | some (.int q') => decide (q' = q)
    | _ => false)
  | _ => false
/-- A map's elements are numbers of this kind, nought where there is none. -/
def elemInt (P : Program) (T : TypeId) (qe : IntKind) : Bool := match P.underlying T with
  | some (.map _ et) => (match P.info? et with
    | some i => (match i.zero with
      | some (.int q z) => decide (q = qe) && (z == 0)
      | _ => false)
    | none => false)
  | _ => false
/-- A map's elements are pointers. -/
def elemPtr (P : Program) (T : TypeId) : Bool := match P.underlying T with
  | some (.map _ et) => (match P.info? et with
    | some i => (match i.zero with
      | some (.pointer none) => true
      | _ => false)
    | none => false)
  | _ => false
def updM (M : Int → Int) (a v : Int) : Int → Int := fun x => bif x == a then v else M x

def qop (P : Program) (H : FuncId → List Sv → List SObj → (Sv → Option R) → Option R) (o : Oper) (t : List Sv) (m : List SObj) (kv : Sv → Option R) : Option R :=
  match o.op with
  | .move x => kv (get t x)
  | .assign x => kv (get t x)
  | .pick c a b => match get t c with
    | .v (.bool c) => pickS c (get t a) (get t b) kv
    | _ => none
  | .nilCheck x => match get t x with
    | .ptr b off => kv (.ptr b off)
    | .pix b off len i => kv (.pix b off len i)
    | .v (.func (.func f) a b) => kv (.v (.func (.func f) a b))
    | _ => none
  | .binOp op xT x y _ => binS P op xT (get t x) (get t y) kv
  | .unOp op _ x => unS op (get t x) kv
  | .convert src dst x => match get t x with
    | .sl b off len cap => toStr P src dst (.sl b off len cap) m kv
    | .sa b c off len => toStr P src dst (.sa b c off len) m kv
    | .v (.slice a b c) => toStr P src dst (.v (.slice a b c)) m kv
    | s => convS P src dst s kv
  | .slice T x lo hi mx => match mx with
    | none => sliceS P T (get t x) (lo.map (get t)) (hi.map (get t)) kv
    | some _ => none
  | .makeInterface T x => match P.underlying T with
    | some (.interface _) => none
    | some _ => match get t x with
      | .v v => kv (.v (.iface T v))
      | .agg [] => kv (.v (.iface T (.agg #[])))
      | _ => none
    | none => none
  | .fieldAddr s x f => match P.underlying s with
    | some (.struct fs) => match fs[f]?, get t x with
      | some fld, .ptr b off => match P.info? fld.type with
        | some i => if i.size = 0 then none else kv (.ptr b (off + fld.offset))
        | none => none
      | _, _ => none
    | _ => none
  | .field xT x f => match P.underlying xT with
    | some (.struct fs) => match fs[f]?, get t x with
      | some fld, .agg cs => match partS P fld.type cs fld.offset with
        | some s => kv s
        | none => none
      | _, _ => none
    | _ => none
  | .indexAddr T x ix => match P.underlying T with
    | some (.array len e) => match get t x, get t ix with
      | .ptr b off, .v (.int _ i) => idxR P m e len i b off kv
      | _, _ => none
    | some (.slice e) => match get t x, get t ix with
      | .sl b off len _, .v (.int _ i) => idxR P m e len i b off kv
      | .sa b _ off len, .v (.int _ i) => idxR P m e len i b off kv
      | _, _ => none
    | _ => none
  | .index T x ix => match P.underlying T with
    | some (.array len e) => match get t x, get t ix with
      | .agg cs, .v (.int _ i) => idxV P e len cs i kv
      | _, _ => none
    | some .string => match get t x, get t ix with
      | .v (.string s), .v (.int _ i) => bif decide (0 ≤ i ∧ i < (s.size : Int)) then kv (.v (.int .u8 (byteAt s i.toNat))) else none
      | _, _ => none
    | _ => none
  | .load T a => match get t a with
    | .ptr b off => match m[b]? with
      | some (.cells cs _) => match partS P T cs off with
        | some s => kv s
        | none => none
      | some (.ro base n f) => roS P T base n f off R kv
      | some (.buf _ cs _) => match partS P T cs off with
        | some s => kv s
        | none => none
      | some (.bufz _ _ cs _) => match partS P T cs off with
        | some s => kv s
        | none => none
      | some (.arr q _ n F) => match intT P T with
        | true => bif Nat.blt off n then kv (.v (.int q (F (off : Int)))) else none
        | false => none
      | _ => none
    | .pix b off len i => match m[b]? with
      | some (.arr q _ n F) => match intT P T with
        | true => bif decide (offI off i < (n : Int)) then kv (.v (.int q (F (offI off i)))) else none
        | false => none
      | some (.ro base n f) => match intT P T with
        | true => bif decide (base ≤ off + i.toNat) && decide (off + i.toNat < base + n) then kv (.v (f (off + i.toNat))) else none
        | false => none
      | some (.buf _ cs _) => match intT P T with
        | true => match seg cs off len with
          | some l => match intsOf l with
            | some (q, xs) => kv (.v (.int q (selL i 0 xs)))
            | none => none
          | none => none
        | false => none
      | some (.cells cs _) => match intT P T with
        | true => match seg cs off len with
          | some l => match intsOf l with
            | some (q, xs) => kv (.v (.int q (selL i 0 xs)))
            | none => none
          | none => none
        | false => none
      | _ => none
    | _ => none
  | .lookup T x i ok => match ok with
    | true => none
    | false => match get t x with
      | .mp b => match m[b]? with
        | some (.bm q qe M) => match get t i with
          | .v (.int q' a) => bif keyKind P T q && (decide (q' = q) && elemInt P T qe) then kv (.v (.int qe (M a))) else none
          | _ => none
        | some (.m1 q a es clk p nw) => match get t i with
          | .v (.int q' a') => bif keyKind P T q && (decide (q' = q) && (a' == a && elemPtr P T)) then kv (match p with
            | some s => s
            | none => .v (.pointer none)) else none
          | _ => none
        | some (.pm q es) => match get t i with
          | .v (.int q' a') => bif keyKind P T q && (decide (q' = q) && distK es) then lookP es a' kv else none
          | _ => none
        | _ => none
      | _ => none
  | .extract x i => match get t x with
    | .tup vs => match vs[i]? with
      | some s => kv s
      | none => none
    | _ => none
  | .build T parts => match buildS P T (parts.toList.map fun p => (p.1, get t p.2)) with
    | some cs => kv (.agg cs)
    | none => none
  | .makeFunc fn first cap => match first.toList, cap.toList with
    | [], [] => kv (.v (.func fn #[] #[]))
    | _, _ => none
  | .call c => match c.callee with
    | .builtin b => builtinS P b c.argTypes (c.args.toList.map (get t)) kv
    | .value f => match get t f with
      | .v (.func (.func fid) first cap) => H fid (first.toList.map .v ++ c.args.toList.map (get t) ++ cap.toList.map .v) m kv
      | _ => none
    | _ => none
  | _ => none
end

/-! ### Their soundness -/
section
variable {P : Program} {R : Type} {ρ : List Un}

/-- An operation's value, whatever the world. -/
def ValueAt (P : Program) (s : Sem Value) (kv : Sv → Option R) (r : R) : Prop :=
  ∃ sv x, kv sv = some r ∧ (∀ ρ, den ρ sv = some x) ∧ ∀ w, s.run P w = .ok x w

theorem pickS_sound {c : Bool} {a b : Sv} {kv : Sv → Option R} {r : R} (h : pickS c a b kv = some r) :
    ∃ sv, kv sv = some r ∧ ∀ ρ x y, den ρ a = some x → den ρ b = some y → den ρ sv = some (if c = true then x else y) := by
  unfold pickS at h
  split at h
  · rename_i a b
    refine ⟨_, h, fun ρ x y ha hb => ?_⟩
    simp only [den, Option.some.injEq] at ha hb
    subst ha hb
    cases c <;> rfl
  · cases c
    · exact ⟨_, h, fun ρ x y ha hb => by simpa using hb⟩
    · exact ⟨_, h, fun ρ x y ha hb => by simpa using ha⟩

theorem intS_sound {op : BinOp} {k : IntKind} {a b : Int} {kv : Sv → Option R} {r : R} (xT : TypeId) (h : intS op k a b R kv = some r) : ValueAt P (binOp op xT (.int k a) (.int k b)) kv r := by
  unfold intS at h
  simp only [bitsL_eq] at h
  have quo : ∀ {v : Sv}, (bif b == 0 then none else kv v) = some r → b ≠ 0 ∧ kv v = some r := by
    intro v h
    cases hb : (b == 0)
    · rw [hb] at h; exact ⟨by simpa using hb, h⟩
    · rw [hb] at h; cases h
  cases op <;> simp only at h <;> first
    | (cases h; done)
    | (refine ⟨_, _, h, fun _ => rfl, fun w => ?_⟩; simp [binOp, Op.intArith, Op.intCmp, Op.intBits, bits]; done)
    | (obtain ⟨h0, h⟩ := quo h
       refine ⟨_, _, h, fun _ => rfl, fun w => ?_⟩; simp [binOp, Op.intDiv, h0])

theorem shiftS_sound {op : BinOp} {k k' : IntKind} {a b : Int} {kv : Sv → Option R} {r : R} (xT : TypeId) (h : shiftS op k a b R kv = some r) : ValueAt P (binOp op xT (.int k a) (.int k' b)) kv r := by
  unfold shiftS at h
  have nn : ∀ {v : Sv}, (bif decide (0 ≤ b) then kv v else none) = some r → ¬ b < 0 ∧ kv v = some r := by
    intro v h
    by_cases hb : 0 ≤ b
    · rw [decide_eq_true hb] at h; exact ⟨by omega, h⟩
    · rw [decide_eq_false hb] at h; cases h
  cases op <;> simp only at h <;> first
    | (cases h; done)
    | (obtain ⟨h0, h⟩ := nn h
       refine ⟨_, _, h, fun _ => rfl, fun w => ?_⟩; simp [binOp, Op.shift, h0])

theorem run_eq_nil {xT elem : TypeId} (hu : P.underlying xT = some (.pointer elem)) (a : Addr) (d : Nat) (w : World) : (Op.equalIn (d + 1) xT (.pointer (some a)) (.pointer none)).run P w = .ok false w := by
  simp only [Op.equalIn, Sem.run_bind, run_underlying hu, Result.andThen_ok, Sem.run_pure]

theorem run_eq_nils {xT elem : TypeId} (hu : P.underlying xT = some (.pointer elem)) (d : Nat) (w : World) : (Op.equalIn (d + 1) xT (.pointer none) (.pointer none)).run P w = .ok true w := by
  simp only [Op.equalIn, Sem.run_bind, run_underlying hu, Result.andThen_ok, Sem.run_pure]
  rfl
theorem den_sa {b c off len : Nat} {v : Value} (h : den ρ (.sa b c off len) = some v) : ∃ g n, ρ[b]? = some (.blk g) ∧ ρ[c]? = some (.cap n) ∧ off + len ≤ n ∧ v = .slice (some ⟨g, off, none⟩) len (n - off) := by
  simp only [den] at h
  split at h
  · rename_i g hg
    split at h
    · rename_i n hn; simp at h; exact ⟨g, n, hg, hn, h.1, h.2.symm⟩
    · cases h
  · cases h
theorem den_nan {b : Nat} {v : Value} (h : den ρ (.nan b) = some v) : ∃ x, (Ieee.double.read x).isNaN = true ∧ v = .float .f64 x := by
  simp only [den] at h
  split at h
  · rename_i x hx _; simp at h; exact ⟨x, hx, h.symm⟩
  · cases h
theorem order_nan {a b : Nat} (h : (Ieee.double.read a).isNaN = true ∨ (Ieee.double.read b).isNaN = true) : Ieee.double.order a b = none := by
  unfold Ieee.Format.order
  rcases h with h | h
  · cases ha : Ieee.double.read a <;> simp_all [Ieee.Datum.isNaN, Ieee.Datum.order]
  · cases hb : Ieee.double.read b <;> simp_all [Ieee.Datum.isNaN]
    cases Ieee.double.read a <;> rfl
theorem eqGuard_at_float (op : BinOp) (t : TypeId) (x y : Operand) (k : FloatKind) (n : Nat) (v : Value) : eqGuard op t x y (.float k n) v = pure () := by cases op <;> rfl
theorem fcmpS_sound {op : BinOp} {xT : TypeId} {a b : Nat} {kv : Sv → Option R} {r : R} (h : fcmpS op a b kv = some r) :
    ∃ sv z, kv sv = some r ∧ (∀ ρ, den ρ sv = some z) ∧ ∀ ox oy w, (do eqGuard op xT ox oy (.float .f64 a) (.float .f64 b); binOp op xT (.float .f64 a) (.float .f64 b)).run P w = .ok z w := by
  unfold fcmpS at h
  split at h <;> first
    | (cases h; done)
    | (refine ⟨_, _, h, fun _ => rfl, fun ox oy w => ?_⟩
       rw [eqGuard_at_float]
       simp [binOp, Op.floatCmp, feq, flt, fgt, FloatKind.format, bne])
theorem nanS_sound {op : BinOp} {xT : TypeId} {kv : Sv → Option R} {r : R} (h : nanS op kv = some r) :
    ∃ sv z, kv sv = some r ∧ (∀ ρ, den ρ sv = some z) ∧ ∀ a b, Ieee.double.order a b = none → ∀ ox oy w, (do eqGuard op xT ox oy (.float .f64 a) (.float .f64 b); binOp op xT (.float .f64 a) (.float .f64 b)).run P w = .ok z w := by
  unfold nanS at h
  split at h <;> first
    | (cases h; done)
    | (refine ⟨_, _, h, fun _ => rfl, fun a b hn ox oy w => ?_⟩
       rw [eqGuard_at_float]
       simp [binOp, Op.floatCmp, FloatKind.format, hn, bne])

theorem binS_sound {op : BinOp} {xT : TypeId} {x y : Sv} {kv : Sv → Option R} {r : R} (h : binS P op xT x y kv = some r) :
    ∃ sv z, kv sv = some r ∧ (∀ ρ, den ρ sv = some z) ∧ ∀ ρ vx vy, den ρ x = some vx → den ρ y = some vy → ∀ ox oy w, (do eqGuard op xT ox oy vx vy; binOp op xT vx vy).run P w = .ok z w := by
  unfold binS at h
  split at h
  · rename_i k a k' b
    have fin : ValueAt P (binOp op xT (.int k a) (.int k' b)) kv r → ∃ sv z, kv sv = some r ∧ (∀ ρ, den ρ sv = some z) ∧ ∀ ρ vx vy, den ρ (.v (.int k a)) = some vx → den ρ (.v (.int k' b)) = some vy →
        ∀ ox oy w, (do eqGuard op xT ox oy vx vy; binOp op xT vx vy).run P w = .ok z w := by
      rintro ⟨sv, z, h1, h2, h3⟩
      refine ⟨sv, z, h1, h2, fun ρ vx vy hx hy ox oy w => ?_⟩
      simp only [den, Option.some.injEq] at hx hy
      subst hx hy
      rw [eqGuard_at_int]
      exact h3 w
    split at h
    · exact fin (shiftS_sound xT h)
    · exact fin (shiftS_sound xT h)
    · split at h
      · rename_i hk; subst hk; exact fin (intS_sound xT h)
      · cases h
  · rename_i a b
    split at h
    · rename_i hu
      have he : ∀ w, (Op.equal xT (.bool a) (.bool b)).run P w = .ok (a == b) w := fun w => run_equalIn_bool' w _ xT a b hu
      split at h
      · refine ⟨_, _, h, fun _ => rfl, fun ρ vx vy hx hy ox oy w => ?_⟩
        simp only [den, Option.some.injEq] at hx hy
        subst hx hy
        rw [eqGuard_at_bool]
        simp [binOp, he]
      · refine ⟨_, _, h, fun _ => rfl, fun ρ vx vy hx hy ox oy w => ?_⟩
        simp only [den, Option.some.injEq] at hx hy
        subst hx hy
        rw [eqGuard_at_bool]
        simp [binOp, he]
      · cases h
    · cases h
  · rename_i a b
    split at h
    · refine ⟨_, _, h, fun _ => rfl, fun ρ vx vy hx hy ox oy w => ?_⟩
      simp only [den, Option.some.injEq] at hx hy
      subst hx hy
      rw [eqGuard_at_string]
      simp [binOp, Op.stringOp, strEq]
    · refine ⟨_, _, h, fun _ => rfl, fun ρ vx vy hx hy ox oy w => ?_⟩
      simp only [den, Option.some.injEq] at hx hy
      subst hx hy
      rw [eqGuard_at_string]
      simp [binOp, Op.stringOp, strEq]
    · cases h
  · rename_i xs ys
    split at h
    · cases h
    · rename_i hg
      have aggs : ∀ ρ cs vx, den ρ (.agg cs) = some vx → ∃ lx, vx = .agg lx := fun ρ cs vx hx => by
        simp only [den] at hx
        split at hx <;> simp at hx
        exact ⟨_, hx.symm⟩
      split at h
      · split at h
        · rename_i q hq
          refine ⟨_, _, h, fun _ => rfl, fun ρ vx vy hx hy ox oy w => ?_⟩
          have he := run_eqS (ρ := ρ) 20 (n := 10000) (by omega) hq _ _ hx hy
          obtain ⟨lx, rfl⟩ := aggs _ _ _ hx
          obtain ⟨ly, rfl⟩ := aggs _ _ _ hy
          rw [Sem.run_bind, run_eqGuard_agg w _ _ _ _ _ _ hg, Result.andThen_ok, run_eql_struct, he w]; rfl
        · cases h
      · split at h
        · rename_i q hq
          refine ⟨_, _, h, fun _ => rfl, fun ρ vx vy hx hy ox oy w => ?_⟩
          have he := run_eqS (ρ := ρ) 20 (n := 10000) (by omega) hq _ _ hx hy
          obtain ⟨lx, rfl⟩ := aggs _ _ _ hx
          obtain ⟨ly, rfl⟩ := aggs _ _ _ hy
          rw [Sem.run_bind, run_eqGuard_agg w _ _ _ _ _ _ hg, Result.andThen_ok, run_neq_struct, he w]; rfl
        · cases h
      · cases h
  · rename_i b off
    have ptrs : ∀ ρ vx, den ρ (.ptr b off) = some vx → ∃ g, vx = .pointer (some ⟨g, off, none⟩) := fun ρ vx hx => by
      simp only [den] at hx
      split at hx <;> simp at hx
      exact ⟨_, hx.symm⟩
    split at h
    · rename_i elem hu
      have he : ∀ g w, (Op.equal xT (.pointer (some ⟨g, off, none⟩)) (.pointer none)).run P w = .ok false w := fun g w => run_eq_nil hu _ 9999 w
      split at h
      · refine ⟨_, _, h, fun _ => rfl, fun ρ vx vy hx hy ox oy w => ?_⟩
        obtain ⟨g, rfl⟩ := ptrs _ _ hx
        simp only [den, Option.some.injEq] at hy
        subst hy
        rw [eqGuard_at_pointer]
        simp [binOp, he]
      · refine ⟨_, _, h, fun _ => rfl, fun ρ vx vy hx hy ox oy w => ?_⟩
        obtain ⟨g, rfl⟩ := ptrs _ _ hx
        simp only [den, Option.some.injEq] at hy
        subst hy
        rw [eqGuard_at_pointer]
        simp [binOp, he]
      · cases h
    · cases h
  · split at h
    · rename_i elem hu
      have he : ∀ w, (Op.equal xT (.pointer none) (.pointer none)).run P w = .ok true w := fun w => run_eq_nils hu 9999 w
      split at h
      · refine ⟨_, _, h, fun _ => rfl, fun ρ vx vy hx hy ox oy w => ?_⟩
        simp only [den, Option.some.injEq] at hx hy
        subst hx hy
        rw [eqGuard_at_pointer]
        simp [binOp, he]
      · refine ⟨_, _, h, fun _ => rfl, fun ρ vx vy hx hy ox oy w => ?_⟩
        simp only [den, Option.some.injEq] at hx hy
        subst hx hy
        rw [eqGuard_at_pointer]
        simp [binOp, he]
      · cases h
    · cases h
  · rename_i a b
    obtain ⟨sv, z, h1, h2, h3⟩ := fcmpS_sound (P := P) (xT := xT) h
    refine ⟨sv, z, h1, h2, fun ρ vx vy hx hy ox oy w => ?_⟩
    simp only [den, Option.some.injEq] at hx hy
    subst hx hy
    exact h3 ox oy w
  · obtain ⟨sv, z, h1, h2, h3⟩ := nanS_sound (P := P) (xT := xT) h
    refine ⟨sv, z, h1, h2, fun ρ vx vy hx hy ox oy w => ?_⟩
    obtain ⟨x, hn, rfl⟩ := den_nan hx
    simp only [den, Option.some.injEq] at hy
    subst hy
    exact h3 _ _ (order_nan (.inl hn)) ox oy w
  · obtain ⟨sv, z, h1, h2, h3⟩ := nanS_sound (P := P) (xT := xT) h
    refine ⟨sv, z, h1, h2, fun ρ vx vy hx hy ox oy w => ?_⟩
    obtain ⟨y, hn, rfl⟩ := den_nan hy
    simp only [den, Option.some.injEq] at hx
    subst hx
    exact h3 _ _ (order_nan (.inr hn)) ox oy w
  · obtain ⟨sv, z, h1, h2, h3⟩ := nanS_sound (P := P) (xT := xT) h
    refine ⟨sv, z, h1, h2, fun ρ vx vy hx hy ox oy w => ?_⟩
    obtain ⟨x, hn, rfl⟩ := den_nan hx
    obtain ⟨y, _, rfl⟩ := den_nan hy
    exact h3 _ _ (order_nan (.inl hn)) ox oy w
  · cases h

theorem unS_sound {op : UnOp} {x : Sv} {kv : Sv → Option R} {r : R} (h : unS op x kv = some r) :
    ∃ sv z, kv sv = some r ∧ (∀ ρ, den ρ sv = some z) ∧ ∀ ρ vx, den ρ x = some vx → ∀ w, (Op.unary op vx).run P w = .ok z w := by
  unfold unS at h
  split at h <;> first
    | (cases h; done)
    | (refine ⟨_, _, h, fun _ => rfl, fun ρ vx hx w => ?_⟩
       simp only [den, Option.some.injEq] at hx
       subst hx
       simp [Op.unary, Op.intArith, Op.intBits, bitsL_eq, bits])

theorem convS_sound {src dst : TypeId} {x : Sv} {kv : Sv → Option R} {r : R} (h : convS P src dst x kv = some r) :
    ∃ sv, kv sv = some r ∧ ∀ ρ vx, den ρ x = some vx → ∃ z, den ρ sv = some z ∧ ∀ w, (convert src dst vx).run P w = .ok z w := by
  unfold convS at h
  split at h
  · rename_i d k n hs hd
    refine ⟨_, h, fun ρ vx hx => ⟨_, rfl, fun w => ?_⟩⟩
    simp only [den, Option.some.injEq] at hx
    subst hx
    simp [convert, run_underlying hs, run_underlying hd, Conv.intToInt]
  · rename_i s hs hd
    refine ⟨_, h, fun ρ vx hx => ⟨_, rfl, fun w => ?_⟩⟩
    simp only [den, Option.some.injEq] at hx
    subst hx
    simp [convert, run_underlying hs, run_underlying hd]
  · rename_i d q n hs hd
    refine ⟨_, h, fun ρ vx hx => ⟨_, rfl, fun w => ?_⟩⟩
    simp only [den, Option.some.injEq] at hx
    subst hx
    cases d <;> simp [convert, run_underlying hs, run_underlying hd, Conv.intToFloat, floatOfInt, fnear]
  · rename_i d k b hs hd
    cases hb : fiok b k with
    | false => rw [hb] at h; cases h
    | true =>
      rw [hb, cond_true] at h
      refine ⟨_, h, fun ρ vx hx => ⟨_, rfl, fun w => ?_⟩⟩
      simp only [den, Option.some.injEq] at hx
      subst hx
      have hn : floatToIntVal .f64 b k = some (fival b k) := by
        unfold fiok at hb; unfold fival
        cases hv : floatToIntVal .f64 b k with
        | none => rw [hv] at hb; cases hb
        | some n => rfl
      exact run_convert_float_int w src dst .f64 k b _ (by simp [hs]) hd hn
  · rename_i d b hs hd
    refine ⟨_, h, fun ρ vx hx => ⟨_, rfl, fun w => ?_⟩⟩
    simp only [den, Option.some.injEq] at hx
    subst hx
    exact run_convert_float_float w src dst .f64 .f64 b b (by simp [hs]) hd (by simp [floatToFloatBits])
  · rename_i d b hs hd
    refine ⟨_, h, fun ρ vx hx => ⟨vx, hx, fun w => ?_⟩⟩
    obtain ⟨x, _, rfl⟩ := den_nan hx
    exact run_convert_float_float w src dst .f64 .f64 x x (by simp [hs]) hd (by simp [floatToFloatBits])
  · cases h

theorem set_split {α : Type} (l : List α) (p : Nat) (x : α) (h : p < l.length) (n : Nat) : (l.set p x).take (p + 1) = l.take p ++ [x] ∧ (l.set p x).drop (p + 1 + n) = l.drop (p + 1 + n) := by
  have hs : l.set p x = l.take p ++ x :: l.drop (p + 1) := by rw [List.set_eq_take_append_cons_drop, if_pos h]
  have hl : (l.take p).length = p := by simp; omega
  rw [hs]
  constructor
  · rw [List.take_append, hl, List.take_of_length_le (by omega)]
    simp
  · rw [List.drop_append, hl, List.drop_eq_nil_of_le (by omega), show p + 1 + n - p = n + 1 by omega]
    simp [List.drop_drop]

theorem foldl_set (off : Nat) : ∀ (v : List Value) (k : Nat) (cs : Array Value), off + k + v.length ≤ cs.size →
    ((v.zipIdx k).foldl (fun cs (p : Value × Nat) => cs.setIfInBounds (off + p.2) p.1) cs).toList = cs.toList.take (off + k) ++ v ++ cs.toList.drop (off + k + v.length)
  | [], k, cs, _ => by simp
  | x :: v, k, cs, h => by
    simp only [List.length_cons] at h
    simp only [List.zipIdx_cons, List.foldl_cons]
    rw [foldl_set off v (k + 1) _ (by simp; omega)]
    have h1 := set_split cs.toList (off + k) x (by simp; omega) v.length
    have e : off + (k + 1) = off + k + 1 := by omega
    simp only [Array.toList_setIfInBounds, e, h1.1, h1.2, List.length_cons]
    rw [show off + k + (v.length + 1) = off + k + 1 + v.length by omega]
    simp

theorem cells_one {x : Sv} {v : Value} (h0 : ∀ b i, x = .unk b i → False) (h1 : ∀ xs, x = .agg xs → False) (h2 : ∀ cs, x = .v (.agg cs) → False) (h3 : ∀ cs, x = .tup cs → False) (hx : den ρ x = some v) : v.cells = #[v] := by
  cases x with
  | v y => simp only [den, Option.some.injEq] at hx; subst hx; cases y <;> first | rfl | (exact (h2 _ rfl).elim)
  | ptr b off => simp only [den] at hx; split at hx <;> simp at hx; subst hx; rfl
  | sl b off len cap => simp only [den] at hx; split at hx <;> simp at hx; subst hx; rfl
  | sa b c off len => obtain ⟨g, n, _, _, _, rfl⟩ := den_sa hx; rfl
  | mp b => simp only [den] at hx; split at hx <;> simp at hx; subst hx; rfl
  | unk b i => exact (h0 _ _ rfl).elim
  | pix b off len i => simp only [den] at hx; split at hx <;> simp at hx; obtain ⟨_, rfl⟩ := hx; rfl
  | nan b => obtain ⟨_, _, rfl⟩ := den_nan hx; rfl
  | agg cs => exact (h1 _ rfl).elim
  | tup cs => exact (h3 _ rfl).elim

theorem fillS_sound {place : Nat → Option (Nat × Nat)} {parts : List (Nat × Sv)} : ∀ {cells out : List Sv} {l : List Value} {vp : List (Nat × Value)},
    denL ρ cells = some l → (∀ (j : Nat) (p : Nat × Sv), parts[j]? = some p → ∃ x, vp[j]? = some (p.1, x) ∧ den ρ p.2 = some x) → vp.length = parts.length → fillS place cells parts = some out →
    ∃ lo, denL ρ out = some lo ∧ Instr.fill place l.toArray vp = some lo.toArray := by
  induction parts with
  | nil =>
    intro cells out l vp hl _ hlen h
    simp [fillS] at h; subst h
    have : vp = [] := List.eq_nil_of_length_eq_zero (by simpa using hlen)
    subst this
    exact ⟨l, hl, rfl⟩
  | cons p parts ih =>
    intro cells out l vp hl hp hlen h
    obtain ⟨i, x⟩ := p
    obtain ⟨v, hv, hx⟩ := hp 0 (i, x) rfl
    obtain ⟨q, vp, rfl⟩ : ∃ q vp', vp = q :: vp' := by cases vp with | nil => simp at hlen | cons q vp' => exact ⟨q, vp', rfl⟩
    simp at hv; subst hv
    have hp' : ∀ (j : Nat) (p : Nat × Sv), parts[j]? = some p → ∃ x, vp[j]? = some (p.1, x) ∧ den ρ p.2 = some x := fun j p hj => by simpa using hp (j + 1) p (by simpa using hj)
    have step : ∀ (off size : Nat) (xs : List Sv) (lx : List Value) (c : List Sv), place i = some (off, size) → denL ρ xs = some lx → v.cells = lx.toArray → xs.length = size → setSeg cells off xs = some c → fillS place c parts = some out →
        ∃ lo, denL ρ out = some lo ∧ Instr.fill place l.toArray ((i, v) :: vp) = some lo.toArray := by
      intro off size xs lx c hpl hxs hvc hsz hseg hfill
      obtain ⟨h1, h2⟩ := setSeg_den off hl hxs hseg
      obtain ⟨lo, h3, h4⟩ := ih h1 hp' (by simpa using hlen) hfill
      refine ⟨lo, h3, ?_⟩
      have hle := denL_length hxs
      simp only [Instr.fill, hpl, hvc]
      rw [if_neg (by simp; omega), ← h4]
      congr 1
      apply Array.ext'
      rw [← Array.foldl_toList, Array.toList_zipIdx]
      have := foldl_set off lx 0 l.toArray (by simp; omega)
      simpa using this
    simp only [fillS] at h
    split at h
    · cases h
    · rename_i off size hpl
      split at h
      · rename_i xs
        split at h
        · rename_i hsz
          split at h
          · rename_i c hc
            simp only [den] at hx
            split at hx
            · rename_i lx hlx
              simp at hx; subst hx
              exact step off size xs lx c hpl hlx rfl hsz hc h
            · cases hx
          · cases h
        · cases h
      · cases h
      · cases h
      · cases h
      · rename_i hn1 hn2 hn3 hn0
        split at h
        · rename_i hsz
          split at h
          · rename_i c hc
            have hvc : v.cells = #[v] := cells_one hn0 hn1 hn2 hn3 hx
            exact step off size [x] [v] c hpl (denL_mk hx rfl) hvc (by simpa using hsz.symm) hc h
          · cases h
        · cases h

theorem zeroS_sound {t : TypeId} {z : List Sv} (h : zeroS P t = some z) (ρ : List Un) : ∃ i zv, P.info? t = some i ∧ i.zero = some zv ∧ denL ρ z = some zv.cells.toList := by
  unfold zeroS at h
  split at h
  · rename_i i hi
    split at h
    · rename_i zv hz
      simp at h; subst h
      exact ⟨i, zv, hi, hz, denL_v ρ _⟩
    · cases h
  · cases h

theorem buildS_sound {t : TypeId} {parts : List (Nat × Sv)} {cs : List Sv} {vp : List (Nat × Value)} (h : buildS P t parts = some cs)
    (hp : ∀ (j : Nat) (p : Nat × Sv), parts[j]? = some p → ∃ x, vp[j]? = some (p.1, x) ∧ den ρ p.2 = some x) (hlen : vp.length = parts.length) :
    ∃ l, denL ρ cs = some l ∧ ∀ w, (Instr.build t vp.toArray).run P w = .ok (.agg l.toArray) w := by
  unfold buildS at h
  split at h
  · rename_i n e z hu hz
    obtain ⟨i, zv, hi, hzv, hden⟩ := zeroS_sound hz ρ
    split at h
    · rename_i ie hie
      obtain ⟨lo, h1, h2⟩ := fillS_sound hden hp hlen h
      refine ⟨lo, h1, fun w => run_build w t _ _ ?_⟩
      simp only [Program.built, hi, hu, hzv, hie]
      simpa using h2
    · cases h
  · rename_i fields z hu hz
    obtain ⟨i, zv, hi, hzv, hden⟩ := zeroS_sound hz ρ
    split at h
    · rename_i places hpl
      obtain ⟨lo, h1, h2⟩ := fillS_sound hden hp hlen h
      refine ⟨lo, h1, fun w => run_build w t _ _ ?_⟩
      simp only [Program.built, hi, hu, hzv, hpl]
      simpa using h2
    · cases h
  · cases h

end
end Go.Ev
