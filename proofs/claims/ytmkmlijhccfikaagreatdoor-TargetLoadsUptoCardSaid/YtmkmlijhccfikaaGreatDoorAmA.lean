/-
  The abstract machine: a deterministic evaluator of the program's code over values without addresses of the heap.
  Conditions: definitions only, nothing is proved here.
-/
import Derived.OrdersHeld
import Derived.WideLaws
import Derived.Laws.Cells
import Derived.Laws.BytesString
set_option linter.unusedVariables false
set_option linter.unusedSimpArgs false
set_option linter.deprecated false
set_option linter.unusedSectionVars false
namespace Go.Am
set_option linter.unusedSectionVars false

/-! ### A map from numbers -/
inductive Tr (α : Type) where
  | nil
  | node (l : Tr α) (v : Option α) (r : Tr α)
def Tr.get {α : Type} : Tr α → Nat → Option α
  | .nil, _ => none
  | .node l v r, n => if n = 0 then v else if n % 2 = 1 then l.get (n / 2) else r.get (n / 2 - 1)
def Tr.setF {α : Type} (x : Option α) : Nat → Tr α → Nat → Tr α
  | 0, t, _ => t
  | f + 1, .nil, n => if n = 0 then .node .nil x .nil else if n % 2 = 1 then .node (setF x f .nil (n / 2)) none .nil else .node .nil none (setF x f .nil (n / 2 - 1))
  | f + 1, .node l v r, n => if n = 0 then .node l x r else if n % 2 = 1 then .node (setF x f l (n / 2)) v r else .node l v (setF x f r (n / 2 - 1))
def Tr.set {α : Type} (t : Tr α) (n : Nat) (x : Option α) : Tr α := Tr.setF x (Nat.log2 (n + 1) + 1) t n

/-! ### Values -/
inductive AV where
  | unk
  | v (x : Value)
  | ptr (b off : Nat)
  | rp (l : List AV)
  | ms (b off len es : Nat)
  | rs (l : List AV) (len es : Nat) (tok : Option Nat)
  | agg (cs : List AV)
  | tup (cs : List AV)
  | iface (t : TypeId) (x : AV)
  | fn (f : Fn) (first captured : List AV)
  | map (b : Nat)
  | stamp (b : Nat) (k : Value)
  deriving Inhabited
/-- What the keys of a map are: whole numbers of a kind, or arrays of so many. -/
inductive KShape where
  | int (j : IntKind)
  | arr (j : IntKind) (n : Nat)
  deriving DecidableEq
inductive ABlock where
  | cells (cs : List AV)
  | map (sh : KShape) (es : List (Value × AV))
structure AH where
  next : Nat
  m : Tr ABlock
def AH.get (h : AH) (b : Nat) : Option ABlock := h.m.get b
def AH.put (h : AH) (b : Nat) (x : Option ABlock) : AH := { h with m := h.m.set b x }
def AH.new (h : AH) (x : ABlock) : AH := { next := h.next + 1, m := h.m.set h.next (some x) }
def AH.empty : AH := ⟨0, .nil⟩

def flat : Value → Bool
  | .bool _ | .int _ _ | .float _ _ | .complex _ _ _ | .string _ | .pointer none | .slice none 0 0 | .map none | .nilFunc | .nilIface => true
  | .iface _ x => flat x
  | _ => false
/-- A constant's value. -/
def ofValue (x : Value) : AV :=
  match x with
  | .agg cs => if cs.toList.all flat then .agg (cs.toList.map .v) else .unk
  | .tuple cs => if cs.toList.isEmpty then .tup [] else .unk
  | x => if flat x then .v x else .unk
def AV.single : AV → Bool
  | .unk | .agg _ | .tup _ => false
  | _ => true
/-- The cells that a value takes in memory. -/
def AV.cells : AV → Option (List AV)
  | .agg cs => if cs.all AV.single then some cs else none
  | x => if x.single then some [x] else none
/-- A run of an operation that looks at the program alone. -/
def pureRun {α : Type} (P : Program) : Sem α → Option α
  | .pure a => some a
  | .program k => pureRun P (k P)
  | _ => none
def ofFlat (x : Option Value) : Option AV := x.bind fun x => if flat x then some (.v x) else none
def scalars : List AV → Option (List Value)
  | [] => some []
  | .v x :: r => (scalars r).map (x :: ·)
  | _ => none
/-- A value that holds no address, as the machine has it. -/
def scalarOf : AV → Option Value
  | .v x => some x
  | .agg cs => (scalars cs).map fun l => .agg l.toArray
  | _ => none

def zeroCells (P : Program) (t : TypeId) : Option (List AV) :=
  (P.info? t).bind fun i => i.zero.bind fun z => if z.cells.toList.all flat then some (z.cells.toList.map .v) else none
def zeroAV (P : Program) (t : TypeId) : Option AV := (P.info? t).bind fun i => i.zero.bind fun z => match ofValue z with | .unk => none | x => some x
def isAggB (P : Program) (t : TypeId) : Option Bool := (P.underlying t).map fun
  | .struct _ | .array _ _ => true
  | _ => false
def sizeOfB (P : Program) (t : TypeId) : Option Nat := (P.info? t).map (·.size)
def elemOfB (P : Program) (t : TypeId) : Option TypeId := (P.underlying t).bind fun | .slice e => some e | _ => none

/-- What is loaded of cells. -/
def loadFrom (agg : Bool) (size : Nat) (cs : List AV) : Option AV :=
  if agg then (if size ≤ cs.length then some (.agg (cs.take size)) else none) else cs.head?
def partOf (P : Program) (t : TypeId) (cs : List AV) (off : Nat) : Option AV :=
  (isAggB P t).bind fun a => (sizeOfB P t).bind fun s => if a then some (.agg ((cs.drop off).take s)) else cs[off]?
def splice (cs : List AV) (off : Nat) (vs : List AV) : Option (List AV) :=
  if off + vs.length ≤ cs.length then some (cs.take off ++ vs ++ cs.drop (off + vs.length)) else none
def fillA (place : Nat → Option (Nat × Nat)) : List AV → List (Nat × AV) → Option (List AV)
  | cells, [] => some cells
  | cells, (i, v) :: rest =>
    match place i, v.cells with
    | some (off, size), some vs => if vs.length = size then (splice cells off vs).bind fun cs => fillA place cs rest else none
    | _, _ => none
def placesOf (P : Program) : List Field → Option (List (Nat × Nat))
  | [] => some []
  | f :: r => (sizeOfB P f.type).bind fun s => (placesOf P r).map ((f.offset, s) :: ·)
def reps {α : Type} (l : List α) : Nat → List α
  | 0 => []
  | n + 1 => l ++ reps l n

/-- The cells of a slice, and how many elements; of a string its bytes. -/
def cellsOf (H : AH) (size : Nat) : AV → Option (List AV × Nat)
  | .v (.slice none 0 0) => some ([], 0)
  | .v (.string s) => if size = 1 then some (s.data.toList.map (fun b => .v (.int .u8 b.toNat)), s.size) else none
  | .rs l n es _ => if es = size then some (l, n) else none
  | .ms b off n es => if es = size then match H.get b with
    | some (.cells cs) => if off + n * es ≤ cs.length then some ((cs.drop off).take (n * es), n) else none
    | _ => none else none
  | _ => none
def bytesOf : List AV → Option (List UInt8)
  | [] => some []
  | .v (.int .u8 n) :: r => (bytesOf r).map (UInt8.ofNat n.toNat :: ·)
  | _ => none
def intOfAV : AV → Option Int
  | .v (.int _ n) => some n
  | _ => none
def most : Nat := 2 ^ 40

def newCells (H : AH) (cs : List AV) (k : Nat → AV) : Option (AV × AH) := some (k H.next, H.new (.cells cs))

/-- 'append': a new slice of what was there, and more. 'ro': it is told by value. -/
def appendA (H : AH) (ro : Bool) (size bytes : Nat) (s x : AV) : Option (AV × AH) :=
  (cellsOf H size x).bind fun (xs, n) =>
    if size = 0 then none
    else if n = 0 then (match s with | .v (.slice none 0 0) | .rs _ _ _ _ | .ms _ _ _ _ => some (s, H) | _ => none)
    else match s with
    | .v (.slice none 0 0) =>
      if n * bytes ≤ most ∧ n * size ≤ most then
        if ro then some (.rs xs n size (some H.next), H.new (.cells [])) else some (.ms H.next 0 n size, H.new (.cells xs))
      else none
    | .rs l k es (some t) =>
      if es = size then
        match H.get t with
        | some (.cells []) =>
          if (k + n) * bytes ≤ most ∧ (k + n) * size ≤ most then some (.rs (l ++ xs) (k + n) size (some H.next), (H.put t none).new (.cells [])) else none
        | _ => none
      else none
    | .ms b off k es =>
      if es = size then
        match H.get b with
        | some (.cells cs) =>
          if off + k * es ≤ cs.length ∧ (k + n) * bytes ≤ most ∧ (k + n) * size ≤ most then
            let l := (cs.drop off).take (k * es) ++ xs
            if ro then some (.rs l (k + n) size (some H.next), (H.put b none).new (.cells []))
            else some (.ms H.next 0 (k + n) size, (H.put b none).new (.cells l))
          else none
        | _ => none
      else none
    | _ => none

def copyA (H : AH) (size : Nat) (d s : AV) : Option (AV × AH) :=
  (cellsOf H size s).bind fun (xs, n) =>
    match d with
    | .v (.slice none 0 0) => some (.v (goInt 0), H)
    | .ms b off k es =>
      if es = size then
        match H.get b with
        | some (.cells cs) =>
          let m := min n k
          if off + k * es ≤ cs.length then
            (splice cs off (xs.take (m * size))).map fun cs' => (.v (goInt m), H.put b (some (.cells cs')))
          else none
        | _ => none
      else none
    | _ => none

def intAtBeq (xs ys : Array Value) (i : Nat) : Bool :=
  match xs[i]?, ys[i]? with
  | some (.int j a), some (.int k b) => j == k && a == b
  | _, _ => false
/-- Are two keys the same? -/
def keyBeq : Value → Value → Bool
  | .int j a, .int k b => j == k && a == b
  | .agg xs, .agg ys => xs.size == ys.size && (List.range xs.size).all (intAtBeq xs ys)
  | _, _ => false
def findA (k : Value) : List (Value × AV) → Option AV
  | [] => none
  | e :: es => if keyBeq k e.1 then some e.2 else findA k es
def setA (k : Value) (x : AV) : List (Value × AV) → List (Value × AV)
  | [] => [(k, x)]
  | e :: es => if keyBeq k e.1 then (e.1, x) :: es else e :: setA k x es
def mapOf (H : AH) (sh : KShape) : AV → Option (Nat × List (Value × AV))
  | .map b => match H.get b with
    | some (.map sh' es) => if sh = sh' then some (b, es) else none
    | _ => none
  | _ => none
def keyTypes (P : Program) (t : TypeId) : Option (TypeId × TypeId) := (P.underlying t).bind fun | .map k e => some (k, e) | _ => none
def keyShape (P : Program) (t : TypeId) : Option KShape :=
  match P.underlying t with
  | some (.int j) => some (.int j)
  | some (.array n e) => match P.underlying e with
    | some (.int j) => if (P.info? e).any (·.size == 1) then some (.arr j n) else none
    | _ => none
  | _ => none
def hasShape : KShape → Value → Bool
  | .int j, .int j' _ => j == j'
  | .arr j n, .agg cs => cs.size == n && cs.toList.all fun | .int j' _ => j == j' | _ => false
  | _, _ => false

structure Cfg where
  P : Program
  /-- is what an append of a function's region makes told by value? -/
  ro : FuncId → Nat → Bool
  /-- the regions of a function at which a run is cut, and the slots that live there -/
  cut : FuncId → Nat → Option (List Nat)
structure Orc where
  call : FuncId → List AV → AH → Option (AV × AH)
  jump : FuncId → List Item → List AV → AH → Option (AV × AH)

/-- What package-level variables hold, which nobody writes. -/
class Laid where
  gl : Nat → Option (List AV)
variable [Laid]
def evalA (t : List AV) : Operand → AV
  | .tmp i => t.getD i .unk
  | .const v => ofValue v
  | .global g => match Laid.gl g with
    | some l => .rp l
    | none => .unk
  | .func f => .fn (.func f) [] []

def lenA (P : Program) (H : AH) (t : TypeId) (x : AV) : Option (AV × AH) :=
  match P.underlying t with
  | some (.array n _) => some (.v (goInt n), H)
  | some .string => match x with
    | .v (.string s) => some (.v (goInt s.size), H)
    | _ => none
  | some (.slice _) => match x with
    | .v (.slice none 0 0) => some (.v (goInt 0), H)
    | .rs _ n _ _ => some (.v (goInt n), H)
    | .ms _ _ n _ => some (.v (goInt n), H)
    | _ => none
  | some (.map _ _) => match x with
    | .v (.map none) => some (.v (goInt 0), H)
    | .map b => match H.get b with
      | some (.map _ es) => some (.v (goInt es.length), H)
      | _ => none
    | _ => none
  | _ => none

def builtinA (c : Cfg) (ro : Bool) (b : Builtin) (argTypes : Array TypeId) (type : TypeId) (args : List AV) (H : AH) : Option (AV × AH) :=
  match b, args with
  | .len, [x] => (argTypes[0]?).bind fun t => lenA c.P H t x
  | .append, [s, x] => (argTypes[0]?).bind fun t => (elemOfB c.P t).bind fun e => (c.P.info? e).bind fun i =>
      match (argTypes[1]?).map (c.P.underlying ·) with
      | some (some .string) | some (some (.slice _)) => if i.zero.any (fun z => z.cells.size == i.size) then appendA H ro i.size i.bytes s x else none
      | _ => none
  | .copy, [d, s] => (argTypes[0]?).bind fun t => (elemOfB c.P t).bind fun e => (c.P.info? e).bind fun i => copyA H i.size d s
  | .max, xs => (scalars xs).bind fun vs => (ofFlat (pureRun c.P (Builtin.max_ argTypes type vs.toArray))).map (·, H)
  | .min, xs => (scalars xs).bind fun vs => (ofFlat (pureRun c.P (Builtin.min_ argTypes type vs.toArray))).map (·, H)
  | .real, xs => (scalars xs).bind fun vs => (ofFlat (pureRun c.P (Builtin.real_ argTypes type vs.toArray))).map (·, H)
  | .imag, xs => (scalars xs).bind fun vs => (ofFlat (pureRun c.P (Builtin.imag_ argTypes type vs.toArray))).map (·, H)
  | .complex, xs => (scalars xs).bind fun vs => (ofFlat (pureRun c.P (Builtin.complex_ argTypes type vs.toArray))).map (·, H)
  | _, _ => none

/-- The method of a value in an interface: the function. -/
def methodA (P : Program) (t : TypeId) (name : String) : Option FuncId :=
  (P.info? t).bind fun i => (i.methods.find? (·.name == name)).bind fun m =>
    if m.path.isEmpty then match m.func, P.underlying t with
      | some (f, true), some (.pointer _) => some f
      | some (f, false), some (.pointer _) => none
      | some (f, false), some _ => some f
      | _, _ => none
    else none

def callA (c : Cfg) (O : Orc) (ro : Bool) (k : Call) (type : TypeId) (ev : Operand → AV) (H : AH) : Option (AV × AH) :=
  let args := k.args.toList.map ev
  match k.callee with
  | .builtin b => builtinA c ro b k.argTypes type args H
  | .value f => match ev f with
    | .fn (.func g) first captured => O.call g (first ++ args ++ captured) H
    | _ => none
  | .invoke r name => match ev r with
    | .iface t x => (methodA c.P t name).bind fun f => O.call f (x :: args) H
    | .v (.iface t x) => (methodA c.P t name).bind fun f => O.call f (ofValue x :: args) H
    | _ => none

/-- '==' of what is no scalar. -/
def eqA (x y : AV) : Option Bool :=
  match x, y with
  | .ptr b o, .ptr b' o' => if b = b' then some (o == o') else none
  | .ptr _ _, .v (.pointer none) | .v (.pointer none), .ptr _ _ => some false
  | .iface _ _, .v .nilIface | .v .nilIface, .iface _ _ => some false
  | .iface t _, .v (.iface u _) | .v (.iface t _), .iface u _ => if t = u then none else some false
  | .iface t _, .iface u _ => if t = u then none else some false
  | _, _ => none

def isPtrAV : AV → Bool | .ptr _ _ => true | _ => false
def isIfaceAV : AV → Bool | .iface _ _ => true | _ => false
def binA (P : Program) (op : BinOp) (t : TypeId) (x y : Operand) (a b : AV) : Option AV :=
  match scalarOf a, scalarOf b with
  | some p, some q => ofFlat (pureRun P (do eqGuard op t x y p q; binOp op t p q))
  | _, _ => match P.underlying t with
    | some (.pointer e) => (sizeOfB P e).bind fun s => if s = 0 ∨ !(isPtrAV a || isPtrAV b) then none else match op with
      | .eql => (eqA a b).map fun r => .v (.bool r)
      | .neq => (eqA a b).map fun r => .v (.bool (!r))
      | _ => none
    | some (.interface _) => if !(isIfaceAV a || isIfaceAV b) then none else match op with
      | .eql => (eqA a b).map fun r => .v (.bool r)
      | .neq => (eqA a b).map fun r => .v (.bool (!r))
      | _ => none
    | _ => none

def boundA (x : Option AV) (dflt m : Nat) : Option Nat :=
  match x with
  | none => some dflt
  | some v => (intOfAV v).bind fun i => if 0 ≤ i ∧ i ≤ m then some i.toNat else none
def sliceB (lo hi : Option AV) (n : Nat) : Option (Nat × Nat) := (boundA hi n n).bind fun h => (boundA lo 0 h).map fun l => (l, h)

def sliceA (P : Program) (H : AH) (t : TypeId) (x : AV) (lo hi : Option AV) : Option AV :=
  match P.underlying t with
  | some (.array n e) => match x with
    | .ptr b off => (sizeOfB P e).bind fun s => match H.get b with
      | some (.cells cs) => if s = 0 ∨ off + n * s > cs.length then none else (sliceB lo hi n).map fun (l, h) => .ms b (off + l * s) (h - l) s
      | _ => none
    | _ => none
  | some .string => match x with
    | .v (.string s) => (sliceB lo hi s.size).map fun (l, h) => .v (.string (s.extract l h))
    | _ => none
  | some (.slice e) => (sizeOfB P e).bind fun s => match x with
    | .v (.slice none 0 0) => (sliceB lo hi 0).map fun _ => x
    | .ms b off n es => if es = s ∧ s ≠ 0 then (sliceB lo hi n).map fun (l, h) => .ms b (off + l * s) (h - l) s else none
    | .rs cs n es tok => if es = s ∧ s ≠ 0 then (sliceB lo hi n).map fun (l, h) => .rs ((cs.drop (l * s)).take ((h - l) * s)) (h - l) s (if h = n then tok else none) else none
    | _ => none
  | _ => none

abbrev Ans := Option (AV × AH)
def pickA (H : AH) (q a b : AV) : Ans := match q with | .v (.bool q) => some (if q then a else b, H) | _ => none
def allocA (P : Program) (H : AH) (e : TypeId) : Ans := (zeroCells P e).bind fun z => newCells H z (.ptr · 0)
def boxA (H : AH) (x : AV) : Ans := x.cells.bind fun cs => newCells H cs (.ptr · 0)
def buildA (P : Program) (H : AH) (t : TypeId) (parts : List (Nat × AV)) : Ans :=
  (zeroCells P t).bind fun z => match P.underlying t with
    | some (.struct fs) => (placesOf P fs.toList).bind fun ps => (fillA (ps[·]?) z parts).map fun cs => (.agg cs, H)
    | some (.array _ e) => (sizeOfB P e).bind fun s => (fillA (fun i => some (i * s, s)) z parts).map fun cs => (.agg cs, H)
    | _ => none
def buildSliceA (P : Program) (H : AH) (t : TypeId) (n : Nat) (parts : List (Nat × AV)) : Ans :=
  (elemOfB P t).bind fun e => (sizeOfB P e).bind fun s => if s = 0 ∨ n = 0 ∨ n * s > 2 ^ 24 then none else
      (zeroCells P e).bind fun z => if z.length = s then (fillA (fun i => some (i * s, s)) (reps z n) parts).bind fun cs => newCells H cs (.ms · 0 n s) else none
def loadA (P : Program) (H : AH) (t : TypeId) (a : AV) : Ans :=
  (isAggB P t).bind fun g => (sizeOfB P t).bind fun s => match a with
    | .ptr b off => match H.get b with
      | some (.cells cs) => (loadFrom g s (cs.drop off)).map (·, H)
      | _ => none
    | .rp l => (loadFrom g s l).map (·, H)
    | _ => none
def storeA (P : Program) (H : AH) (t : TypeId) (a x : AV) : Ans :=
  (sizeOfB P t).bind fun s => x.cells.bind fun vs => if vs.length = s then (match a with
    | .ptr b off => match H.get b with
      | some (.cells cs) => (splice cs off vs).map fun cs' => (.tup [], H.put b (some (.cells cs')))
      | _ => none
    | _ => none) else none
def nilCheckA (H : AH) (x : AV) : Ans :=
  match x with
    | .ptr b off => some (.ptr b off, H)
    | .rp l => some (.rp l, H)
    | .iface t x => some (.iface t x, H)
    | .v (.iface t x) => some (.v (.iface t x), H)
    | .fn (.func f) a b => some (.fn (.func f) a b, H)
    | _ => none
def unA (P : Program) (H : AH) (op : UnOp) (x : AV) : Ans :=
  match x with
    | .v a => (ofFlat (pureRun P (Op.unary op a))).map (·, H)
    | _ => none
/-- A text as bytes (true), bytes as a text (false); none: something else. -/
def convKind (P : Program) (src dst : TypeId) : Option (Bool × TypeId) :=
  match P.underlying src, P.underlying dst with
  | some .string, some (.slice e) => match P.underlying e with
    | some (.int .u8) => some (true, e)
    | _ => none
  | some (.slice e), some .string => match P.underlying e with
    | some (.int .u8) => some (false, e)
    | _ => none
  | _, _ => none
def toBytesA (H : AH) (x : AV) : Ans :=
  match x with
  | .v (.string s) => if s.size ≤ most then newCells H (s.data.toList.map fun b => .v (.int .u8 b.toNat)) (.ms · 0 s.size 1) else none
  | _ => none
def isText : AV → Bool
  | .v (.string _) => true
  | _ => false
def toTextA (H : AH) (x : AV) : Ans :=
  if isText x then none else (cellsOf H 1 x).bind fun p => (bytesOf p.1).map fun bs => (.v (.string ⟨bs.toArray⟩), H)
/-- '[]byte' of a text that the code bears: its bytes stand in a slice already, and are marked. -/
def markB (P : Program) (src dst : TypeId) : Bool :=
  src == dst && match P.underlying src with
    | some (.slice e) => match P.underlying e with
      | some (.int .u8) => true
      | _ => false
    | _ => false
def markA (P : Program) (H : AH) (src dst : TypeId) (b off n es : Nat) : Ans :=
  if markB P src dst then match H.get b with
    | some (.cells cs) => some (.ms b off n es, H.put b (some (.cells cs)))
    | _ => none
  else none
def convertA (P : Program) (H : AH) (src dst : TypeId) (x : AV) : Ans :=
  match convKind P src dst with
  | some (true, _) => toBytesA H x
  | some (false, _) => toTextA H x
  | none => match x with
    | .v a => (ofFlat (pureRun P (convert src dst a))).map (·, H)
    | .ms b off n es => markA P H src dst b off n es
    | _ => none
def ifaceA (P : Program) (H : AH) (t : TypeId) (x : AV) : Ans :=
  match P.underlying t with
    | some (.interface _) => none
    | some _ => match x with
      | .v a => some (.v (.iface t a), H)
      | .unk => none
      | y => some (.iface t y, H)
    | none => none
def makeMapA (P : Program) (H : AH) (t : TypeId) : Ans := (keyTypes P t).bind fun p => (keyShape P p.1).bind fun sh => some (.map H.next, H.new (.map sh []))
def makeSliceA (P : Program) (H : AH) (t : TypeId) (l k : AV) : Ans :=
  (elemOfB P t).bind fun e => (P.info? e).bind fun i => (zeroCells P e).bind fun z => (intOfAV l).bind fun l => (intOfAV k).bind fun k =>
      if z.length = i.size ∧ i.size ≠ 0 ∧ 0 ≤ l ∧ l ≤ k ∧ k * i.bytes ≤ most ∧ k * i.size ≤ most ∧ k ≤ most then newCells H (reps z k.toNat) (.ms · 0 l.toNat i.size) else none
def fieldAddrA (P : Program) (H : AH) (s : TypeId) (x : AV) (f : Nat) : Ans :=
  match P.underlying s with
    | some (.struct fs) => (fs[f]?).bind fun fd => (sizeOfB P fd.type).bind fun sz => if sz = 0 then none else match x with
      | .ptr b off => some (.ptr b (off + fd.offset), H)
      | .rp l => some (.rp (l.drop fd.offset), H)
      | _ => none
    | _ => none
def fieldA (P : Program) (H : AH) (t : TypeId) (x : AV) (f : Nat) : Ans :=
  match P.underlying t with
    | some (.struct fs) => (fs[f]?).bind fun fd => match x with
      | .agg cs => (partOf P fd.type cs fd.offset).map (·, H)
      | _ => none
    | _ => none
def indexAddrA (P : Program) (H : AH) (t : TypeId) (x ix : AV) : Ans :=
  (intOfAV ix).bind fun i => match P.underlying t with
    | some (.array n e) => (sizeOfB P e).bind fun s => if 0 ≤ i ∧ i < n then match x with
      | .ptr b off => some (.ptr b (off + i.toNat * s), H)
      | .rp l => some (.rp (l.drop (i.toNat * s)), H)
      | _ => none else none
    | some (.slice e) => (sizeOfB P e).bind fun s => match x with
      | .ms b off n es => if es = s ∧ 0 ≤ i ∧ i < n then some (.ptr b (off + i.toNat * s), H) else none
      | .rs l n es _ => if es = s ∧ 0 ≤ i ∧ i < n then some (.rp (l.drop (i.toNat * s)), H) else none
      | _ => none
    | _ => none
def indexA (P : Program) (H : AH) (t : TypeId) (x ix : AV) : Ans :=
  (intOfAV ix).bind fun i => match P.underlying t, x with
    | some (.array n e), .agg cs => (sizeOfB P e).bind fun s => if 0 ≤ i ∧ i < n then (partOf P e cs (i.toNat * s)).map (·, H) else none
    | some .string, .v (.string s) => if 0 ≤ i then (s.data.toList[i.toNat]?).map fun b => (.v (.int .u8 b.toNat), H) else none
    | _, _ => none
def entriesA (H : AH) (sh : KShape) (x : AV) : Option (List (Value × AV)) :=
  match x with
  | .v (.map none) => some []
  | .map b => (mapOf H sh (.map b)).map Prod.snd
  | _ => none
def foundA (P : Program) (et : TypeId) (k : Value) (es : List (Value × AV)) : Option (AV × Bool) :=
  match findA k es with
  | some v => some (v, true)
  | none => (zeroAV P et).map (·, false)
def lookupA (P : Program) (H : AH) (t : TypeId) (x ix : AV) (ok : Bool) : Ans :=
  (keyTypes P t).bind fun p => (keyShape P p.1).bind fun sh => (scalarOf ix).bind fun k => if hasShape sh k then
      (entriesA H sh x).bind fun es => (foundA P p.2 k es).map fun q => (if ok then .tup [q.1, .v (.bool q.2)] else q.1, H) else none
def mapUpdateA (P : Program) (H : AH) (t : TypeId) (m k x : AV) : Ans :=
  (keyTypes P t).bind fun p => (keyShape P p.1).bind fun sh => (scalarOf k).bind fun k => if hasShape sh k ∧ x.single then
      (mapOf H sh m).map fun q => (.tup [], H.put q.1 (some (.map sh (setA k x q.2)))) else none
def mapEntryA (P : Program) (H : AH) (t : TypeId) (m k : AV) : Ans :=
  (keyTypes P t).bind fun p => (keyShape P p.1).bind fun sh => (scalarOf k).bind fun k => if hasShape sh k then
      (mapOf H sh m).bind fun q => match findA k q.2 with
        | some v => some (.tup [v, .stamp q.1 k], H)
        | none => (zeroAV P p.2).bind fun z => if z.single then some (.tup [z, .stamp q.1 k], H.put q.1 (some (.map sh (setA k z q.2)))) else none else none
def entryStoreA (P : Program) (H : AH) (t : TypeId) (m s x : AV) : Ans :=
  (keyTypes P t).bind fun p => (keyShape P p.1).bind fun sh => (mapOf H sh m).bind fun q => match s with
    | .stamp b' k => if q.1 = b' ∧ x.single ∧ hasShape sh k ∧ (findA k q.2).isSome then some (.tup [], H.put q.1 (some (.map sh (setA k x q.2)))) else none
    | _ => none
def extractA (H : AH) (x : AV) (i : Nat) : Ans :=
  match x with
    | .tup cs => (cs[i]?).map (·, H)
    | _ => none
/-- An operation that is no call. -/
def opA (c : Cfg) (o : Oper) (ev : Operand → AV) (H : AH) : Ans :=
  let P := c.P
  match o.op with
  | .move x | .assign x => some (ev x, H)
  | .pick q a b => pickA H (ev q) (ev a) (ev b)
  | .alloc e => allocA P H e
  | .box _ x => boxA H (ev x)
  | .build t parts => buildA P H t (parts.toList.map fun (i, x) => (i, ev x))
  | .buildSlice t n parts => buildSliceA P H t n (parts.toList.map fun (i, x) => (i, ev x))
  | .load t a => loadA P H t (ev a)
  | .store t a x => storeA P H t (ev a) (ev x)
  | .nilCheck x => nilCheckA H (ev x)
  | .binOp op t x y _ => (binA P op t x y (ev x) (ev y)).map (·, H)
  | .unOp op _ x => unA P H op (ev x)
  | .convert src dst x => convertA P H src dst (ev x)
  | .makeInterface t x => ifaceA P H t (ev x)
  | .makeFunc g first captured => some (.fn g (first.toList.map ev) (captured.toList.map ev), H)
  | .makeMap t none => makeMapA P H t
  | .makeSlice t l k => makeSliceA P H t (ev l) (ev k)
  | .slice t x lo hi none => (sliceA P H t (ev x) (lo.map ev) (hi.map ev)).map (·, H)
  | .fieldAddr s x f => fieldAddrA P H s (ev x) f
  | .field t x f => fieldA P H t (ev x) f
  | .indexAddr t x ix => indexAddrA P H t (ev x) (ev ix)
  | .index t x ix => indexA P H t (ev x) (ev ix)
  | .lookup t x ix ok => lookupA P H t (ev x) (ev ix) ok
  | .mapUpdate t m k x | .insert t m k x => mapUpdateA P H t (ev m) (ev k) (ev x)
  | .mapEntry t m k => mapEntryA P H t (ev m) (ev k)
  | .entryStore t m s x => entryStoreA P H t (ev m) (ev s) (ev x)
  | .extract t i => extractA H (ev t) i
  | _ => none

def wantedA (ops : Array Oper) (t : List AV) (o : Oper) : Option Bool :=
  match o.guard with
  | none => some true
  | some (j, want) => match (ops[j]?).bind (·.dst) with
    | some d => match t.getD d .unk with
      | .v (.bool b) => some (b == want)
      | .tup [] => some false
      | _ => none
    | none => some false
def putA (t : List AV) (dst : Option Tmp) (x : AV) : List AV :=
  match dst with
  | some d => t.set d x
  | none => t
/-- An operation, a call or another one. -/
def operA (c : Cfg) (O : Orc) (ro : Bool) (o : Oper) (t : List AV) (H : AH) : Option (AV × AH) :=
  match o.op with
  | .call k => callA c O ro k o.type (evalA t) H
  | _ => opA c o (evalA t) H
def regN (c : Cfg) (O : Orc) (ro : Bool) (ops : Array Oper) : List Nat → List AV → AH → Option (List AV × AH)
  | [], t, H => some (t, H)
  | i :: rest, t, H => match ops[i]? with
    | none => regN c O ro ops rest t H
    | some o => match wantedA ops t o with
      | none => none
      | some false => regN c O ro ops rest (putA t o.dst (.tup [])) H
      | some true => (operA c O ro o t H).bind fun (x, H) => regN c O ro ops rest (putA t o.dst x) H

/-! ### A region that draws its order -/
/-- Does operation number i come ahead of number j in whatever order? -/
def aheadF (ops : Array Oper) : Nat → Nat → Nat → Bool
  | 0, _, _ => false
  | f + 1, i, j => ((ops[j]?).map (·.after.toList.any fun e => Region.binds .any e && (e.on == i || aheadF ops f i e.on))).getD false
def quietOp : Oper → Bool
  | { op := .move _, .. } | { op := .pick .., .. } | { op := .build .., .. } | { op := .nilCheck _, .. } | { op := .binOp .., .. } | { op := .unOp .., .. }
  | { op := .makeInterface .., .. } | { op := .makeFunc .., .. } | { op := .slice .., .. } | { op := .fieldAddr .., .. } | { op := .field .., .. } | { op := .indexAddr .., .. } | { op := .index .., .. } | { op := .extract .., .. } => true
  | { op := .call { callee := .builtin b, .. }, .. } => match b with
    | .min | .max | .real | .imag | .complex => true
    | _ => false
  | _ => false
def isTextConv (P : Program) (src dst : TypeId) : Bool := match convKind P src dst with
  | some (false, _) => true
  | _ => false
/-- A load, or another look at a block: which. -/
def looksAt (P : Program) (o : Oper) (t : List AV) : Option (Option Nat) :=
  match o.op with
  | .load _ a => match evalA t a with
    | .ptr b _ => some (some b)
    | .rp _ => some none
    | _ => none
  | .convert src dst x => match evalA t x with
    | .v (.int _ _) | .v (.float _ _) => some none
    | .ms b _ _ _ => if isTextConv P src dst then some (some b) else none
    | .rs _ _ _ _ => if isTextConv P src dst then some none else none
    | _ => none
  | .call { callee := .builtin .len, args, .. } => match args.toList.map (evalA t) with
    | [.rs ..] | [.ms ..] | [.v _] => some none
    | _ => none
  | _ => none
def hideAll (H : AH) : List Nat → AH
  | [] => H
  | b :: r => hideAll (H.put b none) r
def showAll (H0 H : AH) : List Nat → AH
  | [] => H
  | b :: r => showAll H0 (H.put b (H0.get b)) r
/-- May an operation be taken first, if it looks at what it should? -/
def mayLook (P : Program) (o : Oper) : Bool := match o.op with
  | .load _ _ => true
  | .convert src dst _ => match convKind P src dst with
    | some (true, _) => false
    | some (false, _) => true
    | none => !markB P src dst
  | .call { callee := .builtin .len, argTypes, .. } => match (argTypes[0]?).map (P.underlying ·) with
    | some (some (.map _ _)) => false
    | _ => true
  | _ => false
/-- What is taken first. -/
def firstOf (c : Cfg) (ops : Array Oper) (listed : Array Bool) (t : List AV) : List Nat → Option Nat
  | [] => none
  | i :: r => match ops[i]? with
    | none => firstOf c ops listed t r
    | some o => if Region.free .any ops listed i then
        match wantedA ops t o with
        | some false => some i
        | _ => if quietOp o || mayLook c.P o then some i else firstOf c ops listed t r
      else firstOf c ops listed t r
/-- What of memory it looks at. -/
def lookB (P : Program) (o : Oper) (t : List AV) : Option (Option Nat) := if quietOp o then some none else looksAt P o t
def isAlloc (o : Oper) : Bool := match o.op with
  | .alloc _ | .buildSlice .. | .box .. => true
  | _ => false
def waitsOn (ops : Array Oper) (k i : Nat) : Bool := ((ops[k]?).map (·.after.any fun e => Region.binds .any e && e.on == i)).getD false
/-- May the allocation number i come ahead of number j or behind it, for all that is yet to come? -/
def lateOk (c : Cfg) (ops : Array Oper) (listed : Array Bool) (t : List AV) (H : AH) (j i : Nat) : Bool := match ops[i]? with
  | some oi => isAlloc oi && oi.guard.isNone && (match oi.dst with | some d => !(oi.looksAt ops).contains d | none => true) && Region.free .any ops listed i && (opA c oi (evalA t) H).isSome && (List.range ops.size).all fun k => listed.getD k true || k == i || !waitsOn ops k i || aheadF ops ops.size j k
  | none => false
def blurT (ops : Array Oper) : List Nat → List AV → List AV
  | [], t => t
  | i :: r, t => blurT ops r (putA t ((ops[i]?).bind (·.dst)) .unk)
/-- What is carried out, where nothing may be taken first: the one that is ready; or the one beside allocations. -/
def pickJ (c : Cfg) (ops : Array Oper) (listed : Array Bool) (t : List AV) (H : AH) (rs : List Nat) : Option (Nat × List AV) :=
  rs.findSome? fun j => let t2 := blurT ops (rs.filter (· != j)) t
    if (rs.filter (· != j)).all (lateOk c ops listed t2 H j) then some (j, t2) else none
/-- 'held': the operations that were taken first, and the blocks that they looked at. -/
def regD (c : Cfg) (O : Orc) (ro : Bool) (ops : Array Oper) : Nat → Array Bool → List (Nat × Nat) → List AV → AH → Option (List AV × AH)
  | 0, _, _, _, _ => none
  | f + 1, listed, held, t, H =>
    match Region.ready .any ops listed with
    | [] => some (t, H)
    | rs => match firstOf c ops listed t rs with
      | some i => match ops[i]? with
        | none => none
        | some o => match wantedA ops t o with
          | none => none
          | some false => regD c O ro ops f (listed.setIfInBounds i true) held (putA t o.dst (.tup [])) H
          | some true => (lookB c.P o t).bind fun b => (operA c O ro o t H).bind fun (x, H) => regD c O ro ops f (listed.setIfInBounds i true) (match b with | some b => (i, b) :: held | none => held) (putA t o.dst x) H
      | none => match pickJ c ops listed t H rs with
        | some (j, t) => match ops[j]? with
          | none => none
          | some o => match wantedA ops t o with
            | none => none
            | some false => regD c O ro ops f (listed.setIfInBounds j true) held (putA t o.dst (.tup [])) H
            | some true =>
              let still := held.filter fun p => !aheadF ops ops.size p.1 j
              let hid := still.map (·.2)
              (operA c O ro o t (hideAll H hid)).bind fun (x, H') => regD c O ro ops f (listed.setIfInBounds j true) still (putA t o.dst x) (showAll H H' hid)
        | none => none

def maskA (live : List Nat) (t : List AV) : List AV := t.zipIdx.map fun (x, i) => if live.contains i then x else .unk

def resultsA (P : Program) (t : List AV) (H : AH) : List ResultVar → Option (List AV)
  | [] => some []
  | .tmp i :: r => (resultsA P t H r).map (t.getD i .unk :: ·)
  | .cell i ty :: r => match t.getD i .unk with
    | .ptr b off => match H.get b with
      | some (.cells cs) => (isAggB P ty).bind fun g => (sizeOfB P ty).bind fun s => (loadFrom g s (cs.drop off)).bind fun x => (resultsA P t H r).map (x :: ·)
      | _ => none
    | _ => none
def finishA (P : Program) (fn : Func) (t : List AV) (H : AH) : Option (AV × AH) :=
  (resultsA P t H fn.results.toList).map fun
    | [x] => (x, H)
    | xs => (.tup xs, H)

/-- A run of what is to be done, up to the function's end or the next cut. 'first': no cut at the very first region. -/
def exec (c : Cfg) (O : Orc) (f : FuncId) (fn : Func) : Nat → Bool → List Item → List AV → AH → Option (AV × AH)
  | 0, _, _, _, _ => none
  | n + 1, first, todo, t, H => match todo with
    | [] => finishA c.P fn t H
    | .code .ret :: _ => finishA c.P fn t H
    | .code .skip :: k | .code (.label _) :: k | .inBlock _ :: k | .inScope _ :: k => exec c O f fn n first k t H
    | .code (.seq a b) :: k => exec c O f fn n first (.code a :: .code b :: k) t H
    | .code (.cond q a b) :: k => match evalA t q with
      | .v (.bool q) => match q with
        | true => exec c O f fn n first (.code a :: k) t H
        | false => exec c O f fn n first (.code b :: k) t H
      | _ => none
    | .code (.block id b) :: k => exec c O f fn n first (.code b :: .inBlock id :: k) t H
    | .code (.loop b) :: k | .inLoop b :: k => exec c O f fn n first (.code b :: .inLoop b :: k) t H
    | .code (.scope b) :: k => exec c O f fn n first (.code b :: .inScope b :: k) t H
    | .code (.exit id) :: k => match exitTo id k with
      | some k' => exec c O f fn n first k' t H
      | none => none
    | .code (.goto l) :: k => match gotoIn l k with
      | some k' => exec c O f fn n first k' t H
      | none => none
    | .code (.region id ops draw) :: k =>
      match (if first then none else c.cut f id) with
      | some live => O.jump f todo (maskA live t) H
      | none =>
        (if draw then (if c.P.follows .mixedOrders && Region.noSelect ops then regD c O (c.ro f id) ops (ops.size + 1) (Array.replicate ops.size false) [] t H else none) else regN c O (c.ro f id) ops (List.range ops.size) t H).bind fun (t, H) =>
          exec c O f fn n false k t H
    | _ => none
def fuel : Nat := 100000

abbrev Hook := List AV → AH → Option (AV × AH)
/-- The calls and cuts up to a depth. -/
def orc (c : Cfg) (hook : FuncId → Option Hook) : Nat → Orc
  | 0 => ⟨fun _ _ _ => none, fun _ _ _ _ => none⟩
  | n + 1 => {
    call := fun f args H => match hook f with
      | some g => g args H
      | none => match c.P.funcs[f]? with
        | some fn => match (if fn.name == "runtime.NumGoroutine" then none else fn.body) with
          | some b => exec c (orc c hook n) f fn fuel false [.code b] (args ++ List.replicate (fn.ntmps - args.length) (.tup [])) H
          | none => none
        | none => none
    jump := fun f todo t H => match c.P.funcs[f]? with
      | some fn => exec c (orc c hook n) f fn fuel true todo t H
      | none => none }
end Go.Am
/-
  What an abstract value, and an abstract heap, say of the machine's own; that more knowledge keeps it.
-/
namespace Go.Am
set_option linter.unusedSectionVars false

/-! ### The map -/
theorem Tr.get_nil {α : Type} (m : Nat) : (Tr.nil : Tr α).get m = none := rfl
theorem Tr.get_setF {α : Type} (x : Option α) : ∀ (f : Nat) (t : Tr α) (n m : Nat), n + 1 < 2 ^ f → (Tr.setF x f t n).get m = if n = m then x else t.get m := by
  intro f
  induction f with
  | zero => intro t n m h; simp at h
  | succ f ih =>
    intro t n m h
    rw [Nat.pow_succ] at h
    cases t with
    | nil =>
      simp only [Tr.setF]
      by_cases h0 : n = 0
      · subst h0
        rw [if_pos rfl]; simp only [Tr.get]
        by_cases hm : m = 0
        · subst hm; simp
        · rw [if_neg hm, if_neg (show ¬ (0 = m) by omega)]; split <;> rfl
      · rw [if_neg h0]
        by_cases h1 : n % 2 = 1
        · rw [if_pos h1]; simp only [Tr.get]
          rw [ih _ _ _ (by omega)]
          by_cases hm : m = 0
          · subst hm; simp [h0]
          · rw [if_neg hm]
            by_cases hm1 : m % 2 = 1
            · rw [if_pos hm1]
              by_cases he : n = m
              · subst he; simp
              · rw [if_neg he, if_neg (by omega)]; rfl
            · rw [if_neg hm1, if_neg (by intro e; subst e; omega)]
        · rw [if_neg h1]; simp only [Tr.get]
          rw [ih _ _ _ (by omega)]
          by_cases hm : m = 0
          · subst hm; simp [h0]
          · rw [if_neg hm]
            by_cases hm1 : m % 2 = 1
            · rw [if_pos hm1, if_neg (by intro e; subst e; omega)]
            · rw [if_neg hm1]
              by_cases he : n = m
              · subst he; simp
              · rw [if_neg he, if_neg (by omega)]; rfl
    | node l v r =>
      simp only [Tr.setF]
      by_cases h0 : n = 0
      · subst h0
        rw [if_pos rfl]; simp only [Tr.get]
        by_cases hm : m = 0
        · subst hm; simp
        · rw [if_neg hm, if_neg hm, if_neg (show ¬ (0 = m) by omega)]
      · rw [if_neg h0]
        by_cases h1 : n % 2 = 1
        · rw [if_pos h1]; simp only [Tr.get]
          rw [ih _ _ _ (by omega)]
          by_cases hm : m = 0
          · subst hm; simp [h0]
          · rw [if_neg hm, if_neg hm]
            by_cases hm1 : m % 2 = 1
            · rw [if_pos hm1, if_pos hm1]
              by_cases he : n = m
              · subst he; simp
              · rw [if_neg he, if_neg (by omega)]
            · rw [if_neg hm1, if_neg hm1, if_neg (by intro e; subst e; omega)]
        · rw [if_neg h1]; simp only [Tr.get]
          rw [ih _ _ _ (by omega)]
          by_cases hm : m = 0
          · subst hm; simp [h0]
          · rw [if_neg hm, if_neg hm]
            by_cases hm1 : m % 2 = 1
            · rw [if_pos hm1, if_pos hm1, if_neg (by intro e; subst e; omega)]
            · rw [if_neg hm1, if_neg hm1]
              by_cases he : n = m
              · subst he; simp
              · rw [if_neg he, if_neg (by omega)]
theorem Tr.get_set {α : Type} (t : Tr α) (n m : Nat) (x : Option α) : (t.set n x).get m = if n = m then x else t.get m :=
  Tr.get_setF x _ t n m Nat.lt_log2_self

theorem AH.get_put (H : AH) (b : Nat) (x : Option ABlock) (k : Nat) : (H.put b x).get k = if b = k then x else H.get k := Tr.get_set _ _ _ _
theorem AH.get_new (H : AH) (x : ABlock) (k : Nat) : (H.new x).get k = if H.next = k then some x else H.get k := Tr.get_set _ _ _ _
theorem AH.next_put (H : AH) (b : Nat) (x : Option ABlock) : (H.put b x).next = H.next := rfl
theorem AH.next_new (H : AH) (x : ABlock) : (H.new x).next = H.next + 1 := rfl

/-! ### Knowledge -/
structure Gh where
  ρ : Nat → Option (Nat × Nat)
  ro : Nat → Nat → Option Value
  sz : Nat → Option Nat
  bn : Nat → Value → Nat → Prop
structure Gh.le (G G' : Gh) : Prop where
  ρ : ∀ b x, G.ρ b = some x → G'.ρ b = some x
  ro : ∀ c o x, G.ro c o = some x → G'.ro c o = some x
  sz : ∀ c x, G.sz c = some x → G'.sz c = some x
  bn : ∀ c k n, G.bn c k n → G'.bn c k n
theorem Gh.le.refl (G : Gh) : G.le G := ⟨fun _ _ h => h, fun _ _ _ h => h, fun _ _ h => h, fun _ _ _ h => h⟩
theorem Gh.le.trans {A B C : Gh} (h : A.le B) (k : B.le C) : A.le C := ⟨fun b x e => k.ρ b x (h.ρ b x e), fun c o x e => k.ro c o x (h.ro c o x e), fun c x e => k.sz c x (h.sz c x e), fun c x n e => k.bn c x n (h.bn c x n e)⟩

def RoAt (G : Gh) (c o : Nat) (vs : List Value) : Prop := ∀ (i : Nat) v, vs[i]? = some v → G.ro c (o + i) = some v
theorem RoAt.mono {G G' : Gh} (h : G.le G') {c o : Nat} {vs : List Value} (r : RoAt G c o vs) : RoAt G' c o vs := fun i v e => h.ro _ _ _ (r i v e)
theorem RoAt.drop {G : Gh} {c o : Nat} {vs : List Value} (r : RoAt G c o vs) (k : Nat) : RoAt G c (o + k) (vs.drop k) := fun i v e => by
  rw [List.getElem?_drop] at e
  rw [Nat.add_assoc]; exact r _ v e
theorem RoAt.take {G : Gh} {c o : Nat} {vs : List Value} (r : RoAt G c o vs) (k : Nat) : RoAt G c o (vs.take k) := fun i v e => by
  rw [List.getElem?_take] at e
  split at e
  · exact r _ v e
  · cases e

/-- The value of one cell. -/
def one : Value → Bool
  | .agg _ | .tuple _ => false
  | _ => true
def Ones (vs : List Value) : Prop := ∀ v ∈ vs, one v = true
theorem Ones.take {vs : List Value} (h : Ones vs) (k : Nat) : Ones (vs.take k) := fun v hv => h v (List.mem_of_mem_take hv)
theorem Ones.drop {vs : List Value} (h : Ones vs) (k : Nat) : Ones (vs.drop k) := fun v hv => h v (List.mem_of_mem_drop hv)
theorem Ones.append {vs ws : List Value} (h : Ones vs) (k : Ones ws) : Ones (vs ++ ws) := fun v hv => (List.mem_append.1 hv).elim (h v) (k v)
theorem Ones.nil : Ones [] := fun _ h => by cases h

mutual
def VRel (G : Gh) : AV → Value → Prop
  | .unk, _ => True
  | .v x, y => y = x ∧ flat x = true
  | .ptr b o, y => ∃ c base, G.ρ b = some (c, base) ∧ y = .pointer (some ⟨c, base + o, none⟩)
  | .rp l, y => ∃ c o vs, y = .pointer (some ⟨c, o, none⟩) ∧ VRelL G l vs ∧ RoAt G c o vs
  | .ms b o n es, y => ∃ c base off cap sz, G.ρ b = some (c, base) ∧ y = .slice (some ⟨c, off, none⟩) n cap ∧ n ≤ cap ∧ (off = base + o ∨ (n = 0 ∧ cap = 0)) ∧ G.sz c = some sz ∧ off + cap * es ≤ sz
  | .rs l n es tok, y => (l = [] ∧ n = 0 ∧ (y = .slice none 0 0 ∨ ∃ a, y = .slice (some a) 0 0)) ∨
      ∃ c off cap vs sz, y = .slice (some ⟨c, off, none⟩) n cap ∧ VRelL G l vs ∧ RoAt G c off vs ∧ Ones vs ∧ l.length = n * es ∧ n ≤ cap ∧ G.sz c = some sz ∧ off + cap * es ≤ sz ∧
        (∀ t, tok = some t → cap = n ∨ G.ρ t = some (c, off + n * es))
  | .agg cs, y => ∃ arr : Array Value, y = .agg arr ∧ VRelL G cs arr.toList
  | .tup cs, y => ∃ arr : Array Value, y = .tuple arr ∧ VRelL G cs arr.toList
  | .iface t x, y => ∃ v, y = .iface t v ∧ VRel G x v
  | .fn f a b, y => ∃ a' b' : Array Value, y = .func f a' b' ∧ VRelL G a a'.toList ∧ VRelL G b b'.toList
  | .map b, y => ∃ c base, G.ρ b = some (c, base) ∧ y = .map (some c)
  | .stamp b k, y => ∃ c base n, G.ρ b = some (c, base) ∧ G.bn c k n ∧ y = goInt n
def VRelL (G : Gh) : List AV → List Value → Prop
  | [], ys => ys = []
  | x :: xs, ys => ∃ v vs, ys = v :: vs ∧ VRel G x v ∧ VRelL G xs vs
end

mutual
theorem VRel.mono {G G' : Gh} (h : G.le G') : ∀ (x : AV) (v : Value), VRel G x v → VRel G' x v
  | .unk, _, _ => by simp [VRel]
  | .v x, y, e => by simp only [VRel] at e ⊢; exact e
  | .ptr b o, y, e => by simp only [VRel] at e ⊢; obtain ⟨c, base, e1, e2⟩ := e; exact ⟨c, base, h.ρ _ _ e1, e2⟩
  | .rp l, y, e => by simp only [VRel] at e ⊢; obtain ⟨c, o, vs, e1, e2, e3⟩ := e; exact ⟨c, o, vs, e1, VRelL.mono h l vs e2, e3.mono h⟩
  | .ms b o n es, y, e => by
    simp only [VRel] at e ⊢; obtain ⟨c, base, off, cap, sz, e1, e2, e3, e4, e5, e6⟩ := e
    exact ⟨c, base, off, cap, sz, h.ρ _ _ e1, e2, e3, e4, h.sz _ _ e5, e6⟩
  | .rs l n es tok, y, e => by
    simp only [VRel] at e ⊢
    rcases e with e | ⟨c, off, cap, vs, sz, e1, e2, e3, e0, e4, e5, e6, e7, e8⟩
    · exact .inl e
    · exact .inr ⟨c, off, cap, vs, sz, e1, VRelL.mono h l vs e2, e3.mono h, e0, e4, e5, h.sz _ _ e6, e7, fun t ht => (e8 t ht).imp id (h.ρ _ _)⟩
  | .agg cs, y, e => by simp only [VRel] at e ⊢; obtain ⟨arr, e1, e2⟩ := e; exact ⟨arr, e1, VRelL.mono h cs _ e2⟩
  | .tup cs, y, e => by simp only [VRel] at e ⊢; obtain ⟨arr, e1, e2⟩ := e; exact ⟨arr, e1, VRelL.mono h cs _ e2⟩
  | .iface t x, y, e => by simp only [VRel] at e ⊢; obtain ⟨v, e1, e2⟩ := e; exact ⟨v, e1, VRel.mono h x v e2⟩
  | .fn f a b, y, e => by simp only [VRel] at e ⊢; obtain ⟨a', b', e1, e2, e3⟩ := e; exact ⟨a', b', e1, VRelL.mono h a _ e2, VRelL.mono h b _ e3⟩
  | .map b, y, e => by simp only [VRel] at e ⊢; obtain ⟨c, base, e1, e2⟩ := e; exact ⟨c, base, h.ρ _ _ e1, e2⟩
  | .stamp b k, y, e => by simp only [VRel] at e ⊢; obtain ⟨c, base, n, e1, e2, e3⟩ := e; exact ⟨c, base, n, h.ρ _ _ e1, h.bn _ _ _ e2, e3⟩
theorem VRelL.mono {G G' : Gh} (h : G.le G') : ∀ (xs : List AV) (vs : List Value), VRelL G xs vs → VRelL G' xs vs
  | [], vs, e => by simp only [VRelL] at e ⊢; exact e
  | x :: xs, vs, e => by simp only [VRelL] at e ⊢; obtain ⟨v, ws, e1, e2, e3⟩ := e; exact ⟨v, ws, e1, VRel.mono h x v e2, VRelL.mono h xs ws e3⟩
end

/-! ### Lists of values -/
section
variable {G : Gh}
theorem VRelL.nil : VRelL G [] [] := by simp [VRelL]
theorem VRelL.cons {x : AV} {v : Value} {xs : List AV} {vs : List Value} (h : VRel G x v) (k : VRelL G xs vs) : VRelL G (x :: xs) (v :: vs) := by
  simp only [VRelL]; exact ⟨v, vs, rfl, h, k⟩
theorem VRelL.cons_iff {x : AV} {v : Value} {xs : List AV} {vs : List Value} : VRelL G (x :: xs) (v :: vs) ↔ VRel G x v ∧ VRelL G xs vs := by
  simp only [VRelL]
  constructor
  · rintro ⟨v', vs', e, h, k⟩; cases e; exact ⟨h, k⟩
  · rintro ⟨h, k⟩; exact ⟨v, vs, rfl, h, k⟩
theorem VRelL.nil_iff {vs : List Value} : VRelL G [] vs ↔ vs = [] := by simp [VRelL]
theorem VRelL.length : ∀ {xs : List AV} {vs : List Value}, VRelL G xs vs → xs.length = vs.length
  | [], vs, h => by simp only [VRelL] at h; subst h; rfl
  | x :: xs, vs, h => by simp only [VRelL] at h; obtain ⟨v, ws, rfl, _, k⟩ := h; simp [VRelL.length k]
theorem VRelL.get : ∀ {xs : List AV} {vs : List Value}, VRelL G xs vs → ∀ (i : Nat) x, xs[i]? = some x → ∃ v, vs[i]? = some v ∧ VRel G x v
  | [], vs, h, i, x, e => by simp at e
  | y :: xs, vs, h, i, x, e => by
    simp only [VRelL] at h; obtain ⟨v, ws, rfl, a, k⟩ := h
    cases i with
    | zero => simp at e; subst e; exact ⟨v, by simp, a⟩
    | succ i => simp at e; obtain ⟨u, e1, e2⟩ := VRelL.get k i x e; exact ⟨u, by simpa using e1, e2⟩
theorem VRelL.of_get : ∀ {xs : List AV} {vs : List Value}, xs.length = vs.length → (∀ (i : Nat) x v, xs[i]? = some x → vs[i]? = some v → VRel G x v) → VRelL G xs vs
  | [], [], _, _ => VRelL.nil
  | [], v :: vs, h, _ => by simp at h
  | x :: xs, [], h, _ => by simp at h
  | x :: xs, v :: vs, h, k => VRelL.cons (k 0 x v rfl rfl) (VRelL.of_get (by simpa using h) fun i y u e f => k (i + 1) y u (by simpa using e) (by simpa using f))
theorem VRelL.append {xs ys : List AV} {vs ws : List Value} (h : VRelL G xs vs) (k : VRelL G ys ws) : VRelL G (xs ++ ys) (vs ++ ws) := by
  induction xs generalizing vs with
  | nil => rw [VRelL.nil_iff] at h; subst h; simpa using k
  | cons x xs ih =>
    simp only [VRelL] at h; obtain ⟨v, us, rfl, a, b⟩ := h
    exact VRelL.cons a (ih b)
theorem VRelL.drop {xs : List AV} {vs : List Value} (h : VRelL G xs vs) (k : Nat) : VRelL G (xs.drop k) (vs.drop k) := by
  induction k generalizing xs vs with
  | zero => simpa using h
  | succ k ih =>
    cases xs with
    | nil => rw [VRelL.nil_iff] at h; subst h; simpa using VRelL.nil
    | cons x xs => simp only [VRelL] at h; obtain ⟨v, us, rfl, a, b⟩ := h; simpa using ih b
theorem VRelL.take {xs : List AV} {vs : List Value} (h : VRelL G xs vs) (k : Nat) : VRelL G (xs.take k) (vs.take k) := by
  induction k generalizing xs vs with
  | zero => simpa using VRelL.nil
  | succ k ih =>
    cases xs with
    | nil => rw [VRelL.nil_iff] at h; subst h; simpa using VRelL.nil
    | cons x xs => simp only [VRelL] at h; obtain ⟨v, us, rfl, a, b⟩ := h; simpa using VRelL.cons a (ih b)
theorem VRelL.map_v {l : List Value} (h : l.all flat = true) : VRelL G (l.map .v) l := by
  induction l with
  | nil => exact VRelL.nil
  | cons x l ih => simp only [List.all_cons, Bool.and_eq_true] at h; exact VRelL.cons (by simp [VRel, h.1]) (ih h.2)
theorem VRelL.reps {xs : List AV} {vs : List Value} (h : VRelL G xs vs) (n : Nat) : VRelL G (reps xs n) (reps vs n) := by
  induction n with
  | zero => exact VRelL.nil
  | succ n ih => exact h.append ih
end

theorem VRel.of_v {G : Gh} {x : Value} {y : Value} (h : VRel G (.v x) y) : y = x := by simp only [VRel] at h; exact h.1
theorem VRel.v {G : Gh} {x : Value} (h : flat x = true) : VRel G (.v x) x := by simp [VRel, h]
theorem VRel.unk {G : Gh} {v : Value} : VRel G .unk v := by simp [VRel]
theorem VRel.undef {G : Gh} : VRel G (.tup []) undef := by simp only [VRel]; exact ⟨#[], rfl, VRelL.nil⟩

theorem one_of_flat : ∀ {v : Value}, flat v = true → one v = true := by
  intro v h
  cases v <;> first | rfl | (simp [flat] at h)
theorem VRel.one {G : Gh} {x : AV} {v : Value} (h : VRel G x v) (hs : x.single = true) : one v = true := by
  cases x with
  | unk => simp [AV.single] at hs
  | agg cs => simp [AV.single] at hs
  | tup cs => simp [AV.single] at hs
  | v y => simp only [VRel] at h; rw [h.1]; exact one_of_flat h.2
  | ptr b o => simp only [VRel] at h; obtain ⟨c, base, _, rfl⟩ := h; rfl
  | rp l => simp only [VRel] at h; obtain ⟨c, o, vs, rfl, _⟩ := h; rfl
  | ms b o n es => simp only [VRel] at h; obtain ⟨c, base, off, cap, sz, _, rfl, _⟩ := h; rfl
  | rs l n es t =>
    simp only [VRel] at h
    rcases h with ⟨_, _, rfl | ⟨_, rfl⟩⟩ | ⟨c, off, cap, vs, sz, rfl, _⟩ <;> rfl
  | iface t x => simp only [VRel] at h; obtain ⟨u, rfl, _⟩ := h; rfl
  | fn f a b => simp only [VRel] at h; obtain ⟨a', b', rfl, _⟩ := h; rfl
  | map b => simp only [VRel] at h; obtain ⟨c, base, _, rfl⟩ := h; rfl
  | stamp b k => simp only [VRel] at h; obtain ⟨c, base, n, _, _, rfl⟩ := h; rfl
theorem cells_of_one {v : Value} (h : one v = true) : v.cells = #[v] := by
  cases v <;> first | rfl | (simp [one] at h)
/-- The cells of a value. -/
theorem VRel.cells {G : Gh} {x : AV} {v : Value} {cs : List AV} (h : VRel G x v) (hc : x.cells = some cs) :
    VRelL G cs v.cells.toList ∧ Ones v.cells.toList := by
  by_cases hs : x.single = true
  · have ho := h.one hs
    have hcs : cs = [x] := by
      cases x <;> simp [AV.single] at hs <;> simp [AV.cells, AV.single] at hc <;> exact hc.symm
    rw [cells_of_one ho, hcs]
    exact ⟨VRelL.cons h VRelL.nil, by simpa [Ones] using ho⟩
  · cases x <;> simp [AV.single] at hs <;> simp [AV.cells, AV.single] at hc
    obtain ⟨hc1, rfl⟩ := hc
    simp only [VRel] at h
    obtain ⟨arr, rfl, h2⟩ := h
    refine ⟨h2, fun u hu => ?_⟩
    obtain ⟨i, hi⟩ := List.getElem?_of_mem hu
    simp only [Value.cells] at hi
    have hlt : i < arr.toList.length := (List.getElem?_eq_some_iff.1 hi).1
    have hl := h2.length
    have hlt' : i < _ := hl ▸ hlt
    obtain ⟨w, e1, e2⟩ := h2.get i _ (List.getElem?_eq_getElem hlt')
    rw [hi] at e1; cases e1
    exact e2.one (hc1 _ (List.getElem_mem _))
theorem Ones.flat {l : List Value} (h : l.all Am.flat = true) : Ones l := fun v hv => one_of_flat (List.all_eq_true.1 h v hv)
theorem Ones.reps {l : List Value} (h : Ones l) (n : Nat) : Ones (Am.reps l n) := by
  induction n with
  | zero => exact .nil
  | succ n ih => exact h.append ih
end Go.Am
/-
  The relation between an abstract heap and a world, and the steps that keep it.
-/
namespace Go.Am
set_option linter.unusedSectionVars false
variable [Laid]

/-- A map's entries, in whatever order. -/
structure MSet (G : Gh) (c : Nat) (sh : KShape) (es : List (Value × AV)) (en : List MapEntry) (clock : Nat) : Prop where
  to : ∀ p ∈ es, ∃ e ∈ en, e.key = p.1 ∧ VRel G p.2 e.val ∧ G.bn c p.1 e.born
  from_ : ∀ e ∈ en, ∃ p ∈ es, e.key = p.1
  len : en.length = es.length
  shape : ∀ p ∈ es, hasShape sh p.1 = true
  keys : (es.map (·.1)).Nodup
  keys' : (en.map (·.key)).Nodup
  born : (en.map (·.born)).Nodup
  clock : ∀ e ∈ en, e.born < clock
theorem MSet.mono {G G' : Gh} (h : G.le G') {c : Nat} {sh : KShape} {es : List (Value × AV)} {en : List MapEntry} {clock : Nat} (m : MSet G c sh es en clock) : MSet G' c sh es en clock :=
  { m with to := fun p hp => let ⟨e, h1, h2, h3, h4⟩ := m.to p hp; ⟨e, h1, h2, h3.mono h, h.bn _ _ _ h4⟩ }

/-- Of so many cells none is frozen, nor will be when the end is marked. -/
def Thaw (fz : Nat × Nat) (n : Nat) : Prop := fz.1 = fz.2 ∨ n ≤ fz.1
theorem Thaw.not {fz : Nat × Nat} {n o : Nat} (h : Thaw fz n) (ho : o < n) : ¬ (fz.1 ≤ o ∧ o < fz.2) := by unfold Thaw at h; omega
def BlkOk (G : Gh) (w : World) (x : ABlock) (c base : Nat) : Prop :=
  match x with
  | .cells cs => ∃ (arr : Array Value) (e : TypeId) (fz : Nat × Nat) (vs : List Value), w.heap[c]? = some (.cells arr e fz) ∧ VRelL G cs vs ∧ Ones vs ∧
      (∀ i v, vs[i]? = some v → arr[base + i]? = some v) ∧ base + cs.length ≤ arr.size ∧
      (∀ o, base ≤ o → o < arr.size → Thaw fz arr.size) ∧ (∀ o, base ≤ o → G.ro c o = none) ∧ G.sz c = some arr.size
  | .map sh es => ∃ (entries : Array MapEntry) (clk : Nat), w.heap[c]? = some (.map entries clk) ∧ MSet G c sh es entries.toList clk

structure Rel (H : AH) (w : World) (G : Gh) : Prop where
  fresh : ∀ b, H.next ≤ b → H.get b = none ∧ G.ρ b = none
  blk : ∀ b x, H.get b = some x → ∃ c base, G.ρ b = some (c, base) ∧ BlkOk G w x c base
  inj : ∀ b b' x x' c o o', H.get b = some x → H.get b' = some x' → G.ρ b = some (c, o) → G.ρ b' = some (c, o') → b = b'
  roOk : ∀ c o v, G.ro c o = some v → ∃ (arr : Array Value) (e : TypeId) (fz : Nat × Nat), w.heap[c]? = some (.cells arr e fz) ∧ arr[o]? = some v
  szOk : ∀ c n, G.sz c = some n → ∃ (arr : Array Value) (e : TypeId) (fz : Nat × Nat), w.heap[c]? = some (.cells arr e fz) ∧ arr.size = n
  rhoOk : ∀ b c o, G.ρ b = some (c, o) → c < w.heap.size
  bnOk : ∀ c k n, G.bn c k n → ∃ (entries : Array MapEntry) (clk : Nat), w.heap[c]? = some (.map entries clk) ∧ ∃ e ∈ entries.toList, e.key = k ∧ e.born = n
  laid : ∀ g l, Laid.gl g = some l → ∃ vs, VRelL G l vs ∧ RoAt G g 0 vs
theorem Rel.laidMono {H : AH} {w : World} {G G' : Gh} (r : Rel H w G) (h : G.le G') : ∀ g l, Laid.gl g = some l → ∃ vs, VRelL G' l vs ∧ RoAt G' g 0 vs := fun g l e => let ⟨vs, h1, h2⟩ := r.laid g l e; ⟨vs, VRelL.mono h _ _ h1, h2.mono h⟩

def Foot (H : AH) (G : Gh) (c : Nat) : Prop := ∃ b x o, H.get b = some x ∧ G.ρ b = some (c, o)

structure Ev (H : AH) (w : World) (G : Gh) (H' : AH) (w' : World) (G' : Gh) : Prop where
  le : G.le G'
  os : w'.os = w.os
  tape : w'.tape = w.tape
  output : w'.output = w.output
  size : w.heap.size ≤ w'.heap.size
  next : H.next ≤ H'.next
  frame : ∀ c, c < w.heap.size → ¬ Foot H G c → w'.heap[c]? = w.heap[c]?
  foot : ∀ c, Foot H' G' c → Foot H G c ∨ w.heap.size ≤ c
  live : ∀ b, b < H.next → H'.get b ≠ none → H.get b ≠ none
  roNew : ∀ c o v, G'.ro c o = some v → G.ro c o = some v ∨ Foot H G c ∨ w.heap.size ≤ c
  szNew : ∀ c n, G'.sz c = some n → G.sz c = some n ∨ w.heap.size ≤ c
  rho : ∀ b, b < H.next → G'.ρ b = G.ρ b

theorem Ev.refl (H : AH) (w : World) (G : Gh) : Ev H w G H w G :=
  ⟨.refl G, rfl, rfl, rfl, Nat.le_refl _, Nat.le_refl _, fun _ _ _ => rfl, fun _ h => .inl h, fun _ _ h => h, fun _ _ _ h => .inl h, fun _ _ h => .inl h, fun _ _ => rfl⟩
theorem Ev.trans {H1 H2 H3 : AH} {w1 w2 w3 : World} {G1 G2 G3 : Gh} (a : Ev H1 w1 G1 H2 w2 G2) (b : Ev H2 w2 G2 H3 w3 G3) : Ev H1 w1 G1 H3 w3 G3 where
  le := a.le.trans b.le
  os := b.os.trans a.os
  tape := b.tape.trans a.tape
  output := b.output.trans a.output
  size := Nat.le_trans a.size b.size
  next := Nat.le_trans a.next b.next
  frame := fun c hc hf => by
    rw [b.frame c (Nat.lt_of_lt_of_le hc a.size) (fun h => (a.foot c h).elim hf (fun h => by omega)), a.frame c hc hf]
  foot := fun c h => (b.foot c h).elim (a.foot c) fun h => .inr (Nat.le_trans a.size h)
  live := fun x hx h => a.live x hx (b.live x (Nat.lt_of_lt_of_le hx a.next) h)
  roNew := fun c o v h => (b.roNew c o v h).elim (a.roNew c o v) fun h => h.elim (fun h => .inr (a.foot c h)) fun h => .inr (.inr (Nat.le_trans a.size h))
  szNew := fun c n h => (b.szNew c n h).elim (a.szNew c n) fun h => .inr (Nat.le_trans a.size h)
  rho := fun x hx => (b.rho x (Nat.lt_of_lt_of_le hx a.next)).trans (a.rho x hx)

theorem BlkOk.mono_same {G G' : Gh} {w w' : World} {x : ABlock} {c base : Nat} (h : BlkOk G w x c base) (hle : G.le G') (hw : w'.heap[c]? = w.heap[c]?)
    (hro : ∀ o, G'.ro c o = G.ro c o) : BlkOk G' w' x c base := by
  cases x with
  | cells cs =>
    obtain ⟨arr, e, fz, vs, h1, h2, h0, h3, h4, h5, h6, h7⟩ := h
    exact ⟨arr, e, fz, vs, hw.trans h1, VRelL.mono hle _ _ h2, h0, h3, h4, h5, fun o ho => by rw [hro]; exact h6 o ho, hle.sz _ _ h7⟩
  | map sh es =>
    obtain ⟨entries, clk, h1, h2⟩ := h
    exact ⟨entries, clk, hw.trans h1, h2.mono hle⟩

/-- A block that is there is told by a number that is. -/
theorem BlkOk.lt {G : Gh} {w : World} {x : ABlock} {c base : Nat} (h : BlkOk G w x c base) : c < w.heap.size := by
  cases x with
  | cells cs => obtain ⟨arr, e, fz, vs, h1, _⟩ := h; exact (Array.getElem?_eq_some_iff.1 h1).1
  | map sh es => obtain ⟨entries, clk, h1, _⟩ := h; exact (Array.getElem?_eq_some_iff.1 h1).1

/-- What a world is but for its heap and its count of draws. -/
structure Like (w w' : World) : Prop where
  os : w'.os = w.os
  tape : w'.tape = w.tape
  output : w'.output = w.output
theorem Like.refl (w : World) : Like w w := ⟨rfl, rfl, rfl⟩

/-- The same heap. -/
theorem Rel.heap {H : AH} {w w' : World} {G : Gh} (r : Rel H w G) (h : w'.heap = w.heap) : Rel H w' G where
  fresh := r.fresh
  blk := fun b x hb => let ⟨c, base, e, k⟩ := r.blk b x hb; ⟨c, base, e, k.mono_same (.refl G) (by rw [h]) fun _ => rfl⟩
  inj := r.inj
  roOk := fun c o v e => by rw [h]; exact r.roOk c o v e
  szOk := fun c n e => by rw [h]; exact r.szOk c n e
  rhoOk := fun b c o e => by rw [h]; exact r.rhoOk b c o e
  bnOk := fun c k n e => by rw [h]; exact r.bnOk c k n e
  laid := r.laid
theorem Ev.heap {H : AH} {w w' : World} {G : Gh} (l : Like w w') (h : w'.heap = w.heap) : Ev H w G H w' G :=
  ⟨.refl G, l.os, l.tape, l.output, by rw [h]; exact Nat.le_refl _, Nat.le_refl _, fun _ _ _ => by rw [h], fun _ h => .inl h, fun _ _ h => h, fun _ _ _ h => .inl h, fun _ _ h => .inl h, fun _ _ => rfl⟩

/-- Fewer blocks. -/
theorem Rel.less {H H' : AH} {w : World} {G : Gh} (r : Rel H w G) (hn : H'.next = H.next) (h : ∀ b x, H'.get b = some x → H.get b = some x) : Rel H' w G where
  fresh := fun b hb => by
    have := r.fresh b (hn ▸ hb)
    refine ⟨?_, this.2⟩
    cases e : H'.get b with
    | none => rfl
    | some x => rw [h b x e] at this; cases this.1
  blk := fun b x hb => r.blk b x (h b x hb)
  inj := fun b b' x x' c o o' h1 h2 => r.inj b b' x x' c o o' (h _ _ h1) (h _ _ h2)
  roOk := r.roOk
  szOk := r.szOk
  rhoOk := r.rhoOk
  bnOk := r.bnOk
  laid := r.laid
theorem Ev.less {H H' : AH} {w : World} {G : Gh} (hn : H'.next = H.next) (h : ∀ b x, H'.get b = some x → H.get b = some x) : Ev H w G H' w G :=
  ⟨.refl G, rfl, rfl, rfl, Nat.le_refl _, by omega, fun _ _ _ => rfl, fun c ⟨b, x, o, h1, h2⟩ => .inl ⟨b, x, o, h b x h1, h2⟩,
    fun b _ hb => by
      cases e : H'.get b with
      | none => exact absurd e hb
      | some x => rw [h b x e]; simp,
    fun _ _ _ h => .inl h, fun _ _ h => .inl h, fun _ _ => rfl⟩
theorem AH.put_none_less (H : AH) (b : Nat) : ∀ k x, (H.put b none).get k = some x → H.get k = some x := fun k x h => by
  rw [AH.get_put] at h
  split at h
  · cases h
  · exact h

/-- A new block: a part of it may be told by value ('k' cells), the rest is known as 'cs'. -/
def Gh.alloc (G : Gh) (b c k : Nat) (arr : Array Value) : Gh where
  ρ := fun x => if x = b then some (c, k) else G.ρ x
  ro := fun x o => if x = c ∧ o < k then arr[o]? else G.ro x o
  sz := fun x => if x = c then some arr.size else G.sz x
  bn := G.bn
theorem Rel.new {H : AH} {w w' : World} {G : Gh} (r : Rel H w G) (l : Like w w') {arr : Array Value} {e : TypeId} {fz : Nat × Nat} (hfz : ∀ o, o < arr.size → Thaw fz arr.size) (hw : w'.heap = w.heap.push (.cells arr e fz))
    {cs : List AV} {k : Nat} {vs : List Value} (hk : k + cs.length ≤ arr.size) (hcs : VRelL G cs vs) (hone : Ones vs) (hvs : ∀ i v, vs[i]? = some v → arr[k + i]? = some v) :
    G.le (G.alloc H.next w.heap.size k arr) ∧ Rel (H.new (.cells cs)) w' (G.alloc H.next w.heap.size k arr) ∧ Ev H w G (H.new (.cells cs)) w' (G.alloc H.next w.heap.size k arr) := by
  have hold : ∀ c, c < w.heap.size → w'.heap[c]? = w.heap[c]? := fun c hc => by rw [hw, Array.getElem?_push, if_neg (by omega)]
  have hnew : w'.heap[w.heap.size]? = some (.cells arr e fz) := by rw [hw, Array.getElem?_push, if_pos rfl]
  have hroLt : ∀ c o v, G.ro c o = some v → c < w.heap.size := fun c o v h => by
    obtain ⟨_, _, _, h1, _⟩ := r.roOk c o v h; exact (Array.getElem?_eq_some_iff.1 h1).1
  have hszLt : ∀ c n, G.sz c = some n → c < w.heap.size := fun c n h => by
    obtain ⟨_, _, _, h1, _⟩ := r.szOk c n h; exact (Array.getElem?_eq_some_iff.1 h1).1
  have hle : G.le (G.alloc H.next w.heap.size k arr) := by
    refine ⟨fun b x h => ?_, fun c o x h => ?_, fun c x h => ?_, fun _ _ _ h => h⟩
    · show (if b = H.next then _ else _) = _
      rw [if_neg (by intro e; subst e; rw [(r.fresh _ (Nat.le_refl _)).2] at h; cases h)]; exact h
    · show (if c = w.heap.size ∧ o < k then _ else _) = _
      have := hroLt c o x h
      rw [if_neg (by omega)]; exact h
    · show (if c = w.heap.size then _ else _) = _
      have := hszLt c x h
      rw [if_neg (by omega)]; exact h
  have hsz' : w'.heap.size = w.heap.size + 1 := by rw [hw, Array.size_push]
  refine ⟨hle, ?_, ?_⟩
  · constructor
    · intro b hb
      have hb' : H.next + 1 ≤ b := hb
      have := r.fresh b (by omega)
      refine ⟨by rw [AH.get_new, if_neg (by omega)]; exact this.1, ?_⟩
      show (if b = H.next then _ else _) = _
      rw [if_neg (by omega)]; exact this.2
    · intro b x hb
      rw [AH.get_new] at hb
      by_cases hbn : H.next = b
      · rw [if_pos hbn] at hb; cases hb; subst hbn
        refine ⟨w.heap.size, k, by show (if _ then _ else _) = _; rw [if_pos rfl], arr, e, fz, vs, hnew, VRelL.mono hle _ _ hcs, hone, hvs, hk, fun o _ h => hfz o h, fun o ho => ?_, by show (if _ then _ else _) = _; rw [if_pos rfl]⟩
        show (if w.heap.size = w.heap.size ∧ o < k then _ else _) = _
        rw [if_neg (by omega)]
        cases e' : G.ro w.heap.size o with
        | none => rfl
        | some v => have := hroLt _ _ _ e'; omega
      · rw [if_neg hbn] at hb
        obtain ⟨c, base, h1, h2⟩ := r.blk b x hb
        have hlt := h2.lt
        refine ⟨c, base, hle.ρ _ _ h1, h2.mono_same hle (hold c hlt) fun o => ?_⟩
        show (if c = w.heap.size ∧ o < k then _ else _) = _
        rw [if_neg (by omega)]
    · intro b b' x x' c o o' h1 h2 h3 h4
      rw [AH.get_new] at h1 h2
      have h3 : (if b = H.next then some (w.heap.size, k) else G.ρ b) = some (c, o) := h3
      have h4 : (if b' = H.next then some (w.heap.size, k) else G.ρ b') = some (c, o') := h4
      by_cases e1 : b = H.next <;> by_cases e2 : b' = H.next
      · rw [e1, e2]
      · rw [if_pos e1] at h3; rw [if_neg e2] at h4
        have := r.rhoOk _ _ _ h4
        simp only [Option.some.injEq, Prod.mk.injEq] at h3
        omega
      · rw [if_neg e1] at h3; rw [if_pos e2] at h4
        have := r.rhoOk _ _ _ h3
        simp only [Option.some.injEq, Prod.mk.injEq] at h4
        omega
      · rw [if_neg (Ne.symm e1)] at h1; rw [if_neg (Ne.symm e2)] at h2
        rw [if_neg e1] at h3; rw [if_neg e2] at h4
        exact r.inj b b' x x' c o o' h1 h2 h3 h4
    · intro c o v h
      have h : (if c = w.heap.size ∧ o < k then arr[o]? else G.ro c o) = some v := h
      by_cases hc : c = w.heap.size ∧ o < k
      · rw [if_pos hc] at h; rw [hc.1]; exact ⟨arr, e, _, hnew, h⟩
      · rw [if_neg hc] at h
        have := hroLt _ _ _ h
        rw [hold c this]; exact r.roOk c o v h
    · intro c n h
      have h : (if c = w.heap.size then some arr.size else G.sz c) = some n := h
      by_cases hc : c = w.heap.size
      · rw [if_pos hc] at h; cases h; rw [hc]; exact ⟨arr, e, _, hnew, rfl⟩
      · rw [if_neg hc] at h
        have := hszLt _ _ h
        rw [hold c this]; exact r.szOk c n h
    · intro b c o h
      have h : (if b = H.next then some (w.heap.size, k) else G.ρ b) = some (c, o) := h
      rw [hsz']
      by_cases hb : b = H.next
      · rw [if_pos hb] at h; simp only [Option.some.injEq, Prod.mk.injEq] at h; omega
      · rw [if_neg hb] at h; have := r.rhoOk _ _ _ h; omega
    · intro c k' n h
      obtain ⟨en, clk, h1, h2⟩ := r.bnOk c k' n h
      rw [hold c (Array.getElem?_eq_some_iff.1 h1).1]; exact ⟨en, clk, h1, h2⟩
    · exact r.laidMono hle
  · constructor
    · exact hle
    · exact l.os
    · exact l.tape
    · exact l.output
    · omega
    · show H.next ≤ H.next + 1; omega
    · exact fun c hc _ => hold c hc
    · rintro c ⟨b, x, o, h1, h2⟩
      rw [AH.get_new] at h1
      have h2 : (if b = H.next then some (w.heap.size, k) else G.ρ b) = some (c, o) := h2
      by_cases hb : b = H.next
      · rw [if_pos hb] at h2; simp only [Option.some.injEq, Prod.mk.injEq] at h2; right; omega
      · rw [if_neg (Ne.symm hb)] at h1; rw [if_neg hb] at h2; exact .inl ⟨b, x, o, h1, h2⟩
    · intro b hb h
      rw [AH.get_new, if_neg (by omega)] at h; exact h
    · intro c o v h
      have h : (if c = w.heap.size ∧ o < k then arr[o]? else G.ro c o) = some v := h
      by_cases hc : c = w.heap.size ∧ o < k
      · right; right; omega
      · rw [if_neg hc] at h; exact .inl h
    · intro c n h
      have h : (if c = w.heap.size then some arr.size else G.sz c) = some n := h
      by_cases hc : c = w.heap.size
      · right; omega
      · rw [if_neg hc] at h; exact .inl h
    · intro b hb
      show (if b = H.next then _ else _) = _
      rw [if_neg (by omega)]

/-- A new map. -/
def Gh.allocMap (G : Gh) (b c : Nat) : Gh := { G with ρ := fun x => if x = b then some (c, 0) else G.ρ x }
theorem Rel.newMap {H : AH} {w w' : World} {G : Gh} {sh : KShape} (r : Rel H w G) (l : Like w w') (hw : w'.heap = w.heap.push (.map #[] 0)) :
    Rel (H.new (.map sh [])) w' (G.allocMap H.next w.heap.size) ∧ Ev H w G (H.new (.map sh [])) w' (G.allocMap H.next w.heap.size) := by
  have hold : ∀ c, c < w.heap.size → w'.heap[c]? = w.heap[c]? := fun c hc => by rw [hw, Array.getElem?_push, if_neg (by omega)]
  have hnew : w'.heap[w.heap.size]? = some (.map #[] 0) := by rw [hw, Array.getElem?_push, if_pos rfl]
  have hle : G.le (G.allocMap H.next w.heap.size) := by
    refine ⟨fun b x h => ?_, fun c o x h => h, fun c x h => h, fun _ _ _ h => h⟩
    show (if b = H.next then _ else _) = _
    rw [if_neg (by intro e; subst e; rw [(r.fresh _ (Nat.le_refl _)).2] at h; cases h)]; exact h
  have hsz' : w'.heap.size = w.heap.size + 1 := by rw [hw, Array.size_push]
  refine ⟨?_, ?_⟩
  · constructor
    · intro b hb
      have hb' : H.next + 1 ≤ b := hb
      have := r.fresh b (by omega)
      refine ⟨by rw [AH.get_new, if_neg (by omega)]; exact this.1, ?_⟩
      show (if b = H.next then _ else _) = _
      rw [if_neg (by omega)]; exact this.2
    · intro b x hb
      rw [AH.get_new] at hb
      by_cases hbn : H.next = b
      · rw [if_pos hbn] at hb; cases hb; subst hbn
        exact ⟨w.heap.size, 0, by show (if _ then _ else _) = _; rw [if_pos rfl], #[], 0, hnew, ⟨fun _ h => by (cases h), fun _ h => by (simp at h), rfl, fun _ h => by (cases h), List.nodup_nil, List.nodup_nil, List.nodup_nil, fun _ h => by (simp at h)⟩⟩
      · rw [if_neg hbn] at hb
        obtain ⟨c, base, h1, h2⟩ := r.blk b x hb
        exact ⟨c, base, hle.ρ _ _ h1, h2.mono_same hle (hold c h2.lt) fun o => rfl⟩
    · intro b b' x x' c o o' h1 h2 h3 h4
      rw [AH.get_new] at h1 h2
      have h3 : (if b = H.next then some (w.heap.size, 0) else G.ρ b) = some (c, o) := h3
      have h4 : (if b' = H.next then some (w.heap.size, 0) else G.ρ b') = some (c, o') := h4
      by_cases e1 : b = H.next <;> by_cases e2 : b' = H.next
      · rw [e1, e2]
      · rw [if_pos e1] at h3; rw [if_neg e2] at h4
        have := r.rhoOk _ _ _ h4
        simp only [Option.some.injEq, Prod.mk.injEq] at h3
        omega
      · rw [if_neg e1] at h3; rw [if_pos e2] at h4
        have := r.rhoOk _ _ _ h3
        simp only [Option.some.injEq, Prod.mk.injEq] at h4
        omega
      · rw [if_neg (Ne.symm e1)] at h1; rw [if_neg (Ne.symm e2)] at h2
        rw [if_neg e1] at h3; rw [if_neg e2] at h4
        exact r.inj b b' x x' c o o' h1 h2 h3 h4
    · intro c o v h
      obtain ⟨arr, e, fz, h1, h2⟩ := r.roOk c o v h
      rw [hold c (Array.getElem?_eq_some_iff.1 h1).1]; exact ⟨arr, e, fz, h1, h2⟩
    · intro c n h
      obtain ⟨arr, e, fz, h1, h2⟩ := r.szOk c n h
      rw [hold c (Array.getElem?_eq_some_iff.1 h1).1]; exact ⟨arr, e, fz, h1, h2⟩
    · intro b c o h
      have h : (if b = H.next then some (w.heap.size, 0) else G.ρ b) = some (c, o) := h
      rw [hsz']
      by_cases hb : b = H.next
      · rw [if_pos hb] at h; simp only [Option.some.injEq, Prod.mk.injEq] at h; omega
      · rw [if_neg hb] at h; have := r.rhoOk _ _ _ h; omega
    · intro c k' n h
      obtain ⟨en, clk, h1, h2⟩ := r.bnOk c k' n h
      rw [hold c (Array.getElem?_eq_some_iff.1 h1).1]; exact ⟨en, clk, h1, h2⟩
    · exact r.laidMono hle
  · constructor
    · exact hle
    · exact l.os
    · exact l.tape
    · exact l.output
    · omega
    · show H.next ≤ H.next + 1; omega
    · exact fun c hc _ => hold c hc
    · rintro c ⟨b, x, o, h1, h2⟩
      rw [AH.get_new] at h1
      have h2 : (if b = H.next then some (w.heap.size, 0) else G.ρ b) = some (c, o) := h2
      by_cases hb : b = H.next
      · rw [if_pos hb] at h2; simp only [Option.some.injEq, Prod.mk.injEq] at h2; right; omega
      · rw [if_neg (Ne.symm hb)] at h1; rw [if_neg hb] at h2; exact .inl ⟨b, x, o, h1, h2⟩
    · intro b hb h
      rw [AH.get_new, if_neg (by omega)] at h; exact h
    · exact fun c o v h => .inl h
    · exact fun c n h => .inl h
    · intro b hb
      show (if b = H.next then _ else _) = _
      rw [if_neg (by omega)]
end Go.Am
/-
  A block that is written; a block that is told by value from now on; a row of cells that is stored.
-/
namespace Go.Am
set_option linter.unusedSectionVars false
variable [Laid]

theorem Rel.upd {H : AH} {w w' : World} {G : Gh} (r : Rel H w G) (l : Like w w') {b c base : Nat} {x y : ABlock} (hb : H.get b = some x) (hρ : G.ρ b = some (c, base))
    (hsz : w'.heap.size = w.heap.size) (hk : ∀ k, k ≠ c → w'.heap[k]? = w.heap[k]?) (hy : BlkOk G w' y c base)
    (hro : ∀ o v, G.ro c o = some v → ∃ (arr : Array Value) (e : TypeId) (fz : Nat × Nat), w'.heap[c]? = some (.cells arr e fz) ∧ arr[o]? = some v)
    (hs : ∀ n, G.sz c = some n → ∃ (arr : Array Value) (e : TypeId) (fz : Nat × Nat), w'.heap[c]? = some (.cells arr e fz) ∧ arr.size = n)
    (hbn : ∀ k n, G.bn c k n → ∃ (entries : Array MapEntry) (clk : Nat), w'.heap[c]? = some (.map entries clk) ∧ ∃ e ∈ entries.toList, e.key = k ∧ e.born = n) :
    Rel (H.put b (some y)) w' G ∧ Ev H w G (H.put b (some y)) w' G := by
  have hget : ∀ k z, (H.put b (some y)).get k = some z → ∃ z', H.get k = some z' := fun k z h => by
    rw [AH.get_put] at h
    split at h
    · rename_i e; exact ⟨x, e ▸ hb⟩
    · exact ⟨z, h⟩
  constructor
  · constructor
    · intro k hk'
      have hk' : H.next ≤ k := hk'
      have := r.fresh k hk'
      refine ⟨?_, this.2⟩
      rw [AH.get_put, if_neg (by intro e; subst e; rw [hb] at this; cases this.1)]; exact this.1
    · intro k z h
      rw [AH.get_put] at h
      by_cases e : b = k
      · rw [if_pos e] at h; cases h; subst e; exact ⟨c, base, hρ, hy⟩
      · rw [if_neg e] at h
        obtain ⟨c', base', h1, h2⟩ := r.blk k z h
        refine ⟨c', base', h1, h2.mono_same (.refl G) (hk c' fun e' => ?_) fun _ => rfl⟩
        subst e'
        exact e (r.inj b k x z c' base base' hb h hρ h1)
    · intro k k' z z' c' o o' h1 h2 h3 h4
      obtain ⟨u, hu⟩ := hget _ _ h1
      obtain ⟨u', hu'⟩ := hget _ _ h2
      exact r.inj k k' u u' c' o o' hu hu' h3 h4
    · intro c' o v h
      by_cases e : c' = c
      · subst e; exact hro o v h
      · rw [hk c' e]; exact r.roOk c' o v h
    · intro c' n h
      by_cases e : c' = c
      · subst e; exact hs n h
      · rw [hk c' e]; exact r.szOk c' n h
    · intro k c' o h; rw [hsz]; exact r.rhoOk k c' o h
    · intro c' k n h
      by_cases e : c' = c
      · subst e; exact hbn k n h
      · rw [hk c' e]; exact r.bnOk c' k n h
    · exact r.laid
  · constructor
    · exact .refl G
    · exact l.os
    · exact l.tape
    · exact l.output
    · omega
    · exact Nat.le_refl _
    · intro k hk' hf
      exact hk k fun e => hf ⟨b, x, base, hb, e ▸ hρ⟩
    · rintro c' ⟨k, z, o, h1, h2⟩
      obtain ⟨u, hu⟩ := hget _ _ h1
      exact .inl ⟨k, u, o, hu, h2⟩
    · intro k hk' h
      rw [AH.get_put] at h
      split at h
      · rename_i e; subst e; rw [hb]; simp
      · exact h
    · exact fun c' o v h => .inl h
    · exact fun c' n h => .inl h
    · exact fun _ _ => rfl

/-- From an owned block on: a new number for a part of it, and what stands ahead of that may be told by value. -/
def Gh.closeUp (G : Gh) (n c : Nat) (arr : Array Value) (k1 k2 : Nat) : Gh where
  ρ := fun x => if x = n then some (c, k2) else G.ρ x
  ro := fun x o => if x = c ∧ k1 ≤ o ∧ o < k2 then arr[o]? else G.ro x o
  sz := G.sz
  bn := G.bn
theorem Rel.closeUp {H : AH} {w : World} {G : Gh} (r : Rel H w G) {b c base k1 k2 : Nat} {cs cs2 : List AV} {arr : Array Value} {e : TypeId} {fz : Nat × Nat} {vs2 : List Value}
    (hb : H.get b = some (.cells cs)) (hρ : G.ρ b = some (c, base)) (hw : w.heap[c]? = some (.cells arr e fz)) (h1 : base ≤ k1) (h2 : k1 ≤ k2) (h3 : k2 + cs2.length ≤ arr.size)
    (hcs : VRelL G cs2 vs2) (hone : Ones vs2) (hvs : ∀ i v, vs2[i]? = some v → arr[k2 + i]? = some v) :
    G.le (G.closeUp H.next c arr k1 k2) ∧ Rel ((H.put b none).new (.cells cs2)) w (G.closeUp H.next c arr k1 k2) ∧ Ev H w G ((H.put b none).new (.cells cs2)) w (G.closeUp H.next c arr k1 k2) := by
  obtain ⟨c', base', hρ', hblk⟩ := r.blk b _ hb
  rw [hρ] at hρ'; cases hρ'
  obtain ⟨arr', e', fz', vs', g1, g2, _, g3, g4, g5, g6, g7⟩ := hblk
  rw [hw] at g1; cases g1
  have hle : G.le (G.closeUp H.next c arr k1 k2) := by
    refine ⟨fun b x h => ?_, fun c' o x h => ?_, fun c x h => h, fun _ _ _ h => h⟩
    · show (if b = H.next then _ else _) = _
      rw [if_neg (by intro e; subst e; rw [(r.fresh _ (Nat.le_refl _)).2] at h; cases h)]; exact h
    · show (if c' = c ∧ k1 ≤ o ∧ o < k2 then _ else _) = _
      rw [if_neg]; exact h
      rintro ⟨rfl, ho, _⟩
      rw [g6 o (by omega)] at h; cases h
  have hbn : b < H.next := by
    rcases Nat.lt_or_ge b H.next with h | h
    · exact h
    · rw [(r.fresh b h).1] at hb; cases hb
  have hget : ∀ k z, ((H.put b none).new (.cells cs2)).get k = some z → (k = H.next ∧ z = .cells cs2) ∨ (k ≠ H.next ∧ k ≠ b ∧ H.get k = some z) := fun k z h => by
    rw [AH.get_new, AH.next_put] at h
    by_cases e : H.next = k
    · rw [if_pos e] at h; cases h; exact .inl ⟨e.symm, rfl⟩
    · rw [if_neg e, AH.get_put] at h
      by_cases e2 : b = k
      · rw [if_pos e2] at h; cases h
      · rw [if_neg e2] at h; exact .inr ⟨Ne.symm e, Ne.symm e2, h⟩
  refine ⟨hle, ?_, ?_⟩
  · constructor
    · intro k hk
      have hk : H.next + 1 ≤ k := hk
      have := r.fresh k (by omega)
      refine ⟨?_, ?_⟩
      · rw [AH.get_new, AH.next_put, if_neg (by omega), AH.get_put, if_neg (by omega)]; exact this.1
      · show (if k = H.next then _ else _) = _
        rw [if_neg (by omega)]; exact this.2
    · intro k z h
      rcases hget k z h with ⟨rfl, rfl⟩ | ⟨hk1, hk2, hk3⟩
      · refine ⟨c, k2, by show (if _ then _ else _) = _; rw [if_pos rfl], arr, e, fz, vs2, hw, VRelL.mono hle _ _ hcs, hone, hvs, h3, fun o ho ho' => g5 o (by omega) ho', fun o ho => ?_, g7⟩
        show (if c = c ∧ k1 ≤ o ∧ o < k2 then _ else _) = _
        rw [if_neg (by omega)]; exact g6 o (by omega)
      · obtain ⟨c', base', q1, q2⟩ := r.blk k z hk3
        refine ⟨c', base', hle.ρ _ _ q1, q2.mono_same hle rfl fun o => ?_⟩
        show (if c' = c ∧ k1 ≤ o ∧ o < k2 then _ else _) = _
        rw [if_neg]
        rintro ⟨rfl, _, _⟩
        exact hk2 (r.inj k b z _ c' base' base hk3 hb q1 hρ)
    · intro k k' z z' x o o' q1 q2 q3 q4
      have q3 : (if k = H.next then some (c, k2) else G.ρ k) = some (x, o) := q3
      have q4 : (if k' = H.next then some (c, k2) else G.ρ k') = some (x, o') := q4
      rcases hget k z q1 with ⟨rfl, rfl⟩ | ⟨hk1, hk2, hk3⟩ <;> rcases hget k' z' q2 with ⟨rfl, rfl⟩ | ⟨hk1', hk2', hk3'⟩
      · rfl
      · rw [if_pos rfl] at q3; rw [if_neg hk1'] at q4
        simp only [Option.some.injEq, Prod.mk.injEq] at q3
        exact absurd (r.inj k' b z' _ c o' base hk3' hb (by rw [q3.1]; exact q4) hρ) hk2'
      · rw [if_neg hk1] at q3; rw [if_pos rfl] at q4
        simp only [Option.some.injEq, Prod.mk.injEq] at q4
        exact absurd (r.inj k b z _ c o base hk3 hb (by rw [q4.1]; exact q3) hρ) hk2
      · rw [if_neg hk1] at q3; rw [if_neg hk1'] at q4
        exact r.inj k k' z z' x o o' hk3 hk3' q3 q4
    · intro c' o v h
      have h : (if c' = c ∧ k1 ≤ o ∧ o < k2 then arr[o]? else G.ro c' o) = some v := h
      by_cases q : c' = c ∧ k1 ≤ o ∧ o < k2
      · rw [if_pos q] at h; rw [q.1]; exact ⟨arr, e, fz, hw, h⟩
      · rw [if_neg q] at h; exact r.roOk c' o v h
    · exact fun c' n h => r.szOk c' n h
    · intro k c' o h
      have h : (if k = H.next then some (c, k2) else G.ρ k) = some (c', o) := h
      by_cases q : k = H.next
      · rw [if_pos q] at h; simp only [Option.some.injEq, Prod.mk.injEq] at h; rw [← h.1]; exact r.rhoOk b c base hρ
      · rw [if_neg q] at h; exact r.rhoOk k c' o h
    · exact fun c' k n h => r.bnOk c' k n h
    · exact r.laidMono hle
  · constructor
    · exact hle
    · rfl
    · rfl
    · rfl
    · exact Nat.le_refl _
    · show H.next ≤ H.next + 1; omega
    · exact fun _ _ _ => rfl
    · rintro c' ⟨k, z, o, q1, q2⟩
      have q2 : (if k = H.next then some (c, k2) else G.ρ k) = some (c', o) := q2
      rcases hget k z q1 with ⟨rfl, rfl⟩ | ⟨hk1, hk2, hk3⟩
      · rw [if_pos rfl] at q2; simp only [Option.some.injEq, Prod.mk.injEq] at q2
        exact .inl ⟨b, _, base, hb, by rw [← q2.1]; exact hρ⟩
      · rw [if_neg hk1] at q2; exact .inl ⟨k, z, o, hk3, q2⟩
    · intro k hk h
      rw [AH.get_new, AH.next_put, if_neg (by omega), AH.get_put] at h
      split at h
      · exact absurd rfl h
      · exact h
    · intro c' o v h
      have h : (if c' = c ∧ k1 ≤ o ∧ o < k2 then arr[o]? else G.ro c' o) = some v := h
      by_cases q : c' = c ∧ k1 ≤ o ∧ o < k2
      · right; left; exact ⟨b, _, base, hb, by rw [q.1]; exact hρ⟩
      · rw [if_neg q] at h; exact .inl h
    · exact fun c' n h => .inl h
    · intro k hk
      show (if k = H.next then _ else _) = _
      rw [if_neg (by omega)]

/-! ### A row of cells that is stored -/
def setMany (arr : Array Value) (off : Nat) : List Value → Array Value
  | [] => arr
  | v :: vs => setMany (arr.setIfInBounds off v) (off + 1) vs
theorem setMany_size : ∀ (vs : List Value) (arr : Array Value) (off : Nat), (setMany arr off vs).size = arr.size
  | [], _, _ => rfl
  | v :: vs, arr, off => by simp only [setMany]; rw [setMany_size vs]; simp
theorem setMany_get : ∀ (vs : List Value) (arr : Array Value) (off i : Nat), off + vs.length ≤ arr.size →
    (setMany arr off vs)[i]? = if off ≤ i ∧ i < off + vs.length then vs[i - off]? else arr[i]?
  | [], arr, off, i, _ => by simp only [setMany, List.length_nil]; rw [if_neg (by omega)]
  | v :: vs, arr, off, i, h => by
    simp only [List.length_cons] at h
    simp only [setMany, List.length_cons]
    rw [setMany_get vs _ _ _ (by simp; omega)]
    by_cases h1 : off + 1 ≤ i ∧ i < off + 1 + vs.length
    · rw [if_pos h1, if_pos (by omega), show i - off = (i - (off + 1)) + 1 by omega, List.getElem?_cons_succ]
    · rw [if_neg h1]
      by_cases h2 : i = off
      · subst h2
        rw [if_pos (by omega), Nat.sub_self, List.getElem?_cons_zero, Array.getElem?_setIfInBounds_self, if_pos (by omega)]
      · rw [if_neg (by omega), Array.getElem?_setIfInBounds_ne (by omega)]
def setCells (w : World) (c off : Nat) : List Value → World
  | [] => w
  | v :: vs => setCells (w.setCell ⟨c, off, none⟩ v) c (off + 1) vs
theorem setCell_heap (w : World) (c off : Nat) (v : Value) {arr : Array Value} {e : TypeId} {fz : Nat × Nat} (h : w.heap[c]? = some (.cells arr e fz)) :
    (w.setCell ⟨c, off, none⟩ v).heap[c]? = some (.cells (arr.setIfInBounds off v) e fz) ∧ (∀ k, k ≠ c → (w.setCell ⟨c, off, none⟩ v).heap[k]? = w.heap[k]?) ∧ (w.setCell ⟨c, off, none⟩ v).heap.size = w.heap.size := by
  refine ⟨?_, ?_, ?_⟩
  · simp only [World.setCell, Array.getElem?_modify]; rw [if_pos trivial, h]; rfl
  · intro k hk; simp only [World.setCell, Array.getElem?_modify]; rw [if_neg (Ne.symm hk)]
  · simp [World.setCell]
theorem setCells_like : ∀ (vs : List Value) (w : World) (c off : Nat), Like w (setCells w c off vs)
  | [], w, _, _ => .refl w
  | v :: vs, w, c, off => by
    have := setCells_like vs (w.setCell ⟨c, off, none⟩ v) c (off + 1)
    exact ⟨this.os, this.tape, this.output⟩
theorem setCells_heap : ∀ (vs : List Value) (w : World) (c off : Nat) {arr : Array Value} {e : TypeId} {fz : Nat × Nat}, w.heap[c]? = some (.cells arr e fz) →
    (setCells w c off vs).heap[c]? = some (.cells (setMany arr off vs) e fz) ∧ (∀ k, k ≠ c → (setCells w c off vs).heap[k]? = w.heap[k]?) ∧ (setCells w c off vs).heap.size = w.heap.size
  | [], w, c, off, arr, e, fz, h => ⟨h, fun _ _ => rfl, rfl⟩
  | v :: vs, w, c, off, arr, e, fz, h => by
    obtain ⟨h1, h2, h3⟩ := setCell_heap w c off v h
    obtain ⟨g1, g2, g3⟩ := setCells_heap vs (w.setCell ⟨c, off, none⟩ v) c (off + 1) h1
    exact ⟨g1, fun k hk => (g2 k hk).trans (h2 k hk), g3.trans h3⟩
theorem add_addr (c o n : Nat) : (⟨c, o, none⟩ : Addr).add n = ⟨c, o + n, none⟩ := by
  unfold Addr.add
  split
  · rename_i h; subst h; rfl
  · rfl
/-- The machine stores them. -/
theorem run_storeCells {P : Program} : ∀ (vs : List Value) (i : Nat) (w : World) (c off : Nat) {arr : Array Value} {e : TypeId} {fz : Nat × Nat}, w.heap[c]? = some (.cells arr e fz) →
    off + i + vs.length ≤ arr.size → (∀ o, off + i ≤ o → o < off + i + vs.length → ¬ (fz.1 ≤ o ∧ o < fz.2)) → (∀ v ∈ vs, one v = true) →
    (storeCells ⟨c, off, none⟩ vs i).run P w = .ok () (setCells w c (off + i) vs)
  | [], i, w, c, off, arr, e, fz, h, _, _, _ => rfl
  | v :: vs, i, w, c, off, arr, e, fz, h, hl, hf, ho => by
    simp only [List.length_cons] at hl hf
    have hv := ho v (List.mem_cons_self ..)
    have hcell : w.cell? ⟨c, off + i, none⟩ = some arr[off + i] := by
      simp only [World.cell?, h]; simp
    have hfz : w.frozen? ⟨c, off + i, none⟩ = false := by
      have := hf (off + i) (Nat.le_refl _) (by omega)
      obtain ⟨lo, hi⟩ := fz
      simp only [World.frozen?, h]
      simpa using this
    have hstore : (storeCells ⟨c, off, none⟩ (v :: vs) i).run P w = (storeCells ⟨c, off, none⟩ vs (i + 1)).run P (w.setCell ⟨c, off + i, none⟩ v) := by
      show (Sem.bind (store ((⟨c, off, none⟩ : Addr).add i) v) fun _ => storeCells ⟨c, off, none⟩ vs (i + 1)).run P w = _
      rw [add_addr]
      cases v <;> first | (simp [one] at hv; done) | (simp only [store, Sem.bind, Sem.run, hcell, hfz]; rfl)
    rw [hstore]
    obtain ⟨h1, h2, h3⟩ := setCell_heap w c (off + i) v h
    rw [run_storeCells vs (i + 1) _ c off h1 (by simp; omega) (fun o q1 q2 => hf o (by omega) (by omega)) (fun u hu => ho u (List.mem_cons_of_mem _ hu))]
    rfl
end Go.Am
/-
  The operations that make no memory, or one block: what the abstract machine answers the model's own does.
-/
namespace Go.Am
set_option linter.unusedSectionVars false
variable [Laid]

/-- An operation's run, told by the abstract machine. -/
def Does (P : Program) (s : Sem Next) (H : AH) (w : World) (G : Gh) (r : AV) (H' : AH) : Prop :=
  ∃ w' G' n v, s.run P w = .ok n w' ∧ (n = .value v ∨ (n = .skip ∧ v = undef)) ∧ VRel G' r v ∧ Rel H' w' G' ∧ Ev H w G H' w' G'
/-- The same of what tells a value. -/
def Gives (P : Program) (s : Sem Value) (H : AH) (w : World) (G : Gh) (r : AV) (H' : AH) : Prop :=
  ∃ w' G' v, s.run P w = .ok v w' ∧ VRel G' r v ∧ Rel H' w' G' ∧ Ev H w G H' w' G'
section
variable {P : Program} {H H' : AH} {w : World} {G : Gh} {r : AV}
theorem Gives.does {s : Sem Value} (h : Gives P s H w G r H') : Does P (do pure (.value (← s))) H w G r H' := by
  obtain ⟨w', G', v, h1, h2, h3, h4⟩ := h
  exact ⟨w', G', .value v, v, by simp [h1], .inl rfl, h2, h3, h4⟩
theorem Gives.same {s : Sem Value} {v : Value} (hr : Rel H w G) (h : s.run P w = .ok v w) (hv : VRel G r v) : Gives P s H w G r H :=
  ⟨w, G, v, h, hv, hr, .refl H w G⟩
theorem Does.same {s : Sem Next} {v : Value} (hr : Rel H w G) (h : s.run P w = .ok (.value v) w) (hv : VRel G r v) : Does P s H w G r H :=
  ⟨w, G, .value v, v, h, .inl rfl, hv, hr, .refl H w G⟩
theorem Does.skip {s : Sem Unit} {w' : World} {G' : Gh} (h : s.run P w = .ok () w') (hr : Rel H' w' G') (he : Ev H w G H' w' G') : Does P (do s; pure .skip) H w G (.tup []) H' :=
  ⟨w', G', .skip, undef, by simp [h], .inr ⟨rfl, rfl⟩, .undef, hr, he⟩

/-- A run that looks at no world: the same value in each. -/
def Calm (P : Program) (s : Sem Value) (H : AH) (G : Gh) (r : AV) (H' : AH) : Prop := H' = H ∧ ∃ v, (∀ w, s.run P w = .ok v w) ∧ VRel G r v
def CalmN (P : Program) (s : Sem Next) (H : AH) (G : Gh) (r : AV) (H' : AH) : Prop := H' = H ∧ ∃ v, (∀ w, s.run P w = .ok (.value v) w) ∧ VRel G r v
theorem Calm.next {s : Sem Value} (h : Calm P s H G r H') : CalmN P (do pure (.value (← s))) H G r H' := by
  obtain ⟨h0, v, h1, h2⟩ := h
  exact ⟨h0, v, fun w => by simp [h1], h2⟩
theorem CalmN.does {s : Sem Next} (h : CalmN P s H G r H') (hr : Rel H w G) : Does P s H w G r H' := by
  obtain ⟨rfl, v, h1, h2⟩ := h
  exact Does.same hr (h1 w) h2
theorem Calm.of {s : Sem Value} {v : Value} (h : ∀ w, s.run P w = .ok v w) (hv : VRel G r v) : Calm P s H G r H := ⟨rfl, v, h, hv⟩
theorem CalmN.of {s : Sem Next} {v : Value} (h : ∀ w, s.run P w = .ok (.value v) w) (hv : VRel G r v) : CalmN P s H G r H := ⟨rfl, v, h, hv⟩

theorem pureRun_run {α : Type} {s : Sem α} {a : α} (h : pureRun P s = some a) (w : World) : s.run P w = .ok a w := by
  induction s with
  | pure b => simp only [pureRun, Option.some.injEq] at h; subst h; rfl
  | program k ih => simp only [pureRun] at h; simp only [Sem.run]; exact ih _ h
  | _ => simp [pureRun] at h
theorem ofFlat_some {x : Option Value} {r : AV} (h : ofFlat x = some r) : ∃ v, x = some v ∧ r = .v v ∧ flat v = true := by
  cases x with
  | none => simp [ofFlat] at h
  | some v =>
    simp only [ofFlat, Option.bind_some] at h
    split at h
    · rename_i hf; cases h; exact ⟨v, rfl, rfl, hf⟩
    · cases h
theorem ofValue_rel (x : Value) : VRel G (ofValue x) x := by
  unfold ofValue
  split
  · split
    · rename_i cs h; simp only [VRel]; exact ⟨cs, rfl, VRelL.map_v h⟩
    · exact .unk
  · split
    · rename_i cs h; simp only [VRel]; exact ⟨cs, rfl, by simp at h; simp [h, VRelL]⟩
    · exact .unk
  · split
    · rename_i h; exact .v h
    · exact .unk
theorem scalars_rel : ∀ {xs : List AV} {l : List Value} {vs : List Value}, scalars xs = some l → VRelL G xs vs → vs = l
  | [], l, vs, h, k => by simp only [scalars, Option.some.injEq] at h; rw [VRelL.nil_iff] at k; rw [k, h]
  | x :: xs, l, vs, h, k => by
    cases x <;> simp only [scalars] at h <;> try (cases h; done)
    rename_i y
    cases hs : scalars xs with
    | none => rw [hs] at h; cases h
    | some l' =>
      rw [hs] at h; simp only [Option.map_some, Option.some.injEq] at h
      simp only [VRelL] at k
      obtain ⟨v, us, rfl, k1, k2⟩ := k
      rw [← h, k1.of_v, scalars_rel hs k2]
theorem scalarOf_rel {x : AV} {p v : Value} (h : scalarOf x = some p) (k : VRel G x v) : v = p := by
  cases x <;> simp only [scalarOf] at h <;> try (cases h; done)
  · cases h; exact k.of_v
  · rename_i cs
    cases hs : scalars cs with
    | none => rw [hs] at h; cases h
    | some l =>
      rw [hs] at h; simp only [Option.map_some, Option.some.injEq] at h
      simp only [VRel] at k
      obtain ⟨arr, rfl, k2⟩ := k
      have := scalars_rel hs k2
      rw [← h, ← this]
theorem intOfAV_rel {x : AV} {n : Int} {v : Value} (h : intOfAV x = some n) (k : VRel G x v) : ∃ j, v = .int j n := by
  cases x <;> simp only [intOfAV] at h <;> try (cases h; done)
  rename_i y
  cases y <;> simp only [intOfAV] at h <;> try (cases h; done)
  cases h; exact ⟨_, k.of_v⟩

theorem run_sizeOf' {t : TypeId} {s : Nat} (h : sizeOfB P t = some s) (w : World) : (sizeOf t).run P w = .ok s w := by
  unfold sizeOfB at h
  cases hi : P.info? t with
  | none => rw [hi] at h; cases h
  | some i => rw [hi] at h; simp only [Option.map_some, Option.some.injEq] at h; simp [sizeOf, typeInfo, hi, h]
theorem run_typeInfo' {t : TypeId} {i : TypeInfo} (h : P.info? t = some i) (w : World) : (typeInfo t).run P w = .ok i w := by simp [typeInfo, h]
theorem run_isAgg' {t : TypeId} {g : Bool} (h : isAggB P t = some g) (w : World) : (isAgg t).run P w = .ok g w := by
  unfold isAggB at h
  cases hi : P.underlying t with
  | none => rw [hi] at h; cases h
  | some i =>
    rw [hi] at h; simp only [Option.map_some, Option.some.injEq] at h
    cases i <;> simp [isAgg, run_underlying hi] <;> simpa using h
theorem zeroCells_all {t : TypeId} {z : List AV} (h : zeroCells P t = some z) :
    ∃ v, (∀ w, (zeroValue t).run P w = .ok v w) ∧ v.cells.toList.all flat = true ∧ z = v.cells.toList.map .v := by
  unfold zeroCells at h
  cases hi : P.info? t with
  | none => rw [hi] at h; cases h
  | some i =>
    rw [hi] at h; simp only [Option.bind_some] at h
    cases hz : i.zero with
    | none => rw [hz] at h; cases h
    | some v =>
      rw [hz] at h; simp only [Option.bind_some] at h
      split at h
      · rename_i hf; cases h; exact ⟨v, fun w => by simp [zeroValue, typeInfo, hi, hz], hf, rfl⟩
      · cases h
theorem zeroCells_run {t : TypeId} {z : List AV} (h : zeroCells P t = some z) (w : World) :
    ∃ v, (zeroValue t).run P w = .ok v w ∧ v.cells.toList.all flat = true ∧ z = v.cells.toList.map .v :=
  let ⟨v, h1, h2⟩ := zeroCells_all h; ⟨v, h1 w, h2⟩
theorem zeroAV_run {t : TypeId} {z : AV} (h : zeroAV P t = some z) (w : World) : ∃ v, (zeroValue t).run P w = .ok v w ∧ VRel G z v := by
  unfold zeroAV at h
  cases hi : P.info? t with
  | none => rw [hi] at h; cases h
  | some i =>
    rw [hi] at h; simp only [Option.bind_some] at h
    cases hz : i.zero with
    | none => rw [hz] at h; cases h
    | some v =>
      rw [hz] at h; simp only [Option.bind_some] at h
      have := ofValue_rel (G := G) v
      refine ⟨v, by simp [zeroValue, typeInfo, hi, hz], ?_⟩
      split at h
      · cases h
      · cases h; exact this

/-! ### Cells that are looked at -/
/-- From an address on the world holds these. -/
def At (w : World) (c o : Nat) (vs : List Value) : Prop := ∀ (i : Nat) v, vs[i]? = some v → w.cell? ⟨c, o + i, none⟩ = some v
theorem At.run_loadCells {c o : Nat} {vs : List Value} (h : At w c o vs) : (loadCells ⟨c, o, none⟩ vs.length).run P w = .ok vs.toArray w :=
  run_loadCells_list w _ vs fun j v e => by rw [add_addr]; exact h j v e
theorem At.take {c o : Nat} {vs : List Value} (h : At w c o vs) (k : Nat) : At w c o (vs.take k) := fun i v e => by
  rw [List.getElem?_take] at e
  split at e
  · exact h i v e
  · cases e
theorem At.drop {c o : Nat} {vs : List Value} (h : At w c o vs) (k : Nat) : At w c (o + k) (vs.drop k) := fun i v e => by
  rw [List.getElem?_drop] at e
  rw [Nat.add_assoc]; exact h _ v e
theorem cell_of_heap {c o : Nat} {arr : Array Value} {e : TypeId} {fz : Nat × Nat} (h : w.heap[c]? = some (.cells arr e fz)) : w.cell? ⟨c, o, none⟩ = arr[o]? := by
  simp [World.cell?, h]
theorem RoAt.at (hr : Rel H w G) {c o : Nat} {vs : List Value} (h : RoAt G c o vs) : At w c o vs := fun i v e => by
  obtain ⟨arr, e', fz, h1, h2⟩ := hr.roOk _ _ _ (h i v e)
  rw [cell_of_heap h1]; exact h2
/-- The cells of a block that is owned. -/
theorem Rel.cells (hr : Rel H w G) {b : Nat} {cs : List AV} (hb : H.get b = some (.cells cs)) :
    ∃ c base vs, G.ρ b = some (c, base) ∧ VRelL G cs vs ∧ At w c base vs ∧ Ones vs ∧ ∃ (arr : Array Value) (e : TypeId) (fz : Nat × Nat), w.heap[c]? = some (.cells arr e fz) ∧ (∀ i v, vs[i]? = some v → arr[base + i]? = some v) ∧ base + cs.length ≤ arr.size ∧
      (∀ o, base ≤ o → o < arr.size → Thaw fz arr.size) ∧ (∀ o, base ≤ o → G.ro c o = none) ∧ G.sz c = some arr.size := by
  obtain ⟨c, base, h1, arr, e, fz, vs, h2, h3, h0, h4, h5⟩ := hr.blk b _ hb
  exact ⟨c, base, vs, h1, h3, fun i v hi => by rw [cell_of_heap h2]; exact h4 i v hi, h0, arr, e, fz, h2, h4, h5⟩

theorem loadFrom_run {t : TypeId} {g : Bool} {s : Nat} {cs : List AV} {vs : List Value} {c o : Nat} {r : AV} (hg : isAggB P t = some g) (hs : sizeOfB P t = some s)
    (hl : loadFrom g s cs = some r) (hv : VRelL G cs vs) (hat : At w c o vs) : ∃ v, (loadVar t ⟨c, o, none⟩).run P w = .ok v w ∧ VRel G r v := by
  unfold loadFrom at hl
  cases g with
  | true =>
    simp only [if_true] at hl
    split at hl
    · rename_i hle
      cases hl
      have h := (hat.take s).run_loadCells (P := P)
      rw [List.length_take, Nat.min_eq_left (by rw [← hv.length]; exact hle)] at h
      refine ⟨.agg (vs.take s).toArray, ?_, ?_⟩
      · simp [loadVar, run_isAgg' hg, run_sizeOf' hs, h]
      · simp only [VRel]; exact ⟨_, rfl, hv.take s⟩
    · cases hl
  | false =>
    simp only [Bool.false_eq_true, if_false] at hl
    cases cs with
    | nil => cases hl
    | cons x cs =>
      simp only [List.head?_cons, Option.some.injEq] at hl
      subst hl
      simp only [VRelL] at hv
      obtain ⟨v, us, rfl, h1, _⟩ := hv
      have := hat 0 v rfl
      exact ⟨v, by simp [loadVar, run_isAgg' hg]; rw [show (⟨c, o, none⟩ : Addr) = ⟨c, o + 0, none⟩ from rfl, this], h1⟩
theorem partOf_run {t : TypeId} {cs : List AV} {arr : Array Value} {off : Nat} {r : AV} (h : partOf P t cs off = some r) (hv : VRelL G cs arr.toList) :
    ∃ v, (∀ w, (part t arr off).run P w = .ok v w) ∧ VRel G r v := by
  unfold partOf at h
  cases hg : isAggB P t with
  | none => rw [hg] at h; cases h
  | some g =>
    cases hs : sizeOfB P t with
    | none => rw [hg, hs] at h; cases h
    | some s =>
      rw [hg, hs] at h; simp only [Option.bind_some] at h
      cases g with
      | true =>
        simp only [if_true, Option.some.injEq] at h; subst h
        refine ⟨.agg (arr.extract off (off + s)), fun w => by simp [part, run_isAgg' hg, run_sizeOf' hs], ?_⟩
        simp only [VRel]
        refine ⟨_, rfl, ?_⟩
        have := (hv.drop off).take s
        simpa [Array.toList_extract, List.extract_eq_drop_take, List.extract_eq_take_drop, Nat.add_sub_cancel_left] using this
      | false =>
        simp only [Bool.false_eq_true, if_false] at h
        obtain ⟨v, h1, h2⟩ := hv.get off r h
        rw [Array.getElem?_toList] at h1
        exact ⟨v, fun w => by simp [part, run_isAgg' hg, h1], h2⟩
end
end Go.Am
/-
  Operations: addresses, loads, stores, new variables, parts.
-/
namespace Go.Am
set_option linter.unusedSectionVars false
variable [Laid]
section
variable {P : Program} {H H' : AH} {w : World} {G : Gh} {r : AV}

theorem pick_calm {q a b : AV} {q' a' b' : Value} (hq : VRel G q q') (ha : VRel G a a') (hb : VRel G b b')
    (h : pickA H q a b = some (r, H')) :
    CalmN P (do pure (.value (if ← asBool q' then a' else b'))) H G r H' := by
  unfold pickA at h
  cases q <;> (try simp only at h) <;> try (cases h; done)
  rename_i y
  cases y <;> (try simp only at h) <;> try (cases h; done)
  rename_i t
  have e := hq.of_v
  cases h
  refine CalmN.of (v := if t then a' else b') (fun w => ?_) ?_
  · rw [e]; cases t <;> simp [asBool]
  · cases t <;> simpa

theorem newRow_gives {e : TypeId} {cs : List AV} {arr : Array Value} {s : Sem Value} {k : Nat → AV} {f : Addr → Value} (hr : Rel H w G) (hv : VRelL G cs arr.toList) (hone : Ones arr.toList)
    (h : newCells H cs k = some (r, H')) (hs : s = (do let a ← newRow e arr; pure (f a)))
    (hk : ∀ G', G.le G' → G'.ρ H.next = some (w.heap.size, 0) → G'.sz w.heap.size = some arr.size → VRel G' (k H.next) (f ⟨w.heap.size, 0, none⟩)) :
    Gives P s H w G r H' := by
  simp only [newCells, Option.some.injEq, Prod.mk.injEq] at h
  obtain ⟨rfl, rfl⟩ := h
  have hl : cs.length = arr.size := by have := hv.length; simpa using this
  obtain ⟨h1, h2, h3⟩ := hr.new (w' := { w with heap := w.heap.push (.cells arr e) }) ⟨rfl, rfl, rfl⟩ (e := e) (k := 0) (fz := (0, 0)) (fun o _ => .inl rfl) rfl (by omega) hv hone (fun i v hi => by rw [Nat.zero_add, ← Array.getElem?_toList]; exact hi)
  refine ⟨_, _, f ⟨w.heap.size, 0, none⟩, ?_, hk _ h1 ?_ ?_, h2, h3⟩
  · rw [hs]; simp [newRow]
  · show (if _ then _ else _) = _; rw [if_pos rfl]
  · show (if _ then _ else _) = _; rw [if_pos rfl]

theorem alloc_gives {e : TypeId} (hr : Rel H w G) (h : allocA P H e = some (r, H')) :
    Gives P (Instr.alloc e true (.tuple #[])) H w G r H' := by
  unfold allocA at h
  cases hz : zeroCells P e with
  | none => rw [hz] at h; cases h
  | some z =>
    rw [hz] at h; simp only [Option.bind_some] at h
    obtain ⟨v, h1, h2, rfl⟩ := zeroCells_run hz w
    obtain ⟨w', G', u, g1, g2⟩ := newRow_gives (P := P) (e := e) (arr := v.cells) (f := fun a => .pointer (some a)) hr (VRelL.map_v h2) (Ones.flat h2) h rfl
      (fun G' _ hρ _ => by simp only [VRel]; exact ⟨_, 0, hρ, rfl⟩)
    refine ⟨w', G', u, ?_, g2⟩
    simp only [Instr.alloc, Sem.run_bind, h1, Result.andThen_ok, newVar]
    simpa using g1
theorem box_gives {e : TypeId} {x : AV} {x' : Value} (hr : Rel H w G) (hx : VRel G x x') (h : boxA H x = some (r, H')) :
    Gives P (Instr.box e x') H w G r H' := by
  unfold boxA at h
  cases hz : x.cells with
  | none => rw [hz] at h; cases h
  | some z =>
    rw [hz] at h; simp only [Option.bind_some] at h
    obtain ⟨h1, h2⟩ := hx.cells hz
    exact newRow_gives (P := P) (e := e) (arr := x'.cells) (f := fun a => .pointer (some a)) hr h1 h2 h rfl
      (fun G' _ hρ _ => by simp only [VRel]; exact ⟨_, 0, hρ, rfl⟩)

/-- An address that is known. -/
theorem ptr_inv {b off : Nat} {v : Value} (h : VRel G (.ptr b off) v) : ∃ c base, G.ρ b = some (c, base) ∧ v = .pointer (some ⟨c, base + off, none⟩) := by simpa only [VRel] using h
theorem rp_inv {l : List AV} {v : Value} (h : VRel G (.rp l) v) : ∃ c o vs, v = .pointer (some ⟨c, o, none⟩) ∧ VRelL G l vs ∧ RoAt G c o vs := by simpa only [VRel] using h

theorem load_gives {t : TypeId} {a : AV} {a' : Value} (hr : Rel H w G) (ha : VRel G a a')
    (h : loadA P H t a = some (r, H')) :
    Gives P (Instr.loadAt t a') H w G r H' := by
  unfold loadA at h
  cases hg : isAggB P t with
  | none => rw [hg] at h; cases h
  | some g =>
  cases hs : sizeOfB P t with
  | none => rw [hg, hs] at h; cases h
  | some s =>
  rw [hg, hs] at h; simp only [Option.bind_some] at h
  cases a <;> (try simp only at h) <;> try (cases h; done)
  · rename_i b off
    cases hb : H.get b with
    | none => rw [hb] at h; cases h
    | some x =>
      rw [hb] at h
      cases x with
      | map sh es => cases h
      | cells cs =>
        simp only at h
        cases hl : loadFrom g s (cs.drop off) with
        | none => rw [hl] at h; cases h
        | some y =>
          rw [hl] at h; simp only [Option.map_some, Option.some.injEq, Prod.mk.injEq] at h
          obtain ⟨rfl, rfl⟩ := h
          obtain ⟨c, base, h1, rfl⟩ := ptr_inv ha
          obtain ⟨c', base', vs, g1, g2, g3, _, _⟩ := hr.cells hb
          rw [h1] at g1; cases g1
          obtain ⟨v, q1, q2⟩ := loadFrom_run (P := P) (w := w) hg hs hl (g2.drop off) (g3.drop off)
          exact Gives.same hr (v := v) (by simp [Instr.loadAt, Instr.sureAddr, q1]) q2
  · rename_i l
    cases hl : loadFrom g s l with
    | none => rw [hl] at h; cases h
    | some y =>
      rw [hl] at h; simp only [Option.map_some, Option.some.injEq, Prod.mk.injEq] at h
      obtain ⟨rfl, rfl⟩ := h
      obtain ⟨c, o, vs, rfl, h2, h3⟩ := rp_inv ha
      obtain ⟨v, q1, q2⟩ := loadFrom_run (P := P) (w := w) hg hs hl h2 (h3.at hr)
      exact Gives.same hr (v := v) (by simp [Instr.loadAt, Instr.sureAddr, q1]) q2

theorem splice_some {cs vs out : List AV} {off : Nat} (h : splice cs off vs = some out) : off + vs.length ≤ cs.length ∧ out = cs.take off ++ vs ++ cs.drop (off + vs.length) := by
  unfold splice at h
  split at h
  · cases h; exact ⟨‹_›, rfl⟩
  · cases h
/-- A row of cells that is stored into a block that is owned: within its known cells, or right behind. -/
theorem Rel.store (hr : Rel H w G) {b off : Nat} {cs xs : List AV} {vs : List Value} {c base : Nat} {arr : Array Value} {e : TypeId} {fz : Nat × Nat} (hb : H.get b = some (.cells cs)) (hρ : G.ρ b = some (c, base))
    (hw : w.heap[c]? = some (.cells arr e fz)) (hx : VRelL G xs vs) (ho : Ones vs) (hoff : off ≤ cs.length) (hl : base + off + xs.length ≤ arr.size) :
    (storeCells ⟨c, base + off, none⟩ vs).run P w = .ok () (setCells w c (base + off) vs) ∧ Rel (H.put b (some (.cells (cs.take off ++ xs ++ cs.drop (off + xs.length))))) (setCells w c (base + off) vs) G ∧
      Ev H w G (H.put b (some (.cells (cs.take off ++ xs ++ cs.drop (off + xs.length))))) (setCells w c (base + off) vs) G ∧
      (setCells w c (base + off) vs).heap[c]? = some (.cells (setMany arr (base + off) vs) e fz) := by
  obtain ⟨c', base', ws, g1, g2, g3, g0, arr', e', fz', g4, g5, g6, g7, g8, g9⟩ := hr.cells hb
  rw [hρ] at g1; cases g1
  rw [hw] at g4; cases g4
  have hxl := hx.length
  have hwl := g2.length
  obtain ⟨s1, s2, s3⟩ := setCells_heap vs w c (base + off) hw
  have hlike := setCells_like vs w c (base + off)
  have hget : ∀ o, o < base → (setMany arr (base + off) vs)[o]? = arr[o]? := fun o h => by
    rw [setMany_get _ _ _ _ (by omega), if_neg (by omega)]
  refine ⟨?_, and_assoc.1 ⟨?_, s1⟩⟩
  · have := run_storeCells (P := P) vs 0 w c (base + off) hw (by omega) (fun o q1 q2 => (g7 o (by omega) (by omega)).not (by omega)) ho
    simpa using this
  · refine hr.upd hlike hb hρ s3 s2 ?_ ?_ ?_ ?_
    · refine ⟨_, e, fz, ws.take off ++ vs ++ ws.drop (off + vs.length), s1, ?_, ((g0.take _).append ho).append (g0.drop _), ?_, ?_, ?_, g8, ?_⟩
      · rw [hxl]; exact ((g2.take off).append hx).append (g2.drop _)
      · intro i v hi
        rw [setMany_get _ _ _ _ (by omega)]
        have htl : (ws.take off).length = off := by rw [List.length_take]; omega
        by_cases h1 : i < off
        · rw [List.append_assoc, List.getElem?_append_left (by omega), List.getElem?_take, if_pos h1] at hi
          rw [if_neg (by omega)]; exact g5 i v hi
        · by_cases h2 : i < off + vs.length
          · rw [List.append_assoc, List.getElem?_append_right (by omega), List.getElem?_append_left (by omega), htl] at hi
            rw [if_pos (by omega), show base + i - (base + off) = i - off by omega]; exact hi
          · rw [List.getElem?_append_right (by rw [List.length_append]; omega), List.getElem?_drop, List.length_append, htl] at hi
            rw [if_neg (by omega)]
            have : off + vs.length + (i - (off + vs.length)) = i := by omega
            rw [this] at hi
            exact g5 i v hi
      · rw [setMany_size]
        simp only [List.length_append, List.length_take, List.length_drop]
        omega
      · intro o h1 h2; rw [setMany_size] at h2 ⊢; exact g7 o h1 h2
      · rw [setMany_size]; exact g9
    · intro o v h
      refine ⟨_, e, fz, s1, ?_⟩
      have : o < base := by
        rcases Nat.lt_or_ge o base with q | q
        · exact q
        · rw [g8 o q] at h; cases h
      rw [hget o this]
      obtain ⟨arr', e', fz', q1, q2⟩ := hr.roOk c o v h
      rw [hw] at q1; cases q1; exact q2
    · intro n h
      refine ⟨_, e, fz, s1, ?_⟩
      rw [g9] at h; cases h; exact setMany_size _ _ _
    · intro k n h
      obtain ⟨en, clk, h1, _⟩ := hr.bnOk c k n h
      rw [hw] at h1; cases h1

theorem store_does {t : TypeId} {a x : AV} {a' x' : Value} (hr : Rel H w G) (ha : VRel G a a') (hx : VRel G x x')
    (h : storeA P H t a x = some (r, H')) :
    Does P (do Instr.storeAt t a' x'; pure .skip) H w G r H' := by
  unfold storeA at h
  cases hs : sizeOfB P t with
  | none => rw [hs] at h; cases h
  | some s =>
  cases hc : x.cells with
  | none => rw [hs, hc] at h; cases h
  | some vs =>
  rw [hs, hc] at h; simp only [Option.bind_some] at h
  split at h
  · rename_i hl
    cases a <;> (try simp only at h) <;> try (cases h; done)
    rename_i b off
    cases hb : H.get b with
    | none => rw [hb] at h; cases h
    | some y =>
    rw [hb] at h
    cases y with
    | map sh es => cases h
    | cells cs =>
    simp only at h
    cases hsp : splice cs off vs with
    | none => rw [hsp] at h; cases h
    | some cs' =>
    rw [hsp] at h; simp only [Option.map_some, Option.some.injEq, Prod.mk.injEq] at h
    obtain ⟨rfl, rfl⟩ := h
    obtain ⟨q1, rfl⟩ := splice_some hsp
    obtain ⟨c, base, h1, rfl⟩ := ptr_inv ha
    obtain ⟨c', base', ws, g1, g2, g3, _, arr, e, fz, g4, g5, g6, _⟩ := hr.cells hb
    rw [h1] at g1; cases g1
    obtain ⟨k1, k2⟩ := hx.cells hc
    obtain ⟨m1, m2, m3, _⟩ := hr.store (P := P) hb h1 g4 k1 k2 (by omega : off ≤ cs.length) (by omega)
    refine Does.skip (w' := setCells w c (base + off) x'.cells.toList) ?_ m2 m3
    have : x'.cells.size = s := by rw [← Array.length_toList, ← k1.length]; exact hl
    simp [Instr.storeAt, Instr.sureAddr, storeVar, run_sizeOf' hs, this, m1]
  · cases h

theorem nilCheck_calm {x : Operand} {a : AV} {ev' : Operand → Value} {o : Oper} (ho : o.op = .nilCheck x) (ha : VRel G a (ev' x))
    (h : nilCheckA H a = some (r, H')) :
    CalmN P (execOp ev' o) H G r H' := by
  unfold nilCheckA at h
  unfold execOp
  rw [ho]
  simp only
  cases a with
  | ptr b off =>
    cases h
    obtain ⟨c, base, h1, h2⟩ := ptr_inv ha
    refine CalmN.of (v := ev' x) (fun w => ?_) ha
    rw [h2]; rfl
  | rp l =>
    cases h
    obtain ⟨c, o, vs, h2, _⟩ := rp_inv ha
    refine CalmN.of (v := ev' x) (fun w => ?_) ha
    rw [h2]; rfl
  | iface t y =>
    cases h
    have ha' := ha
    simp only [VRel] at ha'
    obtain ⟨u, h2, _⟩ := ha'
    refine CalmN.of (v := ev' x) (fun w => ?_) ha
    rw [h2]; rfl
  | v y =>
    cases y <;> (try simp only at h) <;> try (cases h; done)
    cases h
    refine CalmN.of (v := ev' x) (fun w => ?_) ha
    rw [ha.of_v]; rfl
  | fn f p q =>
    cases f <;> (try simp only at h) <;> try (cases h; done)
    cases h
    have ha' := ha
    simp only [VRel] at ha'
    obtain ⟨a', b', h2, _⟩ := ha'
    refine CalmN.of (v := ev' x) (fun w => ?_) ha
    rw [h2]; rfl
  | _ => cases h

theorem fieldAddr_calm {s : TypeId} {f : Nat} {x : AV} {x' : Value} (hx : VRel G x x')
    (h : fieldAddrA P H s x f = some (r, H')) : Calm P (Instr.fieldAt s x' f) H G r H' := by
  unfold fieldAddrA at h
  split at h
  · rename_i fs hu
    cases hf : fs[f]? with
    | none => rw [hf] at h; cases h
    | some fd =>
    rw [hf] at h; simp only [Option.bind_some] at h
    cases hs : sizeOfB P fd.type with
    | none => rw [hs] at h; cases h
    | some sz =>
    rw [hs] at h; simp only [Option.bind_some] at h
    split at h
    · cases h
    · rename_i hz
      cases x <;> (try simp only at h) <;> try (cases h; done)
      · cases h
        obtain ⟨c, base, h1, rfl⟩ := ptr_inv hx
        refine Calm.of (v := .pointer (some ⟨c, base + (_ + fd.offset), none⟩)) (fun w => ?_) (by simp only [VRel]; exact ⟨c, base, h1, rfl⟩)
        simp [Instr.fieldAt, run_underlying hu, hf, Instr.sureAddr, fieldPlace, run_sizeOf' hs, hz, add_addr, Nat.add_assoc]
      · cases h
        obtain ⟨c, o, vs, rfl, h2, h3⟩ := rp_inv hx
        refine Calm.of (v := .pointer (some ⟨c, o + fd.offset, none⟩)) (fun w => ?_) (by simp only [VRel]; exact ⟨c, _, _, rfl, h2.drop _, h3.drop _⟩)
        simp [Instr.fieldAt, run_underlying hu, hf, Instr.sureAddr, fieldPlace, run_sizeOf' hs, hz, add_addr]
  · cases h

theorem field_calm {t : TypeId} {f : Nat} {x : AV} {x' : Value} (hx : VRel G x x')
    (h : fieldA P H t x f = some (r, H')) : Calm P (Instr.field t x' f) H G r H' := by
  unfold fieldA at h
  split at h
  · rename_i fs hu
    cases hf : fs[f]? with
    | none => rw [hf] at h; cases h
    | some fd =>
    rw [hf] at h; simp only [Option.bind_some] at h
    cases x <;> (try simp only at h) <;> try (cases h; done)
    · rename_i cs
      cases hp : partOf P fd.type cs fd.offset with
      | none => rw [hp] at h; cases h
      | some y =>
        rw [hp] at h; simp only [Option.map_some, Option.some.injEq, Prod.mk.injEq] at h
        obtain ⟨rfl, rfl⟩ := h
        simp only [VRel] at hx
        obtain ⟨arr, rfl, hx⟩ := hx
        obtain ⟨v, q1, q2⟩ := partOf_run (P := P) hp hx
        exact Calm.of (v := v) (fun w => by simp [Instr.field, run_underlying hu, hf, asAgg, q1]) q2
  · cases h

theorem extract_calm {i : Nat} {x : AV} {x' : Value} (hx : VRel G x x')
    (h : extractA H x i = some (r, H')) : Calm P (Instr.extract x' i) H G r H' := by
  unfold extractA at h
  cases x <;> (try simp only at h) <;> try (cases h; done)
  · rename_i cs
    cases hc : cs[i]? with
    | none => rw [hc] at h; cases h
    | some y =>
      rw [hc] at h; simp only [Option.map_some, Option.some.injEq, Prod.mk.injEq] at h
      obtain ⟨rfl, rfl⟩ := h
      simp only [VRel] at hx
      obtain ⟨arr, rfl, hx⟩ := hx
      obtain ⟨v, q1, q2⟩ := hx.get i y hc
      rw [Array.getElem?_toList] at q1
      exact Calm.of (v := v) (fun w => by simp [Instr.extract, q1]) q2

theorem indexAddr_calm {t : TypeId} {x ix : AV} {x' ix' : Value} (hx : VRel G x x') (hix : VRel G ix ix')
    (h : indexAddrA P H t x ix = some (r, H')) : Calm P (Instr.indexAt t x' ix') H G r H' := by
  unfold indexAddrA at h
  cases hi : intOfAV ix with
  | none => rw [hi] at h; cases h
  | some i =>
  rw [hi] at h; simp only [Option.bind_some] at h
  obtain ⟨j, rfl⟩ := intOfAV_rel hi hix
  split at h
  · rename_i n e hu
    cases hs : sizeOfB P e with
    | none => rw [hs] at h; cases h
    | some s =>
    rw [hs] at h; simp only [Option.bind_some] at h
    split at h
    · rename_i hb
      cases x <;> (try simp only at h) <;> try (cases h; done)
      · cases h
        obtain ⟨c, base, h1, rfl⟩ := ptr_inv hx
        refine Calm.of (v := .pointer (some ⟨c, base + (_ + i.toNat * s), none⟩)) (fun w => ?_) (by simp only [VRel]; exact ⟨c, base, h1, rfl⟩)
        simp [Instr.indexAt, asIntOf, run_underlying hu, Instr.sureAddr, hb, run_sizeOf' hs, add_addr, Nat.add_assoc]
      · cases h
        obtain ⟨c, o, vs, rfl, h2, h3⟩ := rp_inv hx
        refine Calm.of (v := .pointer (some ⟨c, o + i.toNat * s, none⟩)) (fun w => ?_) (by simp only [VRel]; exact ⟨c, _, _, rfl, h2.drop _, h3.drop _⟩)
        simp [Instr.indexAt, asIntOf, run_underlying hu, Instr.sureAddr, hb, run_sizeOf' hs, add_addr]
    · cases h
  · rename_i e hu
    cases hs : sizeOfB P e with
    | none => rw [hs] at h; cases h
    | some s =>
    rw [hs] at h; simp only [Option.bind_some] at h
    cases x <;> (try simp only at h) <;> try (cases h; done)
    · split at h
      · rename_i hb
        cases h
        simp only [VRel] at hx
        obtain ⟨c, base, off, cap, sz, h1, rfl, h3, h4, _⟩ := hx
        have h4 : off = base + _ := h4.resolve_right (by omega)
        refine Calm.of (v := .pointer (some ⟨c, base + (_ + i.toNat * s), none⟩)) (fun w => ?_) (by simp only [VRel]; exact ⟨c, base, h1, rfl⟩)
        simp [Instr.indexAt, asIntOf, run_underlying hu, hb.2, run_sizeOf' hs, add_addr, Nat.add_assoc, h4]
      · cases h
    · split at h
      · rename_i hb
        cases h
        simp only [VRel] at hx
        rcases hx with ⟨_, h2, _⟩ | ⟨c, off, cap, vs, sz, rfl, h2, h3, _, h4, h5, _⟩
        · omega
        refine Calm.of (v := .pointer (some ⟨c, off + i.toNat * s, none⟩)) (fun w => ?_) (by simp only [VRel]; exact ⟨c, _, _, rfl, h2.drop _, h3.drop _⟩)
        simp [Instr.indexAt, asIntOf, run_underlying hu, hb.2, run_sizeOf' hs, add_addr]
      · cases h
  · cases h

theorem index_calm {t : TypeId} {x ix : AV} {x' ix' : Value} (hx : VRel G x x') (hix : VRel G ix ix')
    (h : indexA P H t x ix = some (r, H')) : Calm P (Instr.index t x' ix') H G r H' := by
  unfold indexA at h
  cases hi : intOfAV ix with
  | none => rw [hi] at h; cases h
  | some i =>
  rw [hi] at h; simp only [Option.bind_some] at h
  obtain ⟨j, rfl⟩ := intOfAV_rel hi hix
  split at h
  · rename_i n e cs hu
    cases hs : sizeOfB P e with
    | none => rw [hs] at h; cases h
    | some s =>
    rw [hs] at h; simp only [Option.bind_some] at h
    split at h
    · rename_i hb
      cases hp : partOf P e cs (i.toNat * s) with
      | none => rw [hp] at h; cases h
      | some y =>
        rw [hp] at h; simp only [Option.map_some, Option.some.injEq, Prod.mk.injEq] at h
        obtain ⟨rfl, rfl⟩ := h
        simp only [VRel] at hx
        obtain ⟨arr, rfl, hx⟩ := hx
        obtain ⟨v, q1, q2⟩ := partOf_run (P := P) hp hx
        exact Calm.of (v := v) (fun w => by simp [Instr.index, asIntOf, run_underlying hu, hb, run_sizeOf' hs, q1]) q2
    · cases h
  · rename_i s hu
    split at h
    · rename_i hb
      cases hc : s.data.toList[i.toNat]? with
      | none => rw [hc] at h; cases h
      | some b =>
        rw [hc] at h; simp only [Option.map_some, Option.some.injEq, Prod.mk.injEq] at h
        obtain ⟨rfl, rfl⟩ := h
        rw [hx.of_v]
        refine Calm.of (v := .int .u8 b.toNat) (fun w => ?_) (.v rfl)
        have hcc : s[i.toNat]? = some b := by
          rw [Array.getElem?_toList] at hc
          have hlt := (Array.getElem?_eq_some_iff.1 hc).1
          rw [getElem?_pos s i.toNat hlt]
          exact congrArg some (Array.getElem?_eq_some_iff.1 hc).2
        simp [Instr.index, asIntOf, run_underlying hu, hb, hcc]
    · cases h
  · cases h

theorem unOp_calm {op : UnOp} {x : AV} {x' : Value} (hx : VRel G x x')
    (h : unA P H op x = some (r, H')) : Calm P (Op.unary op x') H G r H' := by
  unfold unA at h
  cases x <;> (try simp only at h) <;> try (cases h; done)
  · rename_i a
    cases ho : ofFlat (pureRun P (Op.unary op a)) with
    | none => rw [ho] at h; cases h
    | some y =>
      rw [ho] at h; simp only [Option.map_some, Option.some.injEq, Prod.mk.injEq] at h
      obtain ⟨rfl, rfl⟩ := h
      obtain ⟨v, q1, rfl, q3⟩ := ofFlat_some ho
      rw [hx.of_v]
      exact Calm.of (v := v) (pureRun_run q1) (.v q3)

theorem makeInterface_calm {t : TypeId} {x : AV} {x' : Value} (hx : VRel G x x')
    (h : ifaceA P H t x = some (r, H')) : Calm P (Instr.makeInterface t x') H G r H' := by
  unfold ifaceA at h
  cases hu : P.underlying t with
  | none => rw [hu] at h; cases h
  | some d =>
  rw [hu] at h
  have hrun : (∀ w, (Instr.makeInterface t x').run P w = .ok (.iface t x') w) ∨ ∃ ms, d = .interface ms := by
    cases d <;> first | (exact .inr ⟨_, rfl⟩) | (left; intro w; simp [Instr.makeInterface, run_underlying hu])
  have h' : (match (generalizing := false) x with
        | .v a => some (AV.v (.iface t a), H)
        | .unk => none
        | y => some (.iface t y, H)) = some (r, H') := by
    cases d <;> first | exact h | cases h
  rcases hrun with hrun | ⟨ms, rfl⟩
  · have key : VRel G r (.iface t x') ∧ H' = H := by
      cases x <;> (try simp only at h') <;> try (cases h'; done)
      all_goals cases h'
      all_goals refine ⟨?_, rfl⟩
      all_goals simp only [VRel] at hx ⊢
      all_goals first | exact ⟨_, rfl, hx⟩ | (refine ⟨by rw [hx.1], ?_⟩; simp only [flat]; exact hx.2)
    obtain ⟨k1, rfl⟩ := key
    exact Calm.of hrun k1
  · cases h
end
end Go.Am
/-
  Operations: what is built, slices' parts, conversions, comparisons.
-/
namespace Go.Am
set_option linter.unusedSectionVars false
variable [Laid]
section
variable {P : Program} {H H' : AH} {w : World} {G : Gh} {r : AV}

/-! ### What is built -/
theorem fold_setMany (off : Nat) : ∀ (vs : List Value) (k : Nat) (arr : Array Value), (vs.zipIdx k).foldl (fun cs (x : Value × Nat) => cs.setIfInBounds (off + x.2) x.1) arr = setMany arr (off + k) vs
  | [], _, _ => rfl
  | v :: vs, k, arr => by
    simp only [List.zipIdx_cons, List.foldl_cons, setMany]
    rw [fold_setMany off vs (k + 1)]
    rfl
theorem fold_setMany' (off : Nat) (vs arr : Array Value) : (vs.zipIdx.foldl (fun cs (x : Value × Nat) => cs.setIfInBounds (off + x.2) x.1) arr) = setMany arr off vs.toList := by
  rw [← Array.foldl_toList, Array.toList_zipIdx, fold_setMany]; rfl
theorem setMany_toList {vs : List Value} {arr : Array Value} {off : Nat} (h : off + vs.length ≤ arr.size) :
    (setMany arr off vs).toList = arr.toList.take off ++ vs ++ arr.toList.drop (off + vs.length) := by
  apply List.ext_getElem?
  intro i
  rw [Array.getElem?_toList, setMany_get _ _ _ _ h]
  have htl : (arr.toList.take off).length = off := by rw [List.length_take, Array.length_toList]; omega
  by_cases h1 : i < off
  · rw [if_neg (by omega), List.append_assoc, List.getElem?_append_left (by omega), List.getElem?_take, if_pos h1, Array.getElem?_toList]
  · by_cases h2 : i < off + vs.length
    · rw [if_pos (by omega), List.append_assoc, List.getElem?_append_right (by omega), List.getElem?_append_left (by omega), htl]
    · rw [if_neg (by omega), List.getElem?_append_right (by rw [List.length_append]; omega), List.getElem?_drop, List.length_append, htl, Array.getElem?_toList]
      congr 1; omega
def PartsRel (G : Gh) : List (Nat × AV) → List (Nat × Value) → Prop
  | [], ys => ys = []
  | x :: xs, ys => ∃ v r, ys = (x.1, v) :: r ∧ VRel G x.2 v ∧ PartsRel G xs r
theorem PartsRel.of_map {ev : Operand → AV} {ev' : Operand → Value} (h : ∀ x, VRel G (ev x) (ev' x)) : ∀ (l : List (Nat × Operand)),
    PartsRel G (l.map fun (i, x) => (i, ev x)) (l.map fun (i, x) => (i, ev' x))
  | [] => rfl
  | (i, x) :: l => ⟨ev' x, _, rfl, h x, PartsRel.of_map h l⟩
theorem fill_rel {place : Nat → Option (Nat × Nat)} : ∀ {parts : List (Nat × AV)} {parts' : List (Nat × Value)} {cells out : List AV} {arr : Array Value}, fillA place cells parts = some out →
    PartsRel G parts parts' → VRelL G cells arr.toList → Ones arr.toList → ∃ arr', Instr.fill place arr parts' = some arr' ∧ VRelL G out arr'.toList ∧ Ones arr'.toList
  | [], parts', cells, out, arr, h, hp, hc, ho => by
    simp only [PartsRel] at hp; subst hp
    simp only [fillA, Option.some.injEq] at h; subst h
    exact ⟨arr, rfl, hc, ho⟩
  | (i, x) :: parts, parts', cells, out, arr, h, hp, hc, ho => by
    simp only [PartsRel] at hp
    obtain ⟨v, rest, rfl, hv, hp⟩ := hp
    simp only [fillA] at h
    cases hpl : place i with
    | none => rw [hpl] at h; cases h
    | some ps =>
    obtain ⟨off, size⟩ := ps
    cases hxc : x.cells with
    | none => rw [hpl, hxc] at h; cases h
    | some vs =>
    rw [hpl, hxc] at h; simp only at h
    split at h
    · rename_i hlen
      cases hsp : splice cells off vs with
      | none => rw [hsp] at h; cases h
      | some cs =>
      rw [hsp] at h; simp only [Option.bind_some] at h
      obtain ⟨q1, rfl⟩ := splice_some hsp
      obtain ⟨k1, k2⟩ := hv.cells hxc
      have hl1 : vs.length = v.cells.size := by have := k1.length; simpa using this
      have hl2 : cells.length = arr.size := by have := hc.length; simpa using this
      have hsz : v.cells.size = size := by rw [← hl1]; exact hlen
      have hcs : VRelL G (cells.take off ++ vs ++ cells.drop (off + vs.length)) (setMany arr off v.cells.toList).toList := by
        rw [setMany_toList (by rw [Array.length_toList]; omega), show v.cells.toList.length = vs.length by rw [Array.length_toList]; exact hl1.symm]
        exact ((hc.take off).append k1).append (hc.drop _)
      have hos : Ones (setMany arr off v.cells.toList).toList := by
        rw [setMany_toList (by rw [Array.length_toList]; omega)]
        exact ((ho.take _).append k2).append (ho.drop _)
      obtain ⟨arr', m1, m2, m3⟩ := fill_rel h hp hcs hos
      refine ⟨arr', ?_, m2, m3⟩
      simp only [Instr.fill, hpl]
      rw [if_neg (by simp; omega), fold_setMany']
      exact m1
    · cases h
theorem placesOf_run : ∀ {fs : List Field} {ps : List (Nat × Nat)}, placesOf P fs = some ps → ∀ w, (fs.mapM fun (f : Field) => (do pure (f.offset, ← sizeOf f.type) : Sem (Nat × Nat))).run P w = .ok ps w
  | [], ps, h, w => by simp only [placesOf, Option.some.injEq] at h; subst h; rfl
  | f :: fs, ps, h, w => by
    simp only [placesOf] at h
    cases hs : sizeOfB P f.type with
    | none => rw [hs] at h; cases h
    | some s =>
    rw [hs] at h; simp only [Option.bind_some] at h
    cases hr : placesOf P fs with
    | none => rw [hr] at h; cases h
    | some r =>
    rw [hr] at h; simp only [Option.map_some, Option.some.injEq] at h; subst h
    simp only [List.mapM_cons, Sem.run_bind, run_sizeOf' hs, Result.andThen_ok, Sem.run_pure, placesOf_run hr w]
theorem build_calm {t : TypeId} {parts : List (Nat × AV)} {parts' : Array (Nat × Value)} (hp : PartsRel G parts parts'.toList) (h : buildA P H t parts = some (r, H')) :
    Calm P (Instr.build t parts') H G r H' := by
  unfold buildA at h
  cases hz : zeroCells P t with
  | none => rw [hz] at h; cases h
  | some z =>
  rw [hz] at h; simp only [Option.bind_some] at h
  obtain ⟨v, z1, z2, rfl⟩ := zeroCells_all hz
  have hzr : VRelL G (v.cells.toList.map .v) v.cells.toList := VRelL.map_v z2
  split at h
  · rename_i fs hu
    cases hps : placesOf P fs.toList with
    | none => rw [hps] at h; cases h
    | some ps =>
    rw [hps] at h; simp only [Option.bind_some] at h
    cases hf : fillA (ps[·]?) (v.cells.toList.map .v) parts with
    | none => rw [hf] at h; cases h
    | some cs =>
    rw [hf] at h; simp only [Option.map_some, Option.some.injEq, Prod.mk.injEq] at h
    obtain ⟨rfl, rfl⟩ := h
    obtain ⟨arr', m1, m2, _⟩ := fill_rel hf hp hzr (Ones.flat z2)
    refine Calm.of (v := .agg arr') (fun w => ?_) (by simp only [VRel]; exact ⟨arr', rfl, m2⟩)
    have hpl := placesOf_run hps w
    simp only [Instr.build, Sem.run_bind, z1, Result.andThen_ok, run_underlying hu, Array.mapM_eq_mapM_toList, Sem.run_map, hpl]
    simp [m1]
  · rename_i n e hu
    cases hs : sizeOfB P e with
    | none => rw [hs] at h; cases h
    | some s =>
    rw [hs] at h; simp only [Option.bind_some] at h
    cases hf : fillA (fun i => some (i * s, s)) (v.cells.toList.map .v) parts with
    | none => rw [hf] at h; cases h
    | some cs =>
    rw [hf] at h; simp only [Option.map_some, Option.some.injEq, Prod.mk.injEq] at h
    obtain ⟨rfl, rfl⟩ := h
    obtain ⟨arr', m1, m2, _⟩ := fill_rel hf hp hzr (Ones.flat z2)
    refine Calm.of (v := .agg arr') (fun w => ?_) (by simp only [VRel]; exact ⟨arr', rfl, m2⟩)
    simp [Instr.build, z1, run_underlying hu, run_sizeOf' hs, m1]
  · cases h

/-- The zero cells of a row. -/
theorem reps_getElem? {α : Type} (l : List α) : ∀ (n i : Nat), i < n * l.length → (reps l n)[i]? = l[i % l.length]?
  | 0, i, h => by simp at h
  | n + 1, i, h => by
    simp only [reps]
    by_cases hi : i < l.length
    · rw [List.getElem?_append_left hi, Nat.mod_eq_of_lt hi]
    · have hl : 0 < l.length := by
        rcases Nat.eq_zero_or_pos l.length with e | e
        · rw [e] at h; simp at h
        · exact e
      rw [List.getElem?_append_right (by omega), reps_getElem? l n _ (by rw [Nat.add_mul] at h; omega)]
      congr 1
      rw [Nat.mod_eq_sub_mod (a := i) (by omega)]
theorem reps_length {α : Type} (l : List α) : ∀ (n : Nat), (reps l n).length = n * l.length
  | 0 => by simp [reps]
  | n + 1 => by simp only [reps, List.length_append, reps_length l n, Nat.add_mul, Nat.one_mul]; omega
theorem zeros_eq {zero : Array Value} {n : Nat} : ((Array.range (n * zero.size)).map fun i => zero[i % zero.size]!).toList = reps zero.toList n := by
  apply List.ext_getElem?
  intro i
  by_cases hi : i < n * zero.size
  · rw [reps_getElem? _ _ _ (by rw [Array.length_toList]; exact hi), Array.getElem?_toList, Array.getElem?_map, Array.getElem?_range, if_pos hi]
    have hz : 0 < zero.size := by
      rcases Nat.eq_zero_or_pos zero.size with e | e
      · rw [e] at hi; simp at hi
      · exact e
    have hm : i % zero.size < zero.size := Nat.mod_lt _ hz
    rw [Array.length_toList, Array.getElem?_toList, Array.getElem?_eq_getElem hm]
    simp only [Option.map_some]
    rw [getElem!_pos zero _ hm]
  · rw [List.getElem?_eq_none (by simp; omega), List.getElem?_eq_none (by rw [reps_length, Array.length_toList]; omega)]
theorem buildSlice_gives {t : TypeId} {n : Nat} {parts : List (Nat × AV)} {parts' : Array (Nat × Value)} (hr : Rel H w G) (hp : PartsRel G parts parts'.toList) (h : buildSliceA P H t n parts = some (r, H')) :
    Gives P (Instr.buildSlice t n parts') H w G r H' := by
  unfold buildSliceA elemOfB at h
  cases hu : P.underlying t with
  | none => rw [hu] at h; cases h
  | some d =>
  rw [hu] at h; simp only [Option.bind_some] at h
  cases d <;> (try simp only at h) <;> try (cases h; done)
  rename_i e
  simp only [Option.bind_some] at h
  cases hs : sizeOfB P e with
  | none => rw [hs] at h; cases h
  | some s =>
  rw [hs] at h; simp only [Option.bind_some] at h
  split at h
  · cases h
  rename_i hne
  cases hz : zeroCells P e with
  | none => rw [hz] at h; cases h
  | some z =>
  rw [hz] at h; simp only [Option.bind_some] at h
  obtain ⟨v, z1, z2, rfl⟩ := zeroCells_run hz w
  split at h
  · rename_i hzl
    cases hf : fillA (fun i => some (i * s, s)) (reps (v.cells.toList.map .v) n) parts with
    | none => rw [hf] at h; cases h
    | some cs =>
    rw [hf] at h; simp only [Option.bind_some] at h
    have hvs : v.cells.size = s := by rw [List.length_map, Array.length_toList] at hzl; exact hzl
    have hzr : VRelL G (reps (v.cells.toList.map .v) n) ((Array.range (n * s)).map fun i => v.cells[i % v.cells.size]!).toList := by
      rw [← hvs, zeros_eq]; exact (VRelL.map_v z2).reps n
    have hzo : Ones ((Array.range (n * s)).map fun i => v.cells[i % v.cells.size]!).toList := by
      rw [← hvs, zeros_eq]; exact (Ones.flat z2).reps n
    obtain ⟨arr', m1, m2, m3⟩ := fill_rel hf hp hzr hzo
    have hcl : cs.length = n * s := by
      have : ∀ {parts : List (Nat × AV)} {cells out : List AV} {place : Nat → Option (Nat × Nat)}, fillA place cells parts = some out → out.length = cells.length := by
        intro parts
        induction parts with
        | nil => intro cells out place h; simp only [fillA, Option.some.injEq] at h; subst h; rfl
        | cons p parts ih =>
          intro cells out place h
          obtain ⟨i, x⟩ := p
          simp only [fillA] at h
          split at h
          · split at h
            · rename_i off size vs _ _ hlen
              cases hsp : splice cells off vs with
              | none => rw [hsp] at h; cases h
              | some c2 =>
                rw [hsp] at h; simp only [Option.bind_some] at h
                obtain ⟨q1, rfl⟩ := splice_some hsp
                rw [ih h]; simp only [List.length_append, List.length_take, List.length_drop]; omega
            · cases h
          · cases h
      rw [this hf, reps_length, List.length_map, Array.length_toList, hvs]
    refine (newRow_gives (P := P) (e := e) (arr := arr') (f := fun a => .slice (some a) n n) (s := (do let a ← newRow e arr'; pure (.slice (some a) n n))) hr m2 m3 h rfl ?_).imp ?_
    · intro G' _ hρ hsz
      simp only [VRel]
      refine ⟨_, 0, 0, n, _, hρ, rfl, Nat.le_refl _, .inl rfl, hsz, ?_⟩
      have h9 : cs.length = arr'.size := by have := m2.length; simpa using this
      rw [← h9, hcl, Nat.zero_add]; exact Nat.le_refl _
    · rintro w' ⟨G', u, g1, g2⟩
      refine ⟨G', u, ?_, g2⟩
      have hns : ¬ (n * s = 0) := by
        intro h0
        rcases Nat.mul_eq_zero.1 h0 with h0 | h0
        · exact hne (.inr (.inl h0))
        · exact hne (.inl h0)
      have hns2 : ¬ (n * s > 2 ^ 24) := fun h0 => hne (.inr (.inr h0))
      simp only [Instr.buildSlice, Sem.run_bind, run_underlying hu, Result.andThen_ok, run_sizeOf' hs, Sem.run_ite, hns, hns2, if_false, z1, Sem.run_pure, m1]
      simpa using g1
  · cases h

theorem wrap64_small {n : Int} (h0 : 0 ≤ n) (h : n ≤ most) : IntKind.i64.wrap n = n := by
  unfold most at h
  simp only [IntKind.wrap, IntKind.signed, IntKind.bits, Bool.true_and]
  rw [if_neg (by simp; omega)]
  omega
theorem makeSlice_gives {t : TypeId} {l k : AV} {l' k' : Value} (hr : Rel H w G) (hl : VRel G l l') (hk : VRel G k k') (h : makeSliceA P H t l k = some (r, H')) :
    Gives P (Instr.makeSlice t l' k') H w G r H' := by
  unfold makeSliceA elemOfB at h
  cases hu : P.underlying t with
  | none => rw [hu] at h; cases h
  | some d =>
  rw [hu] at h; simp only [Option.bind_some] at h
  cases d <;> (try simp only at h) <;> try (cases h; done)
  rename_i e
  simp only [Option.bind_some] at h
  cases hi : P.info? e with
  | none => rw [hi] at h; cases h
  | some i =>
  rw [hi] at h; simp only [Option.bind_some] at h
  cases hz : zeroCells P e with
  | none => rw [hz] at h; cases h
  | some z =>
  rw [hz] at h; simp only [Option.bind_some] at h
  obtain ⟨v, z1, z2, rfl⟩ := zeroCells_run hz w
  cases hln : intOfAV l with
  | none => rw [hln] at h; cases h
  | some ln =>
  rw [hln] at h; simp only [Option.bind_some] at h
  cases hkn : intOfAV k with
  | none => rw [hkn] at h; cases h
  | some kn =>
  rw [hkn] at h; simp only [Option.bind_some] at h
  obtain ⟨j1, rfl⟩ := intOfAV_rel hln hl
  obtain ⟨j2, rfl⟩ := intOfAV_rel hkn hk
  split at h
  · rename_i hc
    obtain ⟨c1, c2, c3, c4, c5, c6, c7⟩ := hc
    have hvs : v.cells.size = i.size := by rw [List.length_map, Array.length_toList] at c1; exact c1
    have hw1 : IntKind.i64.wrap ln = ln := wrap64_small c3 (by omega)
    have hw2 : IntKind.i64.wrap kn = kn := wrap64_small (by omega) c7
    have hb1 : ¬ (kn < 0) := by omega
    have hb2 : ¬ (281474976710656 < (i.bytes : Int) * kn) := by
      rw [Int.mul_comm]
      have : (most : Int) ≤ 281474976710656 := by decide
      omega
    have hzr : VRelL G (reps (v.cells.toList.map .v) kn.toNat) ((Array.range (kn.toNat * i.size)).map fun j => v.cells[j % v.cells.size]!).toList := by
      rw [← hvs, zeros_eq]; exact (VRelL.map_v z2).reps _
    refine (newRow_gives (P := P) (e := e) (arr := ((Array.range (kn.toNat * i.size)).map fun j => v.cells[j % v.cells.size]!)) (f := fun a => .slice (some a) ln.toNat kn.toNat) (s := (do let a ← newRow e ((Array.range (kn.toNat * i.size)).map fun j => v.cells[j % v.cells.size]!); pure (.slice (some a) ln.toNat kn.toNat))) hr hzr (by rw [← hvs, zeros_eq]; exact (Ones.flat z2).reps _) h rfl ?_).imp ?_
    · intro G' _ hρ hsz
      simp only [VRel]
      refine ⟨_, 0, 0, kn.toNat, _, hρ, rfl, by omega, .inl rfl, hsz, ?_⟩
      simp
    · rintro w' ⟨G', u, g1, g2⟩
      refine ⟨G', u, ?_, g2⟩
      have hsz : sizeOfB P e = some i.size := by simp [sizeOfB, hi]
      have hb3 : ¬ (ln < 0) := by omega
      have hb4 : ¬ (kn < ln) := by omega
      by_cases h0 : kn.toNat * i.size = 0
      · have harr : ((Array.range (kn.toNat * i.size)).map fun j => v.cells[j % v.cells.size]!) = #[] := by rw [h0]; simp
        rw [harr] at g1
        simp only [Instr.makeSlice, Sem.run_bind, run_underlying hu, Result.andThen_ok, asInt, asIntOf, Sem.run_pure, run_typeInfo' hi, hw1, hw2]
        have hr0 : ∀ (f : Nat → Value), (Array.range 0).map f = #[] := fun f => by simp
        simpa [hb1, hb2, hb3, hb4, run_sizeOf' hsz, h0, hr0] using g1
      · simp only [Instr.makeSlice, Sem.run_bind, run_underlying hu, Result.andThen_ok, asInt, asIntOf, Sem.run_pure, run_typeInfo' hi, hw1, hw2]
        have h0' : ¬ (kn.toNat = 0 ∨ i.size = 0) := fun h => h0 (Nat.mul_eq_zero.2 h)
        simpa [hb1, hb2, hb3, hb4, run_sizeOf' hsz, h0, h0', z1] using g1
  · cases h
end
end Go.Am
/-
  Operations: slices, comparisons, conversions.
-/
namespace Go.Am
set_option linter.unusedSectionVars false
variable [Laid]
section
variable {P : Program} {H H' : AH} {w : World} {G : Gh} {r : AV}

def ORel (G : Gh) (x : Option AV) (y : Option Value) : Prop :=
  match x, y with
  | none, none => True
  | some x, some y => VRel G x y
  | _, _ => False
theorem ORel.map {ev : Operand → AV} {ev' : Operand → Value} (h : ∀ x, VRel G (ev x) (ev' x)) (o : Option Operand) : ORel G (o.map ev) (o.map ev') := by
  cases o with
  | none => trivial
  | some x => exact h x
theorem boundA_some {x : AV} {y : Value} {d m k : Nat} (h : boundA (some x) d m = some k) (hx : VRel G x y) : ∃ j, y = .int j (k : Int) ∧ k ≤ m := by
  simp only [boundA] at h
  cases hi : intOfAV x with
  | none => rw [hi] at h; cases h
  | some i =>
    rw [hi] at h; simp only [Option.bind_some] at h
    obtain ⟨j, rfl⟩ := intOfAV_rel hi hx
    split at h
    · rename_i hc
      cases h
      exact ⟨j, by congr 1; omega, by omega⟩
    · cases h
theorem sliceB_run {lo hi : Option AV} {lo' hi' : Option Value} {n l h len cap : Nat} {is : Bool} (hb : sliceB lo hi n = some (l, h)) (h1 : ORel G lo lo') (h2 : ORel G hi hi') (hn : n ≤ cap) (hlen : len = n) (w : World) :
    (Instr.sliceBounds is len cap lo' hi' none).run P w = .ok (l, h, cap) w ∧ l ≤ h ∧ h ≤ n := by
  subst hlen
  unfold sliceB at hb
  cases hq : boundA hi len len with
  | none => rw [hq] at hb; cases hb
  | some h0 =>
  rw [hq] at hb; simp only [Option.bind_some] at hb
  cases hq2 : boundA lo 0 h0 with
  | none => rw [hq2] at hb; cases hb
  | some l0 =>
  rw [hq2] at hb; simp only [Option.map_some, Option.some.injEq, Prod.mk.injEq] at hb
  obtain ⟨rfl, rfl⟩ := hb
  cases hi with
  | none =>
    cases hi' with
    | some y => exact h2.elim
    | none =>
    simp only [boundA, Option.some.injEq] at hq; subst hq
    cases lo with
    | none =>
      cases lo' with
      | some y => exact h1.elim
      | none =>
      simp only [boundA, Option.some.injEq] at hq2; subst hq2
      exact ⟨rfl, Nat.zero_le _, Nat.le_refl _⟩
    | some x =>
      cases lo' with
      | none => exact h1.elim
      | some y =>
      obtain ⟨j, rfl, q⟩ := boundA_some hq2 h1
      refine ⟨?_, q, Nat.le_refl _⟩
      have : (l0 : Int) ≤ len := by omega
      simp [Instr.sliceBounds, Instr.sliceBound, asIntOf, this, q]
  | some x =>
    cases hi' with
    | none => exact h2.elim
    | some y =>
    obtain ⟨j, rfl, q⟩ := boundA_some hq h2
    have hc : h0 ≤ cap := by omega
    cases lo with
    | none =>
      cases lo' with
      | some y => exact h1.elim
      | none =>
      simp only [boundA, Option.some.injEq] at hq2; subst hq2
      refine ⟨?_, Nat.zero_le _, q⟩
      simp [Instr.sliceBounds, Instr.sliceBound, asIntOf, hc]
    | some x =>
      cases lo' with
      | none => exact h1.elim
      | some y =>
      obtain ⟨j', rfl, q'⟩ := boundA_some hq2 h1
      refine ⟨?_, q', q⟩
      simp [Instr.sliceBounds, Instr.sliceBound, asIntOf, hc, q']

theorem slice_calm {t : TypeId} {x : AV} {x' : Value} {lo hi : Option AV} {lo' hi' : Option Value} (hr : Rel H w G) (hx : VRel G x x') (h1 : ORel G lo lo') (h2 : ORel G hi hi')
    (h : (sliceA P H t x lo hi).map (·, H) = some (r, H')) : Calm P (Instr.sliceAt t x' lo' hi' none) H G r H' := by
  cases hs : sliceA P H t x lo hi with
  | none => rw [hs] at h; cases h
  | some y =>
  rw [hs] at h; simp only [Option.map_some, Option.some.injEq, Prod.mk.injEq] at h
  obtain ⟨rfl, rfl⟩ := h
  unfold sliceA at hs
  cases hu : P.underlying t with
  | none => rw [hu] at hs; cases hs
  | some d =>
  rw [hu] at hs
  cases d <;> (try simp only at hs) <;> try (cases hs; done)
  · -- a text
    cases x <;> (try simp only at hs) <;> try (cases hs; done)
    rename_i z
    cases z <;> (try simp only at hs) <;> try (cases hs; done)
    rename_i s
    cases hb : sliceB lo hi s.size with
    | none => rw [hb] at hs; cases hs
    | some p =>
    obtain ⟨l, k⟩ := p
    rw [hb] at hs; simp only [Option.map_some, Option.some.injEq] at hs
    subst hs
    rw [hx.of_v]
    obtain ⟨_, q2, q3⟩ := sliceB_run (P := P) (is := false) (len := s.size) (cap := s.size) hb h1 h2 (Nat.le_refl _) rfl w
    have q1 := fun w => (sliceB_run (P := P) (is := false) (len := s.size) (cap := s.size) hb h1 h2 (Nat.le_refl _) rfl w).1
    refine Calm.of (v := .string (s.extract l k)) (fun w => ?_) (.v rfl)
    simp [Instr.sliceAt, Instr.slice, run_underlying hu, q1]
  · -- a slice
    rename_i e
    cases hsz : sizeOfB P e with
    | none => rw [hsz] at hs; cases hs
    | some s =>
    rw [hsz] at hs; simp only [Option.bind_some] at hs
    cases x <;> (try simp only at hs) <;> try (cases hs; done)
    · rename_i z
      split at hs
      · rename_i e'
        cases hb : sliceB lo hi 0 with
        | none => rw [hb] at hs; cases hs
        | some p =>
        obtain ⟨l, k⟩ := p
        rw [hb] at hs; simp only [Option.map_some, Option.some.injEq] at hs
        subst hs
        cases e'
        rw [hx.of_v]
        obtain ⟨_, q2, q3⟩ := sliceB_run (P := P) (is := true) (len := 0) (cap := 0) hb h1 h2 (Nat.le_refl _) rfl w
        have q1 := fun w => (sliceB_run (P := P) (is := true) (len := 0) (cap := 0) hb h1 h2 (Nat.le_refl _) rfl w).1
        have hl : l = 0 := by omega
        have hk : k = 0 := by omega
        subst hl; subst hk
        refine Calm.of (v := .slice none 0 0) (fun w => ?_) (.v rfl)
        simp [Instr.sliceAt, Instr.slice, run_underlying hu, q1, run_sizeOf' hsz]
      · rename_i e; cases e
      · rename_i e; cases e
      · cases hs
    · rename_i b off n es
      split at hs
      · rename_i he
        obtain ⟨rfl, he0⟩ := he
        cases hb : sliceB lo hi n with
        | none => rw [hb] at hs; cases hs
        | some p =>
        obtain ⟨l, k⟩ := p
        rw [hb] at hs; simp only [Option.map_some, Option.some.injEq] at hs
        subst hs
        simp only [VRel] at hx
        obtain ⟨c, base, off', cap, sz, g1, rfl, g3, g4, g5, g6⟩ := hx
        obtain ⟨_, q2, q3⟩ := sliceB_run (P := P) (is := true) (len := n) (cap := cap) hb h1 h2 g3 rfl w
        have q1 := fun w => (sliceB_run (P := P) (is := true) (len := n) (cap := cap) hb h1 h2 g3 rfl w).1
        refine Calm.of (v := .slice (some (if cap = l then ⟨c, off', none⟩ else ⟨c, off' + l * es, none⟩)) (k - l) (cap - l)) (fun w => ?_) ?_
        · simp [Instr.sliceAt, Instr.slice, run_underlying hu, q1, run_sizeOf' hsz]
          split <;> simp [add_addr]
        · simp only [VRel]
          by_cases hcl : cap = l
          · rw [if_pos hcl]
            exact ⟨c, base, off', cap - l, sz, g1, rfl, by omega, .inr ⟨by omega, by omega⟩, g5, by
              have : cap - l = 0 := by omega
              rw [this]; omega⟩
          · rw [if_neg hcl]
            have g4 : off' = base + off := g4.resolve_right (by omega)
            refine ⟨c, base, off' + l * es, cap - l, sz, g1, rfl, by omega, .inl (by omega), g5, ?_⟩
            have : l * es + (cap - l) * es = cap * es := by rw [← Nat.add_mul]; congr 1; omega
            omega
      · cases hs
    · rename_i cs n es tok
      split at hs
      · rename_i he
        obtain ⟨rfl, he0⟩ := he
        cases hb : sliceB lo hi n with
        | none => rw [hb] at hs; cases hs
        | some p =>
        obtain ⟨l, k⟩ := p
        rw [hb] at hs; simp only [Option.map_some, Option.some.injEq] at hs
        subst hs
        simp only [VRel] at hx
        rcases hx with ⟨rfl, rfl, rfl | ⟨a0, rfl⟩⟩ | ⟨c, off', cap, vs, sz, rfl, g2, g3, g0, g4, g5, g6, g7, g8⟩
        · obtain ⟨_, q2, q3⟩ := sliceB_run (P := P) (is := true) (len := 0) (cap := 0) hb h1 h2 (Nat.le_refl _) rfl w
          have q1 := fun w => (sliceB_run (P := P) (is := true) (len := 0) (cap := 0) hb h1 h2 (Nat.le_refl _) rfl w).1
          have hl : l = 0 := by omega
          have hk : k = 0 := by omega
          subst hl; subst hk
          refine Calm.of (v := .slice none 0 0) (fun w => ?_) (by simp only [VRel]; left; simp)
          simp [Instr.sliceAt, Instr.slice, run_underlying hu, q1, run_sizeOf' hsz]
        · obtain ⟨_, q2, q3⟩ := sliceB_run (P := P) (is := true) (len := 0) (cap := 0) hb h1 h2 (Nat.le_refl _) rfl w
          have q1 := fun w => (sliceB_run (P := P) (is := true) (len := 0) (cap := 0) hb h1 h2 (Nat.le_refl _) rfl w).1
          have hl : l = 0 := by omega
          have hk : k = 0 := by omega
          subst hl; subst hk
          refine Calm.of (v := .slice (some a0) 0 0) (fun w => ?_) (by simp only [VRel]; left; simp)
          simp [Instr.sliceAt, Instr.slice, run_underlying hu, q1, run_sizeOf' hsz]
        · obtain ⟨_, q2, q3⟩ := sliceB_run (P := P) (is := true) (len := n) (cap := cap) hb h1 h2 g5 rfl w
          have q1 := fun w => (sliceB_run (P := P) (is := true) (len := n) (cap := cap) hb h1 h2 g5 rfl w).1
          have e1 : l * es + (k - l) * es = k * es := by rw [← Nat.add_mul]; congr 1; omega
          have e2 : k * es ≤ n * es := Nat.mul_le_mul_right _ q3
          have e3 : l * es + (cap - l) * es = cap * es := by rw [← Nat.add_mul]; congr 1; omega
          refine Calm.of (v := .slice (some (if cap = l then ⟨c, off', none⟩ else ⟨c, off' + l * es, none⟩)) (k - l) (cap - l)) (fun w => ?_) ?_
          · simp [Instr.sliceAt, Instr.slice, run_underlying hu, q1, run_sizeOf' hsz]
            split <;> simp [add_addr]
          · simp only [VRel]
            right
            by_cases hcl : cap = l
            · rw [if_pos hcl]
              have hkl : k - l = 0 := by omega
              have hcl0 : cap - l = 0 := by omega
              rw [hkl, hcl0, Nat.zero_mul, List.take_zero]
              exact ⟨c, off', 0, [], sz, rfl, VRelL.nil, fun i v e => by simp at e, Ones.nil, by simp, Nat.le_refl _, g6, by omega, fun t _ => .inl rfl⟩
            · rw [if_neg hcl]
              refine ⟨c, off' + l * es, cap - l, (vs.drop (l * es)).take ((k - l) * es), sz, rfl, (g2.drop _).take _, (g3.drop _).take _, (g0.drop _).take _, ?_, by omega, g6, by omega, ?_⟩
              · rw [List.length_take, List.length_drop]; omega
              · intro t ht
                split at ht
                · rename_i hkn
                  rcases g8 t ht with q | q
                  · left; omega
                  · right; rw [q, ← hkn]; congr 2; omega
                · cases ht
      · cases hs
  · -- an array
    rename_i n e
    cases x <;> (try simp only at hs) <;> try (cases hs; done)
    rename_i b off
    cases hsz : sizeOfB P e with
    | none => rw [hsz] at hs; cases hs
    | some s =>
    rw [hsz] at hs; simp only [Option.bind_some] at hs
    cases hb : H.get b with
    | none => rw [hb] at hs; cases hs
    | some blk =>
    rw [hb] at hs
    cases blk with
    | map sh es => cases hs
    | cells cs =>
    simp only at hs
    split at hs
    · cases hs
    rename_i hne
    cases hsb : sliceB lo hi n with
    | none => rw [hsb] at hs; cases hs
    | some p =>
    obtain ⟨l, k⟩ := p
    rw [hsb] at hs; simp only [Option.map_some, Option.some.injEq] at hs
    subst hs
    obtain ⟨c, base, g1, rfl⟩ := ptr_inv hx
    obtain ⟨c', base', vs, m1, m2, m3, _, arr, e', fz, m4, m5, m6, m7, m8, m9⟩ := hr.cells hb
    rw [g1] at m1; cases m1
    obtain ⟨_, q2, q3⟩ := sliceB_run (P := P) (is := false) (len := n) (cap := n) hsb h1 h2 (Nat.le_refl _) rfl w
    have q1 := fun w => (sliceB_run (P := P) (is := false) (len := n) (cap := n) hsb h1 h2 (Nat.le_refl _) rfl w).1
    have e3 : l * s + (n - l) * s = n * s := by rw [← Nat.add_mul]; congr 1; omega
    refine Calm.of (v := .slice (some (if n = l then ⟨c, base + off, none⟩ else ⟨c, base + off + l * s, none⟩)) (k - l) (n - l)) (fun w => ?_) ?_
    · simp [Instr.sliceAt, run_underlying hu, Instr.sureAddr, q1, run_sizeOf' hsz]
      split <;> simp [add_addr]
    · simp only [VRel]
      by_cases hcl : n = l
      · rw [if_pos hcl]
        refine ⟨c, base, base + off, n - l, _, g1, rfl, by omega, .inr ⟨by omega, by omega⟩, m9, ?_⟩
        have : n - l = 0 := by omega
        rw [this]; omega
      · rw [if_neg hcl]
        exact ⟨c, base, base + off + l * s, n - l, _, g1, rfl, by omega, .inl (by omega), m9, by omega⟩

/-! ### Comparisons -/
theorem run_eqGuard_other {op : BinOp} {t : TypeId} {x y : Operand} {a b : Value} (h : ¬ (a = .nilIface ∧ b = .nilIface)) (h2 : ¬ ((∃ p, a = .agg p) ∧ ∃ q, b = .agg q)) :
    (eqGuard op t x y a b).run P w = .ok () w := by
  unfold eqGuard
  cases a <;> cases b <;> first
    | (exact absurd ⟨rfl, rfl⟩ h)
    | (exact absurd ⟨⟨_, rfl⟩, ⟨_, rfl⟩⟩ h2)
    | (cases op <;> rfl)
/-- What is no number and no text is held against each other by 'Op.equal' alone. -/
theorem run_binOp_eq {t : TypeId} {a b : Value} {q : Bool} (h : (Op.equal t a b).run P w = .ok q w) (h1 : binOp .eql t a b = (do pure (.bool (← Op.equal t a b)))) (h2 : binOp .neq t a b = (do pure (.bool (!(← Op.equal t a b))))) :
    (binOp .eql t a b).run P w = .ok (.bool q) w ∧ (binOp .neq t a b).run P w = .ok (.bool (!q)) w := by
  rw [h1, h2]; simp [h]
def EqRun (P : Program) (w : World) (t : TypeId) (a b : Value) (q : Bool) : Prop :=
  ((binOp .eql t a b).run P w = .ok (.bool q) w ∧ (binOp .neq t a b).run P w = .ok (.bool (!q)) w) ∧ ¬ (a = .nilIface ∧ b = .nilIface) ∧ ¬ ((∃ p, a = .agg p) ∧ ∃ q, b = .agg q)
theorem equalIn_ptrs (d : Nat) {t e : TypeId} {s c o o' : Nat} (hu : P.underlying t = some (.pointer e)) (hs : sizeOfB P e = some s) (hs0 : s ≠ 0) :
    (Op.equalIn (d + 1) t (.pointer (some ⟨c, o, none⟩)) (.pointer (some ⟨c, o', none⟩))).run P w = .ok (o == o') w := by
  have h : ((⟨c, o, none⟩ : Addr) == ⟨c, o', none⟩) = (o == o') := by rw [Bool.eq_iff_iff]; simp
  simp [Op.equalIn, run_underlying hu, run_sizeOf' hs, hs0, sameAddr, h]
theorem equalIn_ptr_nil (d : Nat) {t e : TypeId} {a : Addr} (hu : P.underlying t = some (.pointer e)) : (Op.equalIn (d + 1) t (.pointer (some a)) (.pointer none)).run P w = .ok false w := by
  simp [Op.equalIn, run_underlying hu]
theorem equalIn_nil_ptr (d : Nat) {t e : TypeId} {a : Addr} (hu : P.underlying t = some (.pointer e)) : (Op.equalIn (d + 1) t (.pointer none) (.pointer (some a))).run P w = .ok false w := by
  simp [Op.equalIn, run_underlying hu]
theorem equalIn_ifaces (d : Nat) {t u v : TypeId} {x y : Value} {ms : Array (String × TypeId)} (hu : P.underlying t = some (.interface ms)) (hne : u ≠ v) : (Op.equalIn (d + 1) t (.iface u x) (.iface v y)).run P w = .ok false w := by
  simp [Op.equalIn, run_underlying hu, hne]
theorem equalIn_iface_nil (d : Nat) {t u : TypeId} {x : Value} {ms : Array (String × TypeId)} (hu : P.underlying t = some (.interface ms)) : (Op.equalIn (d + 1) t (.iface u x) .nilIface).run P w = .ok false w := by
  simp [Op.equalIn, run_underlying hu]
theorem equalIn_nil_iface (d : Nat) {t u : TypeId} {x : Value} {ms : Array (String × TypeId)} (hu : P.underlying t = some (.interface ms)) : (Op.equalIn (d + 1) t .nilIface (.iface u x)).run P w = .ok false w := by
  simp [Op.equalIn, run_underlying hu]
theorem eqA_ptr {t e : TypeId} {s : Nat} {a b : AV} {a' b' : Value} {q : Bool} (hu : P.underlying t = some (.pointer e)) (hs : sizeOfB P e = some s) (hs0 : s ≠ 0) (ha : VRel G a a') (hb : VRel G b b')
    (h : eqA a b = some q) (hp : (∃ b o, a = .ptr b o) ∨ ∃ c o, b = .ptr c o) : EqRun P w t a' b' q := by
  unfold eqA at h
  split at h
  · rename_i b1 o1 b2 o2
    split at h
    · rename_i hbb
      cases h
      subst hbb
      obtain ⟨c, base, g1, rfl⟩ := ptr_inv ha
      obtain ⟨c', base', g2, rfl⟩ := ptr_inv hb
      rw [g1] at g2; cases g2
      refine ⟨run_binOp_eq (show (Op.equalIn (9999 + 1) t _ _).run P w = _ from ?_) rfl rfl, by simp, by simp⟩
      rw [equalIn_ptrs 9999 hu hs hs0]
      congr 1
      rw [Bool.eq_iff_iff]; simp
    · cases h
  · cases h
    obtain ⟨c, base, g1, rfl⟩ := ptr_inv ha
    rw [hb.of_v]
    exact ⟨run_binOp_eq (equalIn_ptr_nil 9999 hu) rfl rfl, by simp, by simp⟩
  · cases h
    obtain ⟨c, base, g1, rfl⟩ := ptr_inv hb
    rw [ha.of_v]
    exact ⟨run_binOp_eq (equalIn_nil_ptr 9999 hu) rfl rfl, by simp, by simp⟩
  all_goals first | (cases h; done) | (rcases hp with ⟨_, _, hp⟩ | ⟨_, _, hp⟩ <;> cases hp)
theorem eqA_iface {t : TypeId} {ms : Array (String × TypeId)} {a b : AV} {a' b' : Value} {q : Bool} (hu : P.underlying t = some (.interface ms)) (ha : VRel G a a') (hb : VRel G b b')
    (h : eqA a b = some q) (hp : (∃ b o, a = .iface b o) ∨ ∃ c o, b = .iface c o) : EqRun P w t a' b' q := by
  have one : ∀ {u v : TypeId} {x y : Value}, u ≠ v → EqRun P w t (.iface u x) (.iface v y) false := fun hne =>
    ⟨run_binOp_eq (equalIn_ifaces 9999 hu hne) rfl rfl, by simp, by simp⟩
  unfold eqA at h
  split at h
  · rcases hp with ⟨_, _, hp⟩ | ⟨_, _, hp⟩ <;> cases hp
  · rcases hp with ⟨_, _, hp⟩ | ⟨_, _, hp⟩ <;> cases hp
  · rcases hp with ⟨_, _, hp⟩ | ⟨_, _, hp⟩ <;> cases hp
  · cases h
    rw [hb.of_v]
    simp only [VRel] at ha; obtain ⟨v, rfl, _⟩ := ha
    exact ⟨run_binOp_eq (equalIn_iface_nil 9999 hu) rfl rfl, by simp, by simp⟩
  · cases h
    rw [ha.of_v]
    simp only [VRel] at hb; obtain ⟨v, rfl, _⟩ := hb
    exact ⟨run_binOp_eq (equalIn_nil_iface 9999 hu) rfl rfl, by simp, by simp⟩
  · split at h
    · cases h
    · rename_i hne
      cases h
      rw [hb.of_v]
      simp only [VRel] at ha; obtain ⟨v, rfl, _⟩ := ha
      exact one hne
  · split at h
    · cases h
    · rename_i hne
      cases h
      rw [ha.of_v]
      simp only [VRel] at hb; obtain ⟨v, rfl, _⟩ := hb
      exact one hne
  · split at h
    · cases h
    · rename_i hne
      cases h
      simp only [VRel] at ha; obtain ⟨v, rfl, _⟩ := ha
      simp only [VRel] at hb; obtain ⟨u, rfl, _⟩ := hb
      exact one hne
  · cases h
theorem eqGuard_other {op : BinOp} {t : TypeId} {x y : Operand} {a b : Value} (h : ¬ (a = .nilIface ∧ b = .nilIface)) (h2 : ¬ ((∃ p, a = .agg p) ∧ ∃ q, b = .agg q)) :
    (eqGuard op t x y a b).run P w = .ok () w := by
  unfold eqGuard
  cases op <;> first | rfl | (simp only [Bool.not_true, Bool.false_eq_true, if_false]; split <;> first | exact absurd ⟨rfl, rfl⟩ h | exact absurd ⟨⟨_, rfl⟩, ⟨_, rfl⟩⟩ h2 | rfl)
theorem eqA_shape {a b : AV} {q : Bool} (h : eqA a b = some q) : ((∃ b o, a = .ptr b o) ∨ ∃ c o, b = .ptr c o) ∨ ((∃ t x, a = .iface t x) ∨ ∃ t x, b = .iface t x) := by
  unfold eqA at h
  split at h
  · exact .inl (.inl ⟨_, _, rfl⟩)
  · exact .inl (.inl ⟨_, _, rfl⟩)
  · exact .inl (.inr ⟨_, _, rfl⟩)
  · exact .inr (.inl ⟨_, _, rfl⟩)
  · exact .inr (.inr ⟨_, _, rfl⟩)
  · exact .inr (.inl ⟨_, _, rfl⟩)
  · exact .inr (.inr ⟨_, _, rfl⟩)
  · exact .inr (.inl ⟨_, _, rfl⟩)
  · cases h
end
end Go.Am
/-
  Operations: comparisons, conversions; what is appended and copied; the other built-in functions.
-/
namespace Go.Am
set_option linter.unusedSectionVars false
variable [Laid]
section
variable {P : Program} {H H' : AH} {w : World} {G : Gh} {r : AV}

theorem binOp_calm {op : BinOp} {t : TypeId} {x y : Operand} {a b : AV} {a' b' : Value} (ha : VRel G a a') (hb : VRel G b b')
    (h : (binA P op t x y a b).map (·, H) = some (r, H')) : Calm P (do eqGuard op t x y a' b'; binOp op t a' b') H G r H' := by
  cases hs : binA P op t x y a b with
  | none => rw [hs] at h; cases h
  | some z =>
  rw [hs] at h; simp only [Option.map_some, Option.some.injEq, Prod.mk.injEq] at h
  obtain ⟨rfl, rfl⟩ := h
  unfold binA at hs
  split at hs
  · rename_i p q hp hq
    rw [scalarOf_rel hp ha, scalarOf_rel hq hb]
    obtain ⟨v, q1, rfl, q3⟩ := ofFlat_some hs
    exact Calm.of (v := v) (pureRun_run q1) (.v q3)
  · split at hs
    · rename_i e hu
      cases hz : sizeOfB P e with
      | none => rw [hz] at hs; cases hs
      | some s =>
      rw [hz] at hs; simp only [Option.bind_some] at hs
      split at hs
      · cases hs
      rename_i hne
      have hp : (∃ b o, a = .ptr b o) ∨ ∃ c o, b = .ptr c o := by
        have : isPtrAV a = true ∨ isPtrAV b = true := by
          rcases Bool.eq_false_or_eq_true (isPtrAV a) with q | q
          · exact .inl q
          · rcases Bool.eq_false_or_eq_true (isPtrAV b) with q' | q'
            · exact .inr q'
            · exact absurd (.inr (by rw [q, q']; rfl)) hne
        rcases this with q | q
        · left; cases a <;> simp [isPtrAV] at q; exact ⟨_, _, rfl⟩
        · right; cases b <;> simp [isPtrAV] at q; exact ⟨_, _, rfl⟩
      split at hs
      · cases hq : eqA a b with
        | none => rw [hq] at hs; cases hs
        | some q =>
          rw [hq] at hs; cases hs
          have kk := fun w => eqA_ptr (P := P) (w := w) hu hz (fun e => hne (.inl e)) ha hb hq hp
          exact Calm.of (v := .bool q) (fun w => by simp [eqGuard_other (kk w).2.1 (kk w).2.2, (kk w).1.1]) (.v rfl)
      · cases hq : eqA a b with
        | none => rw [hq] at hs; cases hs
        | some q =>
          rw [hq] at hs; cases hs
          have kk := fun w => eqA_ptr (P := P) (w := w) hu hz (fun e => hne (.inl e)) ha hb hq hp
          exact Calm.of (v := .bool (!q)) (fun w => by simp [eqGuard_other (kk w).2.1 (kk w).2.2, (kk w).1.2]) (.v rfl)
      · cases hs
    · rename_i ms hu
      split at hs
      · cases hs
      rename_i hne
      have hp : (∃ b o, a = .iface b o) ∨ ∃ c o, b = .iface c o := by
        have : isIfaceAV a = true ∨ isIfaceAV b = true := by
          rcases Bool.eq_false_or_eq_true (isIfaceAV a) with q | q
          · exact .inl q
          · rcases Bool.eq_false_or_eq_true (isIfaceAV b) with q' | q'
            · exact .inr q'
            · exact absurd (by rw [q, q']; rfl) hne
        rcases this with q | q
        · left; cases a <;> simp [isIfaceAV] at q; exact ⟨_, _, rfl⟩
        · right; cases b <;> simp [isIfaceAV] at q; exact ⟨_, _, rfl⟩
      split at hs
      · cases hq : eqA a b with
        | none => rw [hq] at hs; cases hs
        | some q =>
          rw [hq] at hs; cases hs
          have kk := fun w => eqA_iface (P := P) (w := w) hu ha hb hq hp
          exact Calm.of (v := .bool q) (fun w => by simp [eqGuard_other (kk w).2.1 (kk w).2.2, (kk w).1.1]) (.v rfl)
      · cases hq : eqA a b with
        | none => rw [hq] at hs; cases hs
        | some q =>
          rw [hq] at hs; cases hs
          have kk := fun w => eqA_iface (P := P) (w := w) hu ha hb hq hp
          exact Calm.of (v := .bool (!q)) (fun w => by simp [eqGuard_other (kk w).2.1 (kk w).2.2, (kk w).1.2]) (.v rfl)
      · cases hs
    · cases hs

/-! ### The cells of a slice -/
theorem lenOf_run {size n : Nat} {cs : List AV} {x : AV} {x' : Value} (h : cellsOf H size x = some (cs, n)) (hx : VRel G x x') (w : World) : (Builtin.lenOf x').run P w = .ok n w := by
  cases x <;> (try simp only [cellsOf] at h) <;> try (cases h; done)
  · rw [hx.of_v]
    rename_i z
    cases z <;> (try simp only [cellsOf] at h) <;> try (cases h; done)
    · split at h
      · cases h; rfl
      · cases h
    · rename_i a l c
      cases a with
      | some a => simp [cellsOf] at h
      | none =>
        cases l with
        | succ l => simp [cellsOf] at h
        | zero => cases c with
          | succ c => simp [cellsOf] at h
          | zero => simp [cellsOf] at h; rw [← h.2]; rfl
  · rename_i b off k es
    simp only [VRel] at hx
    obtain ⟨c, base, off', cap, sz, g1, rfl, _⟩ := hx
    split at h
    · split at h
      · split at h
        · cases h; rfl
        · cases h
      · cases h
    · cases h
  · rename_i l k es tok
    simp only [VRel] at hx
    split at h
    · cases h
      rcases hx with ⟨rfl, rfl, rfl | ⟨a0, rfl⟩⟩ | ⟨c, off, cap, vs, sz, rfl, _⟩ <;> rfl
    · cases h
/-- The first cells of a slice or a text, 'k' elements of 'n'. -/
theorem firstCells_run {size n k : Nat} {cs : List AV} {x : AV} {x' : Value} (hr : Rel H w G) (h : cellsOf H size x = some (cs, n)) (hx : VRel G x x') (hk : k ≤ n) :
    ∃ vs : List Value, (Builtin.firstCells size k x').run P w = .ok vs.toArray w ∧ VRelL G (cs.take (k * size)) vs ∧ Ones vs ∧ cs.length = n * size := by
  cases x <;> (try simp only [cellsOf] at h) <;> try (cases h; done)
  · rename_i z
    rw [hx.of_v]
    cases z <;> (try simp only [cellsOf] at h) <;> try (cases h; done)
    · rename_i s
      split at h
      case isFalse => cases h
      rename_i hs1
      subst hs1
      simp only [Option.some.injEq, Prod.mk.injEq] at h
      obtain ⟨rfl, rfl⟩ := h
      refine ⟨(s.data.toList.map fun b => Value.int .u8 b.toNat).take k, ?_, ?_, Ones.take (fun v hv => by simp at hv; obtain ⟨b, _, rfl⟩ := hv; rfl) k, ?_⟩
      · have : ((s.extract 0 k).data.map fun b => Value.int .u8 (b.toNat : Int)) = ((s.data.toList.map fun b => Value.int .u8 (b.toNat : Int)).take k).toArray := by
          apply Array.ext'
          rw [← List.map_take]
          simp [ByteArray.data_extract, Array.toList_extract, List.extract_eq_take_drop]
        simp only [Builtin.firstCells, Sem.run_pure]
        rw [this]
      · rw [Nat.mul_one, ← List.map_take, ← List.map_take]
        have : ∀ l : List UInt8, VRelL G (l.map fun b => AV.v (.int .u8 b.toNat)) (l.map fun b => Value.int .u8 b.toNat) := by
          intro l
          induction l with
          | nil => exact VRelL.nil
          | cons b l ih => exact VRelL.cons (.v rfl) ih
        exact this _
      · simp only [List.length_map, Array.length_toList, Nat.mul_one]; rfl
    · rename_i a l c
      cases a with
      | some a => simp [cellsOf] at h
      | none =>
        cases l with
        | succ l => simp [cellsOf] at h
        | zero => cases c with
          | succ c => simp [cellsOf] at h
          | zero =>
            simp [cellsOf] at h
            obtain ⟨rfl, rfl⟩ := h
            refine ⟨[], rfl, by simpa using VRelL.nil, Ones.nil, by simp⟩
  · rename_i b off m es
    simp only [VRel] at hx
    obtain ⟨c, base, off', cap, sz, g1, rfl, g3, g4, g5, g6⟩ := hx
    split at h
    · rename_i he
      subst he
      split at h
      · rename_i bs hb
        split at h
        · rename_i hle
          simp only [Option.some.injEq, Prod.mk.injEq] at h
          obtain ⟨rfl, rfl⟩ := h
          obtain ⟨c', base', vs, m1, m2, m3, m0, _⟩ := hr.cells hb
          rw [g1] at m1; cases m1
          have hkm : k * es ≤ m * es := Nat.mul_le_mul_right _ hk
          refine ⟨((vs.drop off).take (k * es)), ?_, ?_, (m0.drop _).take _, by rw [List.length_take, List.length_drop]; omega⟩
          · by_cases hk0 : k * es = 0
            · rw [hk0, List.take_zero]
              simp only [Builtin.firstCells, hk0]
              rfl
            · have g4' : off' = base + off := g4.resolve_right (by rintro ⟨h0, _⟩; subst h0; simp at hkm; omega)
              subst g4'
              have := ((m3.drop off).take (k * es)).run_loadCells (P := P)
              rw [List.length_take, List.length_drop, ← m2.length, Nat.min_eq_left (by omega)] at this
              exact this
          · rw [List.take_take, Nat.min_eq_left hkm]
            exact (m2.drop off).take _
        · cases h
      · cases h
    · cases h
  · rename_i l m es tok
    simp only [VRel] at hx
    split at h
    · rename_i he
      subst he
      simp only [Option.some.injEq, Prod.mk.injEq] at h
      obtain ⟨rfl, rfl⟩ := h
      rcases hx with ⟨rfl, rfl, rfl | ⟨a0, rfl⟩⟩ | ⟨c, off, cap, vs, sz, rfl, g2, g3, g0, g4, g5, _⟩
      · have : k = 0 := by omega
        subst this
        exact ⟨[], rfl, by simpa using VRelL.nil, Ones.nil, by simp⟩
      · have : k = 0 := by omega
        subst this
        exact ⟨[], by simp only [Builtin.firstCells, Nat.zero_mul]; rfl, by simpa using VRelL.nil, Ones.nil, by simp⟩
      · have hkm : k * es ≤ m * es := Nat.mul_le_mul_right _ hk
        refine ⟨vs.take (k * es), ?_, g2.take _, g0.take _, g4⟩
        have := ((g3.at hr).take (k * es)).run_loadCells (P := P)
        rw [List.length_take, ← g2.length, Nat.min_eq_left (by omega)] at this
        exact this
    · cases h
end
end Go.Am
/-
  'append'.
-/
namespace Go.Am
set_option linter.unusedSectionVars false
variable [Laid]
section
variable {P : Program} {H H' H1 : AH} {w : World} {G : Gh} {r : AV}

/-- Only what is read of a heap counts. -/
theorem Rel.ext (hr : Rel H w G) (hn : H'.next = H.next) (hg : ∀ b, H'.get b = H.get b) : Rel H' w G := hr.less hn fun b x h => by rw [← hg]; exact h
theorem Ev.ext {w' : World} {G' : Gh} (he : Ev H w G H1 w' G') (hn : H'.next = H1.next) (hg : ∀ b, H'.get b = H1.get b) : Ev H w G H' w' G' :=
  he.trans (.less hn fun b x h => by rw [← hg]; exact h)

theorem growBy_le (n : Nat) (h : 256 ≤ n) : ∀ (k c : Nat), c ≤ 2 * n → Builtin.growBy n k c ≤ 2 * n
  | 0, c, hc => hc
  | k + 1, c, hc => by
    simp only [Builtin.growBy]
    split
    · exact hc
    · exact growBy_le n h k _ (by omega)
theorem nextslicecap_le {n c : Nat} (h : c < n) : Builtin.nextslicecap n c ≤ 2 * n := by
  unfold Builtin.nextslicecap
  split
  · omega
  · split
    · omega
    · exact growBy_le n (by omega) 4 c (by omega)

/-- A new array for what was there, and more: told by value, or owned. -/
theorem realloc_gives {e : TypeId} {l : List AV} {n es cap : Nat} {vs : List Value} {rest : Array Value} {s : Sem Value} (hr : Rel H w G) (hn1 : H1.next = H.next) (hless : ∀ b x, H1.get b = some x → H.get b = some x)
    (hv : VRelL G l vs) (ho : Ones vs) (hln : l.length = n * es) (hcap : n ≤ cap) (hrest : rest.size = (cap - n) * es) (ro : Bool)
    (h : some (if ro then (AV.rs l n es (some H.next), H1.new (.cells [])) else (.ms H.next 0 n es, H1.new (.cells l))) = some (r, H'))
    (hs : s.run P w = .ok (.slice (some ⟨w.heap.size, 0, none⟩) n cap) { w with drawn := w.drawn + 1, heap := w.heap.push (.cells (vs.toArray ++ rest) e) }) :
    Gives P s H w G r H' := by
  have hr1 := hr.less hn1 hless
  have he1 : Ev H w G H1 w G := .less hn1 hless
  have hvl := hv.length
  have hsz : (vs.toArray ++ rest).size = cap * es := by
    rw [Array.size_append, hrest]
    have : n * es + (cap - n) * es = cap * es := by rw [← Nat.add_mul]; congr 1; omega
    simp only [List.size_toArray]; omega
  have hget : ∀ (i : Nat) v, vs[i]? = some v → (vs.toArray ++ rest)[i]? = some v := fun i v hi => by
    have := (List.getElem?_eq_some_iff.1 hi).1
    rw [Array.getElem?_append_left (by simpa using this)]; simpa using hi
  cases ro with
  | true =>
    simp only [if_true, Option.some.injEq, Prod.mk.injEq] at h
    obtain ⟨rfl, rfl⟩ := h
    obtain ⟨k1, k2, k3⟩ := hr1.new (w' := { w with drawn := w.drawn + 1, heap := w.heap.push (.cells (vs.toArray ++ rest) e) }) ⟨rfl, rfl, rfl⟩ (e := e) (fz := (0, 0)) (k := n * es) (cs := []) (vs := []) (fun o _ => .inl rfl) rfl
      (by rw [hsz]; simp; exact Nat.mul_le_mul_right _ hcap) VRelL.nil Ones.nil (fun i v e => by simp at e)
    refine ⟨_, _, _, hs, ?_, k2, he1.trans k3⟩
    simp only [VRel]
    right
    refine ⟨w.heap.size, 0, cap, vs, cap * es, rfl, VRelL.mono k1 _ _ hv, ?_, ho, hln, hcap, ?_, by omega, ?_⟩
    · intro i v hi
      show (if w.heap.size = w.heap.size ∧ 0 + i < n * es then _ else _) = _
      have := (List.getElem?_eq_some_iff.1 hi).1
      rw [if_pos ⟨rfl, by omega⟩, Nat.zero_add]
      exact hget i v hi
    · show (if _ then _ else _) = _
      rw [if_pos rfl, hsz]
    · intro t ht
      cases ht
      right
      show (if _ then _ else _) = _
      rw [if_pos hn1.symm, Nat.zero_add]
  | false =>
    simp only [Bool.false_eq_true, if_false, Option.some.injEq, Prod.mk.injEq] at h
    obtain ⟨rfl, rfl⟩ := h
    obtain ⟨k1, k2, k3⟩ := hr1.new (w' := { w with drawn := w.drawn + 1, heap := w.heap.push (.cells (vs.toArray ++ rest) e) }) ⟨rfl, rfl, rfl⟩ (e := e) (fz := (0, 0)) (k := 0) (cs := l) (vs := vs) (fun o _ => .inl rfl) rfl
      (by rw [hsz, Nat.zero_add, hln]; exact Nat.mul_le_mul_right _ hcap) hv ho (fun i v hi => by rw [Nat.zero_add]; exact hget i v hi)
    refine ⟨_, _, _, hs, ?_, k2, he1.trans k3⟩
    simp only [VRel]
    refine ⟨w.heap.size, 0, 0, cap, cap * es, ?_, rfl, hcap, .inl rfl, ?_, by omega⟩
    · show (if _ then _ else _) = _; rw [if_pos hn1.symm]
    · show (if _ then _ else _) = _
      rw [if_pos rfl, hsz]

theorem size_zeroCells (zero : Array Value) (n : Nat) : (Builtin.zeroCells zero n).size = n * zero.size := by simp [Builtin.zeroCells]

/-- What 'append' does where the array must be a new one. -/
theorem run_append_new {argTypes : Array TypeId} {type t e : TypeId} {i : TypeInfo} {z : Value} {s' x' : Value} {base : Option Addr} {k n cap : Nat} {vs xs : List Value}
    (h0 : argTypes[0]? = some t) (hu : P.underlying t = some (.slice e)) (hi : P.info? e = some i) (hz : i.zero = some z)
    (h1 : ∃ xt, argTypes[1]? = some xt ∧ (P.underlying xt = some .string ∨ ∃ e', P.underlying xt = some (.slice e')))
    (hs : s' = .slice base k cap) (hx : (Builtin.lenOf x').run P w = .ok n w) (hold : (Builtin.firstCells i.size k s').run P { w with drawn := w.drawn + 1 } = .ok vs.toArray { w with drawn := w.drawn + 1 })
    (hnew : (Builtin.firstCells i.size n x').run P { w with drawn := w.drawn + 1 } = .ok xs.toArray { w with drawn := w.drawn + 1 })
    (hc : ¬ k + n ≤ cap) (hm1 : (k + n) * i.bytes ≤ most) (hm2 : k + n ≤ most) :
    ∃ c', k + n ≤ c' ∧ (Builtin.append_ argTypes type #[s', x']).run P w =
      .ok (.slice (some ⟨w.heap.size, 0, none⟩) (k + n) c') { w with drawn := w.drawn + 1, heap := w.heap.push (.cells ((vs ++ xs).toArray ++ Builtin.zeroCells z.cells (c' - (k + n))) e) } := by
  subst hs
  refine ⟨(k + n) + w.tape w.drawn (.appendCap (k + n) cap e) % (2 ^ 63 - (k + n)), Nat.le_add_right _ _, ?_⟩
  have hsz : sizeOfB P e = some i.size := by simp [sizeOfB, hi]
  have hb1 : ¬ (((k + n : Nat) : Int) > IntKind.i64.max ∧ i.bytes = 0) := by
    intro h
    have : IntKind.i64.max = 9223372036854775807 := by decide
    unfold most at hm2
    omega
  have hb2 : ¬ (Builtin.nextslicecap (k + n) cap * i.bytes > 2 ^ 48) := by
    have h2 := Nat.mul_le_mul_right i.bytes (nextslicecap_le (n := k + n) (c := cap) (by omega))
    rw [Nat.mul_assoc] at h2
    unfold most at hm1
    omega
  have hzr : ∀ w : World, (zeroValue e).run P w = .ok z w := fun w => by simp [zeroValue, typeInfo, hi, hz]
  obtain ⟨xt, h1, h1u⟩ := h1
  rcases h1u with h1u | ⟨e', h1u⟩
  all_goals
    simp only [Builtin.append_, List.getElem?_toArray, List.getElem?_cons_zero, List.getElem?_cons_succ, h0, h1, Sem.run_bind, run_underlying hu, run_underlying h1u, Result.andThen_ok, run_sizeOf' hsz, hx, Bool.false_eq_true, if_false, Bool.not_false, if_true, hc, run_typeInfo' hi, false_or, hb1, hb2, Sem.run_pure, Sem.run_ite]
    simp only [run_choose, Question.forced, Bool.false_eq_true, if_false, Result.andThen_ok, run_askRoom, Question.cut, hold, hnew, hzr, newRow, Sem.run_bind, run_newObj, Sem.run_pure]
    simp
/-- Where there is room. -/
theorem run_append_room {argTypes : Array TypeId} {type t e : TypeId} {i : TypeInfo} {s' x' : Value} {a : Addr} {k n cap : Nat} {xs : List Value} {w' : World}
    (h0 : argTypes[0]? = some t) (hu : P.underlying t = some (.slice e)) (hi : P.info? e = some i)
    (h1 : ∃ xt, argTypes[1]? = some xt ∧ (P.underlying xt = some .string ∨ ∃ e', P.underlying xt = some (.slice e')))
    (hs : s' = .slice (some a) k cap) (hx : (Builtin.lenOf x').run P w = .ok n w)
    (hnew : (Builtin.firstCells i.size n x').run P w = .ok xs.toArray w) (hc : k + n ≤ cap) (hst : (storeCells (a.add (k * i.size)) xs).run P w = .ok () w') :
    (Builtin.append_ argTypes type #[s', x']).run P w = .ok (.slice (some a) (k + n) cap) w' := by
  subst hs
  have hsz : sizeOfB P e = some i.size := by simp [sizeOfB, hi]
  obtain ⟨xt, h1, h1u⟩ := h1
  rcases h1u with h1u | ⟨e', h1u⟩
  all_goals
    simp only [Builtin.append_, List.getElem?_toArray, List.getElem?_cons_zero, List.getElem?_cons_succ, h0, h1, Sem.run_bind, run_underlying hu, run_underlying h1u, Result.andThen_ok, run_sizeOf' hsz, hx, Bool.false_eq_true, if_false, Bool.not_false, if_true, hc, Sem.run_pure, Sem.run_ite, hnew, hst]
/-- Where nothing is appended. -/
theorem run_append_none {argTypes : Array TypeId} {type t e : TypeId} {i : TypeInfo} {s' x' : Value} {b : Option Addr} {k cap : Nat}
    (h0 : argTypes[0]? = some t) (hu : P.underlying t = some (.slice e)) (hi : P.info? e = some i)
    (h1 : ∃ xt, argTypes[1]? = some xt ∧ (P.underlying xt = some .string ∨ ∃ e', P.underlying xt = some (.slice e')))
    (hs : s' = .slice b k cap) (hx : (Builtin.lenOf x').run P w = .ok 0 w) (hnew : (Builtin.firstCells i.size 0 x').run P w = .ok #[] w) (hc : k ≤ cap) :
    (Builtin.append_ argTypes type #[s', x']).run P w = .ok s' w := by
  subst hs
  have hsz : sizeOfB P e = some i.size := by simp [sizeOfB, hi]
  obtain ⟨xt, h1, h1u⟩ := h1
  rcases h1u with h1u | ⟨e', h1u⟩
  all_goals
    cases b
    all_goals
      simp only [Builtin.append_, List.getElem?_toArray, List.getElem?_cons_zero, List.getElem?_cons_succ, h0, h1, Sem.run_bind, run_underlying hu, run_underlying h1u, Result.andThen_ok, run_sizeOf' hsz, hx, Bool.false_eq_true, if_false, Bool.not_false, if_true, Nat.add_zero, hc, Sem.run_pure, Sem.run_ite, hnew]
      try rfl

theorem sealed_ext {b : Nat} {y : ABlock} {z : ABlock} (k : Nat) : (((H.put b (some y)).put b none).new z).get k = ((H.put b none).new z).get k := by
  rw [AH.get_new, AH.get_new, AH.get_put, AH.get_put, AH.get_put]
  show (if H.next = k then _ else _) = (if H.next = k then _ else _)
  split
  · rfl
  · split
    · rfl
    · rfl
/-- In place, behind a slice that is owned. -/
theorem room_gives {s : Sem Value} {b off k n es cap c base off' sz : Nat} {cs l xs : List AV} {xvs vs0 : List Value} {ro : Bool} (hr : Rel H w G) (hb : H.get b = some (.cells cs)) (hρ : G.ρ b = some (c, base)) (hoff' : off' + k * es = base + off)
    (hk : base ≤ off' ∨ (cs = [] ∧ ro = true)) (hoff : off ≤ cs.length) (hsz : G.sz c = some sz) (hcap : off' + cap * es ≤ sz) (hroom : k + n ≤ cap) (hx : VRelL G xs xvs) (hox : Ones xvs) (hxl : xs.length = n * es)
    (hl : VRelL G l vs0) (hol : Ones vs0) (hll : l.length = k * es) (hat : ∀ i v, vs0[i]? = some v → w.cell? ⟨c, off' + i, none⟩ = some v) (hroA : cs = [] → RoAt G c off' vs0)
    (h : some (if ro then (AV.rs (l ++ xs) (k + n) es (some H.next), (H.put b none).new (.cells [])) else (.ms H.next 0 (k + n) es, (H.put b none).new (.cells (l ++ xs)))) = some (r, H'))
    (hs : ∀ w', (storeCells ⟨c, off' + k * es, none⟩ xvs).run P w = .ok () w' → s.run P w = .ok (.slice (some ⟨c, off', none⟩) (k + n) cap) w') :
    Gives P s H w G r H' := by
  obtain ⟨c', base', vs, m1, m2, m3, m0, arr, e, fz, m4, m5, m6, m7, m8, m9⟩ := hr.cells hb
  rw [hρ] at m1; cases m1
  rw [m9] at hsz; cases hsz
  have hce : (k + n) * es ≤ cap * es := Nat.mul_le_mul_right _ hroom
  have hadd : k * es + n * es = (k + n) * es := by rw [Nat.add_mul]
  have hxl2 := hx.length
  have hll2 := hl.length
  obtain ⟨s1, s2, s3, s4⟩ := hr.store (P := P) hb hρ m4 hx hox hoff (by omega)
  rw [← hoff'] at s1 s2 s3 s4
  have hget : ∀ (i : Nat) v, (vs0 ++ xvs)[i]? = some v → (setMany arr (off' + k * es) xvs)[off' + i]? = some v := fun i v hi => by
    rw [setMany_get _ _ _ _ (by omega)]
    by_cases hik : i < vs0.length
    · rw [List.getElem?_append_left hik] at hi
      rw [if_neg (by omega)]
      have := hat i v hi
      rw [cell_of_heap m4] at this; exact this
    · rw [List.getElem?_append_right (by omega)] at hi
      have := (List.getElem?_eq_some_iff.1 hi).1
      rw [if_pos (by omega), show off' + i - (off' + k * es) = i - vs0.length by omega]
      exact hi
  cases ro with
  | true =>
    simp only [if_true, Option.some.injEq, Prod.mk.injEq] at h
    obtain ⟨rfl, rfl⟩ := h
    -- what is told by value from now on begins where the block does, or behind what is told already
    rcases hk with hk | ⟨hcs, _⟩
    · obtain ⟨t1, t2, t3⟩ := s2.closeUp (k1 := off') (k2 := off' + (k + n) * es) (cs2 := []) (vs2 := []) (AH.get_put _ _ _ _ |>.trans (if_pos rfl)) hρ s4 hk (Nat.le_add_right _ _) (by rw [setMany_size]; simp; omega) VRelL.nil Ones.nil (fun i v e => by simp at e)
      refine ⟨_, _, _, hs _ s1, ?_, t2.ext rfl fun k => (sealed_ext k).symm, (s3.trans t3).ext rfl fun k => (sealed_ext k).symm⟩
      simp only [VRel]
      right
      refine ⟨c, off', cap, vs0 ++ xvs, arr.size, rfl, VRelL.mono t1 _ _ (hl.append hx), ?_, hol.append hox, by rw [List.length_append]; omega, hroom, m9, hcap, ?_⟩
      · intro i v hi
        show (if c = c ∧ off' ≤ off' + i ∧ off' + i < off' + (k + n) * es then _ else _) = _
        have := (List.getElem?_eq_some_iff.1 hi).1
        rw [List.length_append] at this
        rw [if_pos ⟨rfl, by omega, by omega⟩]
        exact hget i v hi
      · intro t ht; cases ht; right
        exact if_pos rfl
    · subst hcs
      obtain ⟨t1, t2, t3⟩ := s2.closeUp (k1 := base) (k2 := off' + (k + n) * es) (cs2 := []) (vs2 := []) (AH.get_put _ _ _ _ |>.trans (if_pos rfl)) hρ s4 (Nat.le_refl _) (by simp at hoff; omega) (by rw [setMany_size]; simp; omega) VRelL.nil Ones.nil (fun i v e => by simp at e)
      refine ⟨_, _, _, hs _ s1, ?_, t2.ext rfl fun k => (sealed_ext k).symm, (s3.trans t3).ext rfl fun k => (sealed_ext k).symm⟩
      simp only [VRel]
      right
      refine ⟨c, off', cap, vs0 ++ xvs, arr.size, rfl, VRelL.mono t1 _ _ (hl.append hx), ?_, hol.append hox, by rw [List.length_append]; omega, hroom, m9, hcap, ?_⟩
      · intro i v hi
        have hlt := (List.getElem?_eq_some_iff.1 hi).1
        rw [List.length_append] at hlt
        simp at hoff
        by_cases hik : i < vs0.length
        · rw [List.getElem?_append_left hik] at hi
          exact t1.ro _ _ _ (hroA rfl i v hi)
        · show (if c = c ∧ base ≤ off' + i ∧ off' + i < off' + (k + n) * es then _ else _) = _
          rw [if_pos ⟨rfl, by omega, by omega⟩]
          exact hget i v hi
      · intro t ht; cases ht; right
        exact if_pos rfl
  | false =>
    simp only [Bool.false_eq_true, if_false, Option.some.injEq, Prod.mk.injEq] at h
    obtain ⟨rfl, rfl⟩ := h
    have hk : base ≤ off' := hk.resolve_right (by simp)
    obtain ⟨t1, t2, t3⟩ := s2.closeUp (k1 := off') (k2 := off') (cs2 := l ++ xs) (vs2 := vs0 ++ xvs) (AH.get_put _ _ _ _ |>.trans (if_pos rfl)) hρ s4 hk (Nat.le_refl _) (by rw [setMany_size, List.length_append]; omega) (hl.append hx) (hol.append hox) hget
    refine ⟨_, _, _, hs _ s1, ?_, t2.ext rfl fun k => (sealed_ext k).symm, (s3.trans t3).ext rfl fun k => (sealed_ext k).symm⟩
    simp only [VRel]
    exact ⟨c, off', off', cap, arr.size, if_pos rfl, rfl, hroom, .inl rfl, m9, hcap⟩

theorem append_gives {argTypes : Array TypeId} {type t e : TypeId} {i : TypeInfo} {z : Value} {s x : AV} {s' x' : Value} {ro : Bool} (hr : Rel H w G)
    (h0 : argTypes[0]? = some t) (hu : P.underlying t = some (.slice e)) (hi : P.info? e = some i) (hz : i.zero = some z) (hzs : z.cells.size = i.size)
    (h1 : ∃ xt, argTypes[1]? = some xt ∧ (P.underlying xt = some .string ∨ ∃ e', P.underlying xt = some (.slice e')))
    (hs : VRel G s s') (hx : VRel G x x') (h : appendA H ro i.size i.bytes s x = some (r, H')) : Gives P (Builtin.append_ argTypes type #[s', x']) H w G r H' := by
  unfold appendA at h
  cases hc : cellsOf H i.size x with
  | none => rw [hc] at h; cases h
  | some p =>
  obtain ⟨xs, n⟩ := p
  rw [hc] at h; simp only [Option.bind_some] at h
  have hlen := lenOf_run (P := P) hc hx w
  obtain ⟨xvs, q1, q2, q3, q4⟩ := firstCells_run (P := P) (w := w) (k := n) hr hc hx (Nat.le_refl _)
  rw [List.take_of_length_le (by rw [q4]; exact Nat.le_refl _)] at q2
  have hrd : Rel H { w with drawn := w.drawn + 1 } G := hr.heap rfl
  obtain ⟨yvs, y1, y2, y3, y4⟩ := firstCells_run (P := P) (w := { w with drawn := w.drawn + 1 }) (k := n) hrd hc hx (Nat.le_refl _)
  rw [List.take_of_length_le (by rw [q4]; exact Nat.le_refl _)] at y2
  have hxl := q2.length
  split at h
  · cases h
  rename_i hes
  have hpos : ∀ m : Nat, m ≤ m * i.size := fun m => Nat.le_mul_of_pos_right m (Nat.pos_of_ne_zero hes)
  split at h
  · -- nothing
    rename_i hn0
    subst hn0
    have hxs : xvs = [] := by
      have : xs.length = 0 := by rw [q4, Nat.zero_mul]
      rw [hxl] at this; exact List.eq_nil_of_length_eq_zero this
    subst hxs
    have key : ∃ b k cap, s' = .slice b k cap ∧ k ≤ cap ∧ r = s ∧ H' = H := by
      cases s <;> (try simp only at h) <;> try (cases h; done)
      · rename_i y
        split at h
        · rename_i e; cases e; cases h; exact ⟨none, 0, 0, hs.of_v, Nat.le_refl _, rfl, rfl⟩
        · rename_i e; cases e
        · rename_i e; cases e
        · cases h
      · cases h
        simp only [VRel] at hs
        obtain ⟨c, base, off', cap, sz, _, rfl, g3, _⟩ := hs
        exact ⟨_, _, _, rfl, g3, rfl, rfl⟩
      · cases h
        simp only [VRel] at hs
        rcases hs with ⟨_, _, rfl | ⟨a0, rfl⟩⟩ | ⟨c, off, cap, vs, sz, rfl, _, _, _, _, g5, _⟩
        · exact ⟨_, _, _, rfl, Nat.le_refl _, rfl, rfl⟩
        · exact ⟨_, _, _, rfl, Nat.le_refl _, rfl, rfl⟩
        · exact ⟨_, _, _, rfl, g5, rfl, rfl⟩
    obtain ⟨b, k, cap, e1, e2, rfl, rfl⟩ := key
    exact Gives.same hr (run_append_none h0 hu hi h1 e1 hlen q1 e2) hs
  rename_i hn0
  cases s <;> (try simp only at h) <;> try (cases h; done)
  · -- of nil
    rename_i y
    split at h
    · rename_i e1; cases e1
      split at h
      · rename_i hm
        obtain rfl := hs.of_v
        have := hpos n
        obtain ⟨c', k1, k2⟩ := run_append_new (P := P) (w := w) (type := type) (base := none) (k := 0) (cap := 0) (vs := []) (xs := yvs) h0 hu hi hz h1 rfl hlen rfl y1 (by omega) (by rw [Nat.zero_add]; exact hm.1) (by rw [Nat.zero_add]; omega)
        refine realloc_gives (P := P) (w := w) (e := e) (H1 := H) (l := xs) (n := n) (es := i.size) (cap := c') (vs := yvs) (rest := Builtin.zeroCells z.cells (c' - (0 + n))) hr rfl (fun _ _ h => h) y2 y3 q4 (by omega) (by rw [size_zeroCells, hzs, Nat.zero_add]) ro ?_ ?_
        · cases ro <;> simpa using h
        · rw [k2]; simp
      · cases h
    · rename_i e; cases e
    · rename_i e; cases e
    · cases h
  · -- of a slice that is owned
    rename_i b off k es
    split at h
    · rename_i he; subst he
      cases hb : H.get b with
      | none => rw [hb] at h; cases h
      | some blk =>
      rw [hb] at h
      cases blk with
      | map sh es => cases h
      | cells cs =>
      simp only at h
      split at h
      · rename_i hm
        obtain ⟨hm0, hm1, hm2⟩ := hm
        have hcs : cellsOf H i.size (.ms b off k i.size) = some ((cs.drop off).take (k * i.size), k) := by
          simp only [cellsOf, if_true, hb, hm0]
        have h : some (if ro then (AV.rs ((cs.drop off).take (k * i.size) ++ xs) (k + n) i.size (some H.next), (H.put b none).new (.cells [])) else (.ms H.next 0 (k + n) i.size, (H.put b none).new (.cells ((cs.drop off).take (k * i.size) ++ xs)))) = some (r, H') := by
          cases ro <;> simpa using h
        have hs0 := hs
        simp only [VRel] at hs
        obtain ⟨c, base, off', cap, sz, g1, rfl, g3, g4, g5, g6⟩ := hs
        have := hpos (k + n)
        by_cases hroom : k + n ≤ cap
        · have g4 : off' = base + off := g4.resolve_right (by omega)
          obtain ⟨c', base', vs, m1, m2, m3, m0, _⟩ := hr.cells hb
          rw [g1] at m1; cases m1
          refine room_gives (P := P) (w := w) (off := off + k * i.size) (k := k) (n := n) (es := i.size) (cap := cap) (off' := off') (l := (cs.drop off).take (k * i.size)) (vs0 := (vs.drop off).take (k * i.size)) hr hb g1 (by omega) (.inl (by omega)) (by omega) g5 g6 hroom q2 q3 q4 ((m2.drop _).take _) ((m0.drop _).take _)
            (by rw [List.length_take, List.length_drop]; omega) ?_ ?_ h ?_
          · intro j v hj
            subst g4
            exact ((m3.drop off).take _) j v hj
          · intro hcs0 j v hj
            subst hcs0
            have := m2.length
            simp at this
            rw [List.eq_nil_of_length_eq_zero (l := vs) (by omega)] at hj
            simp at hj
          · intro w' hw'
            exact run_append_room h0 hu hi h1 rfl hlen q1 hroom (by rw [add_addr]; exact hw')
        · obtain ⟨ovs, o1, o2, o3, o4⟩ := firstCells_run (P := P) (w := { w with drawn := w.drawn + 1 }) (k := k) hrd hcs hs0 (Nat.le_refl _)
          rw [List.take_of_length_le (by rw [o4]; exact Nat.le_refl _)] at o2
          obtain ⟨c', k1, k2⟩ := run_append_new (P := P) (w := w) (type := type) (vs := ovs) (xs := yvs) h0 hu hi hz h1 rfl hlen o1 y1 hroom hm1 (by omega)
          exact realloc_gives (P := P) (w := w) (e := e) (H1 := H.put b none) (n := k + n) (es := i.size) (cap := c') (vs := ovs ++ yvs) (rest := Builtin.zeroCells z.cells (c' - (k + n))) hr rfl (AH.put_none_less H b) (o2.append y2) (o3.append y3)
            (by rw [List.length_append, q4, o4, Nat.add_mul]) k1 (by rw [size_zeroCells, hzs]) ro h k2
      · cases h
    · cases h
  · -- of a slice that is told by value
    rename_i l k es tok
    cases tok with
    | none => cases h
    | some t' =>
    simp only at h
    split at h
    · rename_i he; subst he
      cases hb : H.get t' with
      | none => rw [hb] at h; cases h
      | some blk =>
      rw [hb] at h
      cases blk with
      | map sh es => cases h
      | cells cs =>
      cases cs with
      | cons c0 cs => cases h
      | nil =>
      simp only at h
      split at h
      · rename_i hm
        obtain ⟨hm1, hm2⟩ := hm
        have hcs : cellsOf H i.size (.rs l k i.size (some t')) = some (l, k) := by simp only [cellsOf, if_true]
        have h : some (if true then (AV.rs (l ++ xs) (k + n) i.size (some H.next), (H.put t' none).new (.cells [])) else (.ms H.next 0 (k + n) i.size, (H.put t' none).new (.cells (l ++ xs)))) = some (r, H') := by
          simpa using h
        have hs0 := hs
        have := hpos (k + n)
        obtain ⟨ovs, o1, o2, o3, o4⟩ := firstCells_run (P := P) (w := { w with drawn := w.drawn + 1 }) (k := k) hrd hcs hs0 (Nat.le_refl _)
        rw [List.take_of_length_le (by rw [o4]; exact Nat.le_refl _)] at o2
        have realloc : ∀ b cap, s' = .slice b k cap → ¬ k + n ≤ cap → Gives P (Builtin.append_ argTypes type #[s', x']) H w G r H' := fun b cap e1 hroom => by
          obtain ⟨c', k1, k2⟩ := run_append_new (P := P) (w := w) (type := type) (vs := ovs) (xs := yvs) h0 hu hi hz h1 e1 hlen o1 y1 hroom hm1 (by omega)
          exact realloc_gives (P := P) (w := w) (e := e) (H1 := H.put t' none) (n := k + n) (es := i.size) (cap := c') (vs := ovs ++ yvs) (rest := Builtin.zeroCells z.cells (c' - (k + n))) hr rfl (AH.put_none_less H t') (o2.append y2) (o3.append y3)
            (by rw [List.length_append, q4, o4, Nat.add_mul]) k1 (by rw [size_zeroCells, hzs]) true h k2
        simp only [VRel] at hs
        rcases hs with ⟨rfl, rfl, e1 | ⟨a0, e1⟩⟩ | ⟨c, off, cap, vs, sz, e1, g2, g3, g0, g4, g5, g6, g7, g8⟩
        · exact realloc _ _ e1 (by omega)
        · exact realloc _ _ e1 (by omega)
        · by_cases hroom : k + n ≤ cap
          · have g8 := (g8 t' rfl).resolve_left (by omega)
            subst e1
            refine room_gives (P := P) (w := w) (off := 0) (k := k) (n := n) (es := i.size) (cap := cap) (off' := off) (l := l) (vs0 := vs) (ro := true) hr hb g8 rfl (.inr ⟨rfl, rfl⟩) (Nat.le_refl _) g6 g7 hroom q2 q3 q4 g2 g0 g4 (g3.at hr) (fun _ => g3) h ?_
            intro w' hw'
            exact run_append_room h0 hu hi h1 rfl hlen q1 hroom (by rw [add_addr]; exact hw')
          · exact realloc _ _ e1 hroom
      · cases h
    · cases h
end
end Go.Am
