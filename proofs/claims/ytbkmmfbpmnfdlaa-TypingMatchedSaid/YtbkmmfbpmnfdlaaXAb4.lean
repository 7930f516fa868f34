/- Compact operations, what they do to abstract states, and how they come out of the model's operations. Conditions: none. -/
import Derived.Test.YtbkmmfbpmnfdlaaXAb3
set_option linter.unusedSimpArgs false
set_option linter.unusedVariables false
namespace Go.Ab
open Go.RowKit

inductive X where
  | t (n : Nat)
  | c (v : AV)

inductive O where
  | mv (x : X)
  | pick (c a b : X)
  | fld (x : X) (off : Nat)
  | ld (x : X) (n : Option Nat)
  | ix (x i : X) (size : Nat)
  | sidx (x i : X)
  | len (x : X)
  | slen (x : X)
  | bin (op : BinOp) (x y : X)
  | binb (op : BinOp) (x y : X)
  | un (op : UnOp) (x : X)
  | conv (k : IntKind) (x : X)
  | bld (z : List AV) (parts : List (Nat × Nat × X))
  | bsl (size len : Nat) (z : List AV) (parts : List (Nat × Nat × X))
  | mkf (f : FuncId) (first caps : List X)
  | ext (x : X) (i : Nat)
  | nck (x : X)
  | mm (isMax : Bool) (x y : X)
  | box (x : X) (sh : Bool)
  | al (z : List AV) (sh : Bool)
  | st (x v : X) (n : Nat)
  | msl (size bytes : Nat) (z : List AV) (l c : X)
  | app (e size bytes : Nat) (s x : X)
  | call (f : FuncId) (args : List X)
  | callv (x : X) (args : List X)
  | pcall (f : FuncId) (args : List X)

structure Q where
  dst : Option Nat
  o : O
  grd : Option (Nat × Bool)

def xv (F : Fm) : X → AV
  | .t n => F n
  | .c v => v

def put (d : Nat) (v : AV) (F : Fm) : Fm := fun s => if s = d then v else F s
def putO (d : Option Nat) (v : AV) (F : Fm) : Fm := match d with | some d => put d v F | none => F
def putL (d : Nat) (cs : List AV) (L : Lm) : Lm := fun s => if s = d then some cs else L s

/-- The plain data of a value. -/
def AV.dv : AV → Option DV
  | .d x => some x
  | .nils => some (.sl [])
  | .own _ _ _ rows => some (.sl rows)
  | .clip rows => some (.sl rows)
  | _ => none

def AV.rows : AV → Option (List (List DV))
  | .d (.sl rows) => some rows
  | .nils => some []
  | .own _ _ _ rows => some rows
  | .clip rows => some rows
  | _ => none

def fldA : AV → Nat → Option AV
  | .lp k o, n => some (.lp k (o + n))
  | .gp i o, n => some (.gp i (o + n))
  | .ep r o, n => some (.ep r (o + n))
  | _, _ => none

def rdC (cs : List AV) (o : Nat) : Option Nat → Option AV
  | none => cs[o]?
  | some n => if o + n ≤ cs.length then some (.agg ((cs.drop o).take n)) else none

def ldA (L : Lm) (σ : Heap) : AV → Option Nat → Option AV
  | .lp k o, n => (L k).bind (rdC · o n)
  | .gp i o, n => (σ.blk i).bind (rdC · o n)
  | .ep r o, n => rdC (r.map AV.d) o n
  | _, _ => none

def ixR (rows : List (List DV)) (n : Int) (size : Nat) : Option AV :=
  if 0 ≤ n then (rows[n.toNat]?).bind fun r => if r.length = size then some (.ep r 0) else none else none

def ixA : AV → AV → Nat → Option AV
  | .ms i n, .d (.int _ m), size => if 0 ≤ m ∧ m < n then some (.gp i (m.toNat * size)) else none
  | .d (.sl rows), .d (.int _ m), size => ixR rows m size
  | .own _ _ _ rows, .d (.int _ m), size => ixR rows m size
  | .clip rows, .d (.int _ m), size => ixR rows m size
  | _, _, _ => none

def sidxA : AV → AV → Option AV
  | .d (.str s), .d (.int _ m) => if 0 ≤ m then (s[m.toNat]?).map fun b => .d (.int .u8 b.toNat) else none
  | _, _ => none

def slenA : AV → Option AV
  | .d (.str s) => some (.d (.int .i64 s.length))
  | _ => none

def lenA : AV → Option AV
  | .d (.sl rows) => some (.d (.int .i64 rows.length))
  | .nils => some (.d (.int .i64 0))
  | .own _ _ _ rows => some (.d (.int .i64 rows.length))
  | .clip rows => some (.d (.int .i64 rows.length))
  | .ms _ n => some (.d (.int .i64 n))
  | _ => none

def intA (op : BinOp) (k : IntKind) (a b : Int) : Option AV :=
  match op with
  | .add => some (.d (.int k (k.wrap (a + b))))
  | .sub => some (.d (.int k (k.wrap (a - b))))
  | .mul => some (.d (.int k (k.wrap (a * b))))
  | .quo => if b = 0 then none else some (.d (.int k (k.wrap (a.tdiv b))))
  | .rem => if b = 0 then none else some (.d (.int k (a.tmod b)))
  | .eql => some (.d (.bool (a == b)))
  | .neq => some (.d (.bool (a != b)))
  | .lss => some (.d (.bool (decide (a < b))))
  | .leq => some (.d (.bool (decide (a ≤ b))))
  | .gtr => some (.d (.bool (decide (b < a))))
  | .geq => some (.d (.bool (decide (b ≤ a))))
  | _ => none

def strA (op : BinOp) (x y : List UInt8) : Option AV :=
  match op with
  | .add => if x.length + y.length ≤ maxLen then some (.d (.str (x ++ y))) else none
  | .eql => some (.d (.bool (x == y)))
  | .neq => some (.d (.bool (!(x == y))))
  | .lss => some (.d (.bool (Op.bytesLess x y)))
  | .leq => some (.d (.bool (Op.bytesLess x y || x == y)))
  | .gtr => some (.d (.bool (!(Op.bytesLess x y || x == y))))
  | .geq => some (.d (.bool (!Op.bytesLess x y)))
  | _ => none

def binA : BinOp → AV → AV → Option AV
  | op, .d (.int k a), .d (.int k' b) => if k = k' then intA op k a b else none
  | op, .d (.str a), .d (.str b) => strA op a b
  | _, _, _ => none

def binbA : BinOp → AV → AV → Option AV
  | .eql, .d (.bool a), .d (.bool b) => some (.d (.bool (a == b)))
  | .neq, .d (.bool a), .d (.bool b) => some (.d (.bool (!(a == b))))
  | _, _, _ => none

def unA : UnOp → AV → Option AV
  | .not, .d (.bool b) => some (.d (.bool (!b)))
  | .neg, .d (.int k n) => some (.d (.int k (k.wrap (0 - n))))
  | _, _ => none

def convA : IntKind → AV → Option AV
  | k, .d (.int _ n) => some (.d (.int k (k.wrap n)))
  | _, _ => none

def extA : AV → Nat → Option AV
  | .tup vs, i => vs[i]?
  | _, _ => none

def nckA : AV → Option AV
  | .gp i o => some (.gp i o)
  | .lp k o => some (.lp k o)
  | .ep r o => some (.ep r o)
  | _ => none

def mmA (isMax : Bool) : AV → AV → Option AV
  | .d (.int k a), .d (.int k' b) => if k = k' then some (.d (.int k (if isMax then (if b > a then b else a) else (if b < a then b else a)))) else none
  | _, _ => none

/-- The parts written over the zero cells. -/
def fillA (z : List AV) (F : Fm) : List (Nat × Nat × X) → Option (List AV)
  | [] => some z
  | (off, size, x) :: rest =>
    let cs := (xv F x).cells
    if cellsOk cs && cs.length == size && decide (off + size ≤ z.length) then fillA (z.take off ++ cs ++ z.drop (off + size)) F rest else none

def dvs : List AV → Option (List DV)
  | [] => some []
  | c :: cs => do some ((← c.dv) :: (← dvs cs))

def chunk (size : Nat) : Nat → List DV → List (List DV)
  | 0, _ => []
  | n + 1, l => l.take size :: chunk size n (l.drop size)

def xvs (F : Fm) (l : List X) : List AV := l.map (xv F)

def pickA : AV → AV → AV → Option AV
  | .d (.bool c), a, b => some (if c then a else b)
  | _, _, _ => none

/-- The value of an operation that changes nothing that is known. -/
def pv (F : Fm) (L : Lm) (σ : Heap) : O → Option AV
  | .mv x => some (xv F x)
  | .pick c a b => pickA (xv F c) (xv F a) (xv F b)
  | .fld x off => fldA (xv F x) off
  | .ld x n => ldA L σ (xv F x) n
  | .ix x i size => ixA (xv F x) (xv F i) size
  | .sidx x i => sidxA (xv F x) (xv F i)
  | .len x => lenA (xv F x)
  | .slen x => slenA (xv F x)
  | .bin op x y => binA op (xv F x) (xv F y)
  | .binb op x y => binbA op (xv F x) (xv F y)
  | .un op x => unA op (xv F x)
  | .conv k x => convA k (xv F x)
  | .bld z ps => (fillA z F ps).map .agg
  | .bsl size len z ps => ((fillA z F ps).bind dvs).map fun l => .d (.sl (chunk size len l))
  | .mkf f first caps => if (xvs F first ++ xvs F caps).all AV.noLp then some (.fn f (xvs F first) (xvs F caps)) else none
  | .ext x i => extA (xv F x) i
  | .nck x => nckA (xv F x)
  | .mm b x y => mmA b (xv F x) (xv F y)
  | _ => none

/-! ### Out of the model's operations -/

def cv : Value → Option AV
  | .bool b => some (.d (.bool b))
  | .int k n => if k.min ≤ n ∧ n ≤ k.max then some (.d (.int k n)) else none
  | .string s => if s.data.toList.length ≤ maxLen then some (.d (.str s.data.toList)) else none
  | .slice none 0 0 => some .nils
  | .pointer none => some .nilp
  | _ => none

def xo : Operand → Option X
  | .tmp n => some (.t n)
  | .const v => (cv v).map .c
  | .func f => some (.c (.fn f [] []))
  | .global _ => none

def xos : List Operand → Option (List X)
  | [] => some []
  | x :: l => do some ((← xo x) :: (← xos l))

def cvs : List Value → Option (List AV)
  | [] => some []
  | v :: l => do some ((← cv v) :: (← cvs l))

def zeroC (P : Program) (t : TypeId) : Option (List AV) := do
  let i ← P.info? t
  let z ← i.zero
  cvs z.cells.toList

def szT (P : Program) (t : TypeId) : Option Nat := (P.info? t).map (·.size)

def ldN (P : Program) (t : TypeId) : Option (Option Nat) :=
  match P.underlying t with
  | some (.struct _) | some (.array _ _) => (szT P t).map some
  | some _ => some none
  | none => none

def fOff (P : Program) (s : TypeId) (f : Nat) : Option Nat :=
  match P.underlying s with
  | some (.struct fs) => (fs[f]?).bind fun fd => (szT P fd.type).bind fun n => if n = 0 then none else some fd.offset
  | _ => none

def elemT (P : Program) (t : TypeId) : Option TypeId :=
  match P.underlying t with
  | some (.slice e) => some e
  | _ => none

/-- The places of a struct's or an array's parts. -/
def places (P : Program) (t : TypeId) : Option (Nat → Option (Nat × Nat)) :=
  match P.underlying t with
  | some (.struct fs) => (fs.toList.mapM fun f => (P.info? f.type).map fun i => (f.offset, i.size)).map fun ps i => ps.toArray[i]?
  | some (.array _ e) => (P.info? e).map fun ie i => some (i * ie.size, ie.size)
  | _ => none

def partsC (pl : Nat → Option (Nat × Nat)) : List (Nat × Operand) → Option (List (Nat × Nat × X))
  | [] => some []
  | (i, x) :: l => do
    let (off, n) ← pl i
    let x ← xo x
    some ((off, n, x) :: (← partsC pl l))

def compB (P : Program) : Builtin → List Operand → List TypeId → Option O
  | .len, [x], [t] => match P.underlying t with
    | some .string => (xo x).map .slen
    | some (.slice _) => (xo x).map .len
    | _ => none
  | .max, [x, y], _ => do some (.mm true (← xo x) (← xo y))
  | .min, [x, y], _ => do some (.mm false (← xo x) (← xo y))
  | .append, [s, x], [t, u] => do
    let e ← elemT P t
    let i ← P.info? e
    let z ← i.zero
    if t = u ∧ z.cells.size = i.size ∧ 0 < i.size then some (.app e i.size i.bytes (← xo s) (← xo x)) else none
  | _, _, _ => none

def compCall (P : Program) (c : Call) : Option O :=
  match c.callee with
  | .builtin b => compB P b c.args.toList c.argTypes.toList
  | .value (.func f) =>
    if ((P.funcs[f]?).bind (·.body)).isSome && ((P.funcs[f]?).map (·.name)) != some "runtime.NumGoroutine" then (xos c.args.toList).map (.call f ·) else none
  | .value (.tmp n) => (xos c.args.toList).map (.callv (.t n) ·)
  | _ => none

def compO (P : Program) (sh : Bool) : Op → Option O
  | .move x | .assign x => (xo x).map .mv
  | .pick c a b => do some (.pick (← xo c) (← xo a) (← xo b))
  | .alloc t => (zeroC P t).map (.al · sh)
  | .box _ x => (xo x).map (.box · sh)
  | .fieldAddr s x f => do some (.fld (← xo x) (← fOff P s f))
  | .load t x => do some (.ld (← xo x) (← ldN P t))
  | .store t x v => do some (.st (← xo x) (← xo v) (← szT P t))
  | .indexAddr t x i => do some (.ix (← xo x) (← xo i) (← szT P (← elemT P t)))
  | .index t x i => match P.underlying t with
    | some .string => do some (.sidx (← xo x) (← xo i))
    | _ => none
  | .binOp op t x y _ => match P.underlying t with
    | some .bool => do some (.binb op (← xo x) (← xo y))
    | some (.int _) | some .string => do some (.bin op (← xo x) (← xo y))
    | _ => none
  | .unOp op _ x => do some (.un op (← xo x))
  | .convert s t x => match P.underlying s, P.underlying t with
    | some (.int _), some (.int k) => do some (.conv k (← xo x))
    | _, _ => none
  | .build t ps => do
    let z ← zeroC P t
    let pl ← places P t
    some (.bld z (← partsC pl ps.toList))
  | .buildSlice t len ps => do
    let e ← elemT P t
    let z ← zeroC P e
    let n ← szT P e
    if z.length = n ∧ 0 < n ∧ len * n ≤ 4096 ∧ len ≤ 4096 then
      some (.bsl n len (List.replicate len z).flatten (← partsC (fun i => some (i * n, n)) ps.toList))
    else none
  | .makeFunc (.func f) first caps => do some (.mkf f (← xos first.toList) (← xos caps.toList))
  | .extract x i => (xo x).map (.ext · i)
  | .nilCheck x => (xo x).map .nck
  | .makeSlice t l c => do
    let e ← elemT P t
    let i ← P.info? e
    let z ← zeroC P e
    if z.length = i.size ∧ 0 < i.size then some (.msl i.size i.bytes z (← xo l) (← xo c)) else none
  | .call c => compCall P c
  | _ => none

end Go.Ab
