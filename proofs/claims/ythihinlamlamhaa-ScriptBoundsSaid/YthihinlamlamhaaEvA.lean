/- A deterministic interpreter of the model's code over values of its own: the definitions. What counts is the theorem behind (EvRun): what it answers, the calls answer. -/
import Derived.WalkKit
import Derived.Orders
namespace Go.Proofs.YthihinlamlamhaaE
open Go

/-- What a cell of an element is known to be. -/
inductive K where
  | int (k : IntKind) | bool | str | any
  deriving DecidableEq

/-- The interpreter's values. -/
inductive AV where
  | int (k : IntKind) (n : Int) | bool (b : Bool) | str (s : ByteArray)
  | nilp | ptr (o off : Nat) | eptr (o i f : Nat) | rptr (sh : List K) (cs : List AV) (f : Nat)
  | nils | sl (o off len : Nat) | row (nl : Bool) (sh : List K) (rs : List (List AV))
  | fn (f : Fn) (first caps : List AV) | nilf
  | iface (t : TypeId) (v : AV) | nili
  | agg (cs : List AV) | tup (vs : List AV) | gone

instance : Inhabited AV := ⟨.gone⟩

/-- Its objects: a variable, a slice's backing (md 0: for reading alone, 1: for writing, 2: for appending, too), a string's iterator. -/
inductive AObj where
  | box (cs : List AV)
  | arr (md : Nat) (e : TypeId) (sh : List K) (rs : List (List AV))
  | iter (s : ByteArray) (pos : Nat)
  | dead

instance : Inhabited AObj := ⟨.dead⟩

def AV.toI : AV → Int | .int _ n => n | _ => 0
def AV.toB : AV → Bool | .bool b => b | _ => false
def AV.toS : AV → ByteArray | .str s => s | _ => .empty

def rdK : K → AV → AV
  | .int k, v => .int k v.toI
  | .bool, v => .bool v.toB
  | .str, v => .str v.toS
  | .any, v => v

def kOk : K → AV → Bool
  | .int k, .int k' _ => k == k'
  | .bool, .bool _ => true
  | .str, .str _ => true
  | .any, _ => true
  | _, _ => false

def AV.undef : AV := .tup []

/-- The cells of a value, where it has some. -/
def AV.cells? : AV → Option (List AV)
  | .agg cs => some cs
  | .tup _ | .gone => none
  | v => some [v]

def setAll (cs : List AV) (off : Nat) (new : List AV) : List AV := cs.take off ++ (new ++ cs.drop (off + new.length))

/-- A constant. -/
def cst0 : Value → AV
  | .int k n => .int k n
  | .bool b => .bool b
  | .string s => .str s
  | .pointer none => .nilp
  | .slice none 0 0 => .nils
  | .nilFunc => .nilf
  | .nilIface => .nili
  | _ => .gone
def cst : Value → AV
  | .agg cs => if cs.toList.all (·.oneCell') then .agg (cs.toList.map cst0) else .gone
  | .tuple vs => if vs.isEmpty then .tup [] else .gone
  | v => cst0 v

/-! ### Types -/
def szOf (P : Program) (t : TypeId) : Nat := P.cellsOf t
def isAggT (P : Program) (t : TypeId) : Option Bool :=
  match P.underlying t with
  | some (.struct _) | some (.array _ _) => some true
  | some _ => some false
  | none => none
def shapeOf (P : Program) : Nat → TypeId → List K
  | 0, _ => []
  | d + 1, t => match P.underlying t with
    | some (.int k) => [.int k]
    | some .bool => [.bool]
    | some .string => [.str]
    | some (.struct fs) => fs.toList.flatMap fun f => shapeOf P d f.type
    | some (.array n e) => (List.replicate n (shapeOf P d e)).flatten
    | some _ => [.any]
    | none => []
def zeroA (P : Program) (t : TypeId) : Option (List AV) :=
  match (P.info? t).bind (·.zero) with
  | some z => (cst z).cells?
  | none => none
/-- An element's kind: its shape, if that is as many cells as its size says, and some. -/
def elemSh (P : Program) (e : TypeId) : Option (List K) :=
  let sh := shapeOf P 20 e
  if sh.length = szOf P e ∧ 0 < sh.length then some sh else none

/-! ### Scalars -/
def shA (op : BinOp) (k : IntKind) (x y : Int) : Option AV :=
  if y < 0 then none else
  match op with
  | .shl => some (.int k (k.wrap (x * 2 ^ (min y.toNat k.bits))))
  | .shr => some (.int k (x.fdiv (2 ^ (min y.toNat k.bits))))
  | _ => none
def intA (op : BinOp) (k : IntKind) (x y : Int) : Option AV :=
  match op with
  | .add => some (.int k (k.wrap (x + y)))
  | .sub => some (.int k (k.wrap (x - y)))
  | .mul => some (.int k (k.wrap (x * y)))
  | .quo => if y = 0 then none else some (.int k (k.wrap (x.tdiv y)))
  | .rem => if y = 0 then none else some (.int k (x.tmod y))
  | .and => some (.int k (k.wrap (BitVec.ofInt k.bits x &&& BitVec.ofInt k.bits y).toNat))
  | .or => some (.int k (k.wrap (BitVec.ofInt k.bits x ||| BitVec.ofInt k.bits y).toNat))
  | .xor => some (.int k (k.wrap (BitVec.ofInt k.bits x ^^^ BitVec.ofInt k.bits y).toNat))
  | .eql => some (.bool (x == y))
  | .neq => some (.bool (x != y))
  | .lss => some (.bool (x < y))
  | .leq => some (.bool (x ≤ y))
  | .gtr => some (.bool (x > y))
  | .geq => some (.bool (x ≥ y))
  | _ => none
def strA (op : BinOp) (x y : ByteArray) : Option AV :=
  match op with
  | .add => if ((x.size + y.size : Nat) : Int) > IntKind.i64.max then none else some (.str (x ++ y))
  | .eql => some (.bool (x.toList == y.toList))
  | .neq => some (.bool !(x.toList == y.toList))
  | _ => none
/-- Are two structs of plain fields? -/
def eqF (g : Field → Option Bool) : List Field → Option Bool
  | [] => some true
  | f :: fs => if f.name = "_" then none else (g f).bind fun r => (eqF g fs).map fun s => r && s
def eqT (P : Program) : Nat → TypeId → List AV → List AV → Option Bool
  | 0, _, _, _ => none
  | d + 1, t, xs, ys => match P.underlying t with
    | some (.int _) => match xs, ys with | [.int k a], [.int k' b] => if k = k' then some (a == b) else none | _, _ => none
    | some .bool => match xs, ys with | [.bool a], [.bool b] => some (a == b) | _, _ => none
    | some .string => match xs, ys with | [.str a], [.str b] => some (a.toList == b.toList) | _, _ => none
    | some (.struct fs) => if P.stoodInHeld t then none else
        eqF (fun f => eqT P d f.type ((xs.drop f.offset).take (szOf P f.type)) ((ys.drop f.offset).take (szOf P f.type))) fs.toList
    | _ => none
/-- Is a slice nil? -/
def nilA (P : Program) (op : BinOp) (t : TypeId) (nl : Bool) : Option AV :=
  match P.underlying t, op with
  | some (.slice _), .eql => some (.bool nl)
  | some (.slice _), .neq => some (.bool !nl)
  | _, _ => none
def binA (P : Program) (op : BinOp) (t : TypeId) : AV → AV → Option AV
  | .int k a, .int k' b =>
    match op with
    | .shl | .shr => shA op k a b
    | _ => if k = k' then intA op k a b else none
  | .str a, .str b => strA op a b
  | .bool a, .bool b =>
    match P.underlying t, op with
    | some .bool, .eql => some (.bool (a == b))
    | some .bool, .neq => some (.bool !(a == b))
    | _, _ => none
  | .agg xs, .agg ys =>
    if P.eqGuardType P.depth t then none
    else match isAggT P t with
      | some true => match op with
        | .eql => (eqT P 20 t xs ys).map .bool
        | .neq => (eqT P 20 t xs ys).map fun r => .bool !r
        | _ => none
      | _ => none
  | .row nl _ _, .nils => nilA P op t nl
  | .sl _ _ _, .nils => nilA P op t false
  | .nils, .nils => nilA P op t true
  | _, _ => none
def unA (op : UnOp) : AV → Option AV
  | .int k n => match op with | .neg => some (.int k (k.wrap (0 - n))) | _ => none
  | .bool b => match op with | .not => some (.bool !b) | _ => none
  | _ => none

/-! ### Operations that write nothing that was there -/
def rdCells (P : Program) (t : TypeId) (cs : List AV) : Option AV :=
  if cs.length = szOf P t then
    match isAggT P t with
    | some true => some (.agg cs)
    | some false => match cs with | [c] => some c | _ => none
    | none => none
  else none
def rowCells (sh : List K) (cs : List AV) (f n : Nat) : List AV :=
  (List.range n).map fun j => rdK (sh.getD (f + j) .any) (cs.getD (f + j) .gone)
def loadA (P : Program) (h : List AObj) (t : TypeId) : AV → Option AV
  | .ptr o off => match h[o]? with
    | some (.box cs) => rdCells P t ((cs.drop off).take (szOf P t))
    | _ => none
  | .eptr o i f => match h[o]? with
    | some (.arr _ _ sh rs) => if i < rs.length ∧ f + szOf P t ≤ sh.length then rdCells P t (rowCells sh (rs.getD i []) f (szOf P t)) else none
    | _ => none
  | .rptr sh cs f => if f + szOf P t ≤ sh.length then rdCells P t (rowCells sh cs f (szOf P t)) else none
  | _ => none
/-- Where a part stands, and how many cells it has. -/
def placesA (P : Program) (t : TypeId) : Option (Nat → Option (Nat × Nat)) :=
  match P.underlying t with
  | some (.struct fs) => (fs.toList.mapM fun f => (P.info? f.type).map fun i => (f.offset, i.size)).map fun pl k => pl[k]?
  | some (.array _ e) => (P.info? e).map fun i k => some (k * i.size, i.size)
  | _ => none
def fillA (pl : Nat → Option (Nat × Nat)) : List AV → List (Nat × AV) → Option (List AV)
  | cs, [] => some cs
  | cs, (i, v) :: rest =>
    match pl i, v.cells? with
    | some (off, n), some new => if new.length = n ∧ off + n ≤ cs.length then fillA pl (setAll cs off new) rest else none
    | _, _ => none
def fillRows (sh : List K) : List (List AV) → List (Nat × AV) → Option (List (List AV))
  | rs, [] => some rs
  | rs, (i, v) :: rest =>
    match v.cells? with
    | some new => if new.length = sh.length ∧ i < rs.length ∧ ((sh.zip new).all fun p => kOk p.1 p.2) = true then fillRows sh (rs.set i new) rest else none
    | none => none
def bytesRows (s : List UInt8) : List (List AV) := s.map fun b => [.int .u8 b.toNat]
def rowsBytes (rs : List (List AV)) : List UInt8 := rs.map fun r => UInt8.ofNat (AV.toI (r.getD 0 .gone)).toNat
def boundA (y : Nat) : Option AV → Nat → Option Nat
  | none, d => some d
  | some (.int _ i), _ => if 0 ≤ i ∧ i ≤ y then some i.toNat else none
  | _, _ => none
def sliceA (P : Program) (h : List AObj) (t : TypeId) (x : AV) (lo hi mx : Option AV) : Option AV :=
  match x, mx with
  | .str s, none => if P.underlying t = none then none else match P.underlying t with
    | some .string => (boundA s.size hi s.size).bind fun b => (boundA b lo 0).map fun a => .str (s.extract a b)
    | _ => none
  | .row nl sh rs, none => match P.underlying t with
    | some (.slice e) => if szOf P e = sh.length ∧ 0 < sh.length then (boundA rs.length hi rs.length).bind fun b => (boundA b lo 0).map fun a => .row nl sh ((rs.take b).drop a) else none
    | _ => none
  | .sl o off len, none => match h[o]?, P.underlying t with
    | some (.arr _ _ sh _), some (.slice e) => if szOf P e = sh.length ∧ 0 < sh.length then (boundA len hi len).bind fun b => (boundA b lo 0).bind fun a => if a < b ∨ a = 0 then some (.sl o (off + a) (b - a)) else none else none
    | _, _ => none
  | .nils, none => match P.underlying t with
    | some (.slice e) => if szOf P e = 0 then none else (boundA 0 hi 0).bind fun b => (boundA b lo 0).map fun _ => .nils
    | _ => none
  | _, _ => none
def indexAddrA (P : Program) (h : List AObj) (t : TypeId) (x : AV) : AV → Option AV
  | .int _ i =>
    match P.underlying t, x with
    | some (.slice e), .row _ sh rs => if szOf P e = sh.length then (if 0 ≤ i ∧ i < (rs.length : Int) then some (.rptr sh (rs.getD i.toNat []) 0) else none) else none
    | some (.slice e), .sl o off len => match h[o]? with
      | some (.arr _ _ sh _) => if szOf P e = sh.length ∧ szOf P e ≠ 0 then (if 0 ≤ i ∧ i < (len : Int) then some (.eptr o (off + i.toNat) 0) else none) else none
      | _ => none
    | some (.array n e), .ptr o off => match h[o]? with
      | some (.box _) => if 0 ≤ i ∧ i < (n : Int) ∧ szOf P e ≠ 0 then some (.ptr o (off + i.toNat * szOf P e)) else none
      | _ => none
    | _, _ => none
  | _ => none
def fieldAddrA (P : Program) (h : List AObj) (s : TypeId) (x : AV) (f : Nat) : Option AV :=
  match P.underlying s with
  | some (.struct fs) => match fs[f]? with
    | some fd => if szOf P fd.type = 0 then none else match x with
      | .ptr o off => match h[o]? with | some (.box _) => some (.ptr o (off + fd.offset)) | _ => none
      | .eptr o i g => match h[o]? with | some (.arr _ _ _ _) => some (.eptr o i (g + fd.offset)) | _ => none
      | .rptr sh cs g => some (.rptr sh cs (g + fd.offset))
      | _ => none
    | none => none
  | _ => none
def partA (P : Program) (t : TypeId) (cs : List AV) (off : Nat) : Option AV := rdCells P t ((cs.drop off).take (szOf P t))
def fieldA (P : Program) (t : TypeId) (f : Nat) : AV → Option AV
  | .agg cs => match P.underlying t with
    | some (.struct fs) => match fs[f]? with | some fd => partA P fd.type cs fd.offset | none => none
    | _ => none
  | _ => none
def indexA (P : Program) (t : TypeId) : AV → AV → Option AV
  | .agg cs, .int _ i => match P.underlying t with
    | some (.array n e) => if 0 ≤ i ∧ i < (n : Int) then partA P e cs (i.toNat * szOf P e) else none
    | _ => none
  | .str s, .int _ i => match P.underlying t with
    | some .string => if 0 ≤ i ∧ i < (s.size : Int) then some (.int .u8 ((s.data.toList.getD i.toNat 0).toNat : Int)) else none
    | _ => none
  | _, _ => none
def assertA (P : Program) (_xt as : TypeId) (ok : Bool) : AV → Option AV
  | .iface t v => match P.underlying as with
    | some (.interface _) => none
    | none => none
    | some _ =>
      if t = as then some (if ok then .tup [v, .bool true] else v)
      else if ok then match (P.info? as).bind (·.zero) with
        | some z => some (.tup [cst z, .bool false])
        | none => none
      else none
  | _ => none
def makeA (P : Program) (t : TypeId) (ix : Nat) : AV → AV → Option (AV × Option AObj)
  | .int _ l, .int _ c => match P.underlying t with
    | some (.slice e) => match elemSh P e, zeroA P e with
      | some sh, some z => if 0 ≤ l ∧ l ≤ c ∧ (P.bytesOf e : Int) * c ≤ 140737488355328 ∧ c ≤ 9223372036854775807 ∧ z.length = sh.length ∧ ((sh.zip z).all fun p => kOk p.1 p.2) = true then
          some (.sl ix 0 l.toNat, some (.arr 2 e sh (List.replicate l.toNat z))) else none
      | _, _ => none
    | _ => none
  | _, _ => none
def convA (P : Program) (h : List AObj) (ix : Nat) (src dst : TypeId) (x : AV) : Option (AV × Option AObj) :=
  match P.underlying src, P.underlying dst, x with
  | some (.int _), some (.int k), .int _ n => some (.int k (k.wrap n), none)
  | some (.int _), some .string, .int _ n => some (.str (Utf8.encode n), none)
  | some .string, some .string, .str s => some (.str s, none)
  | some .string, some (.slice e), .str s => match P.underlying e with
    | some (.int .u8) => if szOf P e = 1 ∧ s.size ≤ 140737488355328 then some (.sl ix 0 s.size, some (.arr 1 e [.int .u8] (bytesRows s.data.toList))) else none
    | _ => none
  | some (.slice e), some .string, .row _ sh rs => match P.underlying e with
    | some (.int .u8) => if sh = [.int .u8] then some (.str ⟨(rowsBytes rs).toArray⟩, none) else none
    | _ => none
  | some (.slice e), some .string, .sl o off len => match P.underlying e, h[o]? with
    | some (.int .u8), some (.arr _ _ sh rs) => if sh = [.int .u8] ∧ off + len ≤ rs.length then some (.str ⟨(rowsBytes ((rs.drop off).take len)).toArray⟩, none) else none
    | _, _ => none
  | some (.slice e), some .string, .nils => match P.underlying e with
    | some (.int .u8) => some (.str .empty, none)
    | _ => none
  | _, _, _ => none
def lenA (P : Program) (t : TypeId) : AV → Option AV
  | .str s => match P.underlying t with | some .string => some (.int .i64 s.size) | _ => none
  | .row _ _ rs => match P.underlying t with | some (.slice _) => some (.int .i64 rs.length) | _ => none
  | .sl _ _ len => match P.underlying t with | some (.slice _) => some (.int .i64 len) | _ => none
  | .nils => match P.underlying t with | some (.slice _) => some (.int .i64 0) | _ => none
  | _ => none
def minA : List AV → Option AV
  | [.int k x, .int k' y] => if k = k' then some (.int k (if y < x then y else x)) else none
  | _ => none
def maxA : List AV → Option AV
  | [.int k x, .int k' y] => if k = k' then some (.int k (if y > x then y else x)) else none
  | _ => none

def nwA (P : Program) (ρ : Operand → AV) (h : List AObj) (ix : Nat) (o : Oper) : Option (AV × Option AObj) :=
  match o.op with
  | .move x | .assign x => some (ρ x, none)
  | .pick c a b => match ρ c with | .bool t => if t = true then some (ρ a, none) else some (ρ b, none) | _ => none
  | .alloc e => (zeroA P e).bind fun z => if z.length = szOf P e then some (.ptr ix 0, some (.box z)) else none
  | .box _ x => (ρ x).cells?.map fun cs => (.ptr ix 0, some (.box cs))
  | .build t ps => (zeroA P t).bind fun z => (placesA P t).bind fun pl => (fillA pl z (ps.toList.map fun p => (p.1, ρ p.2))).map fun cs => (.agg cs, none)
  | .buildSlice t len ps => match P.underlying t with
    | some (.slice e) => match elemSh P e, zeroA P e with
      | some sh, some z => if z.length = sh.length ∧ len * sh.length ≤ 16777216 ∧ ((sh.zip z).all fun p => kOk p.1 p.2) = true then
          (fillRows sh (List.replicate len z) (ps.toList.map fun p => (p.1, ρ p.2))).map fun rs => (.sl ix 0 len, some (.arr 2 e sh rs)) else none
      | _, _ => none
    | _ => none
  | .load t a => (loadA P h t (ρ a)).map fun v => (v, none)
  | .nilCheck x => match ρ x with
    | .ptr o off => some (.ptr o off, none)
    | .eptr o i f => some (.eptr o i f, none)
    | .rptr sh cs f => some (.rptr sh cs f, none)
    | .fn (.func g) a b => some (.fn (.func g) a b, none)
    | _ => none
  | .binOp op t x y _ => (binA P op t (ρ x) (ρ y)).map fun v => (v, none)
  | .unOp op _ x => (unA op (ρ x)).map fun v => (v, none)
  | .convert src dst x => convA P h ix src dst (ρ x)
  | .makeInterface t x => match P.underlying t with
    | some (.interface _) => none
    | none => none
    | some _ => match ρ x with | .gone => none | .tup _ => none | v => some (.iface t v, none)
  | .makeFunc f first caps => some (.fn f (first.toList.map ρ) (caps.toList.map ρ), none)
  | .makeSlice t l c => makeA P t ix (ρ l) (ρ c)
  | .slice t x lo hi mx => (sliceA P h t (ρ x) (lo.map ρ) (hi.map ρ) (mx.map ρ)).map fun v => (v, none)
  | .fieldAddr s x f => (fieldAddrA P h s (ρ x) f).map fun v => (v, none)
  | .field t x f => (fieldA P t f (ρ x)).map fun v => (v, none)
  | .indexAddr t x i => (indexAddrA P h t (ρ x) (ρ i)).map fun v => (v, none)
  | .index t x i => (indexA P t (ρ x) (ρ i)).map fun v => (v, none)
  | .typeAssert x xt as ok => (assertA P xt as ok (ρ x)).map fun v => (v, none)
  | .extract x i => match ρ x with | .tup vs => (vs[i]?).map fun v => (v, none) | _ => none
  | .range t x => match P.underlying t, ρ x with
    | some .string, .str s => some (.ptr ix 0, some (.iter s 0))
    | _, _ => none
  | .call { callee := .builtin .len, args, argTypes } => match args.toList, argTypes.toList with
    | [x], [t] => (lenA P t (ρ x)).map fun v => (v, none)
    | _, _ => none
  | .call { callee := .builtin .min, args, .. } => (minA (args.toList.map ρ)).map fun v => (v, none)
  | .call { callee := .builtin .max, args, .. } => (maxA (args.toList.map ρ)).map fun v => (v, none)
  | _ => none

end Go.Proofs.YthihinlamlamhaaE
