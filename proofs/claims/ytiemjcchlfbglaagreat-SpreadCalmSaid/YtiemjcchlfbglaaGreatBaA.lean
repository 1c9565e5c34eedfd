/- A deterministic interpreter of the model's code over values of its own: the definitions. What counts is the theorem behind (EvRun): what it answers, the calls answer. -/
import Derived.WalkKit
import Derived.Orders
import Derived.Below
import Derived.Laws.Cover3
import Derived.Laws.Small
import Derived.Laws.IdiomStrings
import Derived.Laws.StructEq
import Derived.Laws.BytesString
namespace Go.Proofs.YtiemjcchlfbglaaGreatE
open Go

/-- What a cell of an element is known to be. -/
inductive K where
  | int (k : IntKind) | bool | str | any
  deriving DecidableEq

/-- The interpreter's values. -/
inductive AV where
  | int (k : IntKind) (n : Int) | bool (b : Bool) | str (s : ByteArray)
  | nilp | ptr (o off : Nat) | eptr (o i f : Nat) | rptr (sh : List K) (cs : List AV) (f : Nat)
  | nils | sl (o off len : Nat) | row (nl : Bool) (sh : List K) (rs : List (List AV))
  | fn (f : Fn) (first caps : List AV) | nilf
  | iface (t : TypeId) (v : AV) | nili
  | agg (cs : List AV) | tup (vs : List AV) | gone

instance : Inhabited AV := ⟨.gone⟩

/-- Its objects: a variable, a slice's backing (md 0: for reading alone, 1: for writing, 2: for appending, too), a string's iterator, a variable whose type counts (a strings.Builder). -/
inductive AObj where
  | box (cs : List AV)
  | arr (md : Nat) (e : TypeId) (sh : List K) (rs : List (List AV))
  | iter (s : ByteArray) (pos : Nat)
  | dead
  | tb (T : TypeId) (cs : List AV)

instance : Inhabited AObj := ⟨.dead⟩

def AV.toI : AV → Int | .int _ n => n | _ => 0
def AV.toB : AV → Bool | .bool b => b | _ => false
def AV.toS : AV → ByteArray | .str s => s | _ => .empty

def rdK : K → AV → AV
  | .int k, v => .int k v.toI
  | .bool, v => .bool v.toB
  | .str, v => .str v.toS
  | .any, v => v

def kOk : K → AV → Bool
  | .int k, .int k' _ => k == k'
  | .bool, .bool _ => true
  | .str, .str _ => true
  | .any, _ => true
  | _, _ => false

def AV.undef : AV := .tup []

/-- The cells of a value, where it has some. -/
def AV.cells? : AV → Option (List AV)
  | .agg cs => some cs
  | .tup _ | .gone => none
  | v => some [v]

def setAll (cs : List AV) (off : Nat) (new : List AV) : List AV := cs.take off ++ (new ++ cs.drop (off + new.length))

/-- A struct whose first field points to its like (strings.Builder). -/
def selfPtr (P : Program) (e : TypeId) : Bool :=
  match P.underlying e with
  | some (.struct fs) => match fs[0]? with
    | some f => match P.underlying f.type with
      | some (.pointer t) => Nat.beq t e
      | _ => false
    | none => false
  | _ => false
/-- A constant. -/
def cst0 : Value → AV
  | .int k n => .int k n
  | .bool b => .bool b
  | .string s => .str s
  | .pointer none => .nilp
  | .slice none 0 0 => .nils
  | .nilFunc => .nilf
  | .nilIface => .nili
  | _ => .gone
def cst : Value → AV
  | .agg cs => if cs.toList.all (·.oneCell') then .agg (cs.toList.map cst0) else .gone
  | .tuple vs => if vs.isEmpty then .tup [] else .gone
  | v => cst0 v

/-! ### Types -/
def szOf (P : Program) (t : TypeId) : Nat := P.cellsOf t
def isAggT (P : Program) (t : TypeId) : Option Bool :=
  match P.underlying t with
  | some (.struct _) | some (.array _ _) => some true
  | some _ => some false
  | none => none
def shapeOf (P : Program) : Nat → TypeId → List K
  | 0, _ => []
  | d + 1, t => match P.underlying t with
    | some (.int k) => [.int k]
    | some .bool => [.bool]
    | some .string => [.str]
    | some (.struct fs) => fs.toList.flatMap fun f => shapeOf P d f.type
    | some (.array n e) => (List.replicate n (shapeOf P d e)).flatten
    | some _ => [.any]
    | none => []
def zeroA (P : Program) (t : TypeId) : Option (List AV) :=
  match (P.info? t).bind (·.zero) with
  | some z => (cst z).cells?
  | none => none
/-- An element's kind: its shape, if that is as many cells as its size says, and some. -/
def elemSh (P : Program) (e : TypeId) : Option (List K) :=
  let sh := shapeOf P 20 e
  if sh.length = szOf P e ∧ 0 < sh.length then some sh else none

/-! ### Scalars -/
def shA (op : BinOp) (k : IntKind) (x y : Int) : Option AV :=
  if y < 0 then none else
  match op with
  | .shl => some (.int k (k.wrap (x * 2 ^ (min y.toNat k.bits))))
  | .shr => some (.int k (x.fdiv (2 ^ (min y.toNat k.bits))))
  | _ => none
def intA (op : BinOp) (k : IntKind) (x y : Int) : Option AV :=
  match op with
  | .add => some (.int k (k.wrap (x + y)))
  | .sub => some (.int k (k.wrap (x - y)))
  | .mul => some (.int k (k.wrap (x * y)))
  | .quo => if y = 0 then none else some (.int k (k.wrap (x.tdiv y)))
  | .rem => if y = 0 then none else some (.int k (x.tmod y))
  | .and => some (.int k (k.wrap (BitVec.ofInt k.bits x &&& BitVec.ofInt k.bits y).toNat))
  | .or => some (.int k (k.wrap (BitVec.ofInt k.bits x ||| BitVec.ofInt k.bits y).toNat))
  | .xor => some (.int k (k.wrap (BitVec.ofInt k.bits x ^^^ BitVec.ofInt k.bits y).toNat))
  | .eql => some (.bool (x == y))
  | .neq => some (.bool (x != y))
  | .lss => some (.bool (x < y))
  | .leq => some (.bool (x ≤ y))
  | .gtr => some (.bool (x > y))
  | .geq => some (.bool (x ≥ y))
  | _ => none
def strA (op : BinOp) (x y : ByteArray) : Option AV :=
  match op with
  | .add => if ((x.size + y.size : Nat) : Int) > IntKind.i64.max then none else some (.str (x ++ y))
  | .eql => some (.bool (x.toList == y.toList))
  | .neq => some (.bool !(x.toList == y.toList))
  | _ => none
/-- Are two structs of plain fields? -/
def eqF (g : Field → Option Bool) : List Field → Option Bool
  | [] => some true
  | f :: fs => if f.name = "_" then none else (g f).bind fun r => (eqF g fs).map fun s => r && s
def eqT (P : Program) : Nat → TypeId → List AV → List AV → Option Bool
  | 0, _, _, _ => none
  | d + 1, t, xs, ys => match P.underlying t with
    | some (.int _) => match xs, ys with | [.int k a], [.int k' b] => if k = k' then some (a == b) else none | _, _ => none
    | some .bool => match xs, ys with | [.bool a], [.bool b] => some (a == b) | _, _ => none
    | some .string => match xs, ys with | [.str a], [.str b] => some (a.toList == b.toList) | _, _ => none
    | some (.struct fs) => if P.stoodInHeld t then none else
        eqF (fun f => eqT P d f.type ((xs.drop f.offset).take (szOf P f.type)) ((ys.drop f.offset).take (szOf P f.type))) fs.toList
    | _ => none
/-- Is a slice nil? -/
def nilA (P : Program) (op : BinOp) (t : TypeId) (nl : Bool) : Option AV :=
  match P.underlying t, op with
  | some (.slice _), .eql => some (.bool nl)
  | some (.slice _), .neq => some (.bool !nl)
  | _, _ => none
def binA (P : Program) (op : BinOp) (t : TypeId) : AV → AV → Option AV
  | .int k a, .int k' b =>
    match op with
    | .shl | .shr => shA op k a b
    | _ => if k = k' then intA op k a b else none
  | .str a, .str b => strA op a b
  | .bool a, .bool b =>
    match P.underlying t, op with
    | some .bool, .eql => some (.bool (a == b))
    | some .bool, .neq => some (.bool !(a == b))
    | _, _ => none
  | .agg xs, .agg ys =>
    if P.eqGuardType P.depth t then none
    else match isAggT P t with
      | some true => match op with
        | .eql => (eqT P 20 t xs ys).map .bool
        | .neq => (eqT P 20 t xs ys).map fun r => .bool !r
        | _ => none
      | _ => none
  | .row nl _ _, .nils => nilA P op t nl
  | .sl _ _ _, .nils => nilA P op t false
  | .nils, .nils => nilA P op t true
  | _, _ => none
def unA (op : UnOp) : AV → Option AV
  | .int k n => match op with | .neg => some (.int k (k.wrap (0 - n))) | _ => none
  | .bool b => match op with | .not => some (.bool !b) | _ => none
  | _ => none

/-! ### Operations that write nothing that was there -/
def rdCells (P : Program) (t : TypeId) (cs : List AV) : Option AV :=
  if cs.length = szOf P t then
    match isAggT P t with
    | some true => some (.agg cs)
    | some false => match cs with | [c] => some c | _ => none
    | none => none
  else none
def rowCells (sh : List K) (cs : List AV) (f n : Nat) : List AV :=
  (List.range n).map fun j => rdK (sh.getD (f + j) .any) (cs.getD (f + j) .gone)
def loadA (P : Program) (h : List AObj) (t : TypeId) : AV → Option AV
  | .ptr o off => match h[o]? with
    | some (.box cs) => rdCells P t ((cs.drop off).take (szOf P t))
    | some (.tb _ cs) => rdCells P t ((cs.drop off).take (szOf P t))
    | _ => none
  | .eptr o i f => match h[o]? with
    | some (.arr _ _ sh rs) => if i < rs.length ∧ f + szOf P t ≤ sh.length then rdCells P t (rowCells sh (rs.getD i []) f (szOf P t)) else none
    | _ => none
  | .rptr sh cs f => if f + szOf P t ≤ sh.length then rdCells P t (rowCells sh cs f (szOf P t)) else none
  | _ => none
/-- Where a part stands, and how many cells it has. -/
def placesA (P : Program) (t : TypeId) : Option (Nat → Option (Nat × Nat)) :=
  match P.underlying t with
  | some (.struct fs) => (fs.toList.mapM fun f => (P.info? f.type).map fun i => (f.offset, i.size)).map fun pl k => pl[k]?
  | some (.array _ e) => (P.info? e).map fun i k => some (k * i.size, i.size)
  | _ => none
def fillA (pl : Nat → Option (Nat × Nat)) : List AV → List (Nat × AV) → Option (List AV)
  | cs, [] => some cs
  | cs, (i, v) :: rest =>
    match pl i, v.cells? with
    | some (off, n), some new => if new.length = n ∧ off + n ≤ cs.length then fillA pl (setAll cs off new) rest else none
    | _, _ => none
def fillRows (sh : List K) : List (List AV) → List (Nat × AV) → Option (List (List AV))
  | rs, [] => some rs
  | rs, (i, v) :: rest =>
    match v.cells? with
    | some new => if new.length = sh.length ∧ i < rs.length ∧ ((sh.zip new).all fun p => kOk p.1 p.2) = true then fillRows sh (rs.set i new) rest else none
    | none => none
def bytesRows (s : List UInt8) : List (List AV) := s.map fun b => [.int .u8 b.toNat]
def rowsBytes (rs : List (List AV)) : List UInt8 := rs.map fun r => UInt8.ofNat (AV.toI (r.getD 0 .gone)).toNat
def boundA (y : Nat) : Option AV → Nat → Option Nat
  | none, d => some d
  | some (.int _ i), _ => if 0 ≤ i ∧ i ≤ y then some i.toNat else none
  | _, _ => none
def sliceA (P : Program) (h : List AObj) (t : TypeId) (x : AV) (lo hi mx : Option AV) : Option AV :=
  match x, mx with
  | .str s, none => if P.underlying t = none then none else match P.underlying t with
    | some .string => (boundA s.size hi s.size).bind fun b => (boundA b lo 0).map fun a => .str (s.extract a b)
    | _ => none
  | .row nl sh rs, none => match P.underlying t with
    | some (.slice e) => if szOf P e = sh.length ∧ 0 < sh.length then (boundA rs.length hi rs.length).bind fun b => (boundA b lo 0).map fun a => .row nl sh ((rs.take b).drop a) else none
    | _ => none
  | .sl o off len, none => match h[o]?, P.underlying t with
    | some (.arr _ _ sh _), some (.slice e) => if szOf P e = sh.length ∧ 0 < sh.length then (boundA len hi len).bind fun b => (boundA b lo 0).bind fun a => if a < b ∨ a = 0 then some (.sl o (off + a) (b - a)) else none else none
    | _, _ => none
  | .nils, none => match P.underlying t with
    | some (.slice e) => if szOf P e = 0 then none else (boundA 0 hi 0).bind fun b => (boundA b lo 0).map fun _ => .nils
    | _ => none
  | _, _ => none
def indexAddrA (P : Program) (h : List AObj) (t : TypeId) (x : AV) : AV → Option AV
  | .int _ i =>
    match P.underlying t, x with
    | some (.slice e), .row _ sh rs => if szOf P e = sh.length then (if 0 ≤ i ∧ i < (rs.length : Int) then some (.rptr sh (rs.getD i.toNat []) 0) else none) else none
    | some (.slice e), .sl o off len => match h[o]? with
      | some (.arr _ _ sh _) => if szOf P e = sh.length ∧ szOf P e ≠ 0 then (if 0 ≤ i ∧ i < (len : Int) then some (.eptr o (off + i.toNat) 0) else none) else none
      | _ => none
    | some (.array n e), .ptr o off => match h[o]? with
      | some (.box _) => if 0 ≤ i ∧ i < (n : Int) ∧ szOf P e ≠ 0 then some (.ptr o (off + i.toNat * szOf P e)) else none
      | _ => none
    | _, _ => none
  | _ => none
def fieldAddrA (P : Program) (h : List AObj) (s : TypeId) (x : AV) (f : Nat) : Option AV :=
  match P.underlying s with
  | some (.struct fs) => match fs[f]? with
    | some fd => if szOf P fd.type = 0 then none else match x with
      | .ptr o off => match h[o]? with | some (.box _) | some (.tb _ _) => some (.ptr o (off + fd.offset)) | _ => none
      | .eptr o i g => match h[o]? with | some (.arr _ _ _ _) => some (.eptr o i (g + fd.offset)) | _ => none
      | .rptr sh cs g => some (.rptr sh cs (g + fd.offset))
      | _ => none
    | none => none
  | _ => none
def partA (P : Program) (t : TypeId) (cs : List AV) (off : Nat) : Option AV := rdCells P t ((cs.drop off).take (szOf P t))
def fieldA (P : Program) (t : TypeId) (f : Nat) : AV → Option AV
  | .agg cs => match P.underlying t with
    | some (.struct fs) => match fs[f]? with | some fd => partA P fd.type cs fd.offset | none => none
    | _ => none
  | _ => none
def indexA (P : Program) (t : TypeId) : AV → AV → Option AV
  | .agg cs, .int _ i => match P.underlying t with
    | some (.array n e) => if 0 ≤ i ∧ i < (n : Int) then partA P e cs (i.toNat * szOf P e) else none
    | _ => none
  | .str s, .int _ i => match P.underlying t with
    | some .string => if 0 ≤ i ∧ i < (s.size : Int) then some (.int .u8 ((s.data.toList.getD i.toNat 0).toNat : Int)) else none
    | _ => none
  | _, _ => none
def assertA (P : Program) (_xt as : TypeId) (ok : Bool) : AV → Option AV
  | .iface t v => match P.underlying as with
    | some (.interface _) => none
    | none => none
    | some _ =>
      if t = as then some (if ok then .tup [v, .bool true] else v)
      else if ok then match (P.info? as).bind (·.zero) with
        | some z => some (.tup [cst z, .bool false])
        | none => none
      else none
  | _ => none
def makeA (P : Program) (t : TypeId) (ix : Nat) : AV → AV → Option (AV × Option AObj)
  | .int _ l, .int _ c => match P.underlying t with
    | some (.slice e) => match elemSh P e, zeroA P e with
      | some sh, some z => if 0 ≤ l ∧ l ≤ c ∧ (P.bytesOf e : Int) * c ≤ 140737488355328 ∧ c ≤ 9223372036854775807 ∧ z.length = sh.length ∧ ((sh.zip z).all fun p => kOk p.1 p.2) = true then
          some (.sl ix 0 l.toNat, some (.arr 2 e sh (List.replicate l.toNat z))) else none
      | _, _ => none
    | _ => none
  | _, _ => none
def convA (P : Program) (h : List AObj) (ix : Nat) (src dst : TypeId) (x : AV) : Option (AV × Option AObj) :=
  match P.underlying src, P.underlying dst, x with
  | some (.int _), some (.int k), .int _ n => some (.int k (k.wrap n), none)
  | some (.int _), some .string, .int _ n => some (.str (Utf8.encode n), none)
  | some .string, some .string, .str s => some (.str s, none)
  | some .string, some (.slice e), .str s => match P.underlying e with
    | some (.int .u8) => if szOf P e = 1 ∧ s.size ≤ 140737488355328 then some (.sl ix 0 s.size, some (.arr 1 e [.int .u8] (bytesRows s.data.toList))) else none
    | _ => none
  | some (.slice e), some .string, .row _ sh rs => match P.underlying e with
    | some (.int .u8) => if sh = [.int .u8] then some (.str ⟨(rowsBytes rs).toArray⟩, none) else none
    | _ => none
  | some (.slice e), some .string, .sl o off len => match P.underlying e, h[o]? with
    | some (.int .u8), some (.arr _ _ sh rs) => if sh = [.int .u8] ∧ off + len ≤ rs.length then some (.str ⟨(rowsBytes ((rs.drop off).take len)).toArray⟩, none) else none
    | _, _ => none
  | some (.slice e), some .string, .nils => match P.underlying e with
    | some (.int .u8) => some (.str .empty, none)
    | _ => none
  | _, _, _ => none
def lenA (P : Program) (t : TypeId) : AV → Option AV
  | .str s => match P.underlying t with | some .string => some (.int .i64 s.size) | _ => none
  | .row _ _ rs => match P.underlying t with | some (.slice _) => some (.int .i64 rs.length) | _ => none
  | .sl _ _ len => match P.underlying t with | some (.slice _) => some (.int .i64 len) | _ => none
  | .nils => match P.underlying t with | some (.slice _) => some (.int .i64 0) | _ => none
  | _ => none
def minA : List AV → Option AV
  | [.int k x, .int k' y] => if k = k' then some (.int k (if y < x then y else x)) else none
  | _ => none
def maxA : List AV → Option AV
  | [.int k x, .int k' y] => if k = k' then some (.int k (if y > x then y else x)) else none
  | _ => none

def nwA (P : Program) (ρ : Operand → AV) (h : List AObj) (ix : Nat) (o : Oper) : Option (AV × Option AObj) :=
  match o.op with
  | .move x | .assign x => some (ρ x, none)
  | .pick c a b => match ρ c with | .bool t => if t = true then some (ρ a, none) else some (ρ b, none) | _ => none
  | .alloc e => (zeroA P e).bind fun z => if z.length = szOf P e then some (.ptr ix 0, some (if selfPtr P e then .tb e z else .box z)) else none
  | .box _ x => (ρ x).cells?.map fun cs => (.ptr ix 0, some (.box cs))
  | .build t ps => (zeroA P t).bind fun z => (placesA P t).bind fun pl => (fillA pl z (ps.toList.map fun p => (p.1, ρ p.2))).map fun cs => (.agg cs, none)
  | .buildSlice t len ps => match P.underlying t with
    | some (.slice e) => match elemSh P e, zeroA P e with
      | some sh, some z => if z.length = sh.length ∧ len * sh.length ≤ 16777216 ∧ ((sh.zip z).all fun p => kOk p.1 p.2) = true then
          (fillRows sh (List.replicate len z) (ps.toList.map fun p => (p.1, ρ p.2))).map fun rs => (.sl ix 0 len, some (.arr 2 e sh rs)) else none
      | _, _ => none
    | _ => none
  | .load t a => (loadA P h t (ρ a)).map fun v => (v, none)
  | .nilCheck x => match ρ x with
    | .ptr o off => some (.ptr o off, none)
    | .eptr o i f => some (.eptr o i f, none)
    | .rptr sh cs f => some (.rptr sh cs f, none)
    | .fn (.func g) a b => some (.fn (.func g) a b, none)
    | _ => none
  | .binOp op t x y _ => (binA P op t (ρ x) (ρ y)).map fun v => (v, none)
  | .unOp op _ x => (unA op (ρ x)).map fun v => (v, none)
  | .convert src dst x => convA P h ix src dst (ρ x)
  | .makeInterface t x => match P.underlying t with
    | some (.interface _) => none
    | none => none
    | some _ => match ρ x with | .gone => none | .tup _ => none | v => some (.iface t v, none)
  | .makeFunc f first caps => some (.fn f (first.toList.map ρ) (caps.toList.map ρ), none)
  | .makeSlice t l c => makeA P t ix (ρ l) (ρ c)
  | .slice t x lo hi mx => (sliceA P h t (ρ x) (lo.map ρ) (hi.map ρ) (mx.map ρ)).map fun v => (v, none)
  | .fieldAddr s x f => (fieldAddrA P h s (ρ x) f).map fun v => (v, none)
  | .field t x f => (fieldA P t f (ρ x)).map fun v => (v, none)
  | .indexAddr t x i => (indexAddrA P h t (ρ x) (ρ i)).map fun v => (v, none)
  | .index t x i => (indexA P t (ρ x) (ρ i)).map fun v => (v, none)
  | .typeAssert x xt as ok => (assertA P xt as ok (ρ x)).map fun v => (v, none)
  | .extract x i => match ρ x with | .tup vs => (vs[i]?).map fun v => (v, none) | _ => none
  | .range t x => match P.underlying t, ρ x with
    | some .string, .str s => some (.ptr ix 0, some (.iter s 0))
    | _, _ => none
  | .call { callee := .builtin .len, args, argTypes } => match args.toList, argTypes.toList with
    | [x], [t] => (lenA P t (ρ x)).map fun v => (v, none)
    | _, _ => none
  | .call { callee := .builtin .min, args, .. } => (minA (args.toList.map ρ)).map fun v => (v, none)
  | .call { callee := .builtin .max, args, .. } => (maxA (args.toList.map ρ)).map fun v => (v, none)
  | _ => none

end Go.Proofs.YtiemjcchlfbglaaGreatE
/- The interpreter: writers, calls, regions, code, functions. -/
namespace Go.Proofs.YtiemjcchlfbglaaGreatE
open Go

/-! ### References: collected, renumbered, frozen -/
mutual
def refsV : AV → List Nat
  | .ptr o _ | .eptr o _ _ | .sl o _ _ => [o]
  | .fn _ a b => refsL a ++ refsL b
  | .iface _ v => refsV v
  | .agg cs => refsL cs
  | .tup vs => refsL vs
  | _ => []
def refsL : List AV → List Nat
  | [] => []
  | v :: l => refsV v ++ refsL l
end
mutual
def mapV (f : Nat → Option Nat) : AV → AV
  | .ptr o off => match f o with | some j => .ptr j off | none => .gone
  | .eptr o i g => match f o with | some j => .eptr j i g | none => .gone
  | .sl o off len => match f o with | some j => .sl j off len | none => .gone
  | .fn g a b => .fn g (mapL f a) (mapL f b)
  | .iface t v => .iface t (mapV f v)
  | .agg cs => .agg (mapL f cs)
  | .tup vs => .tup (mapL f vs)
  | v => v
def mapL (f : Nat → Option Nat) : List AV → List AV
  | [] => []
  | v :: l => mapV f v :: mapL f l
end
def K.typed : K → Bool | .any => false | _ => true
def rowsPure (sh : List K) (rs : List (List AV)) : Bool := sh.all K.typed || rs.all fun r => (refsL r).isEmpty
def mapRows (f : Nat → Option Nat) (sh : List K) (rs : List (List AV)) : List (List AV) :=
  if sh.all K.typed then rs else rs.map (mapL f)
def refsO : AObj → List Nat
  | .box cs => refsL cs
  | .arr _ _ sh rs => if sh.all K.typed then [] else rs.flatMap refsL
  | .tb _ cs => refsL cs
  | _ => []
def mapO (f : Nat → Option Nat) : AObj → AObj
  | .box cs => .box (mapL f cs)
  | .arr md e sh rs => .arr md e sh (mapRows f sh rs)
  | .tb T cs => .tb T (mapL f cs)
  | o => o
def idx (o : Nat) : List Nat → Option Nat
  | [] => none
  | x :: l => if x = o then some 0 else (idx o l).map (· + 1)
def collect (h : List AObj) : Nat → List Nat → List Nat → List Nat
  | 0, _, seen => seen
  | _ + 1, [], seen => seen
  | k + 1, i :: todo, seen =>
    if (idx i seen).isSome then collect h k todo seen
    else match h[i]? with
      | some ob => collect h k (refsO ob ++ todo) (seen ++ [i])
      | none => collect h k todo seen
mutual
def frV (h : List AObj) : AV → AV
  | .sl o off len => match h[o]? with
    | some (.arr _ _ sh rs) => if rowsPure sh rs && decide (off + len ≤ rs.length) then .row false sh ((rs.drop off).take len) else .sl o off len
    | _ => .sl o off len
  | .fn g a b => .fn g (frL h a) (frL h b)
  | .iface t v => .iface t (frV h v)
  | .agg cs => .agg (frL h cs)
  | .tup vs => .tup (frL h vs)
  | v => v
def frL (h : List AObj) : List AV → List AV
  | [] => []
  | v :: l => frV h v :: frL h l
end
mutual
def slsV : AV → List Nat
  | .sl o _ _ => [o]
  | .fn _ a b => slsL a ++ slsL b
  | .iface _ v => slsV v
  | .agg cs => slsL cs
  | .tup vs => slsL vs
  | _ => []
def slsL : List AV → List Nat
  | [] => []
  | v :: l => slsV v ++ slsL l
end
def roO : AObj → AObj
  | .arr _ e sh rs => .arr 0 e sh rs
  | o => o
def mark1 (h : List AObj) (i : Nat) : List AObj :=
  match h[i]? with
  | some ob => h.set i (roO ob)
  | none => h
def markRo (h : List AObj) : List Nat → List AObj
  | [] => h
  | i :: l => markRo (mark1 h i) l

/-! ### Writers -/
def storeA (P : Program) (h : List AObj) (t : TypeId) (a v : AV) : Option (List AObj) :=
  match v.cells? with
  | some new => if new.length = szOf P t ∧ 0 < new.length then match a with
    | .ptr o off => match h[o]? with
      | some (.box cs) => if off + new.length ≤ cs.length then some (h.set o (.box (setAll cs off new))) else none
      | some (.tb T cs) => if off + new.length ≤ cs.length then some (h.set o (.tb T (setAll cs off new))) else none
      | _ => none
    | .eptr o i f => match h[o]? with
      | some (.arr md e sh rs) => if md ≠ 0 ∧ i < rs.length ∧ f + new.length ≤ sh.length ∧ (((sh.drop f).zip new).all fun p => kOk p.1 p.2) = true then
          some (h.set o (.arr md e sh (rs.set i (setAll (rs.getD i []) f new)))) else none
      | _ => none
    | _ => none
    else none
  | none => none
def nextA (h : List AObj) : AV → Option (AV × List AObj)
  | .ptr o 0 => match h[o]? with
    | some (.iter s pos) => if pos < s.size then some (.tup [.bool true, .int .i64 pos, .int .i32 (Utf8.decode s pos).1], h.set o (.iter s (pos + (Utf8.decode s pos).2))) else some (.tup [.bool false], h)
    | _ => none
  | _ => none
def rowsOf (h : List AObj) (sh : List K) : AV → Option (List (List AV))
  | .row _ sh' rs => if sh' = sh then some rs else none
  | .sl o off len => match h[o]? with
    | some (.arr _ _ sh' rs) => if sh' = sh ∧ off + len ≤ rs.length then some ((rs.drop off).take len) else none
    | _ => none
  | .nils => some []
  | .str s => if sh = [.int .u8] then some (bytesRows s.data.toList) else none
  | _ => none
/-- What is appended: the elements of a slice, a string's bytes, so many noughts. -/
def newsOf (P : Program) (h : List AObj) (e : TypeId) (d : TypeDesc) (sh : List K) (z : List AV) (x : AV) : Option (List (List AV)) :=
  match d with
  | .slice _ | .string => rowsOf h sh x
  | .int _ => match x with
    | .int .i64 n => if 0 ≤ n ∧ n ≤ 140737488355328 ∧ n * (P.bytesOf e : Int) ≤ 140737488355328 ∧ ((sh.zip z).all fun p => kOk p.1 p.2) = true then some (List.replicate n.toNat z) else none
    | _ => none
  | _ => none
def appendA (P : Program) (h : List AObj) (ts : List TypeId) (s x : AV) : Option (AV × List AObj) :=
  match ts with
  | [st, xt] => match P.underlying st, P.underlying xt with
    | some (.slice e), some d => match elemSh P e, zeroA P e with
      | some sh, some z => if z.length = sh.length then match newsOf P h e d sh z x with
        | some news => match s with
          | .nils => match news with
            | [] => some (.nils, h)
            | _ => if news.length * P.bytesOf e ≤ 140737488355328 ∧ news.length ≤ 9223372036854775807 then some (.sl h.length 0 news.length, h ++ [.arr 2 e sh news]) else none
          | .sl o 0 len => match h[o]? with
            | some (.arr 2 e' sh' rs) => if e' = e ∧ sh' = sh ∧ len = rs.length ∧ (rs.length + news.length) * P.bytesOf e ≤ 140737488355328 ∧ rs.length + news.length ≤ 9223372036854775807 then
                some (.sl h.length 0 (rs.length + news.length), h.set o .dead ++ [.arr 2 e sh (rs ++ news)]) else none
            | _ => none
          | _ => none
        | none => none
        else none
      | _, _ => none
    | _, _ => none
  | _ => none

/-- A copy's source: how long, its front. -/
def lenS : AV → Option Nat
  | .sl _ _ len => some len
  | .row _ _ rs => some rs.length
  | _ => none
def preS (n : Nat) : AV → AV
  | .sl o off _ => .sl o off n
  | .row nl sh rs => .row nl sh (rs.take n)
  | v => v
def copyA (P : Program) (h : List AObj) (ts : List TypeId) (d x : AV) : Option (AV × List AObj) :=
  match ts with
  | [st, _] => match P.underlying st with
    | some (.slice e) => match elemSh P e, zeroA P e with
      | some sh, some _ => match d with
        | .sl o off len => match h[o]? with
          | some (.arr md e' sh' rs) => match lenS x with
            | some m => match rowsOf h sh (preS (Nat.min m len) x) with
              | some news => if md ≠ 0 ∧ e' = e ∧ sh' = sh ∧ off + len ≤ rs.length ∧ news.length = Nat.min m len then
                  some (.int .i64 (Nat.min m len : Nat), h.set o (.arr md e sh (rs.take off ++ (news ++ rs.drop (off + news.length))))) else none
              | none => none
            | none => none
          | _ => none
        | _ => none
      | _, _ => none
    | _ => none
  | _ => none

/-! ### Calls -/
abbrev CallF := FuncId → List AV → List AObj → Option (AV × List AObj)
def setMany (h : List AObj) : List Nat → List AObj → List AObj
  | i :: σ, ob :: l => setMany (h.set i ob) σ l
  | _, _ => h
/-- No slice as a row of none; the hints say of what. -/
def nl1 (sh : List K) : AV → AV
  | .nils => match sh with | [] => .nils | _ => .row true sh []
  | v => v
def nlL : List (List K) → List AV → List AV
  | sh :: hs, v :: l => nl1 sh v :: nlL hs l
  | [], l => l
  | _ :: _, [] => []
def nlC (hs : List (List K)) : AV → AV
  | .agg cs => .agg (nlL hs cs)
  | v => nl1 (hs.headD []) v
def nlT : List (List (List K)) → List AV → List AV
  | hs :: hss, v :: l => nlC hs v :: nlT hss l
  | [], l => l
  | _ :: _, [] => []
def nlV (hss : List (List (List K))) : AV → AV
  | .tup vs => .tup (nlT hss vs)
  | v => nlC (hss.headD []) v
/-- What a function is told of its arguments: their slices as rows, no slice as a row of none; or as they are. -/
abbrev Fz := Option (List (List (List K)))
def argsF (fz : Fz) (h : List AObj) (args : List AV) : List AV := match fz with | some hss => nlT hss (frL h args) | none => args
def heapF (fz : Fz) (h : List AObj) (args : List AV) : List AObj := match fz with | some _ => markRo h (slsL args) | none => h
def sig (fz : Fz) (h : List AObj) (args : List AV) : List Nat := collect (heapF fz h args) 1000 (refsL (argsF fz h args)) []
def backTo (n : Nat) (σ : List Nat) (m : Nat) (j : Nat) : Option Nat :=
  match σ[j]? with
  | some i => some i
  | none => if j < m then some (n + (j - σ.length)) else none
def callA (F : CallF) (fz : Fz) (h : List AObj) (g : FuncId) (args : List AV) : Option (AV × List AObj) :=
  match F g (mapL (idx · (sig fz h args)) (argsF fz h args)) ((sig fz h args).map fun i => mapO (idx · (sig fz h args)) ((heapF fz h args).getD i .dead)) with
  | some (v, h') =>
    if (sig fz h args).length ≤ h'.length then
      some (mapV (backTo h.length (sig fz h args) h'.length) v,
        setMany (heapF fz h args) (sig fz h args) ((h'.take (sig fz h args).length).map (mapO (backTo h.length (sig fz h args) h'.length))) ++
          (h'.drop (sig fz h args).length).map (mapO (backTo h.length (sig fz h args) h'.length)))
    else none
  | none => none
def target (P : Program) (x : AV) (name : String) : Option (FuncId × AV) :=
  match x with
  | .iface t v => match (P.info? t).bind fun i => i.methods.find? (·.name == name) with
    | some m => if m.path.isEmpty then match m.func, P.underlying t with
      | some (f, true), some (.pointer _) => some (f, v)
      | some (_, false), some (.pointer _) => none
      | some (f, false), some _ => some (f, v)
      | _, _ => none
      else none
    | none => none
  | _ => none
/-- The function that is called, with all its arguments. -/
def calleeA (P : Program) (ρ : Operand → AV) : Op → Option (FuncId × List AV)
  | .call { callee := .value f, args, .. } => match ρ f with
    | .fn (.func g) first caps => some (g, first ++ args.toList.map ρ ++ caps)
    | _ => none
  | .call { callee := .invoke r name, args, .. } => (target P (ρ r) name).map fun p => (p.1, p.2 :: args.toList.map ρ)
  | _ => none

structure S where
  t : List AV
  h : List AObj
structure Ctx where
  P : Program
  F : CallF
  lk : Nat
  n0 : Nat
  keep : Nat → List Nat
  keepX : Nat → Option (List Nat)
  keepR : Option (List Nat)
  abs : Bool
  fz : FuncId → Fz

def ev (t : List AV) : Operand → AV
  | .tmp i => t.getD i .undef
  | .const v => cst v
  | .func f => .fn (.func f) [] []
  | .global _ => .gone
def S.put (st : S) (dst : Option Tmp) (v : AV) (h : List AObj) : S :=
  match dst with
  | some d => ⟨st.t.set d v, h⟩
  | none => ⟨st.t, h⟩
def isWriter (o : Oper) : Bool :=
  match o.op with
  | .store .. | .next .. => true
  | .call { callee := .builtin .append, .. } => true
  | .call { callee := .builtin .copy, .. } => true
  | .call { callee := .builtin _, .. } => false
  | .call _ => true
  | _ => false
def bodied (P : Program) (g : FuncId) : Bool :=
  match P.funcs[g]? with
  | some fn => fn.body.isSome
  | none => false
def wrA (C : Ctx) (ρ : Operand → AV) (h : List AObj) (o : Oper) : Option (AV × List AObj) :=
  match o.op with
  | .store t a v => (storeA C.P h t (ρ a) (ρ v)).map fun h' => (.undef, h')
  | .next it true => nextA h (ρ it)
  | .call { callee := .builtin .append, args, argTypes } => match args.toList with
    | [s, x] => appendA C.P h argTypes.toList (ρ s) (ρ x)
    | _ => none
  | .call { callee := .builtin .copy, args, argTypes } => match args.toList with
    | [s, x] => copyA C.P h argTypes.toList (ρ s) (ρ x)
    | _ => none
  | .call { callee := .builtin _, .. } => none
  | op => match calleeA C.P ρ op with
    | some (g, args) => if bodied C.P g then callA C.F (C.fz g) h g args else none
    | none => none
def opA (C : Ctx) (ρ : Operand → AV) (h : List AObj) (o : Oper) : Option (AV × List AObj) :=
  if isWriter o then wrA C ρ h o else (nwA C.P ρ h h.length o).map fun p => (p.1, h ++ p.2.toList)
def wantedA (ops : Array Oper) (t : List AV) (o : Oper) : Option Bool :=
  match o.guard with
  | none => some true
  | some (j, want) => match (ops[j]?).bind (·.dst) with
    | none => some false
    | some d => match t[d]? with
      | some (.bool b) => some (b == want)
      | some .gone => none
      | _ => some false
def stepA (C : Ctx) (ops : Array Oper) (i : Nat) (st : S) : Option S :=
  match ops[i]? with
  | none => some st
  | some o => match wantedA ops st.t o with
    | some b => if b = true then (opA C (ev st.t) st.h o).map fun p => st.put o.dst p.1 p.2 else some (st.put o.dst .undef st.h)
    | none => none
def runOps (C : Ctx) (ops : Array Oper) : List Nat → S → Option S
  | [], st => some st
  | i :: is, st => (stepA C ops i st).bind (runOps C ops is)

/-! ### Regions that draw: in an order of our own -/
def readObj (ρ : Operand → AV) (o : Oper) : Option Nat :=
  match o.op with
  | .load _ a => match ρ a with | .ptr b _ | .eptr b _ _ => some b | _ => none
  | .indexAddr _ x _ | .slice _ x _ _ _ | .convert _ _ x | .fieldAddr _ x _ => match ρ x with | .sl b _ _ | .ptr b _ | .eptr b _ _ => some b | _ => none
  | _ => none
def touched (C : Ctx) (ρ : Operand → AV) (h : List AObj) (o : Oper) : List Nat :=
  match o.op with
  | .store _ a _ => match ρ a with | .ptr b _ | .eptr b _ _ => [b] | _ => []
  | .next it _ => match ρ it with | .ptr b _ => [b] | _ => []
  | .call { callee := .builtin _, args, .. } => match args.toList with | s :: _ => (match ρ s with | .sl b _ _ => [b] | _ => []) | [] => []
  | op => match calleeA C.P ρ op with | some (g, args) => sig (C.fz g) h args | none => []
def isWr (ops : Array Oper) (i : Nat) : Bool := (ops[i]?).any isWriter
/-- The operations in an order in which what writes nothing comes as early as may be. -/
def canonGo (ops : Array Oper) (bf : Array Nat) : Nat → List Nat → Nat → List Nat → List Nat
  | 0, _, _, acc => acc.reverse
  | k + 1, left, done, acc =>
    let rdy := left.filter fun i => (bf.getD i 0) &&& done == bf.getD i 0
    match (rdy.filter fun i => !isWr ops i) ++ rdy with
    | [] => acc.reverse
    | i :: _ => canonGo ops bf k (left.filter (· != i)) (done ||| 2 ^ i) (i :: acc)
def canon (ops : Array Oper) : List Nat := canonGo ops (Region.before ops) ops.size (List.range ops.size) 0 []
/-- Each stands behind what it waits for; writers wait for one another; the others behind a writer wait for it. 'done': those before, 'wr': the last writer. -/
def canonOk (ops : Array Oper) (bf : Array Nat) : List Nat → Nat → Option Nat → Bool
  | [], done, _ => (List.range ops.size).all fun i => done.testBit i
  | i :: l, done, wr =>
    decide (i < ops.size) && !done.testBit i && ((bf.getD i 0) &&& done == bf.getD i 0) && (match wr with | some j => (bf.getD i 0).testBit j | none => true) &&
      canonOk ops bf l (done ||| 2 ^ i) (if isWr ops i then some i else wr)
/-- Who touches a temporary that another one writes is ordered with it. -/
def tmpOk (ops : Array Oper) (bf : Array Nat) : Bool :=
  (List.range ops.size).all fun j => match ops[j]? with
    | none => true
    | some o => (o.looksAt ops ++ o.dst.toList).all fun t => (List.range ops.size).all fun i => i == j || (match ops[i]? with | some o' => o'.dst != some t || (bf.getD (max i j) 0).testBit (min i j) | none => true)
def runD (C : Ctx) (ops : Array Oper) (bf : Array Nat) : List Nat → List (Nat × Nat) → S → Option S
  | [], _, st => some st
  | i :: is, pend, st =>
    match ops[i]? with
    | none => none
    | some o =>
      match wantedA ops st.t o with
      | some b =>
        if b = true then
          if isWriter o then
            if (pend.all fun p => (bf.getD i 0).testBit p.1 || !(touched C (ev st.t) st.h o).contains p.2) = true then (stepA C ops i st).bind (runD C ops bf is pend) else none
          else (stepA C ops i st).bind (runD C ops bf is ((readObj (ev st.t) o).toList.map (fun b => (i, b)) ++ pend))
        else (stepA C ops i st).bind (runD C ops bf is pend)
      | none => none
def regionA (C : Ctx) (ops : Array Oper) (draw : Bool) (st : S) : Option S :=
  if draw = true then
    if canonOk ops (Region.before ops) (canon ops) 0 none && tmpOk ops (Region.before ops) then runD C ops (Region.before ops) (canon ops) [] st else none
  else runOps C ops (List.range ops.size) st

/-! ### Code -/
inductive Ex where
  | nrm | exit (id : Nat) | ret
  deriving DecidableEq
/-- Of the slots only some are kept. -/
def only : Nat → List Nat → List AV → List AV
  | _, _, [] => []
  | i, [], _ :: t => .gone :: only (i + 1) [] t
  | i, k :: ks, v :: t => if Nat.beq i k = true then v :: only (i + 1) ks t else .gone :: only (i + 1) (k :: ks) t
def rootsN (h : List AObj) (n0 : Nat) : List Nat := (List.range n0).flatMap fun i => refsO (h.getD i .dead)
def gcS (n0 : Nat) (keep : List Nat) (st : S) : S :=
  let t := only 0 keep st.t
  let σ := collect st.h 1000 (rootsN st.h n0 ++ refsL t) (List.range n0)
  ⟨mapL (idx · σ) t, σ.map fun i => mapO (idx · σ) (st.h.getD i .dead)⟩
def gcO (n0 : Nat) : Option (List Nat) → S → S
  | none, st => st
  | some l, st => gcS n0 l st
/-- A loop is known by the first region inside. -/
def firstR : Code → Nat
  | .region id _ _ => id
  | .seq a _ => firstR a
  | .block _ c => firstR c
  | .loop c => firstR c
  | _ => 0
def iter (body : S → Option (Ex × S)) (cl : S → S) : Nat → S → Option (Ex × S)
  | 0, _ => none
  | n + 1, st => match body (cl st) with
    | some (.nrm, st') => iter body cl n st'
    | r => r
def exec (C : Ctx) : Code → S → Option (Ex × S)
  | .skip, st => some (.nrm, st)
  | .region _ ops draw, st => (regionA C ops draw st).map fun st' => (.nrm, st')
  | .seq a b, st => match exec C a st with
    | some (.nrm, st') => exec C b st'
    | r => r
  | .cond c x y, st => match ev st.t c with
    | .bool b => if b = true then exec C x st else exec C y st
    | _ => none
  | .block id c, st => match exec C c st with
    | some (.exit j, st') => if j = id then some (.nrm, st') else some (.exit j, st')
    | r => r
  | .loop c, st => iter (exec C c) (gcS C.n0 (C.keep (firstR c))) C.lk st
  | .exit id, st => some (.exit id, gcO C.n0 (C.keepX id) st)
  | .ret, st => some (.ret, gcO C.n0 C.keepR st)
  | _, _ => none
def resA (P : Program) (st : S) : ResultVar → Option AV
  | .tmp t => some (st.t.getD t .undef)
  | .cell a t => loadA P st.h t (st.t.getD a .undef)
def resultsA (P : Program) (st : S) : List ResultVar → Option AV
  | [r] => resA P st r
  | rs => (rs.mapM (resA P st)).map .tup
def finish (n0 : Nat) (frz : Option (List (List (List K)))) (h : List AObj) (v : AV) : AV × List AObj :=
  let v1 := match frz with | some hss => nlV hss (frV h v) | none => v
  let h1 := match frz with | some _ => markRo h (slsV v) | none => h
  let σ := collect h1 1000 (rootsN h1 n0 ++ refsV v1) (List.range n0)
  (mapV (idx · σ) v1, σ.map fun i => mapO (idx · σ) (h1.getD i .dead))
structure Hints where
  keep : FuncId → Nat → List Nat
  keepX : FuncId → Nat → Option (List Nat)
  keepR : FuncId → Option (List Nat)
  abs : FuncId → Bool
  frz : FuncId → Option (List (List (List K)))
  fz : FuncId → Fz
  prim : FuncId → Option (List AV → List AObj → Option (AV × List AObj))
/-- What a call of function f answers, and what becomes of the objects that it was given. -/
def run (P : Program) (H : Hints) : Nat → CallF
  | 0, _, _, _ => none
  | k + 1, f, args, h => match H.prim f with
    | some p => p args h
    | none => match P.funcs[f]? with
    | some fn => match fn.body with
      | some c => match exec ⟨P, run P H k, k, h.length, H.keep f, H.keepX f, H.keepR f, H.abs f, H.fz⟩ c ⟨args ++ List.replicate (fn.ntmps - args.length) .undef, h⟩ with
        | some (.nrm, st) | some (.ret, st) => (resultsA P st fn.results.toList).map fun v => finish h.length (H.frz f) st.h v
        | _ => none
      | none => none
    | none => none

end Go.Proofs.YtiemjcchlfbglaaGreatE
/- How the interpreter's values and objects stand to the model's; what a step may change. -/
namespace Go.Proofs.YtiemjcchlfbglaaGreatE
open Go

structure En where
  ι : Nat → Option (Nat × Nat)
  h : List AObj
  w : World
  X : Nat → Prop

def AObj.mut : AObj → Bool
  | .box _ | .iter _ _ | .tb _ _ => true
  | .arr md _ _ _ => md != 0
  | .dead => false
def AObj.cls : AObj → Nat × List K
  | .box _ => (0, [])
  | .arr _ _ sh _ => (1, sh)
  | .iter _ _ => (2, [])
  | .dead => (3, [])
  | .tb _ _ => (4, [])

/-- A block that nobody here writes to any more; X: those that others may write to. -/
def En.quiet (E : En) (b : Nat) : Prop := b < E.w.heap.size ∧ ∀ o c ob, E.ι o = some (b, c) → E.h[o]? = some ob → ob.mut = false
def En.still (E : En) (b : Nat) : Prop := E.quiet b ∧ ¬ E.X b
def pureR (sh : List K) (r : List AV) : Bool := sh.all K.typed || (refsL r).isEmpty
def rowOk (sh : List K) (r : List AV) : Prop := r.length = sh.length ∧ ((sh.zip r).all fun p => kOk p.1 p.2) = true

mutual
def VR (E : En) : AV → Value → Prop
  | .int k n, cv => cv = .int k n
  | .bool b, cv => cv = .bool b
  | .str s, cv => cv = .string s
  | .nilp, cv => cv = .pointer none
  | .ptr o off, cv => match E.h[o]? with
    | some (.box _) | some (.iter _ _) | some (.tb _ _) => ∃ b c, E.ι o = some (b, c) ∧ cv = .pointer (some ⟨b, off, none⟩)
    | some .dead => ∃ a, cv = .pointer (some a)
    | _ => False
  | .eptr o i f, cv => match E.h[o]? with
    | some (.arr _ _ sh _) => ∃ b c, E.ι o = some (b, c) ∧ cv = .pointer (some ⟨b, i * sh.length + f, none⟩)
    | some .dead => ∃ a, cv = .pointer (some a)
    | _ => False
  | .rptr sh cs f, cv => ∃ b off, cv = .pointer (some ⟨b, off + f, none⟩) ∧ E.still b ∧ rowOk sh cs ∧ pureR sh cs = true ∧ CR E b off cs
  | .nils, cv => cv = .slice none 0 0
  | .sl o off len, cv => match E.h[o]? with
    | some (.arr _ _ sh rs) => ∃ b c cap, E.ι o = some (b, c) ∧ cv = .slice (some ⟨b, off * sh.length, none⟩) len cap ∧ len ≤ cap ∧ off + cap = c ∧ off + len ≤ rs.length
    | some .dead => ∃ a cap, cv = .slice (some a) len cap
    | _ => False
  | .row nl sh rs, cv => ∃ a cap, cv = .slice a rs.length cap ∧ rs.length ≤ cap ∧ cap ≤ maxLen ∧ (nl = true → a = none ∧ cap = 0) ∧ (nl = false → a ≠ none) ∧
      (rs = [] ∨ 0 < sh.length ∧ ∃ b off, a = some ⟨b, off, none⟩ ∧ E.still b ∧ (∀ r ∈ rs, rowOk sh r) ∧ (∀ r ∈ rs, pureR sh r = true) ∧ RR E b sh.length off rs)
  | .fn f a b, cv => ∃ x y, cv = .func f x y ∧ VL E a x.toList ∧ VL E b y.toList
  | .nilf, cv => cv = .nilFunc
  | .iface t v, cv => ∃ u, cv = .iface t u ∧ VR E v u
  | .nili, cv => cv = .nilIface
  | .agg cs, cv => ∃ a, cv = .agg a ∧ VL E cs a.toList ∧ ∀ x ∈ a.toList, x.oneCell' = true
  | .tup vs, cv => ∃ a, cv = .tuple a ∧ VL E vs a.toList
  | .gone, _ => True
def VL (E : En) : List AV → List Value → Prop
  | [], [] => True
  | v :: vs, c :: cs => VR E v c ∧ VL E vs cs
  | _, _ => False
def CR (E : En) (b : Nat) : Nat → List AV → Prop
  | _, [] => True
  | off, c :: cs => (∃ cv, E.w.cell? ⟨b, off, none⟩ = some cv ∧ cv.oneCell' = true ∧ VR E c cv) ∧ CR E b (off + 1) cs
def RR (E : En) (b n : Nat) : Nat → List (List AV) → Prop
  | _, [] => True
  | off, r :: rs => CR E b off r ∧ RR E b n (off + n) rs
end

/-- An object stands in block b; c: how many elements the block has room for. -/
def OR (E : En) (b c : Nat) : AObj → Prop
  | .box cs => ∃ a e, E.w.heap[b]? = some (.cells a e (0, 0)) ∧ VL E cs a.toList ∧ ∀ x ∈ a.toList, x.oneCell' = true
  | .arr md e sh rs => 0 < sh.length ∧ ∃ a lo hi, E.w.heap[b]? = some (.cells a e (lo, hi)) ∧ a.size = c * sh.length ∧ rs.length ≤ c ∧ c ≤ maxLen ∧
      (∀ r ∈ rs, rowOk sh r) ∧ RR E b sh.length 0 rs ∧ (md = 2 → lo = 0 ∧ hi = 0) ∧ (∀ i, i < a.size → ¬ (lo ≤ i ∧ i < hi))
  | .iter s p => E.w.heap[b]? = some (.stringIter s p)
  | .tb T cs => ∃ a, E.w.heap[b]? = some (.cells a T (0, 0)) ∧ VL E cs a.toList ∧ ∀ x ∈ a.toList, x.oneCell' = true
  | .dead => True

structure Sim (E : En) : Prop where
  inj : ∀ i j b c d, E.ι i = some (b, c) → E.ι j = some (b, d) → i = j
  lt : ∀ i b c, E.ι i = some (b, c) → i < E.h.length ∧ b < E.w.heap.size
  obj : ∀ i b c ob, E.ι i = some (b, c) → E.h[i]? = some ob → OR E b c ob
  nx : ∀ i b c, E.ι i = some (b, c) → ¬ E.X b
  xlt : ∀ b, E.X b → b < E.w.heap.size

/-- What may change for values to stand as they stood. -/
structure Ext (E E' : En) : Prop where
  cls : ∀ o ob, E.h[o]? = some ob → ∃ ob', E'.h[o]? = some ob' ∧ (ob' = .dead ∨ (ob.cls = ob'.cls ∧ (∀ p, E.ι o = some p → E'.ι o = some p) ∧ (∀ md e sh rs md' e' sh' rs', ob = .arr md e sh rs → ob' = .arr md' e' sh' rs' → rs.length = rs'.length)))
  st : ∀ b, E.quiet b → E'.quiet b ∧ E'.w.heap[b]? = E.w.heap[b]?
  rng : ∀ j b c, E'.ι j = some (b, c) → E.w.heap.size ≤ b ∨ ∃ i d, E.ι i = some (b, d)
  sz : E.w.heap.size ≤ E'.w.heap.size
  ex : E'.X = E.X

theorem Ext.refl (E : En) : Ext E E :=
  ⟨fun o ob h => ⟨ob, h, .inr ⟨rfl, fun _ h => h, fun _ _ _ _ _ _ _ _ h1 h2 => by rw [h1] at h2; cases h2; rfl⟩⟩, fun _ h => ⟨h, rfl⟩, fun j _ c h => .inr ⟨j, c, h⟩, Nat.le_refl _, rfl⟩

theorem Ext.still {E E' : En} (x : Ext E E') {b : Nat} (h : E.still b) : E'.still b ∧ E'.w.heap[b]? = E.w.heap[b]? :=
  ⟨⟨(x.st b h.1).1, by rw [x.ex]; exact h.2⟩, (x.st b h.1).2⟩

theorem Ext.trans {A B C : En} (h : Ext A B) (k : Ext B C) : Ext A C := by
  refine ⟨fun o ob ho => ?_, fun b hb => ?_, fun j b c hj => ?_, Nat.le_trans h.sz k.sz, k.ex.trans h.ex⟩
  · obtain ⟨ob1, h1, hd⟩ := h.cls o ob ho
    obtain ⟨ob2, h2, kd⟩ := k.cls o ob1 h1
    refine ⟨ob2, h2, ?_⟩
    rcases kd with kd | ⟨k1, k2, k3⟩
    · exact .inl kd
    · rcases hd with rfl | ⟨d1, d2, d3⟩
      · left
        cases ob2 <;> simp [AObj.cls] at k1
        rfl
      · refine .inr ⟨d1.trans k1, fun p hp => k2 p (d2 p hp), fun md e sh rs md' e' sh' rs' e1 e2 => ?_⟩
        subst e1; subst e2
        cases ob1 <;> simp [AObj.cls] at d1
        rename_i md1 e1 sh1 rs1
        exact (d3 _ _ _ _ _ _ _ _ rfl rfl).trans (k3 _ _ _ _ _ _ _ _ rfl rfl)
  · obtain ⟨h1, h2⟩ := h.st b hb
    obtain ⟨k1, k2⟩ := k.st b h1
    exact ⟨k1, k2.trans h2⟩
  · rcases k.rng j b c hj with h1 | ⟨i, d, h1⟩
    · exact .inl (Nat.le_trans h.sz h1)
    · exact h.rng i b d h1

theorem cell_eq {w w' : World} {b off : Nat} (h : w'.heap[b]? = w.heap[b]?) : w'.cell? ⟨b, off, none⟩ = w.cell? ⟨b, off, none⟩ := by
  simp [World.cell?, h]

theorem cls_box {o : AObj} {cs : List AV} (h : (AObj.box cs).cls = o.cls) : ∃ cs', o = .box cs' := by
  cases o <;> simp [AObj.cls] at h
  exact ⟨_, rfl⟩
theorem cls_iter {o : AObj} {s : ByteArray} {p : Nat} (h : (AObj.iter s p).cls = o.cls) : ∃ s' p', o = .iter s' p' := by
  cases o <;> simp [AObj.cls] at h
  exact ⟨_, _, rfl⟩
theorem cls_tb {o : AObj} {T : TypeId} {cs : List AV} (h : (AObj.tb T cs).cls = o.cls) : ∃ T' cs', o = .tb T' cs' := by
  cases o <;> simp [AObj.cls] at h
  exact ⟨_, _, rfl⟩
theorem cls_arr {o : AObj} {md : Nat} {e : TypeId} {sh : List K} {rs : List (List AV)} (h : (AObj.arr md e sh rs).cls = o.cls) : ∃ md' e' rs', o = .arr md' e' sh rs' := by
  cases o <;> simp [AObj.cls] at h
  subst h
  exact ⟨_, _, _, rfl⟩
theorem cls_dead {o : AObj} (h : AObj.dead.cls = o.cls) : o = .dead := by
  cases o <;> simp [AObj.cls] at h
  rfl

mutual
theorem VR.ext {E E' : En} (x : Ext E E') : ∀ (v : AV) (cv : Value), VR E v cv → VR E' v cv
  | .int _ _, _, h | .bool _, _, h | .str _, _, h | .nilp, _, h | .nils, _, h | .nilf, _, h | .nili, _, h => by simpa only [VR] using h
  | .gone, _, _ => by simp only [VR]
  | .ptr o off, cv, h => by
    simp only [VR] at h ⊢
    cases ho : E.h[o]? with
    | none => simp [ho] at h
    | some ob =>
      obtain ⟨ob', h', hd⟩ := x.cls o ob ho
      rw [h']
      cases ob with
      | arr => simp [ho] at h
      | dead =>
        simp only [ho] at h
        rcases hd with rfl | ⟨hc, _⟩
        · exact h
        · rw [cls_dead hc]; exact h
      | box cs =>
        simp only [ho] at h
        obtain ⟨b, c, h1, rfl⟩ := h
        rcases hd with rfl | ⟨hc, hι, _⟩
        · exact ⟨_, rfl⟩
        · obtain ⟨cs', rfl⟩ := cls_box hc
          exact ⟨b, c, hι _ h1, rfl⟩
      | iter s p =>
        simp only [ho] at h
        obtain ⟨b, c, h1, rfl⟩ := h
        rcases hd with rfl | ⟨hc, hι, _⟩
        · exact ⟨_, rfl⟩
        · obtain ⟨_, _, rfl⟩ := cls_iter hc
          exact ⟨b, c, hι _ h1, rfl⟩
      | tb T cs =>
        simp only [ho] at h
        obtain ⟨b, c, h1, rfl⟩ := h
        rcases hd with rfl | ⟨hc, hι, _⟩
        · exact ⟨_, rfl⟩
        · obtain ⟨_, _, rfl⟩ := cls_tb hc
          exact ⟨b, c, hι _ h1, rfl⟩
  | .eptr o i f, cv, h => by
    simp only [VR] at h ⊢
    cases ho : E.h[o]? with
    | none => simp [ho] at h
    | some ob =>
      obtain ⟨ob', h', hd⟩ := x.cls o ob ho
      rw [h']
      cases ob with
      | box => simp [ho] at h
      | iter => simp [ho] at h
      | tb => simp [ho] at h
      | dead =>
        simp only [ho] at h
        rcases hd with rfl | ⟨hc, _⟩
        · exact h
        · rw [cls_dead hc]; exact h
      | arr md e sh rs =>
        simp only [ho] at h
        obtain ⟨b, c, h1, rfl⟩ := h
        rcases hd with rfl | ⟨hc, hι, _⟩
        · exact ⟨_, rfl⟩
        · obtain ⟨_, _, _, rfl⟩ := cls_arr hc
          exact ⟨b, c, hι _ h1, rfl⟩
  | .sl o off len, cv, h => by
    simp only [VR] at h ⊢
    cases ho : E.h[o]? with
    | none => simp [ho] at h
    | some ob =>
      obtain ⟨ob', h', hd⟩ := x.cls o ob ho
      rw [h']
      cases ob with
      | box => simp [ho] at h
      | iter => simp [ho] at h
      | tb => simp [ho] at h
      | dead =>
        simp only [ho] at h
        rcases hd with rfl | ⟨hc, _⟩
        · exact h
        · rw [cls_dead hc]; exact h
      | arr md e sh rs =>
        simp only [ho] at h
        obtain ⟨b, c, cap, h1, rfl, h2, h3, h4⟩ := h
        rcases hd with rfl | ⟨hc, hι, hl⟩
        · exact ⟨_, _, rfl⟩
        · obtain ⟨_, _, _, rfl⟩ := cls_arr hc
          exact ⟨b, c, cap, hι _ h1, rfl, h2, h3, by rw [← hl _ _ _ _ _ _ _ _ rfl rfl]; exact h4⟩
  | .rptr sh cs f, cv, h => by
    simp only [VR] at h ⊢
    obtain ⟨b, off, rfl, hs, hk, hp, hc⟩ := h
    exact ⟨b, off, rfl, (x.still hs).1, hk, hp, CR.ext x (x.still hs).2 cs off hc⟩
  | .row nl sh rs, cv, h => by
    simp only [VR] at h ⊢
    obtain ⟨a, cap, rfl, h1, h2, h4, h5, h3⟩ := h
    refine ⟨a, cap, rfl, h1, h2, h4, h5, ?_⟩
    rcases h3 with h3 | ⟨h0, b, off, rfl, hs, hk, hp, hr⟩
    · exact .inl h3
    · exact .inr ⟨h0, b, off, rfl, (x.still hs).1, hk, hp, RR.ext x (x.still hs).2 rs off hr⟩
  | .fn f a b, cv, h => by
    simp only [VR] at h ⊢
    obtain ⟨p, q, rfl, h1, h2⟩ := h
    exact ⟨p, q, rfl, VL.ext x a _ h1, VL.ext x b _ h2⟩
  | .iface t v, cv, h => by
    simp only [VR] at h ⊢
    obtain ⟨u, rfl, h1⟩ := h
    exact ⟨u, rfl, VR.ext x v u h1⟩
  | .agg cs, cv, h => by
    simp only [VR] at h ⊢
    obtain ⟨a, rfl, h1, h2⟩ := h
    exact ⟨a, rfl, VL.ext x cs _ h1, h2⟩
  | .tup cs, cv, h => by
    simp only [VR] at h ⊢
    obtain ⟨a, rfl, h1⟩ := h
    exact ⟨a, rfl, VL.ext x cs _ h1⟩
theorem VL.ext {E E' : En} (x : Ext E E') : ∀ (vs : List AV) (cs : List Value), VL E vs cs → VL E' vs cs
  | [], [], _ => by simp only [VL]
  | [], _ :: _, h => by simp [VL] at h
  | _ :: _, [], h => by simp [VL] at h
  | v :: vs, c :: cs, h => by
    simp only [VL] at h ⊢
    exact ⟨VR.ext x v c h.1, VL.ext x vs cs h.2⟩
theorem CR.ext {E E' : En} (x : Ext E E') {b : Nat} (hb : E'.w.heap[b]? = E.w.heap[b]?) : ∀ (cs : List AV) (off : Nat), CR E b off cs → CR E' b off cs
  | [], _, _ => by simp only [CR]
  | c :: cs, off, h => by
    simp only [CR] at h ⊢
    obtain ⟨⟨cv, h1, h2, h3⟩, h4⟩ := h
    exact ⟨⟨cv, by rw [cell_eq hb]; exact h1, h2, VR.ext x c cv h3⟩, CR.ext x hb cs (off + 1) h4⟩
theorem RR.ext {E E' : En} (x : Ext E E') {b n : Nat} (hb : E'.w.heap[b]? = E.w.heap[b]?) : ∀ (rs : List (List AV)) (off : Nat), RR E b n off rs → RR E' b n off rs
  | [], _, _ => by simp only [RR]
  | r :: rs, off, h => by
    simp only [RR] at h ⊢
    exact ⟨CR.ext x hb r off h.1, RR.ext x hb rs (off + n) h.2⟩
end

theorem OR.ext {E E' : En} (x : Ext E E') {b c : Nat} (hb : E'.w.heap[b]? = E.w.heap[b]?) : ∀ (ob : AObj), OR E b c ob → OR E' b c ob
  | .box cs, ⟨a, e, h1, h2, h3⟩ => ⟨a, e, by rw [hb]; exact h1, VL.ext x cs _ h2, h3⟩
  | .arr md e sh rs, ⟨h0, a, lo, hi, h1, h2, h3, h4, h5, h6, h7⟩ => ⟨h0, a, lo, hi, by rw [hb]; exact h1, h2, h3, h4, h5, RR.ext x hb rs 0 h6, h7⟩
  | .iter s p, h => by simp only [OR] at h ⊢; rw [hb]; exact h
  | .tb T cs, ⟨a, h1, h2, h3⟩ => ⟨a, by rw [hb]; exact h1, VL.ext x cs _ h2, h3⟩
  | .dead, _ => trivial

/-! ### Lists -/
theorem VL.len {E : En} : ∀ {vs : List AV} {cs : List Value}, VL E vs cs → vs.length = cs.length
  | [], [], _ => rfl
  | [], _ :: _, h => by simp [VL] at h
  | _ :: _, [], h => by simp [VL] at h
  | _ :: vs, _ :: cs, h => by
    simp only [VL] at h
    simp [VL.len h.2]
theorem VL.get {E : En} : ∀ {vs : List AV} {cs : List Value}, VL E vs cs → ∀ (i : Nat) (v : AV), vs[i]? = some v → ∃ c, cs[i]? = some c ∧ VR E v c
  | [], [], _, i, v, hv => by simp at hv
  | [], _ :: _, h, _, _, _ => by simp [VL] at h
  | _ :: _, [], h, _, _, _ => by simp [VL] at h
  | u :: vs, c :: cs, h, i, v, hv => by
    simp only [VL] at h
    cases i with
    | zero => simp at hv; subst hv; exact ⟨c, rfl, h.1⟩
    | succ i => simp at hv ⊢; exact VL.get h.2 i v hv
theorem VL.of {E : En} : ∀ {vs : List AV} {cs : List Value}, vs.length = cs.length → (∀ (i : Nat) (v : AV) (c : Value), vs[i]? = some v → cs[i]? = some c → VR E v c) → VL E vs cs
  | [], [], _, _ => by simp only [VL]
  | [], _ :: _, h, _ => by simp at h
  | _ :: _, [], h, _ => by simp at h
  | v :: vs, c :: cs, h, k => by
    simp only [VL]
    exact ⟨k 0 v c rfl rfl, VL.of (by simpa using h) fun i u d hu hd => k (i + 1) u d (by simpa using hu) (by simpa using hd)⟩
theorem VL.take {E : En} {vs : List AV} {cs : List Value} (h : VL E vs cs) (n : Nat) : VL E (vs.take n) (cs.take n) :=
  VL.of (by simp [h.len]) fun i v c hv hc => by
    simp only [List.getElem?_take] at hv hc
    split at hv
    · rename_i hi; simp only [hi, if_true] at hc
      obtain ⟨d, hd, hr⟩ := h.get i v hv
      rw [hd] at hc; cases hc; exact hr
    · cases hv
theorem VL.drop {E : En} {vs : List AV} {cs : List Value} (h : VL E vs cs) (n : Nat) : VL E (vs.drop n) (cs.drop n) :=
  VL.of (by simp [h.len]) fun i v c hv hc => by
    simp only [List.getElem?_drop] at hv hc
    obtain ⟨d, hd, hr⟩ := h.get _ v hv
    rw [hd] at hc; cases hc; exact hr
theorem VL.app {E : En} : ∀ {vs : List AV} {cs : List Value} {us : List AV} {ds : List Value}, VL E vs cs → VL E us ds → VL E (vs ++ us) (cs ++ ds)
  | [], [], _, _, _, k => by simpa using k
  | [], _ :: _, _, _, h, _ => by simp [VL] at h
  | _ :: _, [], _, _, h, _ => by simp [VL] at h
  | v :: vs, c :: cs, us, ds, h, k => by
    simp only [VL, List.cons_append] at h ⊢
    exact ⟨h.1, VL.app h.2 k⟩
theorem VL.set {E : En} {vs : List AV} {cs : List Value} (h : VL E vs cs) (i : Nat) {v : AV} {c : Value} (hv : VR E v c) : VL E (vs.set i v) (cs.set i c) :=
  VL.of (by simp [h.len]) fun j u d hu hd => by
    simp only [List.getElem?_set] at hu hd
    by_cases hij : i = j
    · subst hij
      simp only [if_true] at hu hd
      split at hu
      · rename_i hl; cases hu; rw [if_pos (by rw [← h.len]; exact hl)] at hd; cases hd; exact hv
      · cases hu
    · simp only [hij, if_false] at hu hd
      obtain ⟨d', hd', hr⟩ := h.get j u hu
      rw [hd'] at hd; cases hd; exact hr
theorem CR.get {E : En} {b : Nat} : ∀ {cs : List AV} {off : Nat}, CR E b off cs → ∀ (i : Nat) (v : AV), cs[i]? = some v → ∃ cv, E.w.cell? ⟨b, off + i, none⟩ = some cv ∧ cv.oneCell' = true ∧ VR E v cv
  | [], _, _, i, v, hv => by simp at hv
  | c :: cs, off, h, i, v, hv => by
    simp only [CR] at h
    cases i with
    | zero => simp at hv; subst hv; exact h.1
    | succ i =>
      simp at hv
      have := CR.get h.2 i v hv
      rw [show off + (i + 1) = off + 1 + i from by omega]; exact this
theorem CR.of {E : En} {b : Nat} : ∀ {cs : List AV} {off : Nat}, (∀ (i : Nat) (v : AV), cs[i]? = some v → ∃ cv, E.w.cell? ⟨b, off + i, none⟩ = some cv ∧ cv.oneCell' = true ∧ VR E v cv) → CR E b off cs
  | [], _, _ => by simp only [CR]
  | c :: cs, off, h => by
    simp only [CR]
    refine ⟨h 0 c rfl, CR.of fun i v hv => ?_⟩
    have := h (i + 1) v (by simpa using hv)
    rw [show off + 1 + i = off + (i + 1) from by omega]; exact this
theorem RR.get {E : En} {b n : Nat} : ∀ {rs : List (List AV)} {off : Nat}, RR E b n off rs → ∀ (i : Nat) (r : List AV), rs[i]? = some r → CR E b (off + i * n) r
  | [], _, _, i, v, hv => by simp at hv
  | r :: rs, off, h, i, v, hv => by
    simp only [RR] at h
    cases i with
    | zero => simp at hv; subst hv; simpa using h.1
    | succ i =>
      simp at hv
      have := RR.get h.2 i v hv
      rw [Nat.succ_mul, show off + (i * n + n) = off + n + i * n from by omega]; exact this
theorem RR.of {E : En} {b n : Nat} : ∀ {rs : List (List AV)} {off : Nat}, (∀ (i : Nat) (r : List AV), rs[i]? = some r → CR E b (off + i * n) r) → RR E b n off rs
  | [], _, _ => by simp only [RR]
  | r :: rs, off, h => by
    simp only [RR]
    refine ⟨by simpa using h 0 r rfl, RR.of fun i v hv => ?_⟩
    have := h (i + 1) v (by simpa using hv)
    rw [show off + n + i * n = off + (i + 1) * n from by rw [Nat.succ_mul]; omega]; exact this

end Go.Proofs.YtiemjcchlfbglaaGreatE
/- Operations that write nothing that was there: what the interpreter answers, the model answers. -/
namespace Go.Proofs.YtiemjcchlfbglaaGreatE
open Go

section
variable {P : Program}

theorem info_of {t : TypeId} {d : TypeDesc} (h : P.underlying t = some d) : ∃ i, P.info? t = some i := by
  unfold Program.underlying at h
  cases hi : P.info? t with
  | none => simp [hi] at h
  | some i => exact ⟨i, rfl⟩
theorem run_size {t : TypeId} {d : TypeDesc} (h : P.underlying t = some d) (w : World) : (sizeOf t).run P w = .ok (szOf P t) w := by
  obtain ⟨i, hi⟩ := info_of h
  simp [sizeOf, typeInfo, hi, szOf, Program.cellsOf]
theorem run_size' {t : TypeId} (h : szOf P t ≠ 0) (w : World) : (sizeOf t).run P w = .ok (szOf P t) w := by
  cases hi : P.info? t with
  | none => simp [szOf, Program.cellsOf, hi] at h
  | some i => simp [sizeOf, typeInfo, hi, szOf, Program.cellsOf]
theorem isAgg_some {t : TypeId} {b : Bool} (h : isAggT P t = some b) : ∃ d, P.underlying t = some d := by
  unfold isAggT at h
  cases hd : P.underlying t with
  | none => simp [hd] at h
  | some d => exact ⟨d, rfl⟩
theorem run_isAggT {t : TypeId} {b : Bool} (h : isAggT P t = some b) (w : World) : (isAgg t).run P w = .ok b w := by
  obtain ⟨d, hd⟩ := isAgg_some h
  unfold isAggT at h
  rw [hd] at h
  cases d <;> simp at h <;> subst h <;> simp [isAgg, run_underlying hd]
end

section
variable {E : En}

theorem rdK_ok {k : K} {v : AV} (h : kOk k v = true) : rdK k v = v := by
  cases k with
  | int k => cases v <;> simp [kOk] at h; subst h; rfl
  | bool => cases v <;> simp [kOk] at h; rfl
  | str => cases v <;> simp [kOk] at h; rfl
  | any => rfl
theorem rowOk.k {sh : List K} {r : List AV} (h : rowOk sh r) {j : Nat} {k : K} {v : AV} (hk : sh[j]? = some k) (hv : r[j]? = some v) : kOk k v = true := by
  have := h.2
  rw [List.all_eq_true] at this
  have hz : (sh.zip r)[j]? = some (k, v) := by simp [List.getElem?_zip_eq_some, hk, hv]
  exact this _ (List.mem_of_getElem? hz)
theorem rowCells_eq {sh : List K} {cs : List AV} {f n : Nat} (h : rowOk sh cs) (hf : f + n ≤ sh.length) : rowCells sh cs f n = (cs.drop f).take n := by
  apply List.ext_getElem?
  intro j
  unfold rowCells
  rw [List.getElem?_map, List.getElem?_take, List.getElem?_drop]
  by_cases hj : j < n
  · rw [if_pos hj, List.getElem?_range hj]
    have h1 : f + j < sh.length := by omega
    have h2 : f + j < cs.length := by rw [h.1]; exact h1
    have hk : sh[f + j]? = some sh[f + j] := List.getElem?_eq_getElem h1
    have hv : cs[f + j]? = some cs[f + j] := List.getElem?_eq_getElem h2
    simp only [Option.map_some, List.getD_eq_getElem?_getD, hk, hv, Option.getD_some, rdK_ok (h.k hk hv)]
  · rw [if_neg hj, List.getElem?_eq_none (by simp; omega)]
    rfl

theorem VR.one {v : AV} {cv : Value} (h : VR E v cv) (ha : ∀ cs, v ≠ .agg cs) (ht : ∀ vs, v ≠ .tup vs) (hg : v ≠ .gone) : cv.oneCell' = true := by
  cases v with
  | agg cs => exact absurd rfl (ha cs)
  | tup vs => exact absurd rfl (ht vs)
  | gone => exact absurd rfl hg
  | ptr o off =>
    simp only [VR] at h
    cases ho : E.h[o]? with
    | none => simp [ho] at h
    | some ob =>
      cases ob <;> simp [ho] at h
      · obtain ⟨_, ⟨_, _⟩, rfl⟩ := h; rfl
      · obtain ⟨_, ⟨_, _⟩, rfl⟩ := h; rfl
      · obtain ⟨_, rfl⟩ := h; rfl
      · obtain ⟨_, ⟨_, _⟩, rfl⟩ := h; rfl
  | eptr o i f =>
    simp only [VR] at h
    cases ho : E.h[o]? with
    | none => simp [ho] at h
    | some ob =>
      cases ob <;> simp [ho] at h
      · obtain ⟨_, ⟨_, _⟩, rfl⟩ := h; rfl
      · obtain ⟨_, rfl⟩ := h; rfl
  | sl o i f =>
    simp only [VR] at h
    cases ho : E.h[o]? with
    | none => simp [ho] at h
    | some ob =>
      cases ob <;> simp [ho] at h
      · obtain ⟨_, _, _, _, rfl, _⟩ := h; rfl
      · obtain ⟨_, _, rfl⟩ := h; rfl
  | int | bool | str | nilp | nils | nilf | nili => simp only [VR] at h; subst h; rfl
  | rptr => simp only [VR] at h; obtain ⟨_, _, rfl, _⟩ := h; rfl
  | row => simp only [VR] at h; obtain ⟨_, _, rfl, _⟩ := h; rfl
  | fn => simp only [VR] at h; obtain ⟨_, _, rfl, _⟩ := h; rfl
  | iface => simp only [VR] at h; obtain ⟨_, rfl, _⟩ := h; rfl

theorem cells_one {cv : Value} (h : cv.oneCell' = true) : cv.cells = #[cv] := by
  cases cv <;> simp [Value.oneCell'] at h <;> rfl

/-- The cells of a value. -/
theorem cells_ok {v : AV} {cv : Value} {cs : List AV} (h : VR E v cv) (hc : v.cells? = some cs) : VL E cs cv.cells.toList ∧ ∀ x ∈ cv.cells.toList, x.oneCell' = true := by
  cases v with
  | agg l =>
    simp only [AV.cells?, Option.some.injEq] at hc
    subst hc
    simp only [VR] at h
    obtain ⟨a, rfl, h1, h2⟩ := h
    exact ⟨h1, h2⟩
  | tup => simp [AV.cells?] at hc
  | gone => simp [AV.cells?] at hc
  | _ =>
    have h1 := h.one (by simp) (by simp) (by simp)
    simp only [AV.cells?, Option.some.injEq] at hc
    subst hc
    rw [cells_one h1]
    exact ⟨by simp [VL, h], by simpa using h1⟩

theorem cst0_ok (v : Value) : VR E (cst0 v) v := by
  unfold cst0
  split <;> simp [VR]
theorem cst_ok (v : Value) : VR E (cst v) v := by
  unfold cst
  split
  · split
    · rename_i cs h
      simp only [VR]
      refine ⟨cs, rfl, VL.of (by simp) fun i u c hu hc => ?_, by rw [List.all_eq_true] at h; exact h⟩
      rw [List.getElem?_map, hc] at hu
      simp at hu
      subst hu
      exact cst0_ok c
    · simp [VR]
  · split
    · rename_i vs h
      have : vs = #[] := by simpa using h
      subst this
      simp [VR, VL]
    · simp [VR]
  · exact cst0_ok _

theorem ev_ok {t : List AV} {a : Act} (h : VL E t a.tmps.toList) (x : Operand) : VR E (ev t x) (a.eval x) := by
  cases x with
  | tmp i =>
    simp only [ev, Act.eval]
    rw [List.getD_eq_getElem?_getD]
    cases hi : t[i]? with
    | none =>
      have : a.tmps.size ≤ i := by have := h.len; simp at this; rw [← this]; simpa using hi
      have h2 : a.tmps.getD i undef = undef := by simp [Array.getD, Nat.not_lt.2 this]
      rw [h2]
      simp [AV.undef, undef, VR, VL]
    | some v =>
      obtain ⟨c, hc, hr⟩ := h.get i v hi
      have : a.tmps[i]? = some c := by simpa using hc
      have h2 : a.tmps.getD i undef = c := by
        rw [Array.getD_eq_getD_getElem?, this]; rfl
      rw [h2]; exact hr
  | const v => exact cst_ok v
  | func f => simp only [ev, Act.eval, VR]; exact ⟨#[], #[], rfl, by simp [VL], by simp [VL]⟩
  | global g => simp [ev, VR]

theorem evs_ok {t : List AV} {a : Act} (h : VL E t a.tmps.toList) : ∀ l : List Operand, VL E (l.map (ev t)) (l.map a.eval)
  | [] => by simp [VL]
  | x :: l => by simp only [List.map_cons, VL]; exact ⟨ev_ok h x, evs_ok h l⟩

/-! ### Loads -/
theorem cells_at {P : Program} {w : World} {b off : Nat} {cs : List AV} (hc : ∀ j v, cs[j]? = some v → ∃ cv, w.cell? ⟨b, off + j, none⟩ = some cv ∧ cv.oneCell' = true ∧ VR E v cv) :
    ∃ l : List Value, VL E cs l ∧ (∀ x ∈ l, x.oneCell' = true) ∧ (loadCells ⟨b, off, none⟩ cs.length).run P w = .ok l.toArray w ∧ (∀ j v, l[j]? = some v → w.cell? ⟨b, off + j, none⟩ = some v) := by
  have hl : ∃ l : List Value, l.length = cs.length ∧ ∀ j u, l[j]? = some u → w.cell? ⟨b, off + j, none⟩ = some u := by
    refine ⟨(List.range cs.length).map fun j => (w.cell? ⟨b, off + j, none⟩).getD undef, by simp, fun j u hu => ?_⟩
    rw [List.getElem?_map] at hu
    by_cases hj : j < cs.length
    · rw [List.getElem?_range hj] at hu
      obtain ⟨cv, h1, _⟩ := hc j cs[j] (List.getElem?_eq_getElem hj)
      simp [h1] at hu
      rw [h1, hu]
    · rw [List.getElem?_eq_none (by simp; omega)] at hu
      simp at hu
  obtain ⟨l, hlen, hcell⟩ := hl
  have hr := run_loadCells_list (P := P) (w := w) ⟨b, off, none⟩ l fun j v hv => by rw [Addr.add_lit]; exact hcell j v hv
  refine ⟨l, VL.of hlen.symm fun i v c hv hcv => ?_, fun x hx => ?_, by rw [← hlen]; exact hr, hcell⟩
  · obtain ⟨cv, h1, _, h3⟩ := hc i v hv
    rw [hcell i c hcv] at h1
    cases h1
    exact h3
  · obtain ⟨i, hi⟩ := List.getElem?_of_mem hx
    have hlt : i < cs.length := by rw [← hlen]; exact (List.getElem?_eq_some_iff.1 hi).1
    obtain ⟨cv, h1, h2, _⟩ := hc i cs[i] (List.getElem?_eq_getElem hlt)
    rw [hcell i x hi] at h1
    cases h1
    exact h2
theorem load_ok {P : Program} {t : TypeId} {b off : Nat} {cs : List AV} {v : AV} (h : rdCells P t cs = some v)
    (hc : ∀ j v, cs[j]? = some v → ∃ cv, E.w.cell? ⟨b, off + j, none⟩ = some cv ∧ cv.oneCell' = true ∧ VR E v cv) :
    ∃ cv, (loadVar t ⟨b, off, none⟩).run P E.w = .ok cv E.w ∧ VR E v cv := by
  unfold rdCells at h
  split at h
  · rename_i hlen
    split at h
    · rename_i hagg
      cases h
      obtain ⟨d, hd⟩ := isAgg_some hagg
      obtain ⟨l, h1, h2, h3, _⟩ := cells_at (P := P) hc
      rw [hlen] at h3
      refine ⟨.agg l.toArray, by simp [loadVar, run_isAggT hagg, run_size hd, h3], ?_⟩
      simp only [VR]
      exact ⟨l.toArray, rfl, by simpa using h1, by simpa using h2⟩
    · rename_i hagg
      split at h
      · cases h
        obtain ⟨cv, h1, h2, h3⟩ := hc 0 _ rfl
        refine ⟨cv, ?_, h3⟩
        simp only [Nat.add_zero] at h1
        simp [loadVar, run_isAggT hagg, h1]
      · cases h
    · cases h
  · cases h
theorem cell_of_cells {w : World} {b : Nat} {a : Array Value} {e : TypeId} {fr : Nat × Nat} (h : w.heap[b]? = some (.cells a e fr)) (j : Nat) : w.cell? ⟨b, j, none⟩ = a[j]? := by
  simp [World.cell?, h]
theorem loadA_ok {P : Program} (s : Sim E) {t : TypeId} {p v : AV} {cp : Value} (hp : VR E p cp) (h : loadA P E.h t p = some v) :
    ∃ cv, (Instr.loadAt t cp).run P E.w = .ok cv E.w ∧ VR E v cv := by
  cases p <;> simp only [loadA] at h <;> try (cases h; done)
  case ptr o off =>
    simp only [VR] at hp
    cases ho : E.h[o]? with
    | none => simp [ho] at h
    | some ob =>
      cases ob with
      | box cs =>
        simp only [ho] at h hp
        obtain ⟨b, c, hι, rfl⟩ := hp
        obtain ⟨a, e, hb, hcs, h1⟩ := s.obj o b c _ hι ho
        obtain ⟨cv, hr, hv⟩ := load_ok (E := E) (b := b) (off := off) h fun j u hu => by
          rw [List.getElem?_take] at hu
          split at hu
          · rw [List.getElem?_drop] at hu
            obtain ⟨cu, hcu, hru⟩ := hcs.get _ u hu
            exact ⟨cu, by rw [cell_of_cells hb]; simpa using hcu, h1 cu (List.mem_of_getElem? hcu), hru⟩
          · cases hu
        exact ⟨cv, by simp [Instr.loadAt, Instr.sureAddr, hr], hv⟩
      | tb T cs =>
        simp only [ho] at h hp
        obtain ⟨b, c, hι, rfl⟩ := hp
        obtain ⟨a, hb, hcs, h1⟩ := s.obj o b c _ hι ho
        obtain ⟨cv, hr, hv⟩ := load_ok (E := E) (b := b) (off := off) h fun j u hu => by
          rw [List.getElem?_take] at hu
          split at hu
          · rw [List.getElem?_drop] at hu
            obtain ⟨cu, hcu, hru⟩ := hcs.get _ u hu
            exact ⟨cu, by rw [cell_of_cells hb]; simpa using hcu, h1 cu (List.mem_of_getElem? hcu), hru⟩
          · cases hu
        exact ⟨cv, by simp [Instr.loadAt, Instr.sureAddr, hr], hv⟩
      | _ => simp [ho] at h
  case eptr o i f =>
    simp only [VR] at hp
    cases ho : E.h[o]? with
    | none => simp [ho] at h
    | some ob =>
      cases ob with
      | arr md e sh rs =>
        simp only [ho] at h hp
        obtain ⟨b, c, hι, rfl⟩ := hp
        split at h
        · rename_i hif
          obtain ⟨h0, a, lo, hi, hb, hsz, hlc, hcm, hrow, hRR, hfr⟩ := s.obj o b c _ hι ho
          have hri : rs[i]? = some rs[i] := List.getElem?_eq_getElem hif.1
          have hg : rs.getD i [] = rs[i] := by simp [List.getD_eq_getElem?_getD, hri]
          rw [hg, rowCells_eq (hrow _ (List.getElem_mem hif.1)) hif.2] at h
          have hCR := hRR.get i _ hri
          obtain ⟨cv, hr, hv⟩ := load_ok (E := E) (b := b) (off := i * sh.length + f) h fun j u hu => by
            rw [List.getElem?_take] at hu
            split at hu
            · rw [List.getElem?_drop] at hu
              have := hCR.get _ u hu
              rw [show 0 + i * sh.length + (f + j) = i * sh.length + f + j from by omega] at this
              exact this
            · cases hu
          exact ⟨cv, by simp [Instr.loadAt, Instr.sureAddr, hr], hv⟩
        · cases h
      | _ => simp [ho] at h
  case rptr sh cs f =>
    simp only [VR] at hp
    obtain ⟨b, off, rfl, hst, hrow, _, hCR⟩ := hp
    split at h
    · rename_i hf
      rw [rowCells_eq hrow hf] at h
      obtain ⟨cv, hr, hv⟩ := load_ok (E := E) (b := b) (off := off + f) h fun j u hu => by
        rw [List.getElem?_take] at hu
        split at hu
        · rw [List.getElem?_drop] at hu
          have := hCR.get _ u hu
          rw [show off + (f + j) = off + f + j from by omega] at this
          exact this
        · cases hu
      exact ⟨cv, by simp [Instr.loadAt, Instr.sureAddr, hr], hv⟩
    · cases h
end
end Go.Proofs.YtiemjcchlfbglaaGreatE
/- Operations that make something: what is built, and where it stands. -/
namespace Go.Proofs.YtiemjcchlfbglaaGreatE
open Go

section
variable {P : Program} {E : En}

theorem zero_ok {t : TypeId} {z : List AV} (h : zeroA P t = some z) : ∃ i zv, P.info? t = some i ∧ i.zero = some zv ∧ VL E z zv.cells.toList ∧ ∀ x ∈ zv.cells.toList, x.oneCell' = true := by
  unfold zeroA at h
  cases hi : P.info? t with
  | none => simp [hi] at h
  | some i =>
    cases hz : i.zero with
    | none => simp [hi, hz] at h
    | some zv =>
      simp [hi, hz] at h
      have := cells_ok (cst_ok (E := E) zv) h
      exact ⟨i, zv, rfl, hz, this.1, this.2⟩
theorem run_zero {t : TypeId} {i : TypeInfo} {zv : Value} (hi : P.info? t = some i) (hz : i.zero = some zv) (w : World) : (zeroValue t).run P w = .ok zv w := by
  simp [zeroValue, typeInfo, hi, hz]

theorem setAll_len {cs : List AV} {off : Nat} {new : List AV} (h : off + new.length ≤ cs.length) : (setAll cs off new).length = cs.length := by
  unfold setAll; simp; omega
theorem setAll_get {α : Type} {cs : List α} {off : Nat} {new : List α} (h : off + new.length ≤ cs.length) (j : Nat) :
    (cs.take off ++ (new ++ cs.drop (off + new.length)))[j]? = if off ≤ j ∧ j < off + new.length then new[j - off]? else cs[j]? := by
  rw [List.getElem?_append]
  have h1 : (cs.take off).length = off := by simp; omega
  rw [h1]
  split
  · rename_i hj
    rw [if_neg (by omega), List.getElem?_take, if_pos hj]
  · rename_i hj
    rw [List.getElem?_append]
    split
    · rename_i hk
      rw [if_pos (by omega)]
    · rename_i hk
      rw [if_neg (by omega), List.getElem?_drop]
      congr 1
      omega
theorem foldl_set {α : Type} : ∀ (new : List α) (off k : Nat) (a : Array α), off + k + new.length ≤ a.size →
    ((new.zipIdx k).foldl (fun (cs : Array α) (p : α × Nat) => cs.setIfInBounds (off + p.2) p.1) a).toList = a.toList.take (off + k) ++ (new ++ a.toList.drop (off + k + new.length))
  | [], off, k, a, _ => by simp
  | x :: new, off, k, a, h => by
    simp only [List.zipIdx_cons, List.foldl_cons]
    simp only [List.length_cons] at h
    rw [foldl_set new off (k + 1) _ (by simp; omega)]
    apply List.ext_getElem?
    intro j
    have hs : (a.setIfInBounds (off + k) x).toList.length = a.size := by simp
    rw [setAll_get (by rw [hs]; omega), setAll_get (by simp; omega)]
    simp only [List.length_cons, Array.toList_setIfInBounds, List.getElem?_set, Array.length_toList]
    by_cases hj : j = off + k
    · subst hj
      rw [if_neg (by omega), if_pos rfl, if_pos (by omega), if_pos (by omega)]
      simp
    · by_cases h1 : off + (k + 1) ≤ j ∧ j < off + (k + 1) + new.length
      · rw [if_pos h1, if_pos (by omega), show j - (off + k) = j - (off + (k + 1)) + 1 from by omega]
        simp
      · rw [if_neg h1, if_neg (by omega), if_neg (by omega)]
theorem VL.setAll {cs new : List AV} {a b : List Value} {off : Nat} (h : VL E cs a) (k : VL E new b) :
    VL E (setAll cs off new) (a.take off ++ (b ++ a.drop (off + b.length))) := by
  unfold Go.Proofs.YtiemjcchlfbglaaGreatE.setAll
  rw [← k.len]
  exact (h.take off).app (k.app (h.drop _))

def PV (E : En) : List (Nat × AV) → List (Nat × Value) → Prop
  | [], [] => True
  | (i, v) :: l, (j, c) :: m => i = j ∧ VR E v c ∧ PV E l m
  | _, _ => False
theorem PV.of (ρ : Operand → AV) (σ : Operand → Value) (h : ∀ x, VR E (ρ x) (σ x)) : ∀ l : List (Nat × Operand), PV E (l.map fun p => (p.1, ρ p.2)) (l.map fun p => (p.1, σ p.2))
  | [] => by simp [PV]
  | (i, x) :: l => by simp only [List.map_cons, PV]; exact ⟨trivial, h x, PV.of ρ σ h l⟩

theorem fill_ok (pl : Nat → Option (Nat × Nat)) : ∀ (parts : List (Nat × AV)) (cparts : List (Nat × Value)) (cs cs' : List AV) (a : Array Value), PV E parts cparts → VL E cs a.toList → (∀ x ∈ a.toList, x.oneCell' = true) →
    fillA pl cs parts = some cs' → ∃ a', Instr.fill pl a cparts = some a' ∧ VL E cs' a'.toList ∧ ∀ x ∈ a'.toList, x.oneCell' = true
  | [], [], cs, cs', a, _, h, h1, hf => by simp [fillA] at hf; subst hf; exact ⟨a, rfl, h, h1⟩
  | [], _ :: _, _, _, _, hp, _, _, _ => by simp [PV] at hp
  | _ :: _, [], _, _, _, hp, _, _, _ => by simp [PV] at hp
  | (i, v) :: parts, (j, c) :: cparts, cs, cs', a, hp, h, h1, hf => by
    simp only [PV] at hp
    obtain ⟨rfl, hv, hp⟩ := hp
    simp only [fillA] at hf
    cases hpl : pl i with
    | none => simp [hpl] at hf
    | some q =>
      obtain ⟨off, n⟩ := q
      cases hc : v.cells? with
      | none => simp [hpl, hc] at hf
      | some new =>
        simp only [hpl, hc] at hf
        split at hf
        · rename_i hn
          obtain ⟨k1, k2⟩ := cells_ok hv hc
          have hlen : c.cells.size = new.length := by have := k1.len; simpa using this.symm
          have hl := h.len
          simp at hl
          have hfit : off + c.cells.size ≤ a.size := by omega
          have hfold := foldl_set c.cells.toList off 0 a (by simpa using hfit)
          have hnew : (c.cells.zipIdx.foldl (fun cs (p : Value × Nat) => cs.setIfInBounds (off + p.2) p.1) a).toList = a.toList.take off ++ (c.cells.toList ++ a.toList.drop (off + c.cells.toList.length)) := by
            rw [← Array.foldl_toList, Array.toList_zipIdx]
            simpa using hfold
          obtain ⟨a', h3, h4, h5⟩ := fill_ok pl parts cparts _ cs' (c.cells.zipIdx.foldl (fun cs (p : Value × Nat) => cs.setIfInBounds (off + p.2) p.1) a) hp
            (by rw [hnew]; exact h.setAll k1) (by
              rw [hnew]
              intro x hx
              rw [List.mem_append, List.mem_append] at hx
              rcases hx with hx | hx | hx
              · exact h1 x (List.mem_of_mem_take hx)
              · exact k2 x hx
              · exact h1 x (List.mem_of_mem_drop hx)) hf
          refine ⟨a', ?_, h4, h5⟩
          simp only [Instr.fill, hpl]
          rw [if_neg (by simp; omega)]
          exact h3
        · cases hf

/-- A new object. -/
def NewO (E : En) (v : AV) (obj : AObj) (ix : Nat) (cv : Value) (w' : World) : Prop :=
  ∃ X c, w'.heap = E.w.heap.push X ∧ w'.os = E.w.os ∧ w'.tape = E.w.tape ∧ w'.output = E.w.output ∧
    ∀ E', E'.w.heap[E.w.heap.size]? = some X → E'.ι ix = some (E.w.heap.size, c) → E'.h[ix]? = some obj → Ext E E' → OR E' E.w.heap.size c obj ∧ VR E' v cv

theorem newBox {cs : List AV} {a : Array Value} {e : TypeId} {ix : Nat} (h : VL E cs a.toList) (h1 : ∀ x ∈ a.toList, x.oneCell' = true) {w' : World} (hw : w' = E.w.alloc (.cells a e)) :
    NewO E (.ptr ix 0) (.box cs) ix (.pointer (some ⟨E.w.heap.size, 0, none⟩)) w' := by
  subst hw
  refine ⟨.cells a e, 0, rfl, rfl, rfl, rfl, fun E' hX hι hob x => ⟨⟨a, e, hX, VL.ext x cs _ h, h1⟩, ?_⟩⟩
  simp only [VR, hob]
  exact ⟨_, _, hι, rfl⟩

theorem newTb {cs : List AV} {a : Array Value} {e : TypeId} {ix : Nat} (h : VL E cs a.toList) (h1 : ∀ x ∈ a.toList, x.oneCell' = true) {w' : World} (hw : w' = E.w.alloc (.cells a e)) :
    NewO E (.ptr ix 0) (.tb e cs) ix (.pointer (some ⟨E.w.heap.size, 0, none⟩)) w' := by
  subst hw
  refine ⟨.cells a e, 0, rfl, rfl, rfl, rfl, fun E' hX hι hob x => ⟨⟨a, hX, VL.ext x cs _ h, h1⟩, ?_⟩⟩
  simp only [VR, hob]
  exact ⟨_, _, hι, rfl⟩

theorem RR_flat {b n : Nat} : ∀ {rs : List (List AV)} {off : Nat}, (∀ r ∈ rs, r.length = n) →
    (∀ j v, rs.flatten[j]? = some v → ∃ cv, E.w.cell? ⟨b, off + j, none⟩ = some cv ∧ cv.oneCell' = true ∧ VR E v cv) → RR E b n off rs
  | [], _, _, _ => by simp only [RR]
  | r :: rs, off, hl, h => by
    have hr : r.length = n := hl r (by simp)
    simp only [RR]
    refine ⟨CR.of fun i v hv => ?_, RR_flat (fun r' hr' => hl r' (by simp [hr'])) fun j v hv => ?_⟩
    · have hi : i < r.length := (List.getElem?_eq_some_iff.1 hv).1
      exact h i v (by rw [List.flatten_cons, List.getElem?_append, if_pos hi]; exact hv)
    · have := h (n + j) v (by rw [List.flatten_cons, List.getElem?_append, if_neg (by omega), hr, Nat.add_sub_cancel_left]; exact hv)
      rw [show off + n + j = off + (n + j) from by omega]
      exact this
theorem flat_len {n : Nat} : ∀ {rs : List (List AV)}, (∀ r ∈ rs, r.length = n) → rs.flatten.length = rs.length * n
  | [], _ => by simp
  | r :: rs, h => by
    rw [List.flatten_cons, List.length_append, flat_len fun r' hr' => h r' (by simp [hr']), h r (by simp), List.length_cons, Nat.succ_mul]
    omega
theorem flat_set {n : Nat} : ∀ {rs : List (List AV)} {i : Nat} {new : List AV}, (∀ r ∈ rs, r.length = n) → new.length = n → i < rs.length → (rs.set i new).flatten = setAll rs.flatten (i * n) new
  | [], i, new, _, _, hi => by simp at hi
  | r :: rs, 0, new, h, hn, _ => by
    have hr : r.length = n := h r (by simp)
    simp [setAll, hn, ← hr]
  | r :: rs, i + 1, new, h, hn, hi => by
    have hr : r.length = n := h r (by simp)
    rw [List.set_cons_succ, List.flatten_cons, List.flatten_cons, flat_set (fun r' hr' => h r' (by simp [hr'])) hn (by simpa using hi)]
    unfold setAll
    rw [Nat.succ_mul]
    have h1 : (r ++ rs.flatten).take (i * n + n) = r ++ rs.flatten.take (i * n) := by
      rw [List.take_append, hr, show i * n + n - n = i * n from by omega, List.take_of_length_le (by omega)]
    have h2 : (r ++ rs.flatten).drop (i * n + n + new.length) = rs.flatten.drop (i * n + new.length) := by
      rw [List.drop_append, hr, show i * n + n + new.length - n = i * n + new.length from by omega, List.drop_of_length_le (by omega), List.nil_append]
    rw [h1, h2, List.append_assoc]
theorem flat_repl {n : Nat} (z : List AV) (hz : z.length = n) (hn : 0 < n) : ∀ (l j : Nat), j < l * n → ((List.replicate l z).flatten)[j]? = z[j % n]?
  | 0, j, h => by simp at h
  | l + 1, j, h => by
    rw [List.replicate_succ, List.flatten_cons, List.getElem?_append, hz]
    split
    · rename_i hj; rw [Nat.mod_eq_of_lt hj]
    · rename_i hj
      rw [Nat.succ_mul] at h
      rw [flat_repl z hz hn l (j - n) (by omega)]
      congr 1
      conv => rhs; rw [show j = j - n + n from by omega, Nat.add_mod_right]

theorem VL.cell {cs : List AV} {a : List Value} (h : VL E cs a) (h1 : ∀ x ∈ a, x.oneCell' = true) {j : Nat} {v : AV} (hv : cs[j]? = some v) : ∃ c, a[j]? = some c ∧ c.oneCell' = true ∧ VR E v c := by
  obtain ⟨c, hc, hr⟩ := h.get j v hv
  exact ⟨c, hc, h1 c (List.mem_of_getElem? hc), hr⟩

/-- A new slice, whole. -/
theorem newArr {e : TypeId} {sh : List K} {rs : List (List AV)} {a : Array Value} {ix md cap : Nat} {fr : Nat × Nat} (h0 : 0 < sh.length) (hrow : ∀ r ∈ rs, rowOk sh r)
    (hsz : a.size = cap * sh.length) (hlc : rs.length ≤ cap) (hcm : cap ≤ maxLen) (hfr : md = 2 → fr.1 = 0 ∧ fr.2 = 0) (hno : ∀ i, i < a.size → ¬ (fr.1 ≤ i ∧ i < fr.2))
    (hcell : ∀ (j : Nat) (v : AV), rs.flatten[j]? = some v → ∃ c, a[j]? = some c ∧ c.oneCell' = true ∧ VR E v c) {w' : World}
    (hw : w'.heap = E.w.heap.push (.cells a e fr)) (hos : w'.os = E.w.os) (htape : w'.tape = E.w.tape) (hout : w'.output = E.w.output) :
    NewO E (.sl ix 0 rs.length) (.arr md e sh rs) ix (.slice (some ⟨E.w.heap.size, 0, none⟩) rs.length cap) w' := by
  obtain ⟨lo, hi⟩ := fr
  refine ⟨.cells a e (lo, hi), cap, hw, hos, htape, hout, fun E' hX hι hob x => ⟨⟨h0, a, lo, hi, hX, hsz, hlc, hcm, hrow, ?_, hfr, hno⟩, ?_⟩⟩
  · refine RR_flat (fun r hr => (hrow r hr).1) fun j v hv => ?_
    obtain ⟨c, h1, h2, h3⟩ := hcell j v hv
    exact ⟨c, by rw [Nat.zero_add, cell_of_cells hX]; exact h1, h2, VR.ext x v c h3⟩
  · simp only [VR, hob]
    exact ⟨_, _, cap, hι, by simp, hlc, by simp, by simp⟩
end
end Go.Proofs.YtiemjcchlfbglaaGreatE
/- Each operation that writes nothing that was there. -/
namespace Go.Proofs.YtiemjcchlfbglaaGreatE
open Go

section
variable {P : Program} {E : En}

/-- What an operation of the model must do for the interpreter's answer. -/
def Does (P : Program) (E : En) (ix : Nat) (s : Sem Value) (v : AV) : Option AObj → Prop
  | none => ∃ cv, s.run P E.w = .ok cv E.w ∧ VR E v cv
  | some ob => ∃ cv w', s.run P E.w = .ok cv w' ∧ NewO E v ob ix cv w'

theorem alloc_ok {ix : Nat} {e : TypeId} {z : List AV} (h : zeroA P e = some z) : Does P E ix (Instr.alloc e true (.tuple #[])) (.ptr ix 0) (some (.box z)) := by
  obtain ⟨i, zv, hi, hz, h1, h2⟩ := zero_ok (E := E) h
  refine ⟨.pointer (some ⟨E.w.heap.size, 0, none⟩), E.w.alloc (.cells zv.cells e), ?_, newBox h1 h2 rfl⟩
  simp [Instr.alloc, run_zero hi hz, newVar, newRow]

theorem allocT_ok {ix : Nat} {e : TypeId} {z : List AV} (h : zeroA P e = some z) : Does P E ix (Instr.alloc e true (.tuple #[])) (.ptr ix 0) (some (if selfPtr P e then .tb e z else .box z)) := by
  split
  · obtain ⟨i, zv, hi, hz, h1, h2⟩ := zero_ok (E := E) h
    refine ⟨.pointer (some ⟨E.w.heap.size, 0, none⟩), E.w.alloc (.cells zv.cells e), ?_, newTb h1 h2 rfl⟩
    simp [Instr.alloc, run_zero hi hz, newVar, newRow]
  · exact alloc_ok h
theorem box_ok {ix : Nat} {e : TypeId} {v : AV} {cv : Value} {cs : List AV} (hv : VR E v cv) (h : v.cells? = some cs) : Does P E ix (Instr.box e cv) (.ptr ix 0) (some (.box cs)) := by
  obtain ⟨h1, h2⟩ := cells_ok hv h
  refine ⟨.pointer (some ⟨E.w.heap.size, 0, none⟩), E.w.alloc (.cells cv.cells e), ?_, newBox h1 h2 rfl⟩
  simp [Instr.box, newVar, newRow]

theorem build_ok {ix : Nat} {t : TypeId} {z cs : List AV} {pl : Nat → Option (Nat × Nat)} {parts : List (Nat × AV)} {cparts : Array (Nat × Value)} (hz : zeroA P t = some z) (hpl : placesA P t = some pl)
    (hp : PV E parts cparts.toList) (h : fillA pl z parts = some cs) : Does P E ix (Instr.build t cparts) (.agg cs) none := by
  obtain ⟨i, zv, hi, hzv, h1, h2⟩ := zero_ok (E := E) hz
  obtain ⟨a, h3, h4, h5⟩ := fill_ok pl parts cparts.toList z cs zv.cells hp h1 h2 h
  have hb : P.built t cparts.toList = some a := by
    unfold placesA at hpl
    cases hu : P.underlying t with
    | none => simp [hu] at hpl
    | some d =>
      cases d <;> simp [hu] at hpl
      · rename_i len e
        obtain ⟨ie, hie, rfl⟩ := hpl
        simp only [Program.built, hi, hu, hzv, hie]
        exact h3
      · rename_i fs
        obtain ⟨l, hl, rfl⟩ := hpl
        simp only [Program.built, hi, hu, hzv, hl]
        simpa using h3
  refine ⟨.agg a, run_build E.w t cparts a hb, ?_⟩
  simp only [VR]
  exact ⟨a, rfl, h4, h5⟩

theorem elemSh_ok {e : TypeId} {sh : List K} (h : elemSh P e = some sh) : sh.length = szOf P e ∧ 0 < sh.length := by
  unfold elemSh at h
  dsimp only at h
  split at h
  · rename_i hc; cases h; exact hc
  · cases h
theorem fillRows_ok {sh : List K} : ∀ (parts : List (Nat × AV)) (cparts : List (Nat × Value)) (rs rs' : List (List AV)) (a : Array Value), PV E parts cparts → (∀ r ∈ rs, rowOk sh r) → VL E rs.flatten a.toList → (∀ x ∈ a.toList, x.oneCell' = true) →
    fillRows sh rs parts = some rs' → ∃ a', Instr.fill (fun i => some (i * sh.length, sh.length)) a cparts = some a' ∧ (∀ r ∈ rs', rowOk sh r) ∧ rs'.length = rs.length ∧ VL E rs'.flatten a'.toList ∧ ∀ x ∈ a'.toList, x.oneCell' = true
  | [], [], rs, rs', a, _, hr, h, h1, hf => by simp [fillRows] at hf; subst hf; exact ⟨a, rfl, hr, rfl, h, h1⟩
  | [], _ :: _, _, _, _, hp, _, _, _, _ => by simp [PV] at hp
  | _ :: _, [], _, _, _, hp, _, _, _, _ => by simp [PV] at hp
  | (i, v) :: parts, (j, c) :: cparts, rs, rs', a, hp, hr, h, h1, hf => by
    simp only [PV] at hp
    obtain ⟨rfl, hv, hp⟩ := hp
    simp only [fillRows] at hf
    cases hc : v.cells? with
    | none => simp [hc] at hf
    | some new =>
      simp only [hc] at hf
      split at hf
      · rename_i hn
        obtain ⟨hn1, hn2, hn3⟩ := hn
        obtain ⟨k1, k2⟩ := cells_ok hv hc
        have hlen : c.cells.size = new.length := by have := k1.len; simpa using this.symm
        have hfl := flat_len (fun r hr' => (hr r hr').1)
        have hl := h.len
        simp at hl
        have hmul : i * sh.length + sh.length ≤ rs.length * sh.length := by rw [← Nat.succ_mul]; exact Nat.mul_le_mul_right _ hn2
        have hsz : a.size = rs.length * sh.length := by
          have := h.len
          rw [hfl] at this
          simpa using this.symm
        have hfit : i * sh.length + c.cells.size ≤ a.size := by omega
        have hfold := foldl_set c.cells.toList (i * sh.length) 0 a (by simpa using hfit)
        have hnew : (c.cells.zipIdx.foldl (fun cs (p : Value × Nat) => cs.setIfInBounds (i * sh.length + p.2) p.1) a).toList = a.toList.take (i * sh.length) ++ (c.cells.toList ++ a.toList.drop (i * sh.length + c.cells.toList.length)) := by
          rw [← Array.foldl_toList, Array.toList_zipIdx]
          simpa using hfold
        obtain ⟨a', h3, h4, h5, h6, h7⟩ := fillRows_ok parts cparts (rs.set i new) rs' (c.cells.zipIdx.foldl (fun cs (p : Value × Nat) => cs.setIfInBounds (i * sh.length + p.2) p.1) a) hp
          (fun r hr' => by
            rcases List.mem_or_eq_of_mem_set hr' with h | h
            · exact hr r h
            · subst h; exact ⟨hn1, hn3⟩)
          (by rw [hnew, flat_set (fun r hr' => (hr r hr').1) hn1 hn2]; exact h.setAll k1) (by
            rw [hnew]
            intro x hx
            rw [List.mem_append, List.mem_append] at hx
            rcases hx with hx | hx | hx
            · exact h1 x (List.mem_of_mem_take hx)
            · exact k2 x hx
            · exact h1 x (List.mem_of_mem_drop hx)) hf
        refine ⟨a', ?_, h4, by rw [h5]; simp, h6, h7⟩
        simp only [Instr.fill]
        rw [if_neg (by simp; omega)]
        exact h3
      · cases hf

theorem made_ok {z : List AV} {zv : Array Value} {n l cap : Nat} (h : VL E z zv.toList) (h1 : ∀ x ∈ zv.toList, x.oneCell' = true) (hz : z.length = n) (hn : 0 < n) (hl : l ≤ cap) :
    ∀ (j : Nat) (v : AV), ((List.replicate l z).flatten)[j]? = some v → ∃ c, (madeCells zv (cap * n))[j]? = some c ∧ c.oneCell' = true ∧ VR E v c := by
  intro j v hv
  have hlt : j < l * n := by
    have := (List.getElem?_eq_some_iff.1 hv).1
    rw [flat_len (n := n) (fun r hr => by rw [List.eq_of_mem_replicate hr]; exact hz)] at this
    simpa using this
  rw [flat_repl z hz hn l j hlt] at hv
  obtain ⟨c, hc, h2, h3⟩ := h.cell h1 hv
  refine ⟨c, ?_, h2, h3⟩
  have hs : zv.size = n := by have := h.len; simp at this; omega
  have hm : j < cap * n := Nat.lt_of_lt_of_le hlt (Nat.mul_le_mul_right _ hl)
  have hmod : j % n < zv.size := by rw [hs]; exact Nat.mod_lt _ hn
  simp only [madeCells, Array.getElem?_map, hs]
  rw [Array.getElem?_range, if_pos hm]
  simp only [Option.map_some, Option.some.injEq]
  rw [getElem!_pos zv _ hmod]
  have : zv[j % n]? = some c := by simpa using hc
  rw [Array.getElem?_eq_getElem hmod] at this
  exact Option.some.inj this
theorem zrow_ok {sh : List K} {z : List AV} {l : Nat} (h : z.length = sh.length) (hk : ((sh.zip z).all fun p => kOk p.1 p.2) = true) : ∀ r ∈ List.replicate l z, rowOk sh r :=
  fun r hr => by rw [List.eq_of_mem_replicate hr]; exact ⟨h, hk⟩

theorem make_ok {ix : Nat} {t : TypeId} {l c v : AV} {cl cc : Value} {ob : Option AObj} (hl : VR E l cl) (hc : VR E c cc) (h : makeA P t ix l c = some (v, ob)) : Does P E ix (Instr.makeSlice t cl cc) v ob := by
  unfold makeA at h
  split at h
  · rename_i kl l kc c
    simp only [VR] at hl hc
    subst hl; subst hc
    split at h
    · rename_i e hu
      split at h
      · rename_i sh z hsh hz
        split at h
        · rename_i hcond
          obtain ⟨h0, hlc, hby, h63, hzl, hzk⟩ := hcond
          cases h
          obtain ⟨i, zv, hi, hzv, h1, h2⟩ := zero_ok (E := E) hz
          obtain ⟨hs1, hs2⟩ := elemSh_ok hsh
          have hsz : i.size = sh.length := by rw [hs1]; simp [szOf, Program.cellsOf, hi]
          have hbb : P.bytesOf e = i.bytes := by simp [Program.bytesOf, hi]
          rw [hbb] at hby
          have hr := run_make (P := P) E.w t e i zv hu hi hzv kl kc l c h0 hlc (by omega) h63
          refine ⟨_, _, hr, ?_⟩
          have hna := newArr (E := E) (e := e) (sh := sh) (rs := List.replicate l.toNat z) (a := madeCells zv.cells (c.toNat * i.size)) (ix := ix) (md := 2) (cap := c.toNat) (fr := (0, 0)) hs2 (zrow_ok hzl hzk)
            (by rw [size_madeCells, hsz]) (by simp; omega) (by unfold maxLen; omega) (fun _ => ⟨rfl, rfl⟩) (fun i _ => by omega)
            (by rw [hsz]; exact made_ok h1 h2 hzl hs2 (by omega)) (w' := E.w.alloc (.cells (madeCells zv.cells (c.toNat * i.size)) e)) rfl rfl rfl rfl
          simpa using hna
        · cases h
      · cases h
    · cases h
  · cases h

theorem buildSlice_ok {ix : Nat} {t e : TypeId} {len : Nat} {sh : List K} {z : List AV} {rs : List (List AV)} {parts : List (Nat × AV)} {cparts : Array (Nat × Value)} (hu : P.underlying t = some (.slice e)) (hsh : elemSh P e = some sh)
    (hz : zeroA P e = some z) (hzl : z.length = sh.length) (hlen : len * sh.length ≤ 16777216) (hzk : ((sh.zip z).all fun p => kOk p.1 p.2) = true)
    (hp : PV E parts cparts.toList) (h : fillRows sh (List.replicate len z) parts = some rs) : Does P E ix (Instr.buildSlice t len cparts) (.sl ix 0 len) (some (.arr 2 e sh rs)) := by
  obtain ⟨i, zv, hi, hzv, h1, h2⟩ := zero_ok (E := E) hz
  obtain ⟨hs1, hs2⟩ := elemSh_ok hsh
  have hsz : i.size = sh.length := by rw [hs1]; simp [szOf, Program.cellsOf, hi]
  have hzs : zv.cells.size = sh.length := by have := h1.len; simp at this; omega
  have hVL : VL E (List.replicate len z).flatten (madeCells zv.cells (len * sh.length)).toList := VL.of
    (by rw [flat_len (n := sh.length) (fun r hr => (zrow_ok hzl hzk r hr).1)]; simp [size_madeCells]) fun j v c hv hc => by
      obtain ⟨c', hc', _, hr⟩ := made_ok h1 h2 hzl hs2 (Nat.le_refl len) j v hv
      rw [show (madeCells zv.cells (len * sh.length)).toList[j]? = (madeCells zv.cells (len * sh.length))[j]? from by simp] at hc
      rw [hc'] at hc; cases hc; exact hr
  have hone : ∀ x ∈ (madeCells zv.cells (len * sh.length)).toList, x.oneCell' = true := fun x hx => by
    obtain ⟨j, hj⟩ := List.getElem?_of_mem hx
    have hlt : j < len * sh.length := by have := (List.getElem?_eq_some_iff.1 hj).1; simpa [size_madeCells] using this
    have hfl : j < ((List.replicate len z).flatten).length := by rw [flat_len (n := sh.length) (fun r hr => (zrow_ok hzl hzk r hr).1)]; simpa using hlt
    obtain ⟨c', hc', ho, _⟩ := made_ok h1 h2 hzl hs2 (Nat.le_refl len) j _ (List.getElem?_eq_getElem hfl)
    rw [show (madeCells zv.cells (len * sh.length)).toList[j]? = (madeCells zv.cells (len * sh.length))[j]? from by simp, hc'] at hj
    cases hj; exact ho
  obtain ⟨a', h3, h4, h5, h6, h7⟩ := fillRows_ok parts cparts.toList _ rs (madeCells zv.cells (len * sh.length)) hp (zrow_ok hzl hzk) hVL hone h
  have hrl : rs.length = len := by rw [h5]; simp
  refine ⟨.slice (some ⟨E.w.heap.size, 0, none⟩) len len, E.w.alloc (.cells a' e), ?_, ?_⟩
  · simp only [Instr.buildSlice, Sem.run_bind, run_underlying hu, Result.andThen_ok, run_size' (P := P) (t := e) (by omega), ← hs1]
    rw [if_neg (by omega)]
    by_cases h0 : len * sh.length = 0
    · rw [if_pos h0]
      have : ((Array.range (len * sh.length)).map fun j => (#[] : Array Value)[j % (#[] : Array Value).size]!) = madeCells zv.cells (len * sh.length) := by simp [h0, madeCells]
      simp only [pure_bind, this, h3]
      simp [newRow]
    · rw [if_neg h0]
      have : ((Array.range (len * sh.length)).map fun j => zv.cells[j % zv.cells.size]!) = madeCells zv.cells (len * sh.length) := rfl
      simp only [Sem.run_bind, run_zero hi hzv, Result.andThen_ok, pure_bind, this, h3]
      simp [newRow]
  · have hna := newArr (E := E) (e := e) (sh := sh) (rs := rs) (a := a') (ix := ix) (md := 2) (cap := len) (fr := (0, 0)) hs2 h4
      (by have := h6.len; rw [flat_len (n := sh.length) (fun r hr => (h4 r hr).1), hrl] at this; simpa using this.symm) (by omega) (by unfold maxLen; have : len ≤ len * sh.length := Nat.le_mul_of_pos_right _ hs2; omega) (fun _ => ⟨rfl, rfl⟩) (fun i _ => by omega)
      (fun j v hv => by obtain ⟨c, hc, h8, h9⟩ := h6.cell h7 hv; exact ⟨c, by simpa using hc, h8, h9⟩) (w' := E.w.alloc (.cells a' e)) rfl rfl rfl rfl
    rw [hrl] at hna
    exact hna
end
end Go.Proofs.YtiemjcchlfbglaaGreatE
/- Addresses, parts, conversions, arithmetic. -/
namespace Go.Proofs.YtiemjcchlfbglaaGreatE
open Go

section
variable {P : Program} {E : En}

def OV (E : En) : Option AV → Option Value → Prop
  | none, none => True
  | some v, some c => VR E v c
  | _, _ => False

theorem bounds_ok {sl : Bool} {len cap a b : Nat} {lo hi : Option AV} {clo chi : Option Value} (hlo : OV E lo clo) (hhi : OV E hi chi) (hlc : len ≤ cap)
    (h1 : boundA len hi len = some b) (h2 : boundA b lo 0 = some a) (w : World) : (Instr.sliceBounds sl len cap clo chi none).run P w = .ok (a, b, cap) w ∧ a ≤ b ∧ b ≤ len := by
  have hb : b ≤ len := by
    cases hi with
    | none => simp [boundA] at h1; omega
    | some v =>
      cases v <;> simp [boundA] at h1
      omega
  have ha : a ≤ b := by
    cases lo with
    | none => simp [boundA] at h2; omega
    | some v =>
      cases v <;> simp [boundA] at h2
      omega
  refine ⟨?_, ha, hb⟩
  have low : ∀ code : BoundsCode, ∀ v ci, lo = some v → clo = some ci → (Instr.sliceBound ci b code).run P w = .ok a w := by
    intro code v ci e1 e2
    subst e1; subst e2
    simp only [OV] at hlo
    cases v <;> simp [boundA] at h2
    simp only [VR] at hlo
    subst hlo
    obtain ⟨⟨h3, h4⟩, rfl⟩ := h2
    simp [Instr.sliceBound, asIntOf, h3, h4]
  have high : ∀ code : BoundsCode, ∀ v ci, hi = some v → chi = some ci → (Instr.sliceBound ci cap code).run P w = .ok b w := by
    intro code v ci e1 e2
    subst e1; subst e2
    simp only [OV] at hhi
    cases v <;> simp [boundA] at h1
    simp only [VR] at hhi
    subst hhi
    obtain ⟨⟨h3, h4⟩, rfl⟩ := h1
    simp [Instr.sliceBound, asIntOf, h3, show ∀ i : Int, i ≤ len → i ≤ cap from fun i hi => by omega, h4]
  cases hi with
  | none =>
    cases chi with
    | some c => simp [OV] at hhi
    | none =>
      simp [boundA] at h1
      subst h1
      cases lo with
      | none =>
        cases clo with
        | some c => simp [OV] at hlo
        | none => simp [boundA] at h2; subst h2; simp [Instr.sliceBounds]
      | some v =>
        cases clo with
        | none => simp [OV] at hlo
        | some c => simp [Instr.sliceBounds, low _ v c rfl rfl]
  | some u =>
    cases chi with
    | none => simp [OV] at hhi
    | some d =>
      cases lo with
      | none =>
        cases clo with
        | some c => simp [OV] at hlo
        | none => simp [boundA] at h2; subst h2; simp [Instr.sliceBounds, high _ u d rfl rfl]
      | some v =>
        cases clo with
        | none => simp [OV] at hlo
        | some c => simp [Instr.sliceBounds, high _ u d rfl rfl, low _ v c rfl rfl]

theorem RR.take {b n : Nat} {rs : List (List AV)} {off : Nat} (h : RR E b n off rs) (k : Nat) : RR E b n off (rs.take k) :=
  RR.of fun i r hr => by
    rw [List.getElem?_take] at hr
    split at hr
    · exact h.get i r hr
    · cases hr
theorem RR.drop {b n : Nat} {rs : List (List AV)} {off : Nat} (h : RR E b n off rs) (k : Nat) : RR E b n (off + k * n) (rs.drop k) :=
  RR.of fun i r hr => by
    rw [List.getElem?_drop] at hr
    have := h.get _ r hr
    rw [Nat.add_mul, ← Nat.add_assoc] at this
    exact this

theorem slice_ok {ix : Nat} {t : TypeId} {x v : AV} {cx : Value} {lo hi : Option AV} {clo chi cmx : Option Value} {mx : Option AV} (hx : VR E x cx) (hlo : OV E lo clo) (hhi : OV E hi chi) (hmx : OV E mx cmx)
    (h : sliceA P E.h t x lo hi mx = some v) : Does P E ix (Instr.sliceAt t cx clo chi cmx) v none := by
  unfold sliceA at h
  cases mx with
  | some m => simp at h
  | none =>
  cases cmx with
  | some c => simp [OV] at hmx
  | none =>
  cases x <;> simp only at h <;> try (cases h; done)
  case str s =>
    split at h
    · cases h
    · split at h
      · rename_i hu
        rw [Option.bind_eq_some_iff] at h
        obtain ⟨b, hb, h⟩ := h
        rw [Option.map_eq_some_iff] at h
        obtain ⟨a, ha, rfl⟩ := h
        simp only [VR] at hx
        subst hx
        obtain ⟨hr, h1, h2⟩ := bounds_ok (P := P) (sl := false) hlo hhi (Nat.le_refl _) hb ha E.w
        exact ⟨.string (s.extract a b), by simp [Instr.sliceAt, Instr.slice, run_underlying hu, hr], by simp [VR]⟩
      · cases h
  case nils =>
    split at h
    · rename_i e hu
      split at h
      · cases h
      · rename_i hz
        rw [Option.bind_eq_some_iff] at h
        obtain ⟨b, hb, h⟩ := h
        rw [Option.map_eq_some_iff] at h
        obtain ⟨a, ha, rfl⟩ := h
        simp only [VR] at hx
        subst hx
        obtain ⟨hr, h1, h2⟩ := bounds_ok (P := P) (sl := true) (len := 0) (cap := 0) hlo hhi (Nat.le_refl _) hb ha E.w
        have : a = 0 := by omega
        subst this
        have : b = 0 := by omega
        subst this
        exact ⟨.slice none 0 0, by simp [Instr.sliceAt, Instr.slice, run_underlying hu, hr, run_size' hz], by simp [VR]⟩
    · cases h
  case row nl sh rs =>
    split at h
    · rename_i e hu
      split at h
      · rename_i hsz
        rw [Option.bind_eq_some_iff] at h
        obtain ⟨b, hb, h⟩ := h
        rw [Option.map_eq_some_iff] at h
        obtain ⟨a, ha, rfl⟩ := h
        simp only [VR] at hx
        obtain ⟨base, cap, rfl, hlc, hcm, hn1, hn2, hrest⟩ := hx
        obtain ⟨hr, h1, h2⟩ := bounds_ok (P := P) (sl := true) (len := rs.length) (cap := cap) hlo hhi hlc hb ha E.w
        refine ⟨.slice (if cap = a then base else base.map (·.add (a * sh.length))) (b - a) (cap - a), by simp [Instr.sliceAt, Instr.slice, run_underlying hu, hr, run_size' (P := P) (t := e) (by omega), hsz.1], ?_⟩
        simp only [VR]
        have hlen : ((rs.take b).drop a).length = b - a := by simp; omega
        refine ⟨if cap = a then base else base.map (·.add (a * sh.length)), cap - a, by rw [hlen], by rw [hlen]; omega, by omega, fun hnl => ?_, fun hnl => ?_, ?_⟩
        · obtain ⟨rfl, rfl⟩ := hn1 hnl
          simp
        · have := hn2 hnl
          split
          · exact this
          · simpa using this
        · rcases hrest with rfl | ⟨h0, bb, off, rfl, hst, hrow, hpu, hRR⟩
          · left; simp
          · by_cases hca : cap = a
            · left
              have : (rs.take b).drop a = [] := List.drop_eq_nil_of_le (by simp; omega)
              exact this
            · right
              refine ⟨h0, bb, off + a * sh.length, by rw [if_neg hca]; simp [Addr.add_lit], hst, fun r hr' => hrow r (List.mem_of_mem_take (List.mem_of_mem_drop hr')), fun r hr' => hpu r (List.mem_of_mem_take (List.mem_of_mem_drop hr')), (hRR.take b).drop a⟩
      · cases h
    · cases h
  case sl o off len =>
    split at h
    · rename_i md e' sh rs e ho hu
      split at h
      · rename_i hsz
        rw [Option.bind_eq_some_iff] at h
        obtain ⟨b, hb, h⟩ := h
        rw [Option.bind_eq_some_iff] at h
        obtain ⟨a, ha, h⟩ := h
        split at h
        · rename_i hab
          cases h
          simp only [VR, ho] at hx
          obtain ⟨bb, c, cap, hι, rfl, hlc, hoc, hol⟩ := hx
          obtain ⟨hr, h1, h2⟩ := bounds_ok (P := P) (sl := true) (len := len) (cap := cap) hlo hhi hlc hb ha E.w
          refine ⟨.slice (some ⟨bb, (off + a) * sh.length, none⟩) (b - a) (cap - a), ?_, ?_⟩
          · have : (if cap = a then (some (⟨bb, off * sh.length, none⟩ : Addr)) else (some (⟨bb, off * sh.length, none⟩ : Addr)).map (·.add (a * sh.length))) = some ⟨bb, (off + a) * sh.length, none⟩ := by
              split
              · have : a = 0 := by omega
                simp [this]
              · simp [Addr.add_lit, Nat.add_mul]
            simp only [Instr.sliceAt, Instr.slice, Sem.run_bind, run_underlying hu, Result.andThen_ok, hr, run_size' (P := P) (t := e) (by omega), hsz.1, this, Sem.run_pure]
          · simp only [VR, ho]
            exact ⟨bb, c, cap - a, hι, rfl, by omega, by omega, by omega⟩
        · cases h
      · cases h
    · cases h

theorem indexAddr_ok {ix : Nat} {t : TypeId} {x i v : AV} {cx ci : Value} (hx : VR E x cx) (hi : VR E i ci) (h : indexAddrA P E.h t x i = some v) : Does P E ix (Instr.indexAt t cx ci) v none := by
  unfold indexAddrA at h
  cases i <;> simp only at h <;> try (cases h; done)
  rename_i k i
  simp only [VR] at hi
  subst hi
  cases hu : P.underlying t with
  | none => simp [hu] at h
  | some d =>
  cases d <;> simp only [hu] at h <;> try (cases h; done)
  case slice e =>
    cases x <;> simp only at h <;> try (cases h; done)
    case row nl sh rs =>
      split at h
      · rename_i hsz
        split at h
        · rename_i hi
          cases h
          simp only [VR] at hx
          obtain ⟨base, cap, rfl, hlc, hcm, hn1, hn2, hrest⟩ := hx
          rcases hrest with rfl | ⟨h0, bb, off, rfl, hst, hrow, hpu, hRR⟩
          · simp at hi; omega
          · have hlt : i.toNat < rs.length := by omega
            have hri : rs[i.toNat]? = some rs[i.toNat] := List.getElem?_eq_getElem hlt
            refine ⟨.pointer (some ⟨bb, off + i.toNat * sh.length, none⟩), ?_, ?_⟩
            · simp [Instr.indexAt, asIntOf, run_underlying hu, hi, run_size' (P := P) (t := e) (by omega), hsz, Addr.add_lit]
            · simp only [VR]
              refine ⟨bb, off + i.toNat * sh.length, by simp, hst, ?_, ?_, ?_⟩
              · simp only [List.getD_eq_getElem?_getD, hri, Option.getD_some]
                exact hrow _ (List.getElem_mem hlt)
              · simp only [List.getD_eq_getElem?_getD, hri, Option.getD_some]
                exact hpu _ (List.getElem_mem hlt)
              · simp only [List.getD_eq_getElem?_getD, hri, Option.getD_some]
                exact hRR.get _ _ hri
        · cases h
      · cases h
    case sl o off len =>
      split at h
      · rename_i md e' sh rs ho
        split at h
        · rename_i hsz
          split at h
          · rename_i hi
            cases h
            simp only [VR, ho] at hx
            obtain ⟨bb, c, cap, hι, rfl, hlc, hoc, hol⟩ := hx
            have h0 := hsz.2
            refine ⟨.pointer (some ⟨bb, (off + i.toNat) * sh.length, none⟩), ?_, ?_⟩
            · simp [Instr.indexAt, asIntOf, run_underlying hu, hi, run_size' (P := P) (t := e) h0, hsz.1, Addr.add_lit, Nat.add_mul]
            · simp only [VR, ho]
              exact ⟨bb, c, hι, by simp⟩
          · cases h
        · cases h
      · cases h
  case array n e =>
    cases x <;> simp only at h <;> try (cases h; done)
    case ptr o off =>
      split at h
      · rename_i cs ho
        split at h
        · rename_i hi
          cases h
          simp only [VR, ho] at hx
          obtain ⟨bb, c, hι, rfl⟩ := hx
          have h0 := hi.2.2
          have hi' : 0 ≤ i ∧ i < (n : Int) := ⟨hi.1, hi.2.1⟩
          refine ⟨.pointer (some ⟨bb, off + i.toNat * szOf P e, none⟩), ?_, ?_⟩
          · simp [Instr.indexAt, asIntOf, run_underlying hu, Instr.sureAddr, hi', run_size' (P := P) (t := e) h0, Addr.add_lit]
          · simp only [VR, ho]
            exact ⟨bb, c, hι, rfl⟩
        · cases h
      · cases h
end
end Go.Proofs.YtiemjcchlfbglaaGreatE
/- Parts, conversions, arithmetic. -/
namespace Go.Proofs.YtiemjcchlfbglaaGreatE
open Go

section
variable {P : Program} {E : En}

theorem fieldAddr_ok {ix : Nat} {s : TypeId} {x v : AV} {cx : Value} {f : Nat} (hx : VR E x cx) (h : fieldAddrA P E.h s x f = some v) : Does P E ix (Instr.fieldAt s cx f) v none := by
  unfold fieldAddrA at h
  split at h
  · rename_i fs hu
    split at h
    · rename_i fd hf
      split at h
      · cases h
      · rename_i hz
        have hp : ∀ (b o : Nat), (fieldPlace ⟨b, o, none⟩ fd).run P E.w = .ok ⟨b, o + fd.offset, none⟩ E.w := fun b o => by
          simp [fieldPlace, run_size' hz, hz, Addr.add_lit]
        cases x <;> simp only at h <;> try (cases h; done)
        case ptr o off =>
          split at h
          · rename_i cs ho
            cases h
            simp only [VR, ho] at hx
            obtain ⟨b, c, hι, rfl⟩ := hx
            refine ⟨.pointer (some ⟨b, off + fd.offset, none⟩), by simp [Instr.fieldAt, run_underlying hu, hf, Instr.sureAddr, hp], ?_⟩
            simp only [VR, ho]
            exact ⟨b, c, hι, rfl⟩
          · rename_i T cs ho
            cases h
            simp only [VR, ho] at hx
            obtain ⟨b, c, hι, rfl⟩ := hx
            refine ⟨.pointer (some ⟨b, off + fd.offset, none⟩), by simp [Instr.fieldAt, run_underlying hu, hf, Instr.sureAddr, hp], ?_⟩
            simp only [VR, ho]
            exact ⟨b, c, hι, rfl⟩
          · cases h
        case eptr o i g =>
          split at h
          · rename_i md e sh rs ho
            cases h
            simp only [VR, ho] at hx
            obtain ⟨b, c, hι, rfl⟩ := hx
            refine ⟨.pointer (some ⟨b, i * sh.length + g + fd.offset, none⟩), by simp [Instr.fieldAt, run_underlying hu, hf, Instr.sureAddr, hp], ?_⟩
            simp only [VR, ho]
            exact ⟨b, c, hι, by rw [Nat.add_assoc]⟩
          · cases h
        case rptr sh cs g =>
          cases h
          simp only [VR] at hx
          obtain ⟨b, off, rfl, hst, hrow, hpu, hCR⟩ := hx
          refine ⟨.pointer (some ⟨b, off + g + fd.offset, none⟩), by simp [Instr.fieldAt, run_underlying hu, hf, Instr.sureAddr, hp], ?_⟩
          simp only [VR]
          exact ⟨b, off, by rw [Nat.add_assoc], hst, hrow, hpu, hCR⟩
    · cases h
  · cases h

theorem part_ok {t : TypeId} {cs : List AV} {a : Array Value} {off : Nat} {v : AV} (hcs : VL E cs a.toList) (h1 : ∀ x ∈ a.toList, x.oneCell' = true) (h : partA P t cs off = some v) :
    ∃ cv, (part t a off).run P E.w = .ok cv E.w ∧ VR E v cv := by
  unfold partA rdCells at h
  split at h
  · rename_i hlen
    split at h
    · rename_i hagg
      cases h
      obtain ⟨d, hd⟩ := isAgg_some hagg
      refine ⟨.agg (a.extract off (off + szOf P t)), by simp [part, run_isAggT hagg, run_size hd], ?_⟩
      simp only [VR]
      have : (a.extract off (off + szOf P t)).toList = (a.toList.drop off).take (szOf P t) := by simp [List.extract_eq_take_drop]
      refine ⟨_, rfl, ?_, ?_⟩
      · rw [this]; exact (hcs.drop off).take _
      · rw [this]; intro x hx; exact h1 x (List.mem_of_mem_drop (List.mem_of_mem_take hx))
    · rename_i hagg
      split at h
      · rename_i c hc
        cases h
        have hget : cs[off]? = some v := by
          have h2 : ((cs.drop off).take (szOf P t))[0]? = some v := by rw [hc]; rfl
          rw [List.getElem?_take] at h2
          split at h2
          · simpa [List.getElem?_drop] using h2
          · cases h2
        obtain ⟨cv, hcv, hr⟩ := hcs.get off v hget
        have : a[off]? = some cv := by simpa using hcv
        exact ⟨cv, by simp [part, run_isAggT hagg, this], hr⟩
      · cases h
    · cases h
  · cases h

theorem field_ok {ix : Nat} {t : TypeId} {x v : AV} {cx : Value} {f : Nat} (hx : VR E x cx) (h : fieldA P t f x = some v) : Does P E ix (Instr.field t cx f) v none := by
  unfold fieldA at h
  cases x <;> simp only at h <;> try (cases h; done)
  rename_i cs
  split at h
  · rename_i fs hu
    split at h
    · rename_i fd hf
      simp only [VR] at hx
      obtain ⟨a, rfl, h1, h2⟩ := hx
      obtain ⟨cv, hr, hv⟩ := part_ok h1 h2 h
      exact ⟨cv, by simp [Instr.field, run_underlying hu, hf, asAgg, hr], hv⟩
    · cases h
  · cases h

theorem index_ok {ix : Nat} {t : TypeId} {x i v : AV} {cx ci : Value} (hx : VR E x cx) (hi : VR E i ci) (h : indexA P t x i = some v) : Does P E ix (Instr.index t cx ci) v none := by
  unfold indexA at h
  split at h
  · rename_i cs k i
    simp only [VR] at hx hi
    subst hi
    obtain ⟨a, rfl, h1, h2⟩ := hx
    split at h
    · rename_i n e hu
      split at h
      · rename_i hin
        have hz : szOf P e ≠ 0 ∨ szOf P e = 0 := by omega
        obtain ⟨cv, hr, hv⟩ := part_ok h1 h2 h
        have hs : (sizeOf e).run P E.w = .ok (szOf P e) E.w := by
          unfold partA rdCells at h
          split at h
          · cases hag : isAggT P e with
            | none => simp [hag] at h
            | some b => obtain ⟨d, hd⟩ := isAgg_some hag; exact run_size hd E.w
          · cases h
        exact ⟨cv, by simp [Instr.index, asIntOf, run_underlying hu, hin, hs, hr], hv⟩
      · cases h
    · cases h
  · rename_i s k i
    simp only [VR] at hx hi
    subst hi; subst hx
    split at h
    · rename_i hu
      split at h
      · rename_i hin
        cases h
        refine ⟨.int .u8 ((s.data.toList.getD i.toNat 0).toNat : Int), ?_, by simp [VR]⟩
        rw [run_index_string E.w t s k i hu, dif_pos hin]
        have hlt : i.toNat < s.size := by omega
        have : s.data.toList.getD i.toNat 0 = s[i.toNat] := by
          rw [List.getD_eq_getElem?_getD, List.getElem?_eq_getElem (by simpa using hlt)]
          rfl
        rw [this]
      · cases h
    · cases h
  · cases h

theorem assert_ok {ix : Nat} {xt as : TypeId} {ok : Bool} {x v : AV} {cx : Value} (hx : VR E x cx) (h : assertA P xt as ok x = some v) : Does P E ix (Instr.typeAssert cx xt as ok) v none := by
  unfold assertA at h
  cases x <;> simp only at h <;> try (cases h; done)
  rename_i t u
  simp only [VR] at hx
  obtain ⟨cu, rfl, hu⟩ := hx
  cases hd : P.underlying as with
  | none => simp [hd] at h
  | some d =>
    have hni : ∀ ms, d ≠ .interface ms := fun ms hm => by subst hm; simp [hd] at h
    have h' : (if t = as then some (if ok then AV.tup [u, .bool true] else u) else if ok then (match (P.info? as).bind (·.zero) with | some z => some (AV.tup [cst z, .bool false]) | none => none) else none) = some v := by
      cases d <;> simp only [hd] at h <;> first | exact h | (cases h; done)
    have hrun : (Instr.typeAssert (.iface t cu) xt as ok).run P E.w = (if t = as then (pure (if ok then .tuple #[cu, .bool true] else cu) : Sem Value) else if ok then (do pure (.tuple #[← zeroValue as, .bool false])) else runtimePanic (.typeAssertion (some xt) (some t) as "")).run P E.w := by
      simp only [Instr.typeAssert, Sem.run_bind, run_underlying hd, Result.andThen_ok]
    rw [Does, hrun]
    by_cases hta : t = as
    · rw [if_pos hta] at h'
      cases h'
      cases ok
      · exact ⟨cu, by simp [hta], hu⟩
      · exact ⟨.tuple #[cu, .bool true], by simp [hta], by simp only [VR, if_true]; exact ⟨_, rfl, by simp only [VL]; exact ⟨hu, by simp [VR], trivial⟩⟩⟩
    · rw [if_neg hta] at h'
      cases ok
      · simp at h'
      · simp only [if_true] at h'
        cases hi : P.info? as with
        | none => simp [hi] at h'
        | some i =>
          cases hz : i.zero with
          | none => simp [hi, hz] at h'
          | some z =>
            simp [hi, hz] at h'
            subst h'
            refine ⟨.tuple #[z, .bool false], by simp [hta, run_zero hi hz], ?_⟩
            simp only [VR]
            exact ⟨_, rfl, by simp only [VL]; exact ⟨cst_ok z, by simp [VR], trivial⟩⟩

theorem len_ok {ix : Nat} {t ty : TypeId} {x v : AV} {cx : Value} (hx : VR E x cx) (h : lenA P t x = some v) : Does P E ix (Builtin.len_ #[t] ty #[cx]) v none := by
  unfold lenA at h
  cases x <;> simp only at h <;> try (cases h; done)
  case str s =>
    split at h
    · rename_i hu; cases h
      simp only [VR] at hx; subst hx
      exact ⟨_, run_len_string (P := P) E.w t ty s hu, by simp [VR, goInt]⟩
    · cases h
  case row nl sh rs =>
    split at h
    · rename_i e hu; cases h
      simp only [VR] at hx
      obtain ⟨a, cap, rfl, _⟩ := hx
      exact ⟨goInt rs.length, by simp [Builtin.len_, run_underlying hu], by simp [VR, goInt]⟩
    · cases h
  case nils =>
    split at h
    · rename_i e hu; cases h
      simp only [VR] at hx; subst hx
      exact ⟨goInt 0, by simp [Builtin.len_, run_underlying hu], by simp [VR, goInt]⟩
    · cases h
  case sl o off len =>
    split at h
    · rename_i e hu; cases h
      simp only [VR] at hx
      cases ho : E.h[o]? with
      | none => simp [ho] at hx
      | some ob =>
        cases ob <;> simp only [ho] at hx <;> try (exact hx.elim)
        · obtain ⟨b, c, cap, _, rfl, _⟩ := hx
          exact ⟨goInt len, by simp [Builtin.len_, run_underlying hu], by simp [VR, goInt]⟩
        · obtain ⟨a, cap, rfl⟩ := hx
          exact ⟨goInt len, by simp [Builtin.len_, run_underlying hu], by simp [VR, goInt]⟩
    · cases h

theorem min_ok {ix : Nat} {ts : Array TypeId} {ty : TypeId} {l : List AV} {cl : Array Value} {v : AV} (hx : VL E l cl.toList) (h : minA l = some v) : Does P E ix (Builtin.min_ ts ty cl) v none := by
  unfold minA at h
  split at h
  · rename_i k x k' y
    split at h
    · rename_i hk; cases h; subst hk
      obtain ⟨cl⟩ := cl
      match cl, hx with
      | [c, d], hx =>
        simp only [VL, VR] at hx
        obtain ⟨rfl, rfl, _⟩ := hx
        exact ⟨_, run_min_int2 (P := P) E.w ts ty k k x y, by simp [VR]⟩
      | [], hx => simp [VL] at hx
      | [_], hx => simp [VL] at hx
      | _ :: _ :: _ :: _, hx => simp [VL] at hx
    · cases h
  · cases h
theorem max_ok {ix : Nat} {ts : Array TypeId} {ty : TypeId} {l : List AV} {cl : Array Value} {v : AV} (hx : VL E l cl.toList) (h : maxA l = some v) : Does P E ix (Builtin.max_ ts ty cl) v none := by
  unfold maxA at h
  split at h
  · rename_i k x k' y
    split at h
    · rename_i hk; cases h; subst hk
      obtain ⟨cl⟩ := cl
      match cl, hx with
      | [c, d], hx =>
        simp only [VL, VR] at hx
        obtain ⟨rfl, rfl, _⟩ := hx
        exact ⟨_, run_max_int2 (P := P) E.w ts ty k k x y, by simp [VR]⟩
      | [], hx => simp [VL] at hx
      | [_], hx => simp [VL] at hx
      | _ :: _ :: _ :: _, hx => simp [VL] at hx
    · cases h
  · cases h
end
end Go.Proofs.YtiemjcchlfbglaaGreatE
/- Arithmetic, comparisons, conversions. -/
namespace Go.Proofs.YtiemjcchlfbglaaGreatE
open Go

section
variable {P : Program} {E : En}

theorem eqT_ok (w : World) : ∀ (d : Nat) (t : TypeId) (xs ys : List AV) (r : Bool), eqT P d t xs ys = some r → ∀ D, d ≤ D → ∀ (a b : Array Value), VL E xs a.toList → VL E ys b.toList →
    (isAggT P t = some true ∧ (Op.equalIn D t (.agg a) (.agg b)).run P w = .ok r w) ∨
    (isAggT P t = some false ∧ ∃ ca cb, a.toList = [ca] ∧ b.toList = [cb] ∧ (Op.equalIn D t ca cb).run P w = .ok r w)
  | 0, _, _, _, _, h, _, _, _, _, _, _ => by simp [eqT] at h
  | d + 1, t, xs, ys, r, h, D, hD, a, b, ha, hb => by
    obtain ⟨D, rfl⟩ : ∃ m, D = m + 1 := ⟨D - 1, by omega⟩
    simp only [eqT] at h
    cases hu : P.underlying t with
    | none => simp [hu] at h
    | some ty =>
    cases ty <;> simp only [hu] at h <;> try (cases h; done)
    case int k0 =>
      right
      split at h
      · rename_i k x k' y
        split at h
        · rename_i hk; cases h; subst hk
          obtain ⟨a⟩ := a; obtain ⟨b⟩ := b
          match a, b, ha, hb with
          | [c], [e], ha, hb =>
            simp only [VL, VR] at ha hb
            obtain ⟨rfl, _⟩ := ha; obtain ⟨rfl, _⟩ := hb
            exact ⟨by simp [isAggT, hu], _, _, rfl, rfl, run_equalIn_int w D t k k0 x y hu⟩
          | [], _, ha, _ => simp [VL] at ha
          | _ :: _ :: _, _, ha, _ => simp [VL] at ha
          | [_], [], _, hb => simp [VL] at hb
          | [_], _ :: _ :: _, _, hb => simp [VL] at hb
        · cases h
      · cases h
    case bool =>
      right
      split at h
      · rename_i x y
        cases h
        obtain ⟨a⟩ := a; obtain ⟨b⟩ := b
        match a, b, ha, hb with
        | [c], [e], ha, hb =>
          simp only [VL, VR] at ha hb
          obtain ⟨rfl, _⟩ := ha; obtain ⟨rfl, _⟩ := hb
          exact ⟨by simp [isAggT, hu], _, _, rfl, rfl, run_equalIn_bool w D t x y hu⟩
        | [], _, ha, _ => simp [VL] at ha
        | _ :: _ :: _, _, ha, _ => simp [VL] at ha
        | [_], [], _, hb => simp [VL] at hb
        | [_], _ :: _ :: _, _, hb => simp [VL] at hb
      · cases h
    case string =>
      right
      split at h
      · rename_i x y
        cases h
        obtain ⟨a⟩ := a; obtain ⟨b⟩ := b
        match a, b, ha, hb with
        | [c], [e], ha, hb =>
          simp only [VL, VR] at ha hb
          obtain ⟨rfl, _⟩ := ha; obtain ⟨rfl, _⟩ := hb
          exact ⟨by simp [isAggT, hu], _, _, rfl, rfl, run_equalIn_string w D t x y hu⟩
        | [], _, ha, _ => simp [VL] at ha
        | _ :: _ :: _, _, ha, _ => simp [VL] at ha
        | [_], [], _, hb => simp [VL] at hb
        | [_], _ :: _ :: _, _, hb => simp [VL] at hb
      · cases h
    case struct fs =>
      left
      split at h
      · cases h
      · rename_i hst
        refine ⟨by simp [isAggT, hu], ?_⟩
        have hf : P.fieldsOf t = fs := by simp [Program.fieldsOf, hu]
        rw [run_equalIn_struct w D t a b (by rw [hf]; exact hu) (by simpa using hst), hf]
        generalize fs.toList = l at h
        clear hu hst hf
        induction l generalizing r with
        | nil => simp [eqF] at h; subst h; simp [Op.eqFields]
        | cons f l ih =>
          simp only [eqF] at h
          split at h
          · cases h
          · rename_i hn
            rw [Option.bind_eq_some_iff] at h
            obtain ⟨r1, h1, h⟩ := h
            rw [Option.map_eq_some_iff] at h
            obtain ⟨r2, h2, rfl⟩ := h
            have hpa : (a.extract f.offset (f.offset + szOf P f.type)).toList = (a.toList.drop f.offset).take (szOf P f.type) := by simp [List.extract_eq_take_drop]
            have hpb : (b.extract f.offset (f.offset + szOf P f.type)).toList = (b.toList.drop f.offset).take (szOf P f.type) := by simp [List.extract_eq_take_drop]
            have key := eqT_ok w d f.type _ _ r1 h1 D (by omega) (a.extract f.offset (f.offset + szOf P f.type)) (b.extract f.offset (f.offset + szOf P f.type))
              (by rw [hpa]; exact (ha.drop _).take _) (by rw [hpb]; exact (hb.drop _).take _)
            have hparts : ∃ ca cb, (part f.type a f.offset).run P w = .ok ca w ∧ (part f.type b f.offset).run P w = .ok cb w ∧ (Op.equalIn D f.type ca cb).run P w = .ok r1 w := by
              rcases key with ⟨hag, hk⟩ | ⟨hag, ca, cb, e1, e2, hk⟩
              · obtain ⟨dd, hd⟩ := isAgg_some hag
                exact ⟨_, _, by simp [part, run_isAggT hag, run_size hd], by simp [part, run_isAggT hag, run_size hd], hk⟩
              · rw [hpa] at e1
                rw [hpb] at e2
                have g1 : a[f.offset]? = some ca := by
                  have : ((a.toList.drop f.offset).take (szOf P f.type))[0]? = some ca := by rw [e1]; rfl
                  rw [List.getElem?_take] at this
                  split at this
                  · simpa [List.getElem?_drop] using this
                  · cases this
                have g2 : b[f.offset]? = some cb := by
                  have : ((b.toList.drop f.offset).take (szOf P f.type))[0]? = some cb := by rw [e2]; rfl
                  rw [List.getElem?_take] at this
                  split at this
                  · simpa [List.getElem?_drop] using this
                  · cases this
                exact ⟨ca, cb, by simp [part, run_isAggT hag, g1], by simp [part, run_isAggT hag, g2], hk⟩
            obtain ⟨ca, cb, p1, p2, p3⟩ := hparts
            have hrest := ih r2 h2
            simp only [Op.eqFields, ne_eq, hn, not_false_eq_true, if_true, Sem.run_bind, p1, p2, p3, Result.andThen_ok]
            cases r1
            · simp
            · simpa using hrest

theorem un_ok {ix : Nat} {op : UnOp} {x v : AV} {cx : Value} (hx : VR E x cx) (h : unA op x = some v) : Does P E ix (Op.unary op cx) v none := by
  unfold unA at h
  cases x <;> simp only at h <;> try (cases h; done)
  case int k n =>
    simp only [VR] at hx; subst hx
    cases op <;> simp at h
    subst h
    exact ⟨_, by simp [Op.unary, Op.intArith]; rfl, by simp [VR]⟩
  case bool b =>
    simp only [VR] at hx; subst hx
    cases op <;> simp at h
    subst h
    exact ⟨_, by simp [Op.unary]; rfl, by simp [VR]⟩

theorem nil_ok {ix : Nat} {op : BinOp} {t : TypeId} {ox oy : Operand} {a : Option Addr} {l c : Nat} {v : AV} (h : nilA P op t a.isNone = some v) :
    Does P E ix (do eqGuard op t ox oy (.slice a l c) (.slice none 0 0); binOp op t (.slice a l c) (.slice none 0 0)) v none := by
  unfold nilA at h
  split at h
  · rename_i e hu; cases h
    refine ⟨.bool a.isNone, ?_, by simp [VR]⟩
    simp only [Sem.run_bind, binOp]
    simp [eqGuard, run_equal_slice_nil E.w t e a l c hu]
  · rename_i e hu; cases h
    refine ⟨.bool (!a.isNone), ?_, by simp [VR]⟩
    simp only [Sem.run_bind, binOp]
    simp [eqGuard, run_equal_slice_nil E.w t e a l c hu]
  · cases h

theorem bin_ok {ix : Nat} {op : BinOp} {t : TypeId} {ox oy : Operand} {x y v : AV} {cx cy : Value} (hx : VR E x cx) (hy : VR E y cy) (h : binA P op t x y = some v) :
    Does P E ix (do eqGuard op t ox oy cx cy; binOp op t cx cy) v none := by
  unfold binA at h
  split at h
  · rename_i k a k' b
    simp only [VR] at hx hy
    subst hx; subst hy
    have hg : (eqGuard op t ox oy (.int k a) (.int k' b)).run P E.w = .ok () E.w := by cases op <;> simp [eqGuard]
    have hb : ∀ cv, (binOp op t (.int k a) (.int k' b)).run P E.w = .ok cv E.w → (do eqGuard op t ox oy (.int k a) (.int k' b); binOp op t (.int k a) (.int k' b) : Sem Value).run P E.w = .ok cv E.w := fun cv hr => by
      simp only [Sem.run_bind, hg, Result.andThen_ok, hr]
    cases op <;> simp only [shA, intA] at h
    case shl =>
      split at h
      · cases h
      · rename_i hn; cases h
        exact ⟨_, hb _ (by simp only [binOp, Op.shift, if_neg hn]; rfl), by simp [VR]⟩
    case shr =>
      split at h
      · cases h
      · rename_i hn; cases h
        exact ⟨_, hb _ (by simp only [binOp, Op.shift, if_neg hn]; rfl), by simp [VR]⟩
    all_goals
      split at h
      · rename_i hk
        subst hk
        first
        | (cases h; done)
        | (cases h
           exact ⟨_, hb _ (by simp [binOp, Op.intArith, Op.intBits, Op.intCmp]; rfl), by simp [VR]⟩)
        | (split at h
           · cases h
           · rename_i hz; cases h
             exact ⟨_, hb _ (by simp [binOp, Op.intDiv, hz]; rfl), by simp [VR]⟩)
      · cases h
  · rename_i a b
    simp only [VR] at hx hy
    subst hx; subst hy
    have hg : (eqGuard op t ox oy (.string a) (.string b)).run P E.w = .ok () E.w := by cases op <;> simp [eqGuard]
    have hb : ∀ cv, (Op.stringOp op a b).run P E.w = .ok cv E.w → (do eqGuard op t ox oy (.string a) (.string b); binOp op t (.string a) (.string b) : Sem Value).run P E.w = .ok cv E.w := fun cv hr => by
      simp only [Sem.run_bind, hg, Result.andThen_ok, binOp]
      cases op <;> exact hr
    unfold strA at h
    cases op <;> simp only at h <;> try (cases h; done)
    case add =>
      split at h
      · cases h
      · rename_i hn; cases h
        exact ⟨_, hb _ (by simp only [Op.stringOp]; rw [if_neg hn]; rfl), by simp [VR]⟩
    case eql => cases h; exact ⟨_, hb _ (by simp only [Op.stringOp]; rfl), by simp [VR]⟩
    case neq => cases h; exact ⟨_, hb _ (by simp only [Op.stringOp]; rfl), by simp [VR]⟩
  · rename_i a b
    simp only [VR] at hx hy
    subst hx; subst hy
    split at h
    · rename_i hu; cases h
      exact ⟨.bool (a == b), by simp only [Sem.run_bind]; simp [eqGuard, run_eql_bool E.w t a b hu], by simp [VR]⟩
    · rename_i hu; cases h
      exact ⟨.bool !(a == b), by simp only [Sem.run_bind]; simp [eqGuard, run_neq_bool E.w t a b hu], by simp [VR]⟩
    · cases h
  · rename_i xs ys
    simp only [VR] at hx hy
    obtain ⟨a, rfl, ha, _⟩ := hx
    obtain ⟨b, rfl, hb, _⟩ := hy
    split at h
    · cases h
    · rename_i hm
      split at h
      · rename_i hag
        have hg := run_eqGuard_agg (P := P) E.w op t ox oy a b (by simpa using hm)
        cases op <;> simp only at h <;> try (cases h; done)
        case eql =>
          rw [Option.map_eq_some_iff] at h
          obtain ⟨r, h1, rfl⟩ := h
          rcases eqT_ok E.w 20 t xs ys r h1 10000 (by omega) a b ha hb with ⟨_, hk⟩ | ⟨hag', _⟩
          · exact ⟨.bool r, by simp only [Sem.run_bind, hg, Result.andThen_ok, run_eql_struct, hk], by simp [VR]⟩
          · rw [hag] at hag'; cases hag'
        case neq =>
          rw [Option.map_eq_some_iff] at h
          obtain ⟨r, h1, rfl⟩ := h
          rcases eqT_ok E.w 20 t xs ys r h1 10000 (by omega) a b ha hb with ⟨_, hk⟩ | ⟨hag', _⟩
          · exact ⟨.bool !r, by simp only [Sem.run_bind, hg, Result.andThen_ok, run_neq_struct, hk], by simp [VR]⟩
          · rw [hag] at hag'; cases hag'
      · cases h
  · rename_i nl sh rs
    simp only [VR] at hx hy
    subst hy
    obtain ⟨a, cap, rfl, _, _, h1, h2, _⟩ := hx
    have : a.isNone = nl := by
      cases nl
      · cases a
        · exact absurd rfl (h2 rfl)
        · rfl
      · rw [(h1 rfl).1]; rfl
    exact nil_ok (by rw [this]; exact h)
  · rename_i o off len
    simp only [VR] at hx hy
    subst hy
    cases ho : E.h[o]? with
    | none => simp [ho] at hx
    | some ob =>
      cases ob <;> simp only [ho] at hx <;> try (exact hx.elim)
      · obtain ⟨b, c, cap, _, rfl, _⟩ := hx
        exact nil_ok h
      · obtain ⟨a, cap, rfl⟩ := hx
        exact nil_ok h
  · simp only [VR] at hx hy
    subst hx; subst hy
    exact nil_ok h
  · cases h
end
end Go.Proofs.YtiemjcchlfbglaaGreatE
/- Conversions; all operations that write nothing that was there. -/
namespace Go.Proofs.YtiemjcchlfbglaaGreatE
open Go

section
variable {P : Program} {E : En}

theorem push_all : ∀ (ns : List Int) (r : ByteArray), ns.foldl (fun r n => r.push (UInt8.ofNat n.toNat)) r = ⟨r.data ++ (ns.map fun n => UInt8.ofNat n.toNat).toArray⟩
  | [], r => by simp
  | n :: ns, r => by
    rw [List.foldl_cons, push_all ns]
    simp [ByteArray.push]

theorem bytes_run {b off cap : Nat} {rs : List (List AV)} (hrow : ∀ r ∈ rs, rowOk [.int .u8] r) (hRR : RR E b 1 off rs) :
    (Conv.bytesToString (.slice (some ⟨b, off, none⟩) rs.length cap)).run P E.w = .ok (.string ⟨(rowsBytes rs).toArray⟩) E.w := by
  have hl : (loadCells ⟨b, off, none⟩ rs.length).run P E.w = .ok ((rs.map fun r => AV.toI (r.getD 0 .gone)).map (Value.int .u8)).toArray E.w := by
    have := run_loadCells_list (P := P) (w := E.w) ⟨b, off, none⟩ ((rs.map fun r => AV.toI (r.getD 0 .gone)).map (Value.int .u8)) fun j v hv => by
      rw [List.getElem?_map, List.getElem?_map] at hv
      cases hr : rs[j]? with
      | none => simp [hr] at hv
      | some r =>
        simp [hr] at hv
        have hro := hrow r (List.mem_of_getElem? hr)
        have hc := hRR.get j r hr
        match r, hro, hc, hv with
        | [], hro, _, _ => simp [rowOk] at hro
        | [u], hro, hc, hv =>
          have hk : kOk (.int .u8) u = true := hro.k (j := 0) rfl rfl
          cases u <;> simp [kOk] at hk
          subst hk
          simp only [CR, VR] at hc
          obtain ⟨⟨cv, h1, _, rfl⟩, _⟩ := hc
          simp [AV.toI] at hv
          subst hv
          rw [Addr.add_lit]
          simpa using h1
        | _ :: _ :: _, hro, _, _ => simp [rowOk] at hro
    simpa using this
  rw [run_bytesToString E.w _ _ cap _ hl, push_all]
  simp [rowsBytes, List.map_map, Function.comp_def]

theorem conv_ok {ix : Nat} {src dst : TypeId} {x v : AV} {cx : Value} {ob : Option AObj} (hx : VR E x cx) (h : convA P E.h ix src dst x = some (v, ob)) (hs : Sim E) : Does P E ix (convert src dst cx) v ob := by
  unfold convA at h
  split at h
  · rename_i k0 k k1 n hu1 hu2
    cases h
    simp only [VR] at hx; subst hx
    exact ⟨_, by simp [convert, run_underlying hu1, run_underlying hu2, Conv.intToInt]; rfl, by simp [VR]⟩
  · rename_i k0 k1 n hu1 hu2
    cases h
    simp only [VR] at hx; subst hx
    exact ⟨_, by simp [convert, run_underlying hu1, run_underlying hu2, Conv.intToString]; rfl, by simp [VR]⟩
  · rename_i s hu1 hu2
    cases h
    simp only [VR] at hx; subst hx
    exact ⟨.string s, by simp [convert, run_underlying hu1, run_underlying hu2], by simp [VR]⟩
  · rename_i e s hu1 hu2
    split at h
    · rename_i hu3
      split at h
      · rename_i hc
        cases h
        simp only [VR] at hx; subst hx
        have hcap := grownCap_ge E.w s.size 0 e
        have hcm := grownCap_le_maxLen E.w s.size 0 e (by unfold maxLen; omega)
        have hbl : (bytesRows s.data.toList).length = s.size := by simp [bytesRows]
        have hbsz : (bytesRow s (grownCap E.w s.size 0 e)).size = grownCap E.w s.size 0 e := by
          simp [bytesRow]; omega
        refine ⟨_, _, run_bytes_of_string E.w src dst e s hu1 hu2 hu3, ?_⟩
        have hflat : (bytesRows s.data.toList).flatten = s.data.toList.map fun b => AV.int .u8 b.toNat := by
          unfold bytesRows
          induction s.data.toList with
          | nil => rfl
          | cons b l ih => simp [ih]
        have hna := newArr (E := E) (e := e) (sh := [.int .u8]) (rs := bytesRows s.data.toList) (a := bytesRow s (grownCap E.w s.size 0 e)) (ix := ix) (md := 1) (cap := grownCap E.w s.size 0 e)
          (fr := ((bytesRow s (grownCap E.w s.size 0 e)).size, (bytesRow s (grownCap E.w s.size 0 e)).size + 1)) (by simp)
          (fun r hr => by simp [bytesRows] at hr; obtain ⟨b, _, rfl⟩ := hr; exact ⟨rfl, by simp [kOk]⟩) (by simp [hbsz]) (by rw [hbl]; exact hcap) hcm (fun h => by cases h) (fun i hi => by simp only; omega)
          (fun j v hv => by
            rw [hflat, List.getElem?_map] at hv
            cases hj : s.data.toList[j]? with
            | none => simp [hj] at hv
            | some b =>
              simp [hj] at hv
              subst hv
              have hlt : j < s.data.size := by have := (List.getElem?_eq_some_iff.1 hj).1; simpa using this
              refine ⟨.int .u8 b.toNat, ?_, rfl, by simp [VR]⟩
              have hj' : s.data[j]? = some b := by simpa using hj
              unfold bytesRow
              rw [Array.getElem?_append_left (by simpa using hlt), Array.getElem?_map, hj']
              rfl)
          (w' := E.w.drew.alloc (.cells (bytesRow s (grownCap E.w s.size 0 e)) e ((bytesRow s (grownCap E.w s.size 0 e)).size, (bytesRow s (grownCap E.w s.size 0 e)).size + 1))) rfl rfl rfl rfl
        rw [hbl] at hna
        exact hna
      · cases h
    · cases h
  · rename_i e nl sh rs hu1 hu2
    split at h
    · rename_i hu3
      split at h
      · rename_i hsh
        cases h; subst hsh
        simp only [VR] at hx
        obtain ⟨a, cap, rfl, _, _, _, _, hrest⟩ := hx
        refine ⟨.string ⟨(rowsBytes rs).toArray⟩, ?_, by simp [VR]⟩
        have hconv : (convert src dst (.slice a rs.length cap)).run P E.w = (Conv.bytesToString (.slice a rs.length cap)).run P E.w := run_convert_bytes_string E.w src dst e a rs.length cap hu1 hu3 hu2
        rw [hconv]
        rcases hrest with rfl | ⟨_, b, off, rfl, _, hrow, _, hRR⟩
        · cases a with
          | none => simp [Conv.bytesToString, rowsBytes]; rfl
          | some a =>
            have h2 : (⟨(rowsBytes []).toArray⟩ : ByteArray) = ByteArray.empty := rfl
            rw [h2]
            exact run_bytesToString (P := P) E.w a 0 cap [] (by simp [loadCells, loadCellsFrom])
        · exact bytes_run hrow hRR
      · cases h
    · cases h
  · rename_i e o off len hu1 hu2
    split at h
    · rename_i md e' sh rs hu3 ho
      split at h
      · rename_i hc
        obtain ⟨rfl, hol⟩ := hc
        cases h
        simp only [VR, ho] at hx
        obtain ⟨b, c, cap, hι, rfl, _, _, _⟩ := hx
        obtain ⟨h0, a, lo, hi, hb, hsz, hlc, hcm, hrow, hRR, _⟩ := hs.obj o b c _ hι ho
        have hlen : ((rs.drop off).take len).length = len := by simp; omega
        refine ⟨.string ⟨(rowsBytes ((rs.drop off).take len)).toArray⟩, ?_, by simp [VR]⟩
        have hconv := run_convert_bytes_string (P := P) E.w src dst e (some ⟨b, off * 1, none⟩) len cap hu1 hu3 hu2
        have hby := bytes_run (P := P) (E := E) (b := b) (off := off * 1) (cap := cap) (rs := (rs.drop off).take len) (fun r hr => hrow r (List.mem_of_mem_drop (List.mem_of_mem_take hr))) (by
          have h5 := (hRR.drop off).take len
          simp only [List.length_singleton, Nat.mul_one, Nat.zero_add] at h5
          rw [Nat.mul_one]; exact h5)
        rw [hlen] at hby
        simp only [List.length_singleton]
        rw [hconv, hby]
      · cases h
    · cases h
  · rename_i e hu1 hu2
    split at h
    · rename_i hu3
      cases h
      simp only [VR] at hx; subst hx
      refine ⟨.string .empty, ?_, by simp [VR]⟩
      rw [run_convert_bytes_string E.w src dst e none 0 0 hu1 hu3 hu2]
      simp [Conv.bytesToString]
    · cases h
  · cases h

/-- What an operation comes to in the model. -/
def DoesN (P : Program) (E : En) (ix : Nat) (s : Sem Next) (v : AV) : Option AObj → Prop
  | none => ∃ cv, s.run P E.w = .ok (.value cv) E.w ∧ VR E v cv
  | some ob => ∃ cv w', s.run P E.w = .ok (.value cv) w' ∧ NewO E v ob ix cv w'
theorem Does.n {ix : Nat} {s : Sem Value} {v : AV} {ob : Option AObj} (h : Does P E ix s v ob) : DoesN P E ix (do pure (.value (← s))) v ob := by
  cases ob with
  | none => obtain ⟨cv, h1, h2⟩ := h; exact ⟨cv, by simp [h1], h2⟩
  | some ob => obtain ⟨cv, w', h1, h2⟩ := h; exact ⟨cv, w', by simp [h1], h2⟩
theorem Does.pure {ix : Nat} {cv : Value} {v : AV} (h : VR E v cv) : DoesN P E ix (pure (.value cv)) v none := ⟨cv, rfl, h⟩
theorem ov_ok {t : List AV} {a : Act} (h : VL E t a.tmps.toList) (x : Option Operand) : OV E (x.map (ev t)) (x.map a.eval) := by
  cases x with
  | none => trivial
  | some x => exact ev_ok h x

theorem nw_ok {t : List AV} {a : Act} {ix : Nat} {o : Oper} {v : AV} {ob : Option AObj} (hs : Sim E) (ht : VL E t a.tmps.toList) (h : nwA P (ev t) E.h ix o = some (v, ob)) :
    DoesN P E ix (execOp a.eval o) v ob := by
  have hv := fun x => ev_ok ht x
  have noneOb : ∀ {u : Option AV}, (u.map fun v => (v, (none : Option AObj))) = some (v, ob) → u = some v ∧ ob = none := fun hu => by
    rw [Option.map_eq_some_iff] at hu
    obtain ⟨w, hw, he⟩ := hu
    cases he
    exact ⟨hw, rfl⟩
  unfold nwA at h
  split at h
  case h_1 x hop => cases h; simp only [execOp, hop]; exact Does.pure (hv x)
  case h_2 x hop => cases h; simp only [execOp, hop]; exact Does.pure (hv x)
  case h_3 c x y hop =>
    split at h
    · rename_i b hb
      have hc := hv c
      rw [hb] at hc
      simp only [VR] at hc
      simp only [execOp, hop, hc, asBool, pure_bind]
      cases b
      · rw [if_neg (by simp)] at h; cases h; simpa using Does.pure (hv y)
      · rw [if_pos rfl] at h; cases h; simpa using Does.pure (hv x)
    · cases h
  case h_4 e hop =>
    rw [Option.bind_eq_some_iff] at h
    obtain ⟨z, hz, h⟩ := h
    split at h
    · cases h; simp only [execOp, hop]; exact (allocT_ok hz).n
    · cases h
  case h_5 e x hop =>
    rw [Option.map_eq_some_iff] at h
    obtain ⟨cs, hc, he⟩ := h
    cases he; simp only [execOp, hop]; exact (box_ok (hv x) hc).n
  case h_6 ty ps hop =>
    rw [Option.bind_eq_some_iff] at h
    obtain ⟨z, hz, h⟩ := h
    rw [Option.bind_eq_some_iff] at h
    obtain ⟨pl, hpl, h⟩ := h
    rw [Option.map_eq_some_iff] at h
    obtain ⟨cs, hc, he⟩ := h
    cases he
    simp only [execOp, hop]
    exact (build_ok hz hpl (by simpa using PV.of _ _ hv ps.toList) hc).n
  case h_7 ty len ps hop =>
    split at h
    · rename_i e hu
      split at h
      · rename_i sh z hsh hz
        split at h
        · rename_i hc
          rw [Option.map_eq_some_iff] at h
          obtain ⟨rs, hrs, he⟩ := h
          cases he
          simp only [execOp, hop]
          exact (buildSlice_ok hu hsh hz hc.1 hc.2.1 hc.2.2 (by simpa using PV.of _ _ hv ps.toList) hrs).n
        · cases h
      · cases h
    · cases h
  case h_8 ty x hop =>
    obtain ⟨h2, rfl⟩ := noneOb h
    simp only [execOp, hop]
    exact Does.n (ob := none) (loadA_ok hs (hv x) h2)
  case h_9 x hop =>
    have hc := hv x
    have hnc : ∀ {v : AV}, VR E v (a.eval x) → (∃ q, a.eval x = .pointer (some q)) → DoesN P E ix (execOp a.eval o) v none := fun {v} h1 h2 => by
      obtain ⟨q, hq⟩ := h2
      simp only [execOp, hop, hq]
      exact Does.pure (by rw [← hq]; exact h1)
    split at h
    · rename_i o off hx
      cases h
      rw [hx] at hc
      refine hnc hc ?_
      simp only [VR] at hc
      cases ho : E.h[o]? with
      | none => simp [ho] at hc
      | some obj =>
        cases obj <;> simp only [ho] at hc <;> try (exact hc.elim)
        · obtain ⟨b, c, _, he⟩ := hc; exact ⟨_, he⟩
        · obtain ⟨b, c, _, he⟩ := hc; exact ⟨_, he⟩
        · exact hc
        · obtain ⟨b, c, _, he⟩ := hc; exact ⟨_, he⟩
    · rename_i o i f hx
      cases h
      rw [hx] at hc
      refine hnc hc ?_
      simp only [VR] at hc
      cases ho : E.h[o]? with
      | none => simp [ho] at hc
      | some obj =>
        cases obj <;> simp only [ho] at hc <;> try (exact hc.elim)
        · obtain ⟨b, c, _, he⟩ := hc; exact ⟨_, he⟩
        · exact hc
    · rename_i sh cs f hx
      cases h
      rw [hx] at hc
      refine hnc hc ?_
      simp only [VR] at hc
      obtain ⟨b, off, he, _⟩ := hc
      exact ⟨_, he⟩
    · rename_i g p q hx
      cases h
      rw [hx] at hc
      have h1 := hc
      simp only [VR] at h1
      obtain ⟨xs, ys, he, _⟩ := h1
      simp only [execOp, hop, he]
      exact Does.pure (by rw [← he]; exact hc)
    · cases h
  case h_10 op ty x y yt hop =>
    obtain ⟨h2, rfl⟩ := noneOb h
    simp only [execOp, hop]
    exact Does.n (ob := none) (bin_ok (hv x) (hv y) h2)
  case h_11 op ty x hop =>
    obtain ⟨h2, rfl⟩ := noneOb h
    simp only [execOp, hop]
    exact Does.n (ob := none) (un_ok (ix := ix) (hv x) h2)
  case h_12 src dst x hop =>
    simp only [execOp, hop]
    exact (conv_ok (hv x) h hs).n
  case h_13 ty x hop =>
    have hc := hv x
    cases hu : P.underlying ty with
    | none => simp [hu] at h
    | some d =>
      have hni : ∀ ms, d ≠ .interface ms := fun ms hm => by subst hm; simp [hu] at h
      have h2 : v = .iface ty (ev t x) ∧ ob = none := by
        cases d <;> simp only [hu] at h <;> first | (cases h; done) | (cases hx : ev t x <;> simp only [hx] at h <;> first | (cases h; done) | (cases h; exact ⟨rfl, rfl⟩))
      obtain ⟨rfl, rfl⟩ := h2
      have hconc : P.concrete ty = true := by
        unfold Program.concrete
        rw [hu]
        cases d <;> first | rfl | exact absurd rfl (hni _)
      simp only [execOp, hop]
      refine Does.n (ob := none) ⟨.iface ty (a.eval x), run_makeInterface (P := P) E.w ty (a.eval x) hconc, ?_⟩
      simp only [VR]
      exact ⟨_, rfl, hc⟩
  case h_14 f first caps hop =>
    cases h
    simp only [execOp, hop]
    refine Does.n (ob := none) ⟨.func f (first.map a.eval) (caps.map a.eval), rfl, ?_⟩
    simp only [VR]
    exact ⟨_, _, rfl, by simpa using evs_ok ht first.toList, by simpa using evs_ok ht caps.toList⟩
  case h_15 ty l c hop =>
    simp only [execOp, hop]
    exact (make_ok (hv l) (hv c) h).n
  case h_16 ty x lo hi mx hop =>
    obtain ⟨h2, rfl⟩ := noneOb h
    simp only [execOp, hop]
    exact Does.n (ob := none) (slice_ok (hv x) (ov_ok ht lo) (ov_ok ht hi) (ov_ok ht mx) h2)
  case h_17 s x f hop =>
    obtain ⟨h2, rfl⟩ := noneOb h
    simp only [execOp, hop]
    exact Does.n (ob := none) (fieldAddr_ok (hv x) h2)
  case h_18 ty x f hop =>
    obtain ⟨h2, rfl⟩ := noneOb h
    simp only [execOp, hop]
    exact Does.n (ob := none) (field_ok (hv x) h2)
  case h_19 ty x i hop =>
    obtain ⟨h2, rfl⟩ := noneOb h
    simp only [execOp, hop]
    exact Does.n (ob := none) (indexAddr_ok (hv x) (hv i) h2)
  case h_20 ty x i hop =>
    obtain ⟨h2, rfl⟩ := noneOb h
    simp only [execOp, hop]
    exact Does.n (ob := none) (index_ok (hv x) (hv i) h2)
  case h_21 x xt as ok hop =>
    obtain ⟨h2, rfl⟩ := noneOb h
    simp only [execOp, hop]
    exact Does.n (ob := none) (assert_ok (hv x) h2)
  case h_22 x i hop =>
    split at h
    · rename_i vs hx
      obtain ⟨h2, rfl⟩ := noneOb h
      have hc := hv x
      rw [hx] at hc
      simp only [VR] at hc
      obtain ⟨b, he, hl⟩ := hc
      obtain ⟨c, hc2, hr⟩ := hl.get i v h2
      simp only [execOp, hop, he]
      have : b[i]? = some c := by simpa using hc2
      exact Does.n (ob := none) ⟨c, by simp [Instr.extract, this], hr⟩
    · cases h
  case h_23 ty x hop =>
    split at h
    · rename_i s hu hx
      cases h
      have hc := hv x
      rw [hx] at hc
      simp only [VR] at hc
      simp only [execOp, hop, hc]
      refine Does.n (ob := some _) ⟨_, _, run_range_string (P := P) E.w ty s hu, .stringIter s 0, 0, rfl, rfl, rfl, rfl, fun E' hX hι hob x => ⟨hX, ?_⟩⟩
      simp only [VR, hob]
      exact ⟨_, _, hι, rfl⟩
    · cases h
  case h_24 args tys hop =>
    split at h
    · rename_i x ty h1 h2
      obtain ⟨h3, rfl⟩ := noneOb h
      have e1 : args = #[x] := by apply Array.toList_inj.1; simpa using h1
      have e2 : tys = #[ty] := by apply Array.toList_inj.1; simpa using h2
      subst e1; subst e2
      simp only [execOp, hop, resolve, pure_bind, invoke, builtin]
      simpa using Does.n (ob := none) (len_ok (ix := ix) (ty := o.type) (hv x) h3)
    · cases h
  case h_25 args tys hop =>
    obtain ⟨h2, rfl⟩ := noneOb h
    simp only [execOp, hop, resolve, pure_bind, invoke, builtin]
    exact Does.n (ob := none) (min_ok (ix := ix) (by simpa using evs_ok ht args.toList) h2)
  case h_26 args tys hop =>
    obtain ⟨h2, rfl⟩ := noneOb h
    simp only [execOp, hop, resolve, pure_bind, invoke, builtin]
    exact Does.n (ob := none) (max_ok (ix := ix) (by simpa using evs_ok ht args.toList) h2)
  case h_27 => cases h
end
end Go.Proofs.YtiemjcchlfbglaaGreatE
