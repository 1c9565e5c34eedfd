/- The interpreter: writers, calls, regions, code, functions. -/
import Derived.Test.YthihinlamlamhaaEvA
namespace Go.Proofs.YthihinlamlamhaaE
open Go

/-! ### References: collected, renumbered, frozen -/
mutual
def refsV : AV → List Nat
  | .ptr o _ | .eptr o _ _ | .sl o _ _ => [o]
  | .fn _ a b => refsL a ++ refsL b
  | .iface _ v => refsV v
  | .agg cs => refsL cs
  | .tup vs => refsL vs
  | _ => []
def refsL : List AV → List Nat
  | [] => []
  | v :: l => refsV v ++ refsL l
end
mutual
def mapV (f : Nat → Option Nat) : AV → AV
  | .ptr o off => match f o with | some j => .ptr j off | none => .gone
  | .eptr o i g => match f o with | some j => .eptr j i g | none => .gone
  | .sl o off len => match f o with | some j => .sl j off len | none => .gone
  | .fn g a b => .fn g (mapL f a) (mapL f b)
  | .iface t v => .iface t (mapV f v)
  | .agg cs => .agg (mapL f cs)
  | .tup vs => .tup (mapL f vs)
  | v => v
def mapL (f : Nat → Option Nat) : List AV → List AV
  | [] => []
  | v :: l => mapV f v :: mapL f l
end
def K.typed : K → Bool | .any => false | _ => true
def rowsPure (sh : List K) (rs : List (List AV)) : Bool := sh.all K.typed || rs.all fun r => (refsL r).isEmpty
def mapRows (f : Nat → Option Nat) (sh : List K) (rs : List (List AV)) : List (List AV) :=
  if sh.all K.typed then rs else rs.map (mapL f)
def refsO : AObj → List Nat
  | .box cs => refsL cs
  | .arr _ _ sh rs => if sh.all K.typed then [] else rs.flatMap refsL
  | _ => []
def mapO (f : Nat → Option Nat) : AObj → AObj
  | .box cs => .box (mapL f cs)
  | .arr md e sh rs => .arr md e sh (mapRows f sh rs)
  | o => o
def idx (o : Nat) : List Nat → Option Nat
  | [] => none
  | x :: l => if x = o then some 0 else (idx o l).map (· + 1)
def collect (h : List AObj) : Nat → List Nat → List Nat → List Nat
  | 0, _, seen => seen
  | _ + 1, [], seen => seen
  | k + 1, i :: todo, seen =>
    if (idx i seen).isSome then collect h k todo seen
    else match h[i]? with
      | some ob => collect h k (refsO ob ++ todo) (seen ++ [i])
      | none => collect h k todo seen
mutual
def frV (h : List AObj) : AV → AV
  | .sl o off len => match h[o]? with
    | some (.arr _ _ sh rs) => if rowsPure sh rs && decide (off + len ≤ rs.length) then .row false sh ((rs.drop off).take len) else .sl o off len
    | _ => .sl o off len
  | .fn g a b => .fn g (frL h a) (frL h b)
  | .iface t v => .iface t (frV h v)
  | .agg cs => .agg (frL h cs)
  | .tup vs => .tup (frL h vs)
  | v => v
def frL (h : List AObj) : List AV → List AV
  | [] => []
  | v :: l => frV h v :: frL h l
end
mutual
def slsV : AV → List Nat
  | .sl o _ _ => [o]
  | .fn _ a b => slsL a ++ slsL b
  | .iface _ v => slsV v
  | .agg cs => slsL cs
  | .tup vs => slsL vs
  | _ => []
def slsL : List AV → List Nat
  | [] => []
  | v :: l => slsV v ++ slsL l
end
def roO : AObj → AObj
  | .arr _ e sh rs => .arr 0 e sh rs
  | o => o
def mark1 (h : List AObj) (i : Nat) : List AObj :=
  match h[i]? with
  | some ob => h.set i (roO ob)
  | none => h
def markRo (h : List AObj) : List Nat → List AObj
  | [] => h
  | i :: l => markRo (mark1 h i) l

/-! ### Writers -/
def storeA (P : Program) (h : List AObj) (t : TypeId) (a v : AV) : Option (List AObj) :=
  match v.cells? with
  | some new => if new.length = szOf P t ∧ 0 < new.length then match a with
    | .ptr o off => match h[o]? with
      | some (.box cs) => if off + new.length ≤ cs.length then some (h.set o (.box (setAll cs off new))) else none
      | _ => none
    | .eptr o i f => match h[o]? with
      | some (.arr md e sh rs) => if md ≠ 0 ∧ i < rs.length ∧ f + new.length ≤ sh.length ∧ (((sh.drop f).zip new).all fun p => kOk p.1 p.2) = true then
          some (h.set o (.arr md e sh (rs.set i (setAll (rs.getD i []) f new)))) else none
      | _ => none
    | _ => none
    else none
  | none => none
def nextA (h : List AObj) : AV → Option (AV × List AObj)
  | .ptr o 0 => match h[o]? with
    | some (.iter s pos) => if pos < s.size then some (.tup [.bool true, .int .i64 pos, .int .i32 (Utf8.decode s pos).1], h.set o (.iter s (pos + (Utf8.decode s pos).2))) else some (.tup [.bool false], h)
    | _ => none
  | _ => none
def rowsOf (h : List AObj) (sh : List K) : AV → Option (List (List AV))
  | .row _ sh' rs => if sh' = sh then some rs else none
  | .sl o off len => match h[o]? with
    | some (.arr _ _ sh' rs) => if sh' = sh ∧ off + len ≤ rs.length then some ((rs.drop off).take len) else none
    | _ => none
  | .nils => some []
  | .str s => if sh = [.int .u8] then some (bytesRows s.data.toList) else none
  | _ => none
def okSrc : TypeDesc → Bool
  | .slice _ | .string => true
  | _ => false
def appendA (P : Program) (h : List AObj) (ts : List TypeId) (s x : AV) : Option (AV × List AObj) :=
  match ts with
  | [st, xt] => match P.underlying st, P.underlying xt with
    | some (.slice e), some d => if okSrc d = false then none else match elemSh P e, zeroA P e with
      | some sh, some z => if z.length = sh.length then match rowsOf h sh x with
        | some news => match s with
          | .nils => match news with
            | [] => some (.nils, h)
            | _ => if news.length * P.bytesOf e ≤ 140737488355328 ∧ news.length ≤ 9223372036854775807 then some (.sl h.length 0 news.length, h ++ [.arr 2 e sh news]) else none
          | .sl o 0 len => match h[o]? with
            | some (.arr 2 e' sh' rs) => if e' = e ∧ sh' = sh ∧ len = rs.length ∧ (rs.length + news.length) * P.bytesOf e ≤ 140737488355328 ∧ rs.length + news.length ≤ 9223372036854775807 then
                some (.sl h.length 0 (rs.length + news.length), h.set o .dead ++ [.arr 2 e sh (rs ++ news)]) else none
            | _ => none
          | _ => none
        | none => none
        else none
      | _, _ => none
    | _, _ => none
  | _ => none

/-! ### Calls -/
abbrev CallF := FuncId → List AV → List AObj → Option (AV × List AObj)
def setMany (h : List AObj) : List Nat → List AObj → List AObj
  | i :: σ, ob :: l => setMany (h.set i ob) σ l
  | _, _ => h
def argsF (h : List AObj) (args : List AV) : List AV := frL h args
def heapF (h : List AObj) (args : List AV) : List AObj := markRo h (slsL args)
def sig (h : List AObj) (args : List AV) : List Nat := collect (heapF h args) 1000 (refsL (argsF h args)) []
def backTo (n : Nat) (σ : List Nat) (m : Nat) (j : Nat) : Option Nat :=
  match σ[j]? with
  | some i => some i
  | none => if j < m then some (n + (j - σ.length)) else none
def callA (F : CallF) (h : List AObj) (g : FuncId) (args : List AV) : Option (AV × List AObj) :=
  match F g (mapL (idx · (sig h args)) (argsF h args)) ((sig h args).map fun i => mapO (idx · (sig h args)) ((heapF h args).getD i .dead)) with
  | some (v, h') =>
    if (sig h args).length ≤ h'.length then
      some (mapV (backTo h.length (sig h args) h'.length) v,
        setMany (heapF h args) (sig h args) ((h'.take (sig h args).length).map (mapO (backTo h.length (sig h args) h'.length))) ++
          (h'.drop (sig h args).length).map (mapO (backTo h.length (sig h args) h'.length)))
    else none
  | none => none
def target (P : Program) (x : AV) (name : String) : Option (FuncId × AV) :=
  match x with
  | .iface t v => match (P.info? t).bind fun i => i.methods.find? (·.name == name) with
    | some m => if m.path.isEmpty then match m.func, P.underlying t with
      | some (f, true), some (.pointer _) => some (f, v)
      | some (_, false), some (.pointer _) => none
      | some (f, false), some _ => some (f, v)
      | _, _ => none
      else none
    | none => none
  | _ => none
/-- The function that is called, with all its arguments. -/
def calleeA (P : Program) (ρ : Operand → AV) : Op → Option (FuncId × List AV)
  | .call { callee := .value f, args, .. } => match ρ f with
    | .fn (.func g) first caps => some (g, first ++ args.toList.map ρ ++ caps)
    | _ => none
  | .call { callee := .invoke r name, args, .. } => (target P (ρ r) name).map fun p => (p.1, p.2 :: args.toList.map ρ)
  | _ => none

structure S where
  t : List AV
  h : List AObj
structure Ctx where
  P : Program
  F : CallF
  lk : Nat
  n0 : Nat
  keep : Nat → List Nat
  keepX : Nat → Option (List Nat)
  keepR : Option (List Nat)
  abs : Bool

def ev (t : List AV) : Operand → AV
  | .tmp i => t.getD i .undef
  | .const v => cst v
  | .func f => .fn (.func f) [] []
  | .global _ => .gone
def S.put (st : S) (dst : Option Tmp) (v : AV) (h : List AObj) : S :=
  match dst with
  | some d => ⟨st.t.set d v, h⟩
  | none => ⟨st.t, h⟩
def isWriter (o : Oper) : Bool :=
  match o.op with
  | .store .. | .next .. => true
  | .call { callee := .builtin .append, .. } => true
  | .call { callee := .builtin _, .. } => false
  | .call _ => true
  | _ => false
def bodied (P : Program) (g : FuncId) : Bool :=
  match P.funcs[g]? with
  | some fn => fn.body.isSome
  | none => false
def wrA (C : Ctx) (ρ : Operand → AV) (h : List AObj) (o : Oper) : Option (AV × List AObj) :=
  match o.op with
  | .store t a v => (storeA C.P h t (ρ a) (ρ v)).map fun h' => (.undef, h')
  | .next it true => nextA h (ρ it)
  | .call { callee := .builtin .append, args, argTypes } => match args.toList with
    | [s, x] => appendA C.P h argTypes.toList (ρ s) (ρ x)
    | _ => none
  | .call { callee := .builtin _, .. } => none
  | op => match calleeA C.P ρ op with
    | some (g, args) => if bodied C.P g then callA C.F h g args else none
    | none => none
def opA (C : Ctx) (ρ : Operand → AV) (h : List AObj) (o : Oper) : Option (AV × List AObj) :=
  if isWriter o then wrA C ρ h o else (nwA C.P ρ h h.length o).map fun p => (p.1, h ++ p.2.toList)
def wantedA (ops : Array Oper) (t : List AV) (o : Oper) : Option Bool :=
  match o.guard with
  | none => some true
  | some (j, want) => match (ops[j]?).bind (·.dst) with
    | none => some false
    | some d => match t[d]? with
      | some (.bool b) => some (b == want)
      | some .gone => none
      | _ => some false
def stepA (C : Ctx) (ops : Array Oper) (i : Nat) (st : S) : Option S :=
  match ops[i]? with
  | none => some st
  | some o => match wantedA ops st.t o with
    | some b => if b = true then (opA C (ev st.t) st.h o).map fun p => st.put o.dst p.1 p.2 else some (st.put o.dst .undef st.h)
    | none => none
def runOps (C : Ctx) (ops : Array Oper) : List Nat → S → Option S
  | [], st => some st
  | i :: is, st => (stepA C ops i st).bind (runOps C ops is)

/-! ### Regions that draw: in an order of our own -/
def readObj (ρ : Operand → AV) (o : Oper) : Option Nat :=
  match o.op with
  | .load _ a => match ρ a with | .ptr b _ | .eptr b _ _ => some b | _ => none
  | .indexAddr _ x _ | .slice _ x _ _ _ | .convert _ _ x | .fieldAddr _ x _ => match ρ x with | .sl b _ _ | .ptr b _ | .eptr b _ _ => some b | _ => none
  | _ => none
def touched (C : Ctx) (ρ : Operand → AV) (h : List AObj) (o : Oper) : List Nat :=
  match o.op with
  | .store _ a _ => match ρ a with | .ptr b _ | .eptr b _ _ => [b] | _ => []
  | .next it _ => match ρ it with | .ptr b _ => [b] | _ => []
  | .call { callee := .builtin _, args, .. } => match args.toList with | s :: _ => (match ρ s with | .sl b _ _ => [b] | _ => []) | [] => []
  | op => match calleeA C.P ρ op with | some (_, args) => sig h args | none => []
def isWr (ops : Array Oper) (i : Nat) : Bool := (ops[i]?).any isWriter
/-- The operations in an order in which what writes nothing comes as early as may be. -/
def canonGo (ops : Array Oper) (bf : Array Nat) : Nat → List Nat → Nat → List Nat → List Nat
  | 0, _, _, acc => acc.reverse
  | k + 1, left, done, acc =>
    let rdy := left.filter fun i => (bf.getD i 0) &&& done == bf.getD i 0
    match (rdy.filter fun i => !isWr ops i) ++ rdy with
    | [] => acc.reverse
    | i :: _ => canonGo ops bf k (left.filter (· != i)) (done ||| 2 ^ i) (i :: acc)
def canon (ops : Array Oper) : List Nat := canonGo ops (Region.before ops) ops.size (List.range ops.size) 0 []
/-- Each stands behind what it waits for; writers wait for one another; the others behind a writer wait for it. 'done': those before, 'wr': the last writer. -/
def canonOk (ops : Array Oper) (bf : Array Nat) : List Nat → Nat → Option Nat → Bool
  | [], done, _ => (List.range ops.size).all fun i => done.testBit i
  | i :: l, done, wr =>
    decide (i < ops.size) && !done.testBit i && ((bf.getD i 0) &&& done == bf.getD i 0) && (match wr with | some j => (bf.getD i 0).testBit j | none => true) &&
      canonOk ops bf l (done ||| 2 ^ i) (if isWr ops i then some i else wr)
/-- Who touches a temporary that another one writes is ordered with it. -/
def tmpOk (ops : Array Oper) (bf : Array Nat) : Bool :=
  (List.range ops.size).all fun j => match ops[j]? with
    | none => true
    | some o => (o.looksAt ops ++ o.dst.toList).all fun t => (List.range ops.size).all fun i => i == j || (match ops[i]? with | some o' => o'.dst != some t || (bf.getD (max i j) 0).testBit (min i j) | none => true)
def runD (C : Ctx) (ops : Array Oper) (bf : Array Nat) : List Nat → List (Nat × Nat) → S → Option S
  | [], _, st => some st
  | i :: is, pend, st =>
    match ops[i]? with
    | none => none
    | some o =>
      match wantedA ops st.t o with
      | some b =>
        if b = true then
          if isWriter o then
            if (pend.all fun p => (bf.getD i 0).testBit p.1 || !(touched C (ev st.t) st.h o).contains p.2) = true then (stepA C ops i st).bind (runD C ops bf is pend) else none
          else (stepA C ops i st).bind (runD C ops bf is ((readObj (ev st.t) o).toList.map (fun b => (i, b)) ++ pend))
        else (stepA C ops i st).bind (runD C ops bf is pend)
      | none => none
def regionA (C : Ctx) (ops : Array Oper) (draw : Bool) (st : S) : Option S :=
  if draw = true then
    if canonOk ops (Region.before ops) (canon ops) 0 none && tmpOk ops (Region.before ops) then runD C ops (Region.before ops) (canon ops) [] st else none
  else runOps C ops (List.range ops.size) st

/-! ### Code -/
inductive Ex where
  | nrm | exit (id : Nat) | ret
  deriving DecidableEq
/-- Of the slots only some are kept. -/
def only : Nat → List Nat → List AV → List AV
  | _, _, [] => []
  | i, [], _ :: t => .gone :: only (i + 1) [] t
  | i, k :: ks, v :: t => if Nat.beq i k = true then v :: only (i + 1) ks t else .gone :: only (i + 1) (k :: ks) t
def rootsN (h : List AObj) (n0 : Nat) : List Nat := (List.range n0).flatMap fun i => refsO (h.getD i .dead)
def gcS (n0 : Nat) (keep : List Nat) (st : S) : S :=
  let t := only 0 keep st.t
  let σ := collect st.h 1000 (rootsN st.h n0 ++ refsL t) (List.range n0)
  ⟨mapL (idx · σ) t, σ.map fun i => mapO (idx · σ) (st.h.getD i .dead)⟩
def gcO (n0 : Nat) : Option (List Nat) → S → S
  | none, st => st
  | some l, st => gcS n0 l st
/-- A loop is known by the first region inside. -/
def firstR : Code → Nat
  | .region id _ _ => id
  | .seq a _ => firstR a
  | .block _ c => firstR c
  | .loop c => firstR c
  | _ => 0
def iter (body : S → Option (Ex × S)) (cl : S → S) : Nat → S → Option (Ex × S)
  | 0, _ => none
  | n + 1, st => match body (cl st) with
    | some (.nrm, st') => iter body cl n st'
    | r => r
def exec (C : Ctx) : Code → S → Option (Ex × S)
  | .skip, st => some (.nrm, st)
  | .region _ ops draw, st => (regionA C ops draw st).map fun st' => (.nrm, st')
  | .seq a b, st => match exec C a st with
    | some (.nrm, st') => exec C b st'
    | r => r
  | .cond c x y, st => match ev st.t c with
    | .bool b => if b = true then exec C x st else exec C y st
    | _ => none
  | .block id c, st => match exec C c st with
    | some (.exit j, st') => if j = id then some (.nrm, st') else some (.exit j, st')
    | r => r
  | .loop c, st => iter (exec C c) (gcS C.n0 (C.keep (firstR c))) C.lk st
  | .exit id, st => some (.exit id, gcO C.n0 (C.keepX id) st)
  | .ret, st => some (.ret, gcO C.n0 C.keepR st)
  | _, _ => none
def resA (P : Program) (st : S) : ResultVar → Option AV
  | .tmp t => some (st.t.getD t .undef)
  | .cell a t => loadA P st.h t (st.t.getD a .undef)
def resultsA (P : Program) (st : S) : List ResultVar → Option AV
  | [r] => resA P st r
  | rs => (rs.mapM (resA P st)).map .tup
/-- No slice as a row of none; the hints say of what. -/
def nl1 (sh : List K) : AV → AV
  | .nils => match sh with | [] => .nils | _ => .row true sh []
  | v => v
def nlL : List (List K) → List AV → List AV
  | sh :: hs, v :: l => nl1 sh v :: nlL hs l
  | [], l => l
  | _ :: _, [] => []
def nlC (hs : List (List K)) : AV → AV
  | .agg cs => .agg (nlL hs cs)
  | v => nl1 (hs.headD []) v
def nlT : List (List (List K)) → List AV → List AV
  | hs :: hss, v :: l => nlC hs v :: nlT hss l
  | [], l => l
  | _ :: _, [] => []
def nlV (hss : List (List (List K))) : AV → AV
  | .tup vs => .tup (nlT hss vs)
  | v => nlC (hss.headD []) v
def finish (n0 : Nat) (frz : Option (List (List (List K)))) (h : List AObj) (v : AV) : AV × List AObj :=
  let v1 := match frz with | some hss => nlV hss (frV h v) | none => v
  let h1 := match frz with | some _ => markRo h (slsV v) | none => h
  let σ := collect h1 1000 (rootsN h1 n0 ++ refsV v1) (List.range n0)
  (mapV (idx · σ) v1, σ.map fun i => mapO (idx · σ) (h1.getD i .dead))
structure Hints where
  keep : FuncId → Nat → List Nat
  keepX : FuncId → Nat → Option (List Nat)
  keepR : FuncId → Option (List Nat)
  abs : FuncId → Bool
  frz : FuncId → Option (List (List (List K)))
/-- What a call of function f answers, and what becomes of the objects that it was given. -/
def run (P : Program) (H : Hints) : Nat → CallF
  | 0, _, _, _ => none
  | k + 1, f, args, h => match P.funcs[f]? with
    | some fn => match fn.body with
      | some c => match exec ⟨P, run P H k, k, h.length, H.keep f, H.keepX f, H.keepR f, H.abs f⟩ c ⟨args ++ List.replicate (fn.ntmps - args.length) .undef, h⟩ with
        | some (.nrm, st) | some (.ret, st) => (resultsA P st fn.results.toList).map fun v => finish h.length (H.frz f) st.h v
        | _ => none
      | none => none
    | none => none

end Go.Proofs.YthihinlamlamhaaE
