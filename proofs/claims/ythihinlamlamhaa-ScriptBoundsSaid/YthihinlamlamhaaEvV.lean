/- Path mode: calls, regions, code, functions. -/
import Derived.Test.YthihinlamlamhaaEvU
namespace Go.Proofs.YthihinlamlamhaaE
open Go
set_option linter.unusedVariables false

/-! ### Heads made plain (the kernel would carry what is not worked out along) -/
def frcNg : Nat → Nat → (Nat → Prop) → Prop
  | 0, n, K => K n
  | f + 1, n, K => match Nat.beq n f with
    | true => K f
    | false => frcNg f n K
def frcN (n : Nat) (K : Nat → Prop) : Prop := frcNg 40 n K
mutual
def frcV : AV → (AV → Prop) → Prop
  | .ptr o off, K => frcN o fun o => K (.ptr o off)
  | .eptr o i f, K => frcN o fun o => K (.eptr o i f)
  | .sl o off len, K => frcN o fun o => K (.sl o off len)
  | .fn g a b, K => frcL a fun a => frcL b fun b => K (.fn g a b)
  | .iface t v, K => frcV v fun v => K (.iface t v)
  | .agg cs, K => frcL cs fun cs => K (.agg cs)
  | .tup vs, K => frcL vs fun vs => K (.tup vs)
  | v, K => K v
def frcL : List AV → (List AV → Prop) → Prop
  | [], K => K []
  | v :: l, K => frcV v fun v => frcL l fun l => K (v :: l)
end
def frcO : AObj → (AObj → Prop) → Prop
  | .box cs, K => frcL cs fun cs => K (.box cs)
  | ob, K => K ob
def frcH : List AObj → (List AObj → Prop) → Prop
  | [], K => K []
  | ob :: l, K => frcO ob fun ob => frcH l fun l => K (ob :: l)
def frcNs : List Nat → (List Nat → Prop) → Prop
  | [], K => K []
  | n :: l, K => frcN n fun n => frcNs l fun l => K (n :: l)
def frcS (st : S) (K : S → Prop) : Prop := frcL st.t fun t => frcH st.h fun h => K ⟨t, h⟩

def frcLL : List (List AV) → (List (List AV) → Prop) → Prop
  | [], K => K []
  | r :: l, K => frcL r fun r => frcLL l fun l => K (r :: l)
def frcB (ob : Option AObj) (K : Option AObj → Prop) : Prop :=
  match ob with
  | some (.arr md e sh rs) => frcLL rs fun rs => K (some (.arr md e sh rs))
  | ob => K ob
/-- The rows of a slice that is written out. -/
def frcOp (o : Op) (ob : Option AObj) (K : Option AObj → Prop) : Prop :=
  match o with
  | .buildSlice _ _ _ => frcB ob K
  | _ => K ob

/-- What bits make is not worked out, where the hints say so. -/
def isBit : Op → Bool
  | .binOp .and _ _ _ _ => true
  | .binOp .or _ _ _ _ => true
  | .binOp .xor _ _ _ _ => true
  | .binOp .shl _ _ _ _ => true
  | .binOp .shr _ _ _ _ => true
  | _ => false
def absW (b : Bool) (o : Op) (v : AV) (Q : AV → Prop) : Prop :=
  match b with
  | true => match isBit o with
    | true => match v with
      | .int k n => ∀ z : Int, z = n → Q (.int k z)
      | v => Q v
    | false => Q v
  | false => Q v

/-- What is known of the functions that are called. -/
abbrev Orc := FuncId → List AV → List AObj → (AV × List AObj → Prop) → Prop
def backA (h : List AObj) (args : List AV) (σ : List Nat) (p : AV × List AObj) (Q : AV × List AObj → Prop) : Prop :=
  chk (σ.length ≤ p.2.length) (frcV (mapV (backTo h.length σ p.2.length) p.1) fun v => frcH (setMany (heapF h args) σ ((p.2.take σ.length).map (mapO (backTo h.length σ p.2.length))) ++
          (p.2.drop σ.length).map (mapO (backTo h.length σ p.2.length))) fun h' => Q (v, h'))
def callGo (O : Orc) (h : List AObj) (g : FuncId) (args args' : List AV) (σ : List Nat) (Q : AV × List AObj → Prop) : Prop :=
  frcNs σ fun σ => frcL (mapL (idx · σ) args') fun args' => frcH (σ.map fun i => mapO (idx · σ) ((heapF h args).getD i .dead)) fun h' => O g args' h' fun p => backA h args σ p Q
def callAW (O : Orc) (h : List AObj) (g : FuncId) (args : List AV) (Q : AV × List AObj → Prop) : Prop :=
  frLW h args fun args' => callGo O h g args args' (collect (heapF h args) 1000 (refsL args') []) Q
def wrAW (C : Ctx) (O : Orc) (ρ : Operand → AV) (h : List AObj) (o : Oper) (Q : AV × List AObj → Prop) : Prop :=
  match o.op with
  | .store t a v => storeAW C.P h t (ρ a) (ρ v) fun h' => Q (.undef, h')
  | .next it true => nextAW h (ρ it) Q
  | .call { callee := .builtin .append, args, argTypes } => match args.toList with
    | [s, x] => appendAW C.P h argTypes.toList (ρ s) (ρ x) Q
    | _ => False
  | .call { callee := .builtin _, .. } => False
  | op => match calleeA C.P ρ op with
    | some (g, args) => chk (bodied C.P g = true) (callAW O h g args Q)
    | none => False
def opAW (C : Ctx) (O : Orc) (ρ : Operand → AV) (h : List AObj) (o : Oper) (Q : AV × List AObj → Prop) : Prop :=
  match isWriter o with
  | true => wrAW C O ρ h o Q
  | false => nwAW C.P ρ h h.length o fun p => frcOp o.op p.2 fun ob => absW C.abs o.op p.1 fun v => Q (v, h ++ ob.toList)
def wantedW (ops : Array Oper) (t : List AV) (o : Oper) (A B : Prop) : Prop :=
  match o.guard with
  | none => A
  | some (j, want) => match (ops[j]?).bind (·.dst) with
    | none => B
    | some d => match t[d]? with
      | some (.bool b) => match want with
        | true => br b A B
        | false => br b B A
      | some .gone => False
      | _ => B
/-- Some other operation hangs on this one. -/
def gsrc (ops : Array Oper) (i : Nat) : Bool := ops.any fun o => match o.guard with | some (j, _) => Nat.beq j i | none => false
def spl (b : Bool) (v : AV) (K : AV → Prop) : Prop :=
  match b with
  | true => match v with
    | .bool b => br b (K (.bool true)) (K (.bool false))
    | v => K v
  | false => K v
def stepW (C : Ctx) (O : Orc) (ops : Array Oper) (i : Nat) (st : S) (Q : S → Prop) : Prop :=
  match ops[i]? with
  | none => Q st
  | some o => wantedW ops st.t o (opAW C O (ev st.t) st.h o fun p => spl (gsrc ops i) p.1 fun v => Q (st.put o.dst v p.2)) (Q (st.put o.dst .undef st.h))
def runOpsW (C : Ctx) (O : Orc) (ops : Array Oper) : List Nat → S → (S → Prop) → Prop
  | [], st, Q => Q st
  | i :: is, st, Q => stepW C O ops i st fun st' => runOpsW C O ops is st' Q
def touchedW (C : Ctx) (ρ : Operand → AV) (h : List AObj) (o : Oper) (Q : List Nat → Prop) : Prop :=
  match o.op with
  | .store _ a _ => Q (match ρ a with | .ptr b _ | .eptr b _ _ => [b] | _ => [])
  | .next it _ => Q (match ρ it with | .ptr b _ => [b] | _ => [])
  | .call { callee := .builtin _, args, .. } => Q (match args.toList with | s :: _ => (match ρ s with | .sl b _ _ => [b] | _ => []) | [] => [])
  | op => match calleeA C.P ρ op with
    | some (_, args) => frLW h args fun args' => Q (collect (heapF h args) 1000 (refsL args') [])
    | none => Q []
/-- Behind operation i. -/
def runDW (C : Ctx) (O : Orc) (ops : Array Oper) (bf : Array Nat) : List Nat → List (Nat × Nat) → S → (S → Prop) → Prop
  | [], _, st, Q => Q st
  | i :: is, pend, st, Q =>
    match ops[i]? with
    | none => False
    | some o =>
      wantedW ops st.t o
        (match isWriter o with
          | true => match pend.all fun p => (bf.getD i 0).testBit p.1 with
            | true => opAW C O (ev st.t) st.h o fun p => spl (gsrc ops i) p.1 fun v => runDW C O ops bf is pend (st.put o.dst v p.2) Q
            | false => touchedW C (ev st.t) st.h o fun l => chk ((pend.all fun p => (bf.getD i 0).testBit p.1 || !l.contains p.2) = true) (opAW C O (ev st.t) st.h o fun p => spl (gsrc ops i) p.1 fun v => runDW C O ops bf is pend (st.put o.dst v p.2) Q)
          | false => opAW C O (ev st.t) st.h o fun p => spl (gsrc ops i) p.1 fun v => runDW C O ops bf is ((readObj (ev st.t) o).toList.map (fun b => (i, b)) ++ pend) (st.put o.dst v p.2) Q)
        (runDW C O ops bf is pend (st.put o.dst .undef st.h) Q)
def regionW (C : Ctx) (O : Orc) (ops : Array Oper) (draw : Bool) (st : S) (Q : S → Prop) : Prop :=
  match draw with
  | true => chk ((canonOk ops (Region.before ops) (canon ops) 0 none && tmpOk ops (Region.before ops)) = true) (runDW C O ops (Region.before ops) (canon ops) [] st Q)
  | false => runOpsW C O ops (List.range ops.size) st Q

/-- What is known of the loops: of the slots that are kept, and the objects. -/
abbrev LW := List AV → List AObj → (Ex → List AV → List AObj → Prop) → Prop
def spread : Nat → Nat → List Nat → List AV → List AV
  | 0, _, _, _ => []
  | n + 1, i, k :: ks, v :: vs => match Nat.beq i k with
    | true => v :: spread n (i + 1) ks vs
    | false => .gone :: spread n (i + 1) (k :: ks) (v :: vs)
  | n + 1, i, ks, vs => .gone :: spread n (i + 1) ks vs
def valsOf : Nat → List Nat → List AV → List AV
  | _, [], _ => []
  | _, _ :: _, [] => []
  | i, k :: ks, v :: t => match Nat.beq i k with
    | true => v :: valsOf (i + 1) ks t
    | false => valsOf (i + 1) (k :: ks) t
def keepOf (C : Ctx) : Ex → Option (List Nat)
  | .nrm => none
  | .exit id => C.keepX id
  | .ret => C.keepR
def backL (C : Ctx) (n : Nat) (Q : Ex → S → Prop) (ex : Ex) (vals : List AV) (h : List AObj) : Prop :=
  match keepOf C ex with
  | some l => Q ex ⟨spread n 0 l vals, h⟩
  | none => False
def gcW2 (σ : List Nat) (t : List AV) (h : List AObj) (Q : S → Prop) : Prop :=
  frcNs σ fun σ => frcS ⟨mapL (idx · σ) t, σ.map fun i => mapO (idx · σ) (h.getD i .dead)⟩ Q
def gcW (n0 : Nat) (keep : List Nat) (st : S) (Q : S → Prop) : Prop :=
  frcL (only 0 keep st.t) fun t => gcW2 (collect st.h 1000 (rootsN st.h n0 ++ refsL t) (List.range n0)) t st.h Q
def gcOW (n0 : Nat) (l : Option (List Nat)) (st : S) (Q : S → Prop) : Prop :=
  match l with
  | none => Q st
  | some l => gcW n0 l st Q
def execW (C : Ctx) (O : Orc) (L : Nat → LW) : Code → S → (Ex → S → Prop) → Prop
  | .skip, st, Q => Q .nrm st
  | .region _ ops draw, st, Q => regionW C O ops draw st fun st' => frcS st' (Q .nrm)
  | .seq a b, st, Q => execW C O L a st fun ex st' => match ex with
    | .nrm => execW C O L b st' Q
    | .exit j => Q (.exit j) st'
    | .ret => Q .ret st'
  | .cond c x y, st, Q => match ev st.t c with
    | .bool b => br b (execW C O L x st Q) (execW C O L y st Q)
    | _ => False
  | .block id c, st, Q => execW C O L c st fun ex st' => match ex with
    | .nrm => Q .nrm st'
    | .exit j => match Nat.beq j id with
      | true => Q .nrm st'
      | false => Q (.exit j) st'
    | .ret => Q .ret st'
  | .loop c, st, Q => gcW C.n0 (C.keep (firstR c)) st fun st' => L (firstR c) (valsOf 0 (C.keep (firstR c)) st'.t) st'.h (backL C st.t.length Q)
  | .exit id, st, Q => gcOW C.n0 (C.keepX id) st (Q (.exit id))
  | .ret, st, Q => gcOW C.n0 C.keepR st (Q .ret)
  | _, _, _ => False
def loops : Code → List Code
  | .seq a b => loops a ++ loops b
  | .cond _ a b => loops a ++ loops b
  | .block _ c => loops c
  | .loop c => c :: loops c
  | _ => []
/-- A loop's body, once. -/
def bodyW (C : Ctx) (O : Orc) (L : Nat → LW) (n : Nat) (c : Code) (vals : List AV) (h : List AObj) (Q : Ex → List AV → List AObj → Prop) : Prop :=
  execW C O L c ⟨spread n 0 (C.keep (firstR c)) vals, h⟩ fun ex st' => match ex with
    | .nrm => gcW C.n0 (C.keep (firstR c)) st' fun s => Q .nrm (valsOf 0 (C.keep (firstR c)) s.t) s.h
    | .exit id => match C.keepX id with
      | some l => Q (.exit id) (valsOf 0 l st'.t) st'.h
      | none => False
    | .ret => match C.keepR with
      | some l => Q .ret (valsOf 0 l st'.t) st'.h
      | none => False
def finW2 (σ : List Nat) (h : List AObj) (v : AV) (Q : AV × List AObj → Prop) : Prop :=
  frcNs σ fun σ => frcV (mapV (idx · σ) v) fun v => frcH (σ.map fun i => mapO (idx · σ) (h.getD i .dead)) fun h => Q (v, h)
def finishW (n0 : Nat) (frz : Option (List (List (List K)))) (h : List AObj) (v : AV) (Q : AV × List AObj → Prop) : Prop :=
  match frz with
  | some hss => frVW h v fun v1 => frcV (nlV hss v1) fun v1 => frcH (markRo h (slsV v)) fun h1 => finW2 (collect h1 1000 (rootsN h1 n0 ++ refsV v1) (List.range n0)) h1 v1 Q
  | none => finW2 (collect h 1000 (rootsN h n0 ++ refsV v) (List.range n0)) h v Q
def ctxW (P : Program) (H : Hints) (f : FuncId) (n0 : Nat) : Ctx := ⟨P, fun _ _ _ => none, 0, n0, H.keep f, H.keepX f, H.keepR f, H.abs f⟩
def funW (P : Program) (H : Hints) (O : Orc) (L : Nat → LW) (f : FuncId) (args : List AV) (h : List AObj) (Q : AV × List AObj → Prop) : Prop :=
  match P.funcs[f]? with
  | some fn => match fn.body with
    | some c => execW (ctxW P H f h.length) O L c ⟨args ++ List.replicate (fn.ntmps - args.length) .undef, h⟩ fun ex st => match ex with
      | .exit _ => False
      | _ => optW (resultsA P st fn.results.toList) fun v => finishW h.length (H.frz f) st.h v Q
    | none => False
  | none => False
end Go.Proofs.YthihinlamlamhaaE
