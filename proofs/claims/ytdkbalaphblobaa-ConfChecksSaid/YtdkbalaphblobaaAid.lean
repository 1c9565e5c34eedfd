/- Common lemmas of this claim's own. -/
import Derived.Test.YtdkbalaphblobaaProg
import Derived.Below
import Derived.Deep.Draws
import Derived.Deep.AppendLies
import Derived.Maps.AppendAt
import Derived.OwnWalk
import Derived.Laws.BytesArg
import Derived.Laws.MakeOwn
import Derived.Laws.OwnMore
import Derived.Deep.OwnRows
import Derived.Tactics
import Derived.Lib.ConvBytes
import Derived.Laws.Slices
import Derived.WalkKit
import Derived.KernelRfl
import Derived.RowKit3
import Derived.Deep.LoopGhost
import Derived.Deep.QuietTactic
import Derived.BigQuiet
import Derived.WideLaws
import Derived.Deep.DeepCutAuto
import Derived.Deep.CutBlock
import Derived.Deep.RegionHeld3
import Derived.Laws.Rows
import Derived.Lib.AppendStr
import Derived.ArgAppend
import Derived.Laws.IdiomCopy
import Derived.OrdersHeld
import Derived.Laws.BitsLemmas
import Derived.RowKit
import Derived.Test.YtdkbalaphblobaaWWords
import Derived.Test.YtdkbalaphblobaaWLast
import Derived.Test.YtdkbalaphblobaaWTab
import Derived.Test.YtdkbalaphblobaaWFour
import Derived.Test.YtdkbalaphblobaaWQPut
import Derived.Test.YtdkbalaphblobaaWApart
import Derived.Test.YtdkbalaphblobaaWArr
import Derived.Test.YtdkbalaphblobaaWZeros
import Derived.Test.YtdkbalaphblobaaWFoot
import Derived.Test.YtdkbalaphblobaaWKept
import Derived.Test.YtdkbalaphblobaaWShare
import Derived.Test.YtdkbalaphblobaaWN
import Derived.Test.YtdkbalaphblobaaWFootNe
import Derived.Test.YtdkbalaphblobaaWAt
import Derived.Test.YtdkbalaphblobaaWEqStruct
import Derived.Test.YtdkbalaphblobaaWRepsOne
import Derived.Test.YtdkbalaphblobaaWInv
import Derived.Test.YtdkbalaphblobaaWInvWords
import Derived.Test.YtdkbalaphblobaaWGuard
import Derived.Test.YtdkbalaphblobaaWNEv
import Derived.Test.YtdkbalaphblobaaWMore
namespace Go.Proofs.Ytdkbalaphblobaa.P
open Go.RowKit Go.Proofs.YtdkbalaphblobaaW.PrintWords Go.Proofs.YtdkbalaphblobaaW.PrintLast Go.Proofs.YtdkbalaphblobaaW.PrintMore
set_option linter.unusedVariables false
set_option linter.unusedSimpArgs false
theorem quiet_of_drawn {P : Program} {f : FuncId} {args : Array Value} {w : World} {n : Nat} {v : Value}
    (h : Calls P f args (w.drewN n) fun e w' => e = .returned v ∧ Drawn0 (w.drewN n) w') : Calls P f args (w.drewN n) fun e w'' => e = .returned v ∧ ∃ m, w'' = w.drewN m :=
  Calls.quiet_of (h.mono fun _ _ ⟨he, hd⟩ => ⟨he, hd.out⟩)
theorem any_false_of {α : Type} (l : List α) (p : α → Bool) (d : α) (h : ∀ j : Nat, j < l.length → p (l.getD j d) = false) : l.any p = false := by
  rw [List.any_eq_false]
  intro x hx
  obtain ⟨i, hi, rfl⟩ := List.mem_iff_getElem.1 hx
  have := h i hi
  rw [List.getD_eq_getElem?_getD, List.getElem?_eq_getElem hi] at this
  simpa using this
theorem any_true_of {α : Type} (l : List α) (p : α → Bool) (d : α) (j : Nat) (hj : j < l.length) (h : p (l.getD j d) = true) : l.any p = true := by
  rw [List.any_eq_true]
  refine ⟨l.getD j d, ?_, h⟩
  rw [List.getD_eq_getElem?_getD, List.getElem?_eq_getElem hj]
  simp
def IdxTells {α : Type} (l : List α) (p : α → Bool) (w : World) (e : Ending) (w' : World) : Prop := ∃ i : Int, e = .returned (.int .i64 i) ∧ decide (0 ≤ i) = l.any p ∧ Drawn0 w w'
def inb (n a b : Int) : Bool := decide (a ≤ n) && decide (n ≤ b)
theorem inb_iff {n a b : Int} : inb n a b = true ↔ a ≤ n ∧ n ≤ b := by
  unfold inb
  rw [Bool.and_eq_true, decide_eq_true_eq, decide_eq_true_eq]
theorem inb_false {n a b : Int} : inb n a b = false ↔ n < a ∨ b < n := by
  rw [← Bool.not_eq_true, inb_iff]
  omega
theorem quiet_add_drawn {P : Program} {f : FuncId} {args : Array Value} {w : World} {a n : Nat} {v : Value}
    (h : Calls P f args (w.drewN (a + n)) fun e w' => e = .returned v ∧ Drawn0 (w.drewN (a + n)) w') :
    Calls P f args (w.drewN (a + n)) fun e w'' => e = .returned v ∧ ∃ m, w'' = w.drewN (a + m) :=
  h.mono fun _ _ ⟨he, hd⟩ => by
    obtain ⟨m, hm⟩ := hd.out
    exact ⟨he, n + m, by rw [hm, World.drewN_drewN, Nat.add_assoc]⟩
theorem enters_at {P : Program} {f : FuncId} {fn : Func} {c : Code} (hf : P.funcs[f]? = some fn) (hname : (fn.name == "runtime.NumGoroutine") = false) (hb : fn.body = some c) :
    ∀ args w, (callFunc f args).run P w = .ok (.enter f args) w := by
  intro args w
  have h1 : fn.name ≠ "runtime.NumGoroutine" := by simpa using hname
  simp [callFunc, hf, h1, hb, mark]
theorem bcell {W w1 : World} (hb : Below W.heap.size W w1) : (∀ b o, b < W.heap.size → w1.cell? ⟨b, o, none⟩ = W.cell? ⟨b, o, none⟩) ∧ (∀ b o, b < W.heap.size → w1.frozen? ⟨b, o, none⟩ = W.frozen? ⟨b, o, none⟩) :=
  ⟨fun b o h => hb.cell (p := ⟨b, o, none⟩) h, fun b o h => hb.frozen (p := ⟨b, o, none⟩) h⟩

end Go.Proofs.Ytdkbalaphblobaa.P
