/-
  No cell of these rows narrows 'for every input' (looked for: loops, veiled, ifaces, maps, wideKeys, modest, calm, conditions, laid).
  DERIVED. THE GIVEN ROWS OF THIS SEAT. 2 by the template 'for every input the law returns true; each argument reads behind the call as it read before'; 0 by the template 'total and deterministic' (their statements: YtcfbmofffipmpaaTotals.lean).
  GIVEN WITH THE SEED: the statements are not yours to turn. If you find one false, say at which input.
  Laid BY PROGRAM, IN A SANDBOX (cutbox-rows.mjs): the forced cells as the released guide's own fill.sh prints them over the translation da3bcca033d3f3b8… (all of the seat's roots in one cut). By AI agents, Wed Nov 11 2026. No macro, syntax, notation, axiom, sorry.
-/
import Derived.Test.YtcfbmofffipmpaaChecked
import GoSem.Claim
import GoSem.ClaimJoined
import GoSem.ClaimMapViews
import Derived.JoinedTies
import Derived.KernelRfl
namespace Go.Proofs.Ytcfbmofffipmpaa
/- THE CELL 'sum', in the pinned program and in every row, IS THE sha256 OF THE DUMP (.gsa) THAT YtcfbmofffipmpaaProg.lean LOADS. Nothing in Lean hashes anything: it is a label: what it is worth is what the hold of that sum in a sandbox is worth. -/
noncomputable def Try.pinned : Pinned := { name := "ytcfbmofffipmpaa", sum := "da3bcca033d3f3b8e8263e19fca6c93bb2ff2d93fd3d2831a258d73b26141276", checked := Try.checked }
namespace Rows
def none {H : Type} : Left H := { results := [], args := [] }

/-- 'plaitinglaw7.LaneSteps': WHATEVER THE INPUT: true; the input reads as it did. -/
def laneStepsSpec : ChangeSpec := { name := "laneSteps", fn := fun _ => fun
  | [d1, d2, d3, d4, d5] => { results := [.lit (.bool true)], args := [d1, d2, d3, d4, d5] }
  | _ => none }
def laneStepsRow : OpenClaim := { program := "ytcfbmofffipmpaa", sum := "da3bcca033d3f3b8e8263e19fca6c93bb2ff2d93fd3d2831a258d73b26141276", func := "plaiting/plaitinglaw7.LaneSteps", spec := "laneSteps", inPlace := ["internal/abi.NoEscape"], unfollowed := true, recurses := true, apart := false }
def LaneStepsSaid : Prop := laneStepsRow.holds Try.pinned (OpenSpec.ofChange laneStepsSpec)

/-- ITS FALSE NEIGHBOUR: 'it returns false'. Refute it at one input. -/
def laneStepsWrong : ChangeSpec := { name := "laneSteps", fn := fun _ => fun
  | [d1, d2, d3, d4, d5] => { results := [.lit (.bool false)], args := [d1, d2, d3, d4, d5] }
  | _ => none }
def LaneStepsWrongFalsely : Prop := laneStepsRow.holds Try.pinned (OpenSpec.ofChange laneStepsWrong)

/-- 'plaitinglaw7.LaneApart': WHATEVER THE INPUT: true; the input reads as it did. -/
def laneApartSpec : ChangeSpec := { name := "laneApart", fn := fun _ => fun
  | [d1, d2] => { results := [.lit (.bool true)], args := [d1, d2] }
  | _ => none }
def laneApartRow : OpenClaim := { program := "ytcfbmofffipmpaa", sum := "da3bcca033d3f3b8e8263e19fca6c93bb2ff2d93fd3d2831a258d73b26141276", func := "plaiting/plaitinglaw7.LaneApart", spec := "laneApart", inPlace := ["internal/abi.NoEscape"], unfollowed := true, recurses := true, apart := false }
def LaneApartSaid : Prop := laneApartRow.holds Try.pinned (OpenSpec.ofChange laneApartSpec)

/-- ITS FALSE NEIGHBOUR: 'it returns false'. Refute it at one input. -/
def laneApartWrong : ChangeSpec := { name := "laneApart", fn := fun _ => fun
  | [d1, d2] => { results := [.lit (.bool false)], args := [d1, d2] }
  | _ => none }
def LaneApartWrongFalsely : Prop := laneApartRow.holds Try.pinned (OpenSpec.ofChange laneApartWrong)

/- THE SECOND FORM. 'bulk': how many values and letters a reading holds, each counted each time it is reached (what is shared counts as often as it is met; a slice's spare places count too). A statement '..UptoSaid' is the law's where the arguments, and the package variables that the reading takes, are together of bulk at most 1048576: NARROWER than '..Said'. Prove '..Said' where nothing that the law and all that it calls make is longer than what came in: it says more and counts as full. Else prove '..UptoSaid'. A law counts once. -/
mutual
def uptoBulk {H : Type} : DataW H → Nat
  | .lit (.string bytes) => bytes.length + 1
  | .lit _ => 1
  | .nil => 1
  | .ptr d => uptoBulk d + 1
  | .slice elems spare => uptoBulkAll elems + uptoBulkAll spare + 1
  | .agg parts => uptoBulkAll parts + 1
  | .iface _ d => uptoBulk d + 1
  | .map entries => uptoBulkEntries entries + 1
  | .held _ => 1
def uptoBulkAll {H : Type} : List (DataW H) → Nat
  | [] => 0
  | d :: r => uptoBulk d + uptoBulkAll r
def uptoBulkEntries {H : Type} : List (Lit × DataW H) → Nat
  | [] => 0
  | x :: r => uptoBulkEntry x + uptoBulkEntries r
def uptoBulkEntry {H : Type} : Lit × DataW H → Nat
  | (.string bytes, d) => bytes.length + uptoBulk d + 1
  | (_, d) => uptoBulk d + 1
 end
def uptoSmall : (H : Type) → List (DataW H) → Bool := fun _ ds => decide (uptoBulkAll ds ≤ 1048576)
def OpenSpec.upto (s : _root_.Go.ChangeSpec) : _root_.Go.OpenSpec := { _root_.Go.OpenSpec.ofChange s with cond := some uptoSmall }

/-- 'plaitinglaw7.LaneSteps', WHERE WHAT IT READS IS OF BULK AT MOST 1048576: true; the input reads as it did. -/
def laneStepsUptoRow : OpenClaim := { program := "ytcfbmofffipmpaa", sum := "da3bcca033d3f3b8e8263e19fca6c93bb2ff2d93fd3d2831a258d73b26141276", func := "plaiting/plaitinglaw7.LaneSteps", spec := "laneSteps", inPlace := ["internal/abi.NoEscape"], unfollowed := true, recurses := true, apart := false, narrowed := true }
def LaneStepsUptoSaid : Prop := laneStepsUptoRow.holds Try.pinned (OpenSpec.upto laneStepsSpec)

/-- 'plaitinglaw7.LaneApart', WHERE WHAT IT READS IS OF BULK AT MOST 1048576: true; the input reads as it did. -/
def laneApartUptoRow : OpenClaim := { program := "ytcfbmofffipmpaa", sum := "da3bcca033d3f3b8e8263e19fca6c93bb2ff2d93fd3d2831a258d73b26141276", func := "plaiting/plaitinglaw7.LaneApart", spec := "laneApart", inPlace := ["internal/abi.NoEscape"], unfollowed := true, recurses := true, apart := false, narrowed := true }
def LaneApartUptoSaid : Prop := laneApartUptoRow.holds Try.pinned (OpenSpec.upto laneApartSpec)

end Rows
end Go.Proofs.Ytcfbmofffipmpaa
