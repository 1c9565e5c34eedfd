/-
  No cell of these rows narrows 'for every input' (looked for: loops, veiled, ifaces, maps, wideKeys, modest, calm, conditions, laid).
  DERIVED. THE GIVEN ROWS OF THIS SEAT. 15 by the template 'for every input the law returns true; each argument reads behind the call as it read before'; 0 by the template 'total and deterministic' (their statements: YtdkbalaphblobaaTotals.lean).
  GIVEN WITH THE SEED: the statements are not yours to turn. If you find one false, say at which input.
  Laid BY PROGRAM, IN A SANDBOX (cutbox-rows.mjs): the forced cells as the released guide's own fill.sh prints them over the translation d0745cb3a8cc108f… (all of the seat's roots in one cut). By AI agents, Wed Nov 11 2026. No macro, syntax, notation, axiom, sorry.
-/
import Derived.Test.YtdkbalaphblobaaChecked
import GoSem.Claim
import GoSem.ClaimJoined
import GoSem.ClaimMapViews
import Derived.JoinedTies
import Derived.KernelRfl
namespace Go.Proofs.Ytdkbalaphblobaa
/- THE CELL 'sum', in the pinned program and in every row, IS THE sha256 OF THE DUMP (.gsa) THAT YtdkbalaphblobaaProg.lean LOADS. Nothing in Lean hashes anything: it is a label: what it is worth is what the hold of that sum in a sandbox is worth. -/
noncomputable def Try.pinned : Pinned := { name := "ytdkbalaphblobaa", sum := "d0745cb3a8cc108fa43329f7b7cef41e333fe82ac0485d61c2de16b37d1525e2", checked := Try.checked }
namespace Rows
def none {H : Type} : Left H := { results := [], args := [] }

/-- 'plaitinglaw4.RingSteps': WHATEVER THE INPUT: true; the input reads as it did. -/
def ringStepsSpec : ChangeSpec := { name := "ringSteps", fn := fun _ => fun
  | [d1, d2, d3, d4] => { results := [.lit (.bool true)], args := [d1, d2, d3, d4] }
  | _ => none }
def ringStepsRow : OpenClaim := { program := "ytdkbalaphblobaa", sum := "d0745cb3a8cc108fa43329f7b7cef41e333fe82ac0485d61c2de16b37d1525e2", func := "plaiting/plaitinglaw4.RingSteps", spec := "ringSteps", apart := false }
def RingStepsSaid : Prop := ringStepsRow.holds Try.pinned (OpenSpec.ofChange ringStepsSpec)

/-- ITS FALSE NEIGHBOUR: 'it returns false'. Refute it at one input. -/
def ringStepsWrong : ChangeSpec := { name := "ringSteps", fn := fun _ => fun
  | [d1, d2, d3, d4] => { results := [.lit (.bool false)], args := [d1, d2, d3, d4] }
  | _ => none }
def RingStepsWrongFalsely : Prop := ringStepsRow.holds Try.pinned (OpenSpec.ofChange ringStepsWrong)

/-- 'plaitinglaw4.RingTurns': WHATEVER THE INPUT: true; the input reads as it did. -/
def ringTurnsSpec : ChangeSpec := { name := "ringTurns", fn := fun _ => fun
  | [d1, d2, d3, d4] => { results := [.lit (.bool true)], args := [d1, d2, d3, d4] }
  | _ => none }
def ringTurnsRow : OpenClaim := { program := "ytdkbalaphblobaa", sum := "d0745cb3a8cc108fa43329f7b7cef41e333fe82ac0485d61c2de16b37d1525e2", func := "plaiting/plaitinglaw4.RingTurns", spec := "ringTurns", apart := false }
def RingTurnsSaid : Prop := ringTurnsRow.holds Try.pinned (OpenSpec.ofChange ringTurnsSpec)

/-- ITS FALSE NEIGHBOUR: 'it returns false'. Refute it at one input. -/
def ringTurnsWrong : ChangeSpec := { name := "ringTurns", fn := fun _ => fun
  | [d1, d2, d3, d4] => { results := [.lit (.bool false)], args := [d1, d2, d3, d4] }
  | _ => none }
def RingTurnsWrongFalsely : Prop := ringTurnsRow.holds Try.pinned (OpenSpec.ofChange ringTurnsWrong)

/-- 'plaitinglaw4.RingLinks': WHATEVER THE INPUT: true; the input reads as it did. -/
def ringLinksSpec : ChangeSpec := { name := "ringLinks", fn := fun _ => fun
  | [d1, d2, d3] => { results := [.lit (.bool true)], args := [d1, d2, d3] }
  | _ => none }
def ringLinksRow : OpenClaim := { program := "ytdkbalaphblobaa", sum := "d0745cb3a8cc108fa43329f7b7cef41e333fe82ac0485d61c2de16b37d1525e2", func := "plaiting/plaitinglaw4.RingLinks", spec := "ringLinks", apart := false }
def RingLinksSaid : Prop := ringLinksRow.holds Try.pinned (OpenSpec.ofChange ringLinksSpec)

/-- ITS FALSE NEIGHBOUR: 'it returns false'. Refute it at one input. -/
def ringLinksWrong : ChangeSpec := { name := "ringLinks", fn := fun _ => fun
  | [d1, d2, d3] => { results := [.lit (.bool false)], args := [d1, d2, d3] }
  | _ => none }
def RingLinksWrongFalsely : Prop := ringLinksRow.holds Try.pinned (OpenSpec.ofChange ringLinksWrong)

/-- 'plaitinglaw3.ConfChecks': WHATEVER THE INPUT: true; the input reads as it did. -/
def confChecksSpec : ChangeSpec := { name := "confChecks", fn := fun _ => fun
  | [d1, d2, d3] => { results := [.lit (.bool true)], args := [d1, d2, d3] }
  | _ => none }
def confChecksRow : OpenClaim := { program := "ytdkbalaphblobaa", sum := "d0745cb3a8cc108fa43329f7b7cef41e333fe82ac0485d61c2de16b37d1525e2", func := "plaiting/plaitinglaw3.ConfChecks", spec := "confChecks", unfollowed := true, recurses := true, apart := false }
def ConfChecksSaid : Prop := confChecksRow.holds Try.pinned (OpenSpec.ofChange confChecksSpec)

/-- ITS FALSE NEIGHBOUR: 'it returns false'. Refute it at one input. -/
def confChecksWrong : ChangeSpec := { name := "confChecks", fn := fun _ => fun
  | [d1, d2, d3] => { results := [.lit (.bool false)], args := [d1, d2, d3] }
  | _ => none }
def ConfChecksWrongFalsely : Prop := confChecksRow.holds Try.pinned (OpenSpec.ofChange confChecksWrong)

/-- 'plaitinglaw3.ConfRounds': WHATEVER THE INPUT: true; the input reads as it did. -/
def confRoundsSpec : ChangeSpec := { name := "confRounds", fn := fun _ => fun
  | [d1, d2] => { results := [.lit (.bool true)], args := [d1, d2] }
  | _ => none }
def confRoundsRow : OpenClaim := { program := "ytdkbalaphblobaa", sum := "d0745cb3a8cc108fa43329f7b7cef41e333fe82ac0485d61c2de16b37d1525e2", func := "plaiting/plaitinglaw3.ConfRounds", spec := "confRounds", unfollowed := true, recurses := true, apart := false }
def ConfRoundsSaid : Prop := confRoundsRow.holds Try.pinned (OpenSpec.ofChange confRoundsSpec)

/-- ITS FALSE NEIGHBOUR: 'it returns false'. Refute it at one input. -/
def confRoundsWrong : ChangeSpec := { name := "confRounds", fn := fun _ => fun
  | [d1, d2] => { results := [.lit (.bool false)], args := [d1, d2] }
  | _ => none }
def ConfRoundsWrongFalsely : Prop := confRoundsRow.holds Try.pinned (OpenSpec.ofChange confRoundsWrong)

/-- 'plaitinglaw3.ConfMost': WHATEVER THE INPUT: true; the input reads as it did. -/
def confMostSpec : ChangeSpec := { name := "confMost", fn := fun _ => fun
  | [d] => { results := [.lit (.bool true)], args := [d] }
  | _ => none }
def confMostRow : OpenClaim := { program := "ytdkbalaphblobaa", sum := "d0745cb3a8cc108fa43329f7b7cef41e333fe82ac0485d61c2de16b37d1525e2", func := "plaiting/plaitinglaw3.ConfMost", spec := "confMost", unfollowed := true, recurses := true, apart := false }
def ConfMostSaid : Prop := confMostRow.holds Try.pinned (OpenSpec.ofChange confMostSpec)

/-- ITS FALSE NEIGHBOUR: 'it returns false'. Refute it at one input. -/
def confMostWrong : ChangeSpec := { name := "confMost", fn := fun _ => fun
  | [d] => { results := [.lit (.bool false)], args := [d] }
  | _ => none }
def ConfMostWrongFalsely : Prop := confMostRow.holds Try.pinned (OpenSpec.ofChange confMostWrong)

/-- 'plaitinglaw4.RingWays': WHATEVER THE INPUT: true; the input reads as it did. -/
def ringWaysSpec : ChangeSpec := { name := "ringWays", fn := fun _ => fun
  | [d1, d2, d3, d4] => { results := [.lit (.bool true)], args := [d1, d2, d3, d4] }
  | _ => none }
def ringWaysRow : OpenClaim := { program := "ytdkbalaphblobaa", sum := "d0745cb3a8cc108fa43329f7b7cef41e333fe82ac0485d61c2de16b37d1525e2", func := "plaiting/plaitinglaw4.RingWays", spec := "ringWays", unfollowed := true, recurses := true, apart := false }
def RingWaysSaid : Prop := ringWaysRow.holds Try.pinned (OpenSpec.ofChange ringWaysSpec)

/-- ITS FALSE NEIGHBOUR: 'it returns false'. Refute it at one input. -/
def ringWaysWrong : ChangeSpec := { name := "ringWays", fn := fun _ => fun
  | [d1, d2, d3, d4] => { results := [.lit (.bool false)], args := [d1, d2, d3, d4] }
  | _ => none }
def RingWaysWrongFalsely : Prop := ringWaysRow.holds Try.pinned (OpenSpec.ofChange ringWaysWrong)

/-- 'plaitinglaw7.LaneOut': WHATEVER THE INPUT: true; the input reads as it did. -/
def laneOutSpec : ChangeSpec := { name := "laneOut", fn := fun _ => fun
  | [d1, d2, d3, d4, d5] => { results := [.lit (.bool true)], args := [d1, d2, d3, d4, d5] }
  | _ => none }
def laneOutRow : OpenClaim := { program := "ytdkbalaphblobaa", sum := "d0745cb3a8cc108fa43329f7b7cef41e333fe82ac0485d61c2de16b37d1525e2", func := "plaiting/plaitinglaw7.LaneOut", spec := "laneOut", inPlace := ["internal/abi.NoEscape"], unfollowed := true, recurses := true, apart := false }
def LaneOutSaid : Prop := laneOutRow.holds Try.pinned (OpenSpec.ofChange laneOutSpec)

/-- ITS FALSE NEIGHBOUR: 'it returns false'. Refute it at one input. -/
def laneOutWrong : ChangeSpec := { name := "laneOut", fn := fun _ => fun
  | [d1, d2, d3, d4, d5] => { results := [.lit (.bool false)], args := [d1, d2, d3, d4, d5] }
  | _ => none }
def LaneOutWrongFalsely : Prop := laneOutRow.holds Try.pinned (OpenSpec.ofChange laneOutWrong)

/-- 'plaitinglaw7.LaneSteps': WHATEVER THE INPUT: true; the input reads as it did. -/
def laneStepsSpec : ChangeSpec := { name := "laneSteps", fn := fun _ => fun
  | [d1, d2, d3, d4, d5] => { results := [.lit (.bool true)], args := [d1, d2, d3, d4, d5] }
  | _ => none }
def laneStepsRow : OpenClaim := { program := "ytdkbalaphblobaa", sum := "d0745cb3a8cc108fa43329f7b7cef41e333fe82ac0485d61c2de16b37d1525e2", func := "plaiting/plaitinglaw7.LaneSteps", spec := "laneSteps", inPlace := ["internal/abi.NoEscape"], unfollowed := true, recurses := true, apart := false }
def LaneStepsSaid : Prop := laneStepsRow.holds Try.pinned (OpenSpec.ofChange laneStepsSpec)

/-- ITS FALSE NEIGHBOUR: 'it returns false'. Refute it at one input. -/
def laneStepsWrong : ChangeSpec := { name := "laneSteps", fn := fun _ => fun
  | [d1, d2, d3, d4, d5] => { results := [.lit (.bool false)], args := [d1, d2, d3, d4, d5] }
  | _ => none }
def LaneStepsWrongFalsely : Prop := laneStepsRow.holds Try.pinned (OpenSpec.ofChange laneStepsWrong)

/-- 'plaitinglaw7.LaneFronts': WHATEVER THE INPUT: true; the input reads as it did. -/
def laneFrontsSpec : ChangeSpec := { name := "laneFronts", fn := fun _ => fun
  | [d1, d2, d3] => { results := [.lit (.bool true)], args := [d1, d2, d3] }
  | _ => none }
def laneFrontsRow : OpenClaim := { program := "ytdkbalaphblobaa", sum := "d0745cb3a8cc108fa43329f7b7cef41e333fe82ac0485d61c2de16b37d1525e2", func := "plaiting/plaitinglaw7.LaneFronts", spec := "laneFronts", inPlace := ["internal/abi.NoEscape"], unfollowed := true, recurses := true, apart := false }
def LaneFrontsSaid : Prop := laneFrontsRow.holds Try.pinned (OpenSpec.ofChange laneFrontsSpec)

/-- ITS FALSE NEIGHBOUR: 'it returns false'. Refute it at one input. -/
def laneFrontsWrong : ChangeSpec := { name := "laneFronts", fn := fun _ => fun
  | [d1, d2, d3] => { results := [.lit (.bool false)], args := [d1, d2, d3] }
  | _ => none }
def LaneFrontsWrongFalsely : Prop := laneFrontsRow.holds Try.pinned (OpenSpec.ofChange laneFrontsWrong)

/-- 'plaitinglaw7.LaneThree': WHATEVER THE INPUT: true; the input reads as it did. -/
def laneThreeSpec : ChangeSpec := { name := "laneThree", fn := fun _ => fun
  | [d1, d2, d3, d4] => { results := [.lit (.bool true)], args := [d1, d2, d3, d4] }
  | _ => none }
def laneThreeRow : OpenClaim := { program := "ytdkbalaphblobaa", sum := "d0745cb3a8cc108fa43329f7b7cef41e333fe82ac0485d61c2de16b37d1525e2", func := "plaiting/plaitinglaw7.LaneThree", spec := "laneThree", inPlace := ["internal/abi.NoEscape"], unfollowed := true, recurses := true, apart := false }
def LaneThreeSaid : Prop := laneThreeRow.holds Try.pinned (OpenSpec.ofChange laneThreeSpec)

/-- ITS FALSE NEIGHBOUR: 'it returns false'. Refute it at one input. -/
def laneThreeWrong : ChangeSpec := { name := "laneThree", fn := fun _ => fun
  | [d1, d2, d3, d4] => { results := [.lit (.bool false)], args := [d1, d2, d3, d4] }
  | _ => none }
def LaneThreeWrongFalsely : Prop := laneThreeRow.holds Try.pinned (OpenSpec.ofChange laneThreeWrong)

/-- 'plaitinglaw7.LaneApart': WHATEVER THE INPUT: true; the input reads as it did. -/
def laneApartSpec : ChangeSpec := { name := "laneApart", fn := fun _ => fun
  | [d1, d2] => { results := [.lit (.bool true)], args := [d1, d2] }
  | _ => none }
def laneApartRow : OpenClaim := { program := "ytdkbalaphblobaa", sum := "d0745cb3a8cc108fa43329f7b7cef41e333fe82ac0485d61c2de16b37d1525e2", func := "plaiting/plaitinglaw7.LaneApart", spec := "laneApart", inPlace := ["internal/abi.NoEscape"], unfollowed := true, recurses := true, apart := false }
def LaneApartSaid : Prop := laneApartRow.holds Try.pinned (OpenSpec.ofChange laneApartSpec)

/-- ITS FALSE NEIGHBOUR: 'it returns false'. Refute it at one input. -/
def laneApartWrong : ChangeSpec := { name := "laneApart", fn := fun _ => fun
  | [d1, d2] => { results := [.lit (.bool false)], args := [d1, d2] }
  | _ => none }
def LaneApartWrongFalsely : Prop := laneApartRow.holds Try.pinned (OpenSpec.ofChange laneApartWrong)

/-- 'plaitinglaw7.LaneIdle': WHATEVER THE INPUT: true; the input reads as it did. -/
def laneIdleSpec : ChangeSpec := { name := "laneIdle", fn := fun _ => fun
  | [d1, d2, d3] => { results := [.lit (.bool true)], args := [d1, d2, d3] }
  | _ => none }
def laneIdleRow : OpenClaim := { program := "ytdkbalaphblobaa", sum := "d0745cb3a8cc108fa43329f7b7cef41e333fe82ac0485d61c2de16b37d1525e2", func := "plaiting/plaitinglaw7.LaneIdle", spec := "laneIdle", inPlace := ["internal/abi.NoEscape"], unfollowed := true, recurses := true, apart := false }
def LaneIdleSaid : Prop := laneIdleRow.holds Try.pinned (OpenSpec.ofChange laneIdleSpec)

/-- ITS FALSE NEIGHBOUR: 'it returns false'. Refute it at one input. -/
def laneIdleWrong : ChangeSpec := { name := "laneIdle", fn := fun _ => fun
  | [d1, d2, d3] => { results := [.lit (.bool false)], args := [d1, d2, d3] }
  | _ => none }
def LaneIdleWrongFalsely : Prop := laneIdleRow.holds Try.pinned (OpenSpec.ofChange laneIdleWrong)

/-- 'plaitinglaw3.ConfParts': WHATEVER THE INPUT: true; the input reads as it did. -/
def confPartsSpec : ChangeSpec := { name := "confParts", fn := fun _ => fun
  | [d1, d2] => { results := [.lit (.bool true)], args := [d1, d2] }
  | _ => none }
def confPartsRow : OpenClaim := { program := "ytdkbalaphblobaa", sum := "d0745cb3a8cc108fa43329f7b7cef41e333fe82ac0485d61c2de16b37d1525e2", func := "plaiting/plaitinglaw3.ConfParts", spec := "confParts", unfollowed := true, recurses := true, apart := false }
def ConfPartsSaid : Prop := confPartsRow.holds Try.pinned (OpenSpec.ofChange confPartsSpec)

/-- ITS FALSE NEIGHBOUR: 'it returns false'. Refute it at one input. -/
def confPartsWrong : ChangeSpec := { name := "confParts", fn := fun _ => fun
  | [d1, d2] => { results := [.lit (.bool false)], args := [d1, d2] }
  | _ => none }
def ConfPartsWrongFalsely : Prop := confPartsRow.holds Try.pinned (OpenSpec.ofChange confPartsWrong)

/-- 'plaitinglaw3.ConfAll': WHATEVER THE INPUT: true; the input reads as it did. -/
def confAllSpec : ChangeSpec := { name := "confAll", fn := fun _ => fun
  | [d1, d2, d3] => { results := [.lit (.bool true)], args := [d1, d2, d3] }
  | _ => none }
def confAllRow : OpenClaim := { program := "ytdkbalaphblobaa", sum := "d0745cb3a8cc108fa43329f7b7cef41e333fe82ac0485d61c2de16b37d1525e2", func := "plaiting/plaitinglaw3.ConfAll", spec := "confAll", unfollowed := true, recurses := true, apart := false }
def ConfAllSaid : Prop := confAllRow.holds Try.pinned (OpenSpec.ofChange confAllSpec)

/-- ITS FALSE NEIGHBOUR: 'it returns false'. Refute it at one input. -/
def confAllWrong : ChangeSpec := { name := "confAll", fn := fun _ => fun
  | [d1, d2, d3] => { results := [.lit (.bool false)], args := [d1, d2, d3] }
  | _ => none }
def ConfAllWrongFalsely : Prop := confAllRow.holds Try.pinned (OpenSpec.ofChange confAllWrong)

/- THE SECOND FORM. 'bulk': how many values and letters a reading holds, each counted each time it is reached (what is shared counts as often as it is met; a slice's spare places count too). A statement '..UptoSaid' is the law's where the arguments, and the package variables that the reading takes, are together of bulk at most 1048576: NARROWER than '..Said'. Prove '..Said' where nothing that the law and all that it calls make is longer than what came in: it says more and counts as full. Else prove '..UptoSaid'. A law counts once. -/
mutual
def uptoBulk {H : Type} : DataW H → Nat
  | .lit (.string bytes) => bytes.length + 1
  | .lit _ => 1
  | .nil => 1
  | .ptr d => uptoBulk d + 1
  | .slice elems spare => uptoBulkAll elems + uptoBulkAll spare + 1
  | .agg parts => uptoBulkAll parts + 1
  | .iface _ d => uptoBulk d + 1
  | .map entries => uptoBulkEntries entries + 1
  | .held _ => 1
def uptoBulkAll {H : Type} : List (DataW H) → Nat
  | [] => 0
  | d :: r => uptoBulk d + uptoBulkAll r
def uptoBulkEntries {H : Type} : List (Lit × DataW H) → Nat
  | [] => 0
  | x :: r => uptoBulkEntry x + uptoBulkEntries r
def uptoBulkEntry {H : Type} : Lit × DataW H → Nat
  | (.string bytes, d) => bytes.length + uptoBulk d + 1
  | (_, d) => uptoBulk d + 1
 end
def uptoSmall : (H : Type) → List (DataW H) → Bool := fun _ ds => decide (uptoBulkAll ds ≤ 1048576)
def OpenSpec.upto (s : _root_.Go.ChangeSpec) : _root_.Go.OpenSpec := { _root_.Go.OpenSpec.ofChange s with cond := some uptoSmall }

/-- 'plaitinglaw4.RingSteps', WHERE WHAT IT READS IS OF BULK AT MOST 1048576: true; the input reads as it did. -/
def ringStepsUptoRow : OpenClaim := { program := "ytdkbalaphblobaa", sum := "d0745cb3a8cc108fa43329f7b7cef41e333fe82ac0485d61c2de16b37d1525e2", func := "plaiting/plaitinglaw4.RingSteps", spec := "ringSteps", apart := false, narrowed := true }
def RingStepsUptoSaid : Prop := ringStepsUptoRow.holds Try.pinned (OpenSpec.upto ringStepsSpec)

/-- 'plaitinglaw4.RingTurns', WHERE WHAT IT READS IS OF BULK AT MOST 1048576: true; the input reads as it did. -/
def ringTurnsUptoRow : OpenClaim := { program := "ytdkbalaphblobaa", sum := "d0745cb3a8cc108fa43329f7b7cef41e333fe82ac0485d61c2de16b37d1525e2", func := "plaiting/plaitinglaw4.RingTurns", spec := "ringTurns", apart := false, narrowed := true }
def RingTurnsUptoSaid : Prop := ringTurnsUptoRow.holds Try.pinned (OpenSpec.upto ringTurnsSpec)

/-- 'plaitinglaw4.RingLinks', WHERE WHAT IT READS IS OF BULK AT MOST 1048576: true; the input reads as it did. -/
def ringLinksUptoRow : OpenClaim := { program := "ytdkbalaphblobaa", sum := "d0745cb3a8cc108fa43329f7b7cef41e333fe82ac0485d61c2de16b37d1525e2", func := "plaiting/plaitinglaw4.RingLinks", spec := "ringLinks", apart := false, narrowed := true }
def RingLinksUptoSaid : Prop := ringLinksUptoRow.holds Try.pinned (OpenSpec.upto ringLinksSpec)

/-- 'plaitinglaw3.ConfChecks', WHERE WHAT IT READS IS OF BULK AT MOST 1048576: true; the input reads as it did. -/
def confChecksUptoRow : OpenClaim := { program := "ytdkbalaphblobaa", sum := "d0745cb3a8cc108fa43329f7b7cef41e333fe82ac0485d61c2de16b37d1525e2", func := "plaiting/plaitinglaw3.ConfChecks", spec := "confChecks", unfollowed := true, recurses := true, apart := false, narrowed := true }
def ConfChecksUptoSaid : Prop := confChecksUptoRow.holds Try.pinned (OpenSpec.upto confChecksSpec)

/-- 'plaitinglaw3.ConfRounds', WHERE WHAT IT READS IS OF BULK AT MOST 1048576: true; the input reads as it did. -/
def confRoundsUptoRow : OpenClaim := { program := "ytdkbalaphblobaa", sum := "d0745cb3a8cc108fa43329f7b7cef41e333fe82ac0485d61c2de16b37d1525e2", func := "plaiting/plaitinglaw3.ConfRounds", spec := "confRounds", unfollowed := true, recurses := true, apart := false, narrowed := true }
def ConfRoundsUptoSaid : Prop := confRoundsUptoRow.holds Try.pinned (OpenSpec.upto confRoundsSpec)

/-- 'plaitinglaw3.ConfMost', WHERE WHAT IT READS IS OF BULK AT MOST 1048576: true; the input reads as it did. -/
def confMostUptoRow : OpenClaim := { program := "ytdkbalaphblobaa", sum := "d0745cb3a8cc108fa43329f7b7cef41e333fe82ac0485d61c2de16b37d1525e2", func := "plaiting/plaitinglaw3.ConfMost", spec := "confMost", unfollowed := true, recurses := true, apart := false, narrowed := true }
def ConfMostUptoSaid : Prop := confMostUptoRow.holds Try.pinned (OpenSpec.upto confMostSpec)

/-- 'plaitinglaw4.RingWays', WHERE WHAT IT READS IS OF BULK AT MOST 1048576: true; the input reads as it did. -/
def ringWaysUptoRow : OpenClaim := { program := "ytdkbalaphblobaa", sum := "d0745cb3a8cc108fa43329f7b7cef41e333fe82ac0485d61c2de16b37d1525e2", func := "plaiting/plaitinglaw4.RingWays", spec := "ringWays", unfollowed := true, recurses := true, apart := false, narrowed := true }
def RingWaysUptoSaid : Prop := ringWaysUptoRow.holds Try.pinned (OpenSpec.upto ringWaysSpec)

/-- 'plaitinglaw7.LaneOut', WHERE WHAT IT READS IS OF BULK AT MOST 1048576: true; the input reads as it did. -/
def laneOutUptoRow : OpenClaim := { program := "ytdkbalaphblobaa", sum := "d0745cb3a8cc108fa43329f7b7cef41e333fe82ac0485d61c2de16b37d1525e2", func := "plaiting/plaitinglaw7.LaneOut", spec := "laneOut", inPlace := ["internal/abi.NoEscape"], unfollowed := true, recurses := true, apart := false, narrowed := true }
def LaneOutUptoSaid : Prop := laneOutUptoRow.holds Try.pinned (OpenSpec.upto laneOutSpec)

/-- 'plaitinglaw7.LaneSteps', WHERE WHAT IT READS IS OF BULK AT MOST 1048576: true; the input reads as it did. -/
def laneStepsUptoRow : OpenClaim := { program := "ytdkbalaphblobaa", sum := "d0745cb3a8cc108fa43329f7b7cef41e333fe82ac0485d61c2de16b37d1525e2", func := "plaiting/plaitinglaw7.LaneSteps", spec := "laneSteps", inPlace := ["internal/abi.NoEscape"], unfollowed := true, recurses := true, apart := false, narrowed := true }
def LaneStepsUptoSaid : Prop := laneStepsUptoRow.holds Try.pinned (OpenSpec.upto laneStepsSpec)

/-- 'plaitinglaw7.LaneFronts', WHERE WHAT IT READS IS OF BULK AT MOST 1048576: true; the input reads as it did. -/
def laneFrontsUptoRow : OpenClaim := { program := "ytdkbalaphblobaa", sum := "d0745cb3a8cc108fa43329f7b7cef41e333fe82ac0485d61c2de16b37d1525e2", func := "plaiting/plaitinglaw7.LaneFronts", spec := "laneFronts", inPlace := ["internal/abi.NoEscape"], unfollowed := true, recurses := true, apart := false, narrowed := true }
def LaneFrontsUptoSaid : Prop := laneFrontsUptoRow.holds Try.pinned (OpenSpec.upto laneFrontsSpec)

/-- 'plaitinglaw7.LaneThree', WHERE WHAT IT READS IS OF BULK AT MOST 1048576: true; the input reads as it did. -/
def laneThreeUptoRow : OpenClaim := { program := "ytdkbalaphblobaa", sum := "d0745cb3a8cc108fa43329f7b7cef41e333fe82ac0485d61c2de16b37d1525e2", func := "plaiting/plaitinglaw7.LaneThree", spec := "laneThree", inPlace := ["internal/abi.NoEscape"], unfollowed := true, recurses := true, apart := false, narrowed := true }
def LaneThreeUptoSaid : Prop := laneThreeUptoRow.holds Try.pinned (OpenSpec.upto laneThreeSpec)

/-- 'plaitinglaw7.LaneApart', WHERE WHAT IT READS IS OF BULK AT MOST 1048576: true; the input reads as it did. -/
def laneApartUptoRow : OpenClaim := { program := "ytdkbalaphblobaa", sum := "d0745cb3a8cc108fa43329f7b7cef41e333fe82ac0485d61c2de16b37d1525e2", func := "plaiting/plaitinglaw7.LaneApart", spec := "laneApart", inPlace := ["internal/abi.NoEscape"], unfollowed := true, recurses := true, apart := false, narrowed := true }
def LaneApartUptoSaid : Prop := laneApartUptoRow.holds Try.pinned (OpenSpec.upto laneApartSpec)

/-- 'plaitinglaw7.LaneIdle', WHERE WHAT IT READS IS OF BULK AT MOST 1048576: true; the input reads as it did. -/
def laneIdleUptoRow : OpenClaim := { program := "ytdkbalaphblobaa", sum := "d0745cb3a8cc108fa43329f7b7cef41e333fe82ac0485d61c2de16b37d1525e2", func := "plaiting/plaitinglaw7.LaneIdle", spec := "laneIdle", inPlace := ["internal/abi.NoEscape"], unfollowed := true, recurses := true, apart := false, narrowed := true }
def LaneIdleUptoSaid : Prop := laneIdleUptoRow.holds Try.pinned (OpenSpec.upto laneIdleSpec)

/-- 'plaitinglaw3.ConfParts', WHERE WHAT IT READS IS OF BULK AT MOST 1048576: true; the input reads as it did. -/
def confPartsUptoRow : OpenClaim := { program := "ytdkbalaphblobaa", sum := "d0745cb3a8cc108fa43329f7b7cef41e333fe82ac0485d61c2de16b37d1525e2", func := "plaiting/plaitinglaw3.ConfParts", spec := "confParts", unfollowed := true, recurses := true, apart := false, narrowed := true }
def ConfPartsUptoSaid : Prop := confPartsUptoRow.holds Try.pinned (OpenSpec.upto confPartsSpec)

/-- 'plaitinglaw3.ConfAll', WHERE WHAT IT READS IS OF BULK AT MOST 1048576: true; the input reads as it did. -/
def confAllUptoRow : OpenClaim := { program := "ytdkbalaphblobaa", sum := "d0745cb3a8cc108fa43329f7b7cef41e333fe82ac0485d61c2de16b37d1525e2", func := "plaiting/plaitinglaw3.ConfAll", spec := "confAll", unfollowed := true, recurses := true, apart := false, narrowed := true }
def ConfAllUptoSaid : Prop := confAllUptoRow.holds Try.pinned (OpenSpec.upto confAllSpec)

end Rows
end Go.Proofs.Ytdkbalaphblobaa
