/-
  No cell of these rows narrows 'for every input' (looked for: loops, veiled, ifaces, maps, wideKeys, modest, calm, conditions, laid).
  DERIVED. THE GIVEN ROWS OF THIS SEAT. 15 by the template 'for every input the law returns true; each argument reads behind the call as it read before'; 0 by the template 'total and deterministic' (their statements: YtcpohmfkmgcjkaaTotals.lean).
  GIVEN WITH THE SEED: the statements are not yours to turn. If you find one false, say at which input.
  Laid BY PROGRAM, IN A SANDBOX (cutbox-rows.mjs): the forced cells as the released guide's own fill.sh prints them over the translation 7ec42aa746bf9272… (all of the seat's roots in one cut). By AI agents, Wed Nov 11 2026. No macro, syntax, notation, axiom, sorry.
-/
import Derived.Test.YtcpohmfkmgcjkaaChecked
import GoSem.Claim
import GoSem.ClaimJoined
import GoSem.ClaimMapViews
import Derived.JoinedTies
import Derived.KernelRfl
namespace Go.Proofs.Ytcpohmfkmgcjkaa
/- THE CELL 'sum', in the pinned program and in every row, IS THE sha256 OF THE DUMP (.gsa) THAT YtcpohmfkmgcjkaaProg.lean LOADS. Nothing in Lean hashes anything: it is a label: what it is worth is what the hold of that sum in a sandbox is worth. -/
noncomputable def Try.pinned : Pinned := { name := "ytcpohmfkmgcjkaa", sum := "7ec42aa746bf927297b123883354a0d1fe2caee777f019618f0ab0d199613be2", checked := Try.checked }
namespace Rows
def none {H : Type} : Left H := { results := [], args := [] }

/-- 'plaitinglaw5.FrameChecks': WHATEVER THE INPUT: true; the input reads as it did. -/
def frameChecksSpec : ChangeSpec := { name := "frameChecks", fn := fun _ => fun
  | [d1, d2, d3, d4, d5] => { results := [.lit (.bool true)], args := [d1, d2, d3, d4, d5] }
  | _ => none }
def frameChecksRow : OpenClaim := { program := "ytcpohmfkmgcjkaa", sum := "7ec42aa746bf927297b123883354a0d1fe2caee777f019618f0ab0d199613be2", func := "plaiting/plaitinglaw5.FrameChecks", spec := "frameChecks", inPlace := ["internal/abi.NoEscape"], unfollowed := true, recurses := true, apart := false }
def FrameChecksSaid : Prop := frameChecksRow.holds Try.pinned (OpenSpec.ofChange frameChecksSpec)

/-- ITS FALSE NEIGHBOUR: 'it returns false'. Refute it at one input. -/
def frameChecksWrong : ChangeSpec := { name := "frameChecks", fn := fun _ => fun
  | [d1, d2, d3, d4, d5] => { results := [.lit (.bool false)], args := [d1, d2, d3, d4, d5] }
  | _ => none }
def FrameChecksWrongFalsely : Prop := frameChecksRow.holds Try.pinned (OpenSpec.ofChange frameChecksWrong)

/-- 'plaitinglaw5.FrameLong': WHATEVER THE INPUT: true; the input reads as it did. -/
def frameLongSpec : ChangeSpec := { name := "frameLong", fn := fun _ => fun
  | [d1, d2, d3] => { results := [.lit (.bool true)], args := [d1, d2, d3] }
  | _ => none }
def frameLongRow : OpenClaim := { program := "ytcpohmfkmgcjkaa", sum := "7ec42aa746bf927297b123883354a0d1fe2caee777f019618f0ab0d199613be2", func := "plaiting/plaitinglaw5.FrameLong", spec := "frameLong", inPlace := ["internal/abi.NoEscape"], unfollowed := true, recurses := true, apart := false }
def FrameLongSaid : Prop := frameLongRow.holds Try.pinned (OpenSpec.ofChange frameLongSpec)

/-- ITS FALSE NEIGHBOUR: 'it returns false'. Refute it at one input. -/
def frameLongWrong : ChangeSpec := { name := "frameLong", fn := fun _ => fun
  | [d1, d2, d3] => { results := [.lit (.bool false)], args := [d1, d2, d3] }
  | _ => none }
def FrameLongWrongFalsely : Prop := frameLongRow.holds Try.pinned (OpenSpec.ofChange frameLongWrong)

/-- 'plaitinglaw5.FramePlaces': WHATEVER THE INPUT: true; the input reads as it did. -/
def framePlacesSpec : ChangeSpec := { name := "framePlaces", fn := fun _ => fun
  | [d1, d2, d3] => { results := [.lit (.bool true)], args := [d1, d2, d3] }
  | _ => none }
def framePlacesRow : OpenClaim := { program := "ytcpohmfkmgcjkaa", sum := "7ec42aa746bf927297b123883354a0d1fe2caee777f019618f0ab0d199613be2", func := "plaiting/plaitinglaw5.FramePlaces", spec := "framePlaces", inPlace := ["internal/abi.NoEscape"], unfollowed := true, recurses := true, apart := false }
def FramePlacesSaid : Prop := framePlacesRow.holds Try.pinned (OpenSpec.ofChange framePlacesSpec)

/-- ITS FALSE NEIGHBOUR: 'it returns false'. Refute it at one input. -/
def framePlacesWrong : ChangeSpec := { name := "framePlaces", fn := fun _ => fun
  | [d1, d2, d3] => { results := [.lit (.bool false)], args := [d1, d2, d3] }
  | _ => none }
def FramePlacesWrongFalsely : Prop := framePlacesRow.holds Try.pinned (OpenSpec.ofChange framePlacesWrong)

/-- 'plaitinglaw5.FrameSame': WHATEVER THE INPUT: true; the input reads as it did. -/
def frameSameSpec : ChangeSpec := { name := "frameSame", fn := fun _ => fun
  | [d1, d2, d3, d4, d5] => { results := [.lit (.bool true)], args := [d1, d2, d3, d4, d5] }
  | _ => none }
def frameSameRow : OpenClaim := { program := "ytcpohmfkmgcjkaa", sum := "7ec42aa746bf927297b123883354a0d1fe2caee777f019618f0ab0d199613be2", func := "plaiting/plaitinglaw5.FrameSame", spec := "frameSame", inPlace := ["internal/abi.NoEscape"], unfollowed := true, recurses := true, apart := false }
def FrameSameSaid : Prop := frameSameRow.holds Try.pinned (OpenSpec.ofChange frameSameSpec)

/-- ITS FALSE NEIGHBOUR: 'it returns false'. Refute it at one input. -/
def frameSameWrong : ChangeSpec := { name := "frameSame", fn := fun _ => fun
  | [d1, d2, d3, d4, d5] => { results := [.lit (.bool false)], args := [d1, d2, d3, d4, d5] }
  | _ => none }
def FrameSameWrongFalsely : Prop := frameSameRow.holds Try.pinned (OpenSpec.ofChange frameSameWrong)

/-- 'plaitinglaw5.FrameReads': WHATEVER THE INPUT: true; the input reads as it did. -/
def frameReadsSpec : ChangeSpec := { name := "frameReads", fn := fun _ => fun
  | [d1, d2, d3, d4, d5, d6, d7] => { results := [.lit (.bool true)], args := [d1, d2, d3, d4, d5, d6, d7] }
  | _ => none }
def frameReadsRow : OpenClaim := { program := "ytcpohmfkmgcjkaa", sum := "7ec42aa746bf927297b123883354a0d1fe2caee777f019618f0ab0d199613be2", func := "plaiting/plaitinglaw5.FrameReads", spec := "frameReads", inPlace := ["internal/abi.NoEscape"], unfollowed := true, recurses := true, apart := false }
def FrameReadsSaid : Prop := frameReadsRow.holds Try.pinned (OpenSpec.ofChange frameReadsSpec)

/-- ITS FALSE NEIGHBOUR: 'it returns false'. Refute it at one input. -/
def frameReadsWrong : ChangeSpec := { name := "frameReads", fn := fun _ => fun
  | [d1, d2, d3, d4, d5, d6, d7] => { results := [.lit (.bool false)], args := [d1, d2, d3, d4, d5, d6, d7] }
  | _ => none }
def FrameReadsWrongFalsely : Prop := frameReadsRow.holds Try.pinned (OpenSpec.ofChange frameReadsWrong)

/-- 'plaitinglaw5.FrameCut': WHATEVER THE INPUT: true; the input reads as it did. -/
def frameCutSpec : ChangeSpec := { name := "frameCut", fn := fun _ => fun
  | [d1, d2, d3, d4, d5] => { results := [.lit (.bool true)], args := [d1, d2, d3, d4, d5] }
  | _ => none }
def frameCutRow : OpenClaim := { program := "ytcpohmfkmgcjkaa", sum := "7ec42aa746bf927297b123883354a0d1fe2caee777f019618f0ab0d199613be2", func := "plaiting/plaitinglaw5.FrameCut", spec := "frameCut", inPlace := ["internal/abi.NoEscape"], unfollowed := true, recurses := true, apart := false }
def FrameCutSaid : Prop := frameCutRow.holds Try.pinned (OpenSpec.ofChange frameCutSpec)

/-- ITS FALSE NEIGHBOUR: 'it returns false'. Refute it at one input. -/
def frameCutWrong : ChangeSpec := { name := "frameCut", fn := fun _ => fun
  | [d1, d2, d3, d4, d5] => { results := [.lit (.bool false)], args := [d1, d2, d3, d4, d5] }
  | _ => none }
def FrameCutWrongFalsely : Prop := frameCutRow.holds Try.pinned (OpenSpec.ofChange frameCutWrong)

/-- 'plaitinglaw5.FrameOther': WHATEVER THE INPUT: true; the input reads as it did. -/
def frameOtherSpec : ChangeSpec := { name := "frameOther", fn := fun _ => fun
  | [d1, d2, d3, d4] => { results := [.lit (.bool true)], args := [d1, d2, d3, d4] }
  | _ => none }
def frameOtherRow : OpenClaim := { program := "ytcpohmfkmgcjkaa", sum := "7ec42aa746bf927297b123883354a0d1fe2caee777f019618f0ab0d199613be2", func := "plaiting/plaitinglaw5.FrameOther", spec := "frameOther", inPlace := ["internal/abi.NoEscape"], unfollowed := true, recurses := true, apart := false }
def FrameOtherSaid : Prop := frameOtherRow.holds Try.pinned (OpenSpec.ofChange frameOtherSpec)

/-- ITS FALSE NEIGHBOUR: 'it returns false'. Refute it at one input. -/
def frameOtherWrong : ChangeSpec := { name := "frameOther", fn := fun _ => fun
  | [d1, d2, d3, d4] => { results := [.lit (.bool false)], args := [d1, d2, d3, d4] }
  | _ => none }
def FrameOtherWrongFalsely : Prop := frameOtherRow.holds Try.pinned (OpenSpec.ofChange frameOtherWrong)

/-- 'plaitinglaw5.FrameTurn': WHATEVER THE INPUT: true; the input reads as it did. -/
def frameTurnSpec : ChangeSpec := { name := "frameTurn", fn := fun _ => fun
  | [d1, d2, d3, d4, d5] => { results := [.lit (.bool true)], args := [d1, d2, d3, d4, d5] }
  | _ => none }
def frameTurnRow : OpenClaim := { program := "ytcpohmfkmgcjkaa", sum := "7ec42aa746bf927297b123883354a0d1fe2caee777f019618f0ab0d199613be2", func := "plaiting/plaitinglaw5.FrameTurn", spec := "frameTurn", inPlace := ["internal/abi.NoEscape"], unfollowed := true, recurses := true, apart := false }
def FrameTurnSaid : Prop := frameTurnRow.holds Try.pinned (OpenSpec.ofChange frameTurnSpec)

/-- ITS FALSE NEIGHBOUR: 'it returns false'. Refute it at one input. -/
def frameTurnWrong : ChangeSpec := { name := "frameTurn", fn := fun _ => fun
  | [d1, d2, d3, d4, d5] => { results := [.lit (.bool false)], args := [d1, d2, d3, d4, d5] }
  | _ => none }
def FrameTurnWrongFalsely : Prop := frameTurnRow.holds Try.pinned (OpenSpec.ofChange frameTurnWrong)

/-- 'plaitinglaw5.FrameBack': WHATEVER THE INPUT: true; the input reads as it did. -/
def frameBackSpec : ChangeSpec := { name := "frameBack", fn := fun _ => fun
  | [d1, d2, d3] => { results := [.lit (.bool true)], args := [d1, d2, d3] }
  | _ => none }
def frameBackRow : OpenClaim := { program := "ytcpohmfkmgcjkaa", sum := "7ec42aa746bf927297b123883354a0d1fe2caee777f019618f0ab0d199613be2", func := "plaiting/plaitinglaw5.FrameBack", spec := "frameBack", inPlace := ["internal/abi.NoEscape"], unfollowed := true, recurses := true, apart := false }
def FrameBackSaid : Prop := frameBackRow.holds Try.pinned (OpenSpec.ofChange frameBackSpec)

/-- ITS FALSE NEIGHBOUR: 'it returns false'. Refute it at one input. -/
def frameBackWrong : ChangeSpec := { name := "frameBack", fn := fun _ => fun
  | [d1, d2, d3] => { results := [.lit (.bool false)], args := [d1, d2, d3] }
  | _ => none }
def FrameBackWrongFalsely : Prop := frameBackRow.holds Try.pinned (OpenSpec.ofChange frameBackWrong)

/-- 'plaitinglaw5.FrameKnown': WHATEVER THE INPUT: true; the input reads as it did. -/
def frameKnownSpec : ChangeSpec := { name := "frameKnown", fn := fun _ => fun
  | [d] => { results := [.lit (.bool true)], args := [d] }
  | _ => none }
def frameKnownRow : OpenClaim := { program := "ytcpohmfkmgcjkaa", sum := "7ec42aa746bf927297b123883354a0d1fe2caee777f019618f0ab0d199613be2", func := "plaiting/plaitinglaw5.FrameKnown", spec := "frameKnown", inPlace := ["internal/abi.NoEscape"], unfollowed := true, recurses := true, apart := false }
def FrameKnownSaid : Prop := frameKnownRow.holds Try.pinned (OpenSpec.ofChange frameKnownSpec)

/-- ITS FALSE NEIGHBOUR: 'it returns false'. Refute it at one input. -/
def frameKnownWrong : ChangeSpec := { name := "frameKnown", fn := fun _ => fun
  | [d] => { results := [.lit (.bool false)], args := [d] }
  | _ => none }
def FrameKnownWrongFalsely : Prop := frameKnownRow.holds Try.pinned (OpenSpec.ofChange frameKnownWrong)

/-- 'plaitinglaw10.ArbRight': WHATEVER THE INPUT: true; the input reads as it did. -/
def arbRightSpec : ChangeSpec := { name := "arbRight", fn := fun _ => fun
  | [d1, d2, d3, d4, d5, d6, d7, d8] => { results := [.lit (.bool true)], args := [d1, d2, d3, d4, d5, d6, d7, d8] }
  | _ => none }
def arbRightRow : OpenClaim := { program := "ytcpohmfkmgcjkaa", sum := "7ec42aa746bf927297b123883354a0d1fe2caee777f019618f0ab0d199613be2", func := "plaiting/plaitinglaw10.ArbRight", spec := "arbRight", unfollowed := true, recurses := true, apart := false }
def ArbRightSaid : Prop := arbRightRow.holds Try.pinned (OpenSpec.ofChange arbRightSpec)

/-- ITS FALSE NEIGHBOUR: 'it returns false'. Refute it at one input. -/
def arbRightWrong : ChangeSpec := { name := "arbRight", fn := fun _ => fun
  | [d1, d2, d3, d4, d5, d6, d7, d8] => { results := [.lit (.bool false)], args := [d1, d2, d3, d4, d5, d6, d7, d8] }
  | _ => none }
def ArbRightWrongFalsely : Prop := arbRightRow.holds Try.pinned (OpenSpec.ofChange arbRightWrong)

/-- 'plaitinglaw10.ArbPick': WHATEVER THE INPUT: true; the input reads as it did. -/
def arbPickSpec : ChangeSpec := { name := "arbPick", fn := fun _ => fun
  | [d1, d2, d3, d4, d5, d6, d7] => { results := [.lit (.bool true)], args := [d1, d2, d3, d4, d5, d6, d7] }
  | _ => none }
def arbPickRow : OpenClaim := { program := "ytcpohmfkmgcjkaa", sum := "7ec42aa746bf927297b123883354a0d1fe2caee777f019618f0ab0d199613be2", func := "plaiting/plaitinglaw10.ArbPick", spec := "arbPick", unfollowed := true, recurses := true, apart := false }
def ArbPickSaid : Prop := arbPickRow.holds Try.pinned (OpenSpec.ofChange arbPickSpec)

/-- ITS FALSE NEIGHBOUR: 'it returns false'. Refute it at one input. -/
def arbPickWrong : ChangeSpec := { name := "arbPick", fn := fun _ => fun
  | [d1, d2, d3, d4, d5, d6, d7] => { results := [.lit (.bool false)], args := [d1, d2, d3, d4, d5, d6, d7] }
  | _ => none }
def ArbPickWrongFalsely : Prop := arbPickRow.holds Try.pinned (OpenSpec.ofChange arbPickWrong)

/-- 'plaitinglaw10.ArbRules': WHATEVER THE INPUT: true; the input reads as it did. -/
def arbRulesSpec : ChangeSpec := { name := "arbRules", fn := fun _ => fun
  | [d1, d2, d3, d4, d5, d6, d7] => { results := [.lit (.bool true)], args := [d1, d2, d3, d4, d5, d6, d7] }
  | _ => none }
def arbRulesRow : OpenClaim := { program := "ytcpohmfkmgcjkaa", sum := "7ec42aa746bf927297b123883354a0d1fe2caee777f019618f0ab0d199613be2", func := "plaiting/plaitinglaw10.ArbRules", spec := "arbRules", unfollowed := true, recurses := true, apart := false }
def ArbRulesSaid : Prop := arbRulesRow.holds Try.pinned (OpenSpec.ofChange arbRulesSpec)

/-- ITS FALSE NEIGHBOUR: 'it returns false'. Refute it at one input. -/
def arbRulesWrong : ChangeSpec := { name := "arbRules", fn := fun _ => fun
  | [d1, d2, d3, d4, d5, d6, d7] => { results := [.lit (.bool false)], args := [d1, d2, d3, d4, d5, d6, d7] }
  | _ => none }
def ArbRulesWrongFalsely : Prop := arbRulesRow.holds Try.pinned (OpenSpec.ofChange arbRulesWrong)

/-- 'plaitinglaw10.ArbPairs': WHATEVER THE INPUT: true; the input reads as it did. -/
def arbPairsSpec : ChangeSpec := { name := "arbPairs", fn := fun _ => fun
  | [d1, d2, d3, d4] => { results := [.lit (.bool true)], args := [d1, d2, d3, d4] }
  | _ => none }
def arbPairsRow : OpenClaim := { program := "ytcpohmfkmgcjkaa", sum := "7ec42aa746bf927297b123883354a0d1fe2caee777f019618f0ab0d199613be2", func := "plaiting/plaitinglaw10.ArbPairs", spec := "arbPairs", unfollowed := true, recurses := true, apart := false }
def ArbPairsSaid : Prop := arbPairsRow.holds Try.pinned (OpenSpec.ofChange arbPairsSpec)

/-- ITS FALSE NEIGHBOUR: 'it returns false'. Refute it at one input. -/
def arbPairsWrong : ChangeSpec := { name := "arbPairs", fn := fun _ => fun
  | [d1, d2, d3, d4] => { results := [.lit (.bool false)], args := [d1, d2, d3, d4] }
  | _ => none }
def ArbPairsWrongFalsely : Prop := arbPairsRow.holds Try.pinned (OpenSpec.ofChange arbPairsWrong)

/-- 'plaitinglaw10.ArbTurned': WHATEVER THE INPUT: true; the input reads as it did. -/
def arbTurnedSpec : ChangeSpec := { name := "arbTurned", fn := fun _ => fun
  | [d1, d2, d3, d4, d5, d6, d7] => { results := [.lit (.bool true)], args := [d1, d2, d3, d4, d5, d6, d7] }
  | _ => none }
def arbTurnedRow : OpenClaim := { program := "ytcpohmfkmgcjkaa", sum := "7ec42aa746bf927297b123883354a0d1fe2caee777f019618f0ab0d199613be2", func := "plaiting/plaitinglaw10.ArbTurned", spec := "arbTurned", unfollowed := true, recurses := true, apart := false }
def ArbTurnedSaid : Prop := arbTurnedRow.holds Try.pinned (OpenSpec.ofChange arbTurnedSpec)

/-- ITS FALSE NEIGHBOUR: 'it returns false'. Refute it at one input. -/
def arbTurnedWrong : ChangeSpec := { name := "arbTurned", fn := fun _ => fun
  | [d1, d2, d3, d4, d5, d6, d7] => { results := [.lit (.bool false)], args := [d1, d2, d3, d4, d5, d6, d7] }
  | _ => none }
def ArbTurnedWrongFalsely : Prop := arbTurnedRow.holds Try.pinned (OpenSpec.ofChange arbTurnedWrong)

/- THE SECOND FORM. 'bulk': how many values and letters a reading holds, each counted each time it is reached (what is shared counts as often as it is met; a slice's spare places count too). A statement '..UptoSaid' is the law's where the arguments, and the package variables that the reading takes, are together of bulk at most 1048576: NARROWER than '..Said'. Prove '..Said' where nothing that the law and all that it calls make is longer than what came in: it says more and counts as full. Else prove '..UptoSaid'. A law counts once. -/
mutual
def uptoBulk {H : Type} : DataW H → Nat
  | .lit (.string bytes) => bytes.length + 1
  | .lit _ => 1
  | .nil => 1
  | .ptr d => uptoBulk d + 1
  | .slice elems spare => uptoBulkAll elems + uptoBulkAll spare + 1
  | .agg parts => uptoBulkAll parts + 1
  | .iface _ d => uptoBulk d + 1
  | .map entries => uptoBulkEntries entries + 1
  | .held _ => 1
def uptoBulkAll {H : Type} : List (DataW H) → Nat
  | [] => 0
  | d :: r => uptoBulk d + uptoBulkAll r
def uptoBulkEntries {H : Type} : List (Lit × DataW H) → Nat
  | [] => 0
  | x :: r => uptoBulkEntry x + uptoBulkEntries r
def uptoBulkEntry {H : Type} : Lit × DataW H → Nat
  | (.string bytes, d) => bytes.length + uptoBulk d + 1
  | (_, d) => uptoBulk d + 1
 end
def uptoSmall : (H : Type) → List (DataW H) → Bool := fun _ ds => decide (uptoBulkAll ds ≤ 1048576)
def OpenSpec.upto (s : _root_.Go.ChangeSpec) : _root_.Go.OpenSpec := { _root_.Go.OpenSpec.ofChange s with cond := some uptoSmall }

/-- 'plaitinglaw5.FrameChecks', WHERE WHAT IT READS IS OF BULK AT MOST 1048576: true; the input reads as it did. -/
def frameChecksUptoRow : OpenClaim := { program := "ytcpohmfkmgcjkaa", sum := "7ec42aa746bf927297b123883354a0d1fe2caee777f019618f0ab0d199613be2", func := "plaiting/plaitinglaw5.FrameChecks", spec := "frameChecks", inPlace := ["internal/abi.NoEscape"], unfollowed := true, recurses := true, apart := false, narrowed := true }
def FrameChecksUptoSaid : Prop := frameChecksUptoRow.holds Try.pinned (OpenSpec.upto frameChecksSpec)

/-- 'plaitinglaw5.FrameLong', WHERE WHAT IT READS IS OF BULK AT MOST 1048576: true; the input reads as it did. -/
def frameLongUptoRow : OpenClaim := { program := "ytcpohmfkmgcjkaa", sum := "7ec42aa746bf927297b123883354a0d1fe2caee777f019618f0ab0d199613be2", func := "plaiting/plaitinglaw5.FrameLong", spec := "frameLong", inPlace := ["internal/abi.NoEscape"], unfollowed := true, recurses := true, apart := false, narrowed := true }
def FrameLongUptoSaid : Prop := frameLongUptoRow.holds Try.pinned (OpenSpec.upto frameLongSpec)

/-- 'plaitinglaw5.FramePlaces', WHERE WHAT IT READS IS OF BULK AT MOST 1048576: true; the input reads as it did. -/
def framePlacesUptoRow : OpenClaim := { program := "ytcpohmfkmgcjkaa", sum := "7ec42aa746bf927297b123883354a0d1fe2caee777f019618f0ab0d199613be2", func := "plaiting/plaitinglaw5.FramePlaces", spec := "framePlaces", inPlace := ["internal/abi.NoEscape"], unfollowed := true, recurses := true, apart := false, narrowed := true }
def FramePlacesUptoSaid : Prop := framePlacesUptoRow.holds Try.pinned (OpenSpec.upto framePlacesSpec)

/-- 'plaitinglaw5.FrameSame', WHERE WHAT IT READS IS OF BULK AT MOST 1048576: true; the input reads as it did. -/
def frameSameUptoRow : OpenClaim := { program := "ytcpohmfkmgcjkaa", sum := "7ec42aa746bf927297b123883354a0d1fe2caee777f019618f0ab0d199613be2", func := "plaiting/plaitinglaw5.FrameSame", spec := "frameSame", inPlace := ["internal/abi.NoEscape"], unfollowed := true, recurses := true, apart := false, narrowed := true }
def FrameSameUptoSaid : Prop := frameSameUptoRow.holds Try.pinned (OpenSpec.upto frameSameSpec)

/-- 'plaitinglaw5.FrameReads', WHERE WHAT IT READS IS OF BULK AT MOST 1048576: true; the input reads as it did. -/
def frameReadsUptoRow : OpenClaim := { program := "ytcpohmfkmgcjkaa", sum := "7ec42aa746bf927297b123883354a0d1fe2caee777f019618f0ab0d199613be2", func := "plaiting/plaitinglaw5.FrameReads", spec := "frameReads", inPlace := ["internal/abi.NoEscape"], unfollowed := true, recurses := true, apart := false, narrowed := true }
def FrameReadsUptoSaid : Prop := frameReadsUptoRow.holds Try.pinned (OpenSpec.upto frameReadsSpec)

/-- 'plaitinglaw5.FrameCut', WHERE WHAT IT READS IS OF BULK AT MOST 1048576: true; the input reads as it did. -/
def frameCutUptoRow : OpenClaim := { program := "ytcpohmfkmgcjkaa", sum := "7ec42aa746bf927297b123883354a0d1fe2caee777f019618f0ab0d199613be2", func := "plaiting/plaitinglaw5.FrameCut", spec := "frameCut", inPlace := ["internal/abi.NoEscape"], unfollowed := true, recurses := true, apart := false, narrowed := true }
def FrameCutUptoSaid : Prop := frameCutUptoRow.holds Try.pinned (OpenSpec.upto frameCutSpec)

/-- 'plaitinglaw5.FrameOther', WHERE WHAT IT READS IS OF BULK AT MOST 1048576: true; the input reads as it did. -/
def frameOtherUptoRow : OpenClaim := { program := "ytcpohmfkmgcjkaa", sum := "7ec42aa746bf927297b123883354a0d1fe2caee777f019618f0ab0d199613be2", func := "plaiting/plaitinglaw5.FrameOther", spec := "frameOther", inPlace := ["internal/abi.NoEscape"], unfollowed := true, recurses := true, apart := false, narrowed := true }
def FrameOtherUptoSaid : Prop := frameOtherUptoRow.holds Try.pinned (OpenSpec.upto frameOtherSpec)

/-- 'plaitinglaw5.FrameTurn', WHERE WHAT IT READS IS OF BULK AT MOST 1048576: true; the input reads as it did. -/
def frameTurnUptoRow : OpenClaim := { program := "ytcpohmfkmgcjkaa", sum := "7ec42aa746bf927297b123883354a0d1fe2caee777f019618f0ab0d199613be2", func := "plaiting/plaitinglaw5.FrameTurn", spec := "frameTurn", inPlace := ["internal/abi.NoEscape"], unfollowed := true, recurses := true, apart := false, narrowed := true }
def FrameTurnUptoSaid : Prop := frameTurnUptoRow.holds Try.pinned (OpenSpec.upto frameTurnSpec)

/-- 'plaitinglaw5.FrameBack', WHERE WHAT IT READS IS OF BULK AT MOST 1048576: true; the input reads as it did. -/
def frameBackUptoRow : OpenClaim := { program := "ytcpohmfkmgcjkaa", sum := "7ec42aa746bf927297b123883354a0d1fe2caee777f019618f0ab0d199613be2", func := "plaiting/plaitinglaw5.FrameBack", spec := "frameBack", inPlace := ["internal/abi.NoEscape"], unfollowed := true, recurses := true, apart := false, narrowed := true }
def FrameBackUptoSaid : Prop := frameBackUptoRow.holds Try.pinned (OpenSpec.upto frameBackSpec)

/-- 'plaitinglaw5.FrameKnown', WHERE WHAT IT READS IS OF BULK AT MOST 1048576: true; the input reads as it did. -/
def frameKnownUptoRow : OpenClaim := { program := "ytcpohmfkmgcjkaa", sum := "7ec42aa746bf927297b123883354a0d1fe2caee777f019618f0ab0d199613be2", func := "plaiting/plaitinglaw5.FrameKnown", spec := "frameKnown", inPlace := ["internal/abi.NoEscape"], unfollowed := true, recurses := true, apart := false, narrowed := true }
def FrameKnownUptoSaid : Prop := frameKnownUptoRow.holds Try.pinned (OpenSpec.upto frameKnownSpec)

/-- 'plaitinglaw10.ArbRight', WHERE WHAT IT READS IS OF BULK AT MOST 1048576: true; the input reads as it did. -/
def arbRightUptoRow : OpenClaim := { program := "ytcpohmfkmgcjkaa", sum := "7ec42aa746bf927297b123883354a0d1fe2caee777f019618f0ab0d199613be2", func := "plaiting/plaitinglaw10.ArbRight", spec := "arbRight", unfollowed := true, recurses := true, apart := false, narrowed := true }
def ArbRightUptoSaid : Prop := arbRightUptoRow.holds Try.pinned (OpenSpec.upto arbRightSpec)

/-- 'plaitinglaw10.ArbPick', WHERE WHAT IT READS IS OF BULK AT MOST 1048576: true; the input reads as it did. -/
def arbPickUptoRow : OpenClaim := { program := "ytcpohmfkmgcjkaa", sum := "7ec42aa746bf927297b123883354a0d1fe2caee777f019618f0ab0d199613be2", func := "plaiting/plaitinglaw10.ArbPick", spec := "arbPick", unfollowed := true, recurses := true, apart := false, narrowed := true }
def ArbPickUptoSaid : Prop := arbPickUptoRow.holds Try.pinned (OpenSpec.upto arbPickSpec)

/-- 'plaitinglaw10.ArbRules', WHERE WHAT IT READS IS OF BULK AT MOST 1048576: true; the input reads as it did. -/
def arbRulesUptoRow : OpenClaim := { program := "ytcpohmfkmgcjkaa", sum := "7ec42aa746bf927297b123883354a0d1fe2caee777f019618f0ab0d199613be2", func := "plaiting/plaitinglaw10.ArbRules", spec := "arbRules", unfollowed := true, recurses := true, apart := false, narrowed := true }
def ArbRulesUptoSaid : Prop := arbRulesUptoRow.holds Try.pinned (OpenSpec.upto arbRulesSpec)

/-- 'plaitinglaw10.ArbPairs', WHERE WHAT IT READS IS OF BULK AT MOST 1048576: true; the input reads as it did. -/
def arbPairsUptoRow : OpenClaim := { program := "ytcpohmfkmgcjkaa", sum := "7ec42aa746bf927297b123883354a0d1fe2caee777f019618f0ab0d199613be2", func := "plaiting/plaitinglaw10.ArbPairs", spec := "arbPairs", unfollowed := true, recurses := true, apart := false, narrowed := true }
def ArbPairsUptoSaid : Prop := arbPairsUptoRow.holds Try.pinned (OpenSpec.upto arbPairsSpec)

/-- 'plaitinglaw10.ArbTurned', WHERE WHAT IT READS IS OF BULK AT MOST 1048576: true; the input reads as it did. -/
def arbTurnedUptoRow : OpenClaim := { program := "ytcpohmfkmgcjkaa", sum := "7ec42aa746bf927297b123883354a0d1fe2caee777f019618f0ab0d199613be2", func := "plaiting/plaitinglaw10.ArbTurned", spec := "arbTurned", unfollowed := true, recurses := true, apart := false, narrowed := true }
def ArbTurnedUptoSaid : Prop := arbTurnedUptoRow.holds Try.pinned (OpenSpec.upto arbTurnedSpec)

end Rows
end Go.Proofs.Ytcpohmfkmgcjkaa
