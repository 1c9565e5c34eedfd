/-
  No cell of these rows narrows 'for every input' (looked for: loops, veiled, ifaces, maps, wideKeys, modest, calm, conditions, laid).
  DERIVED. THE GIVEN ROWS OF THIS SEAT. 8 by the template 'for every input the law returns true; each argument reads behind the call as it read before'; 0 by the template 'total and deterministic' (their statements: YtikmaidjpffakaaTotals.lean).
  GIVEN WITH THE SEED: the statements are not yours to turn. If you find one false, say at which input.
  Laid BY PROGRAM, IN A SANDBOX (cutbox-rows.mjs): the forced cells as the released guide's own fill.sh prints them over the translation 8b90f3b46c13f5e0… (all of the seat's roots in one cut). By AI agents, Wed Nov 11 2026. No macro, syntax, notation, axiom, sorry.
-/
import Derived.Test.YtikmaidjpffakaaChecked
import GoSem.Claim
import GoSem.ClaimJoined
import GoSem.ClaimMapViews
import Derived.JoinedTies
import Derived.KernelRfl
namespace Go.Proofs.Ytikmaidjpffakaa
/- THE CELL 'sum', in the pinned program and in every row, IS THE sha256 OF THE DUMP (.gsa) THAT YtikmaidjpffakaaProg.lean LOADS. Nothing in Lean hashes anything: it is a label: what it is worth is what the hold of that sum in a sandbox is worth. -/
noncomputable def Try.pinned : Pinned := { name := "ytikmaidjpffakaa", sum := "8b90f3b46c13f5e03c0a270fe1126d5afd866a702cb61c1e71f8fc72f10aed03", checked := Try.checked }
namespace Rows
def none {H : Type} : Left H := { results := [], args := [] }

/-- 'plaitinglaw6.FaultChecks': WHATEVER THE INPUT: true; the input reads as it did. -/
def faultChecksSpec : ChangeSpec := { name := "faultChecks", fn := fun _ => fun
  | [d1, d2, d3, d4] => { results := [.lit (.bool true)], args := [d1, d2, d3, d4] }
  | _ => none }
def faultChecksRow : OpenClaim := { program := "ytikmaidjpffakaa", sum := "8b90f3b46c13f5e03c0a270fe1126d5afd866a702cb61c1e71f8fc72f10aed03", func := "plaiting/plaitinglaw6.FaultChecks", spec := "faultChecks", inPlace := ["internal/abi.NoEscape"], unfollowed := true, recurses := true, apart := false }
def FaultChecksSaid : Prop := faultChecksRow.holds Try.pinned (OpenSpec.ofChange faultChecksSpec)

/-- ITS FALSE NEIGHBOUR: 'it returns false'. Refute it at one input. -/
def faultChecksWrong : ChangeSpec := { name := "faultChecks", fn := fun _ => fun
  | [d1, d2, d3, d4] => { results := [.lit (.bool false)], args := [d1, d2, d3, d4] }
  | _ => none }
def FaultChecksWrongFalsely : Prop := faultChecksRow.holds Try.pinned (OpenSpec.ofChange faultChecksWrong)

/-- 'plaitinglaw6.FaultEmits': WHATEVER THE INPUT: true; the input reads as it did. -/
def faultEmitsSpec : ChangeSpec := { name := "faultEmits", fn := fun _ => fun
  | [d1, d2, d3, d4, d5, d6, d7, d8, d9] => { results := [.lit (.bool true)], args := [d1, d2, d3, d4, d5, d6, d7, d8, d9] }
  | _ => none }
def faultEmitsRow : OpenClaim := { program := "ytikmaidjpffakaa", sum := "8b90f3b46c13f5e03c0a270fe1126d5afd866a702cb61c1e71f8fc72f10aed03", func := "plaiting/plaitinglaw6.FaultEmits", spec := "faultEmits", inPlace := ["internal/abi.NoEscape"], unfollowed := true, recurses := true, apart := false }
def FaultEmitsSaid : Prop := faultEmitsRow.holds Try.pinned (OpenSpec.ofChange faultEmitsSpec)

/-- ITS FALSE NEIGHBOUR: 'it returns false'. Refute it at one input. -/
def faultEmitsWrong : ChangeSpec := { name := "faultEmits", fn := fun _ => fun
  | [d1, d2, d3, d4, d5, d6, d7, d8, d9] => { results := [.lit (.bool false)], args := [d1, d2, d3, d4, d5, d6, d7, d8, d9] }
  | _ => none }
def FaultEmitsWrongFalsely : Prop := faultEmitsRow.holds Try.pinned (OpenSpec.ofChange faultEmitsWrong)

/-- 'plaitinglaw6.FaultKinds': WHATEVER THE INPUT: true; the input reads as it did. -/
def faultKindsSpec : ChangeSpec := { name := "faultKinds", fn := fun _ => fun
  | [d1, d2, d3, d4, d5, d6] => { results := [.lit (.bool true)], args := [d1, d2, d3, d4, d5, d6] }
  | _ => none }
def faultKindsRow : OpenClaim := { program := "ytikmaidjpffakaa", sum := "8b90f3b46c13f5e03c0a270fe1126d5afd866a702cb61c1e71f8fc72f10aed03", func := "plaiting/plaitinglaw6.FaultKinds", spec := "faultKinds", inPlace := ["internal/abi.NoEscape"], unfollowed := true, recurses := true, apart := false }
def FaultKindsSaid : Prop := faultKindsRow.holds Try.pinned (OpenSpec.ofChange faultKindsSpec)

/-- ITS FALSE NEIGHBOUR: 'it returns false'. Refute it at one input. -/
def faultKindsWrong : ChangeSpec := { name := "faultKinds", fn := fun _ => fun
  | [d1, d2, d3, d4, d5, d6] => { results := [.lit (.bool false)], args := [d1, d2, d3, d4, d5, d6] }
  | _ => none }
def FaultKindsWrongFalsely : Prop := faultKindsRow.holds Try.pinned (OpenSpec.ofChange faultKindsWrong)

/-- 'plaitinglaw6.FaultOnly': WHATEVER THE INPUT: true; the input reads as it did. -/
def faultOnlySpec : ChangeSpec := { name := "faultOnly", fn := fun _ => fun
  | [d1, d2, d3, d4, d5, d6, d7] => { results := [.lit (.bool true)], args := [d1, d2, d3, d4, d5, d6, d7] }
  | _ => none }
def faultOnlyRow : OpenClaim := { program := "ytikmaidjpffakaa", sum := "8b90f3b46c13f5e03c0a270fe1126d5afd866a702cb61c1e71f8fc72f10aed03", func := "plaiting/plaitinglaw6.FaultOnly", spec := "faultOnly", inPlace := ["internal/abi.NoEscape"], unfollowed := true, recurses := true, apart := false }
def FaultOnlySaid : Prop := faultOnlyRow.holds Try.pinned (OpenSpec.ofChange faultOnlySpec)

/-- ITS FALSE NEIGHBOUR: 'it returns false'. Refute it at one input. -/
def faultOnlyWrong : ChangeSpec := { name := "faultOnly", fn := fun _ => fun
  | [d1, d2, d3, d4, d5, d6, d7] => { results := [.lit (.bool false)], args := [d1, d2, d3, d4, d5, d6, d7] }
  | _ => none }
def FaultOnlyWrongFalsely : Prop := faultOnlyRow.holds Try.pinned (OpenSpec.ofChange faultOnlyWrong)

/-- 'plaitinglaw6.FaultPicks': WHATEVER THE INPUT: true; the input reads as it did. -/
def faultPicksSpec : ChangeSpec := { name := "faultPicks", fn := fun _ => fun
  | [d1, d2, d3, d4, d5] => { results := [.lit (.bool true)], args := [d1, d2, d3, d4, d5] }
  | _ => none }
def faultPicksRow : OpenClaim := { program := "ytikmaidjpffakaa", sum := "8b90f3b46c13f5e03c0a270fe1126d5afd866a702cb61c1e71f8fc72f10aed03", func := "plaiting/plaitinglaw6.FaultPicks", spec := "faultPicks", inPlace := ["internal/abi.NoEscape"], unfollowed := true, recurses := true, apart := false }
def FaultPicksSaid : Prop := faultPicksRow.holds Try.pinned (OpenSpec.ofChange faultPicksSpec)

/-- ITS FALSE NEIGHBOUR: 'it returns false'. Refute it at one input. -/
def faultPicksWrong : ChangeSpec := { name := "faultPicks", fn := fun _ => fun
  | [d1, d2, d3, d4, d5] => { results := [.lit (.bool false)], args := [d1, d2, d3, d4, d5] }
  | _ => none }
def FaultPicksWrongFalsely : Prop := faultPicksRow.holds Try.pinned (OpenSpec.ofChange faultPicksWrong)

/-- 'plaitinglaw6.FaultBoth': WHATEVER THE INPUT: true; the input reads as it did. -/
def faultBothSpec : ChangeSpec := { name := "faultBoth", fn := fun _ => fun
  | [d1, d2, d3, d4, d5] => { results := [.lit (.bool true)], args := [d1, d2, d3, d4, d5] }
  | _ => none }
def faultBothRow : OpenClaim := { program := "ytikmaidjpffakaa", sum := "8b90f3b46c13f5e03c0a270fe1126d5afd866a702cb61c1e71f8fc72f10aed03", func := "plaiting/plaitinglaw6.FaultBoth", spec := "faultBoth", inPlace := ["internal/abi.NoEscape"], unfollowed := true, recurses := true, apart := false }
def FaultBothSaid : Prop := faultBothRow.holds Try.pinned (OpenSpec.ofChange faultBothSpec)

/-- ITS FALSE NEIGHBOUR: 'it returns false'. Refute it at one input. -/
def faultBothWrong : ChangeSpec := { name := "faultBoth", fn := fun _ => fun
  | [d1, d2, d3, d4, d5] => { results := [.lit (.bool false)], args := [d1, d2, d3, d4, d5] }
  | _ => none }
def FaultBothWrongFalsely : Prop := faultBothRow.holds Try.pinned (OpenSpec.ofChange faultBothWrong)

/-- 'plaitinglaw6.FaultTimes': WHATEVER THE INPUT: true; the input reads as it did. -/
def faultTimesSpec : ChangeSpec := { name := "faultTimes", fn := fun _ => fun
  | [d1, d2, d3, d4, d5, d6] => { results := [.lit (.bool true)], args := [d1, d2, d3, d4, d5, d6] }
  | _ => none }
def faultTimesRow : OpenClaim := { program := "ytikmaidjpffakaa", sum := "8b90f3b46c13f5e03c0a270fe1126d5afd866a702cb61c1e71f8fc72f10aed03", func := "plaiting/plaitinglaw6.FaultTimes", spec := "faultTimes", inPlace := ["internal/abi.NoEscape"], unfollowed := true, recurses := true, apart := false }
def FaultTimesSaid : Prop := faultTimesRow.holds Try.pinned (OpenSpec.ofChange faultTimesSpec)

/-- ITS FALSE NEIGHBOUR: 'it returns false'. Refute it at one input. -/
def faultTimesWrong : ChangeSpec := { name := "faultTimes", fn := fun _ => fun
  | [d1, d2, d3, d4, d5, d6] => { results := [.lit (.bool false)], args := [d1, d2, d3, d4, d5, d6] }
  | _ => none }
def FaultTimesWrongFalsely : Prop := faultTimesRow.holds Try.pinned (OpenSpec.ofChange faultTimesWrong)

/-- 'plaitinglaw6.FaultDevs': WHATEVER THE INPUT: true; the input reads as it did. -/
def faultDevsSpec : ChangeSpec := { name := "faultDevs", fn := fun _ => fun
  | [d1, d2, d3, d4, d5, d6] => { results := [.lit (.bool true)], args := [d1, d2, d3, d4, d5, d6] }
  | _ => none }
def faultDevsRow : OpenClaim := { program := "ytikmaidjpffakaa", sum := "8b90f3b46c13f5e03c0a270fe1126d5afd866a702cb61c1e71f8fc72f10aed03", func := "plaiting/plaitinglaw6.FaultDevs", spec := "faultDevs", inPlace := ["internal/abi.NoEscape"], unfollowed := true, recurses := true, apart := false }
def FaultDevsSaid : Prop := faultDevsRow.holds Try.pinned (OpenSpec.ofChange faultDevsSpec)

/-- ITS FALSE NEIGHBOUR: 'it returns false'. Refute it at one input. -/
def faultDevsWrong : ChangeSpec := { name := "faultDevs", fn := fun _ => fun
  | [d1, d2, d3, d4, d5, d6] => { results := [.lit (.bool false)], args := [d1, d2, d3, d4, d5, d6] }
  | _ => none }
def FaultDevsWrongFalsely : Prop := faultDevsRow.holds Try.pinned (OpenSpec.ofChange faultDevsWrong)

/- THE SECOND FORM. 'bulk': how many values and letters a reading holds, each counted each time it is reached (what is shared counts as often as it is met; a slice's spare places count too). A statement '..UptoSaid' is the law's where the arguments, and the package variables that the reading takes, are together of bulk at most 1048576: NARROWER than '..Said'. Prove '..Said' where nothing that the law and all that it calls make is longer than what came in: it says more and counts as full. Else prove '..UptoSaid'. A law counts once. -/
mutual
def uptoBulk {H : Type} : DataW H → Nat
  | .lit (.string bytes) => bytes.length + 1
  | .lit _ => 1
  | .nil => 1
  | .ptr d => uptoBulk d + 1
  | .slice elems spare => uptoBulkAll elems + uptoBulkAll spare + 1
  | .agg parts => uptoBulkAll parts + 1
  | .iface _ d => uptoBulk d + 1
  | .map entries => uptoBulkEntries entries + 1
  | .held _ => 1
def uptoBulkAll {H : Type} : List (DataW H) → Nat
  | [] => 0
  | d :: r => uptoBulk d + uptoBulkAll r
def uptoBulkEntries {H : Type} : List (Lit × DataW H) → Nat
  | [] => 0
  | x :: r => uptoBulkEntry x + uptoBulkEntries r
def uptoBulkEntry {H : Type} : Lit × DataW H → Nat
  | (.string bytes, d) => bytes.length + uptoBulk d + 1
  | (_, d) => uptoBulk d + 1
 end
def uptoSmall : (H : Type) → List (DataW H) → Bool := fun _ ds => decide (uptoBulkAll ds ≤ 1048576)
def OpenSpec.upto (s : _root_.Go.ChangeSpec) : _root_.Go.OpenSpec := { _root_.Go.OpenSpec.ofChange s with cond := some uptoSmall }

/-- 'plaitinglaw6.FaultChecks', WHERE WHAT IT READS IS OF BULK AT MOST 1048576: true; the input reads as it did. -/
def faultChecksUptoRow : OpenClaim := { program := "ytikmaidjpffakaa", sum := "8b90f3b46c13f5e03c0a270fe1126d5afd866a702cb61c1e71f8fc72f10aed03", func := "plaiting/plaitinglaw6.FaultChecks", spec := "faultChecks", inPlace := ["internal/abi.NoEscape"], unfollowed := true, recurses := true, apart := false, narrowed := true }
def FaultChecksUptoSaid : Prop := faultChecksUptoRow.holds Try.pinned (OpenSpec.upto faultChecksSpec)

/-- 'plaitinglaw6.FaultEmits', WHERE WHAT IT READS IS OF BULK AT MOST 1048576: true; the input reads as it did. -/
def faultEmitsUptoRow : OpenClaim := { program := "ytikmaidjpffakaa", sum := "8b90f3b46c13f5e03c0a270fe1126d5afd866a702cb61c1e71f8fc72f10aed03", func := "plaiting/plaitinglaw6.FaultEmits", spec := "faultEmits", inPlace := ["internal/abi.NoEscape"], unfollowed := true, recurses := true, apart := false, narrowed := true }
def FaultEmitsUptoSaid : Prop := faultEmitsUptoRow.holds Try.pinned (OpenSpec.upto faultEmitsSpec)

/-- 'plaitinglaw6.FaultKinds', WHERE WHAT IT READS IS OF BULK AT MOST 1048576: true; the input reads as it did. -/
def faultKindsUptoRow : OpenClaim := { program := "ytikmaidjpffakaa", sum := "8b90f3b46c13f5e03c0a270fe1126d5afd866a702cb61c1e71f8fc72f10aed03", func := "plaiting/plaitinglaw6.FaultKinds", spec := "faultKinds", inPlace := ["internal/abi.NoEscape"], unfollowed := true, recurses := true, apart := false, narrowed := true }
def FaultKindsUptoSaid : Prop := faultKindsUptoRow.holds Try.pinned (OpenSpec.upto faultKindsSpec)

/-- 'plaitinglaw6.FaultOnly', WHERE WHAT IT READS IS OF BULK AT MOST 1048576: true; the input reads as it did. -/
def faultOnlyUptoRow : OpenClaim := { program := "ytikmaidjpffakaa", sum := "8b90f3b46c13f5e03c0a270fe1126d5afd866a702cb61c1e71f8fc72f10aed03", func := "plaiting/plaitinglaw6.FaultOnly", spec := "faultOnly", inPlace := ["internal/abi.NoEscape"], unfollowed := true, recurses := true, apart := false, narrowed := true }
def FaultOnlyUptoSaid : Prop := faultOnlyUptoRow.holds Try.pinned (OpenSpec.upto faultOnlySpec)

/-- 'plaitinglaw6.FaultPicks', WHERE WHAT IT READS IS OF BULK AT MOST 1048576: true; the input reads as it did. -/
def faultPicksUptoRow : OpenClaim := { program := "ytikmaidjpffakaa", sum := "8b90f3b46c13f5e03c0a270fe1126d5afd866a702cb61c1e71f8fc72f10aed03", func := "plaiting/plaitinglaw6.FaultPicks", spec := "faultPicks", inPlace := ["internal/abi.NoEscape"], unfollowed := true, recurses := true, apart := false, narrowed := true }
def FaultPicksUptoSaid : Prop := faultPicksUptoRow.holds Try.pinned (OpenSpec.upto faultPicksSpec)

/-- 'plaitinglaw6.FaultBoth', WHERE WHAT IT READS IS OF BULK AT MOST 1048576: true; the input reads as it did. -/
def faultBothUptoRow : OpenClaim := { program := "ytikmaidjpffakaa", sum := "8b90f3b46c13f5e03c0a270fe1126d5afd866a702cb61c1e71f8fc72f10aed03", func := "plaiting/plaitinglaw6.FaultBoth", spec := "faultBoth", inPlace := ["internal/abi.NoEscape"], unfollowed := true, recurses := true, apart := false, narrowed := true }
def FaultBothUptoSaid : Prop := faultBothUptoRow.holds Try.pinned (OpenSpec.upto faultBothSpec)

/-- 'plaitinglaw6.FaultTimes', WHERE WHAT IT READS IS OF BULK AT MOST 1048576: true; the input reads as it did. -/
def faultTimesUptoRow : OpenClaim := { program := "ytikmaidjpffakaa", sum := "8b90f3b46c13f5e03c0a270fe1126d5afd866a702cb61c1e71f8fc72f10aed03", func := "plaiting/plaitinglaw6.FaultTimes", spec := "faultTimes", inPlace := ["internal/abi.NoEscape"], unfollowed := true, recurses := true, apart := false, narrowed := true }
def FaultTimesUptoSaid : Prop := faultTimesUptoRow.holds Try.pinned (OpenSpec.upto faultTimesSpec)

/-- 'plaitinglaw6.FaultDevs', WHERE WHAT IT READS IS OF BULK AT MOST 1048576: true; the input reads as it did. -/
def faultDevsUptoRow : OpenClaim := { program := "ytikmaidjpffakaa", sum := "8b90f3b46c13f5e03c0a270fe1126d5afd866a702cb61c1e71f8fc72f10aed03", func := "plaiting/plaitinglaw6.FaultDevs", spec := "faultDevs", inPlace := ["internal/abi.NoEscape"], unfollowed := true, recurses := true, apart := false, narrowed := true }
def FaultDevsUptoSaid : Prop := faultDevsUptoRow.holds Try.pinned (OpenSpec.upto faultDevsSpec)

end Rows
end Go.Proofs.Ytikmaidjpffakaa
