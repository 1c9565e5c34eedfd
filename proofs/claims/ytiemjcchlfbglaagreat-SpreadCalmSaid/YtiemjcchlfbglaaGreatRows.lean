/-
  No cell of these rows narrows 'for every input' (looked for: loops, veiled, ifaces, maps, wideKeys, modest, calm, conditions, laid).
  DERIVED. THE GIVEN ROWS OF THIS SEAT. 4 by the template 'for every input the law returns true; each argument reads behind the call as it read before'; 0 by the template 'total and deterministic' (their statements: YtiemjcchlfbglaaGreatTotals.lean).
  GIVEN WITH THE SEED: the statements are not yours to turn. If you find one false, say at which input.
  Laid BY PROGRAM, IN A SANDBOX (cutbox-rows.mjs): the forced cells as the released guide's own fill.sh prints them over the translation 2f26db34b8fb44c5… (all of the seat's roots in one cut). By AI agents, Wed Nov 11 2026. No macro, syntax, notation, axiom, sorry.
-/
import Derived.Test.YtiemjcchlfbglaaGreatChecked
import GoSem.Claim
import GoSem.ClaimJoined
import GoSem.ClaimMapViews
import Derived.JoinedTies
import Derived.KernelRfl
namespace Go.Proofs.YtiemjcchlfbglaaGreat
/- THE CELL 'sum', in the pinned program and in every row, IS THE sha256 OF THE DUMP (.gsa) THAT YtiemjcchlfbglaaGreatProg.lean LOADS. Nothing in Lean hashes anything: it is a label: what it is worth is what the hold of that sum in a sandbox is worth. -/
noncomputable def Tryz.pinned : Pinned := { name := "ytiemjcchlfbglaagreat", sum := "2f26db34b8fb44c5a7017fd1941f9e2d03227b4a328059ed318e1fb88f0d326d", checked := Tryz.checked }
namespace Rows
def none {H : Type} : Left H := { results := [], args := [] }

/-- 'plaitinglaw9.SpreadAll': WHATEVER THE INPUT: true; the input reads as it did. -/
def spreadAllSpec : ChangeSpec := { name := "spreadAll", fn := fun _ => fun
  | [d1, d2, d3, d4, d5, d6, d7, d8] => { results := [.lit (.bool true)], args := [d1, d2, d3, d4, d5, d6, d7, d8] }
  | _ => none }
def spreadAllRow : OpenClaim := { program := "ytiemjcchlfbglaagreat", sum := "2f26db34b8fb44c5a7017fd1941f9e2d03227b4a328059ed318e1fb88f0d326d", func := "plaiting/plaitinglaw9.SpreadAll", spec := "spreadAll", inPlace := ["internal/abi.NoEscape"], unfollowed := true, recurses := true, apart := false }
def SpreadAllSaid : Prop := spreadAllRow.holds Tryz.pinned (OpenSpec.ofChange spreadAllSpec)

/-- ITS FALSE NEIGHBOUR: 'it returns false'. Refute it at one input. -/
def spreadAllWrong : ChangeSpec := { name := "spreadAll", fn := fun _ => fun
  | [d1, d2, d3, d4, d5, d6, d7, d8] => { results := [.lit (.bool false)], args := [d1, d2, d3, d4, d5, d6, d7, d8] }
  | _ => none }
def SpreadAllWrongFalsely : Prop := spreadAllRow.holds Tryz.pinned (OpenSpec.ofChange spreadAllWrong)

/-- 'plaitinglaw9.SpreadContained': WHATEVER THE INPUT: true; the input reads as it did. -/
def spreadContainedSpec : ChangeSpec := { name := "spreadContained", fn := fun _ => fun
  | [d1, d2, d3, d4, d5, d6, d7] => { results := [.lit (.bool true)], args := [d1, d2, d3, d4, d5, d6, d7] }
  | _ => none }
def spreadContainedRow : OpenClaim := { program := "ytiemjcchlfbglaagreat", sum := "2f26db34b8fb44c5a7017fd1941f9e2d03227b4a328059ed318e1fb88f0d326d", func := "plaiting/plaitinglaw9.SpreadContained", spec := "spreadContained", inPlace := ["internal/abi.NoEscape"], unfollowed := true, recurses := true, apart := false }
def SpreadContainedSaid : Prop := spreadContainedRow.holds Tryz.pinned (OpenSpec.ofChange spreadContainedSpec)

/-- ITS FALSE NEIGHBOUR: 'it returns false'. Refute it at one input. -/
def spreadContainedWrong : ChangeSpec := { name := "spreadContained", fn := fun _ => fun
  | [d1, d2, d3, d4, d5, d6, d7] => { results := [.lit (.bool false)], args := [d1, d2, d3, d4, d5, d6, d7] }
  | _ => none }
def SpreadContainedWrongFalsely : Prop := spreadContainedRow.holds Tryz.pinned (OpenSpec.ofChange spreadContainedWrong)

/-- 'plaitinglaw9.SpreadPairs': WHATEVER THE INPUT: true; the input reads as it did. -/
def spreadPairsSpec : ChangeSpec := { name := "spreadPairs", fn := fun _ => fun
  | [d1, d2, d3, d4, d5, d6, d7] => { results := [.lit (.bool true)], args := [d1, d2, d3, d4, d5, d6, d7] }
  | _ => none }
def spreadPairsRow : OpenClaim := { program := "ytiemjcchlfbglaagreat", sum := "2f26db34b8fb44c5a7017fd1941f9e2d03227b4a328059ed318e1fb88f0d326d", func := "plaiting/plaitinglaw9.SpreadPairs", spec := "spreadPairs", inPlace := ["internal/abi.NoEscape"], unfollowed := true, recurses := true, apart := false }
def SpreadPairsSaid : Prop := spreadPairsRow.holds Tryz.pinned (OpenSpec.ofChange spreadPairsSpec)

/-- ITS FALSE NEIGHBOUR: 'it returns false'. Refute it at one input. -/
def spreadPairsWrong : ChangeSpec := { name := "spreadPairs", fn := fun _ => fun
  | [d1, d2, d3, d4, d5, d6, d7] => { results := [.lit (.bool false)], args := [d1, d2, d3, d4, d5, d6, d7] }
  | _ => none }
def SpreadPairsWrongFalsely : Prop := spreadPairsRow.holds Tryz.pinned (OpenSpec.ofChange spreadPairsWrong)

/-- 'plaitinglaw9.SpreadCalm': WHATEVER THE INPUT: true; the input reads as it did. -/
def spreadCalmSpec : ChangeSpec := { name := "spreadCalm", fn := fun _ => fun
  | [d1, d2, d3, d4, d5] => { results := [.lit (.bool true)], args := [d1, d2, d3, d4, d5] }
  | _ => none }
def spreadCalmRow : OpenClaim := { program := "ytiemjcchlfbglaagreat", sum := "2f26db34b8fb44c5a7017fd1941f9e2d03227b4a328059ed318e1fb88f0d326d", func := "plaiting/plaitinglaw9.SpreadCalm", spec := "spreadCalm", inPlace := ["internal/abi.NoEscape"], unfollowed := true, recurses := true, apart := false }
def SpreadCalmSaid : Prop := spreadCalmRow.holds Tryz.pinned (OpenSpec.ofChange spreadCalmSpec)

/-- ITS FALSE NEIGHBOUR: 'it returns false'. Refute it at one input. -/
def spreadCalmWrong : ChangeSpec := { name := "spreadCalm", fn := fun _ => fun
  | [d1, d2, d3, d4, d5] => { results := [.lit (.bool false)], args := [d1, d2, d3, d4, d5] }
  | _ => none }
def SpreadCalmWrongFalsely : Prop := spreadCalmRow.holds Tryz.pinned (OpenSpec.ofChange spreadCalmWrong)

/- THE SECOND FORM. 'bulk': how many values and letters a reading holds, each counted each time it is reached (what is shared counts as often as it is met; a slice's spare places count too). A statement '..UptoSaid' is the law's where the arguments, and the package variables that the reading takes, are together of bulk at most 1048576: NARROWER than '..Said'. Prove '..Said' where nothing that the law and all that it calls make is longer than what came in: it says more and counts as full. Else prove '..UptoSaid'. A law counts once. -/
mutual
def uptoBulk {H : Type} : DataW H → Nat
  | .lit (.string bytes) => bytes.length + 1
  | .lit _ => 1
  | .nil => 1
  | .ptr d => uptoBulk d + 1
  | .slice elems spare => uptoBulkAll elems + uptoBulkAll spare + 1
  | .agg parts => uptoBulkAll parts + 1
  | .iface _ d => uptoBulk d + 1
  | .map entries => uptoBulkEntries entries + 1
  | .held _ => 1
def uptoBulkAll {H : Type} : List (DataW H) → Nat
  | [] => 0
  | d :: r => uptoBulk d + uptoBulkAll r
def uptoBulkEntries {H : Type} : List (Lit × DataW H) → Nat
  | [] => 0
  | x :: r => uptoBulkEntry x + uptoBulkEntries r
def uptoBulkEntry {H : Type} : Lit × DataW H → Nat
  | (.string bytes, d) => bytes.length + uptoBulk d + 1
  | (_, d) => uptoBulk d + 1
 end
def uptoSmall : (H : Type) → List (DataW H) → Bool := fun _ ds => decide (uptoBulkAll ds ≤ 1048576)
def OpenSpec.upto (s : _root_.Go.ChangeSpec) : _root_.Go.OpenSpec := { _root_.Go.OpenSpec.ofChange s with cond := some uptoSmall }

/-- 'plaitinglaw9.SpreadAll', WHERE WHAT IT READS IS OF BULK AT MOST 1048576: true; the input reads as it did. -/
def spreadAllUptoRow : OpenClaim := { program := "ytiemjcchlfbglaagreat", sum := "2f26db34b8fb44c5a7017fd1941f9e2d03227b4a328059ed318e1fb88f0d326d", func := "plaiting/plaitinglaw9.SpreadAll", spec := "spreadAll", inPlace := ["internal/abi.NoEscape"], unfollowed := true, recurses := true, apart := false, narrowed := true }
def SpreadAllUptoSaid : Prop := spreadAllUptoRow.holds Tryz.pinned (OpenSpec.upto spreadAllSpec)

/-- 'plaitinglaw9.SpreadContained', WHERE WHAT IT READS IS OF BULK AT MOST 1048576: true; the input reads as it did. -/
def spreadContainedUptoRow : OpenClaim := { program := "ytiemjcchlfbglaagreat", sum := "2f26db34b8fb44c5a7017fd1941f9e2d03227b4a328059ed318e1fb88f0d326d", func := "plaiting/plaitinglaw9.SpreadContained", spec := "spreadContained", inPlace := ["internal/abi.NoEscape"], unfollowed := true, recurses := true, apart := false, narrowed := true }
def SpreadContainedUptoSaid : Prop := spreadContainedUptoRow.holds Tryz.pinned (OpenSpec.upto spreadContainedSpec)

/-- 'plaitinglaw9.SpreadPairs', WHERE WHAT IT READS IS OF BULK AT MOST 1048576: true; the input reads as it did. -/
def spreadPairsUptoRow : OpenClaim := { program := "ytiemjcchlfbglaagreat", sum := "2f26db34b8fb44c5a7017fd1941f9e2d03227b4a328059ed318e1fb88f0d326d", func := "plaiting/plaitinglaw9.SpreadPairs", spec := "spreadPairs", inPlace := ["internal/abi.NoEscape"], unfollowed := true, recurses := true, apart := false, narrowed := true }
def SpreadPairsUptoSaid : Prop := spreadPairsUptoRow.holds Tryz.pinned (OpenSpec.upto spreadPairsSpec)

/-- 'plaitinglaw9.SpreadCalm', WHERE WHAT IT READS IS OF BULK AT MOST 1048576: true; the input reads as it did. -/
def spreadCalmUptoRow : OpenClaim := { program := "ytiemjcchlfbglaagreat", sum := "2f26db34b8fb44c5a7017fd1941f9e2d03227b4a328059ed318e1fb88f0d326d", func := "plaiting/plaitinglaw9.SpreadCalm", spec := "spreadCalm", inPlace := ["internal/abi.NoEscape"], unfollowed := true, recurses := true, apart := false, narrowed := true }
def SpreadCalmUptoSaid : Prop := spreadCalmUptoRow.holds Tryz.pinned (OpenSpec.upto spreadCalmSpec)

end Rows
end Go.Proofs.YtiemjcchlfbglaaGreat
