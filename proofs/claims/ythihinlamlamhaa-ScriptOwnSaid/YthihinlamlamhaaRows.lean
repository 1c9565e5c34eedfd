/-
  No cell of these rows narrows 'for every input' (looked for: loops, veiled, ifaces, maps, wideKeys, modest, calm, conditions, laid).
  DERIVED. THE GIVEN ROWS OF THIS SEAT. 6 by the template 'for every input the law returns true; each argument reads behind the call as it read before'; 0 by the template 'total and deterministic' (their statements: YthihinlamlamhaaTotals.lean).
  GIVEN WITH THE SEED: the statements are not yours to turn. If you find one false, say at which input.
  Laid BY PROGRAM, IN A SANDBOX (cutbox-rows.mjs): the forced cells as the released guide's own fill.sh prints them over the translation e11c1bf09f25988b… (all of the seat's roots in one cut). By AI agents, Wed Nov 11 2026. No macro, syntax, notation, axiom, sorry.
-/
import Derived.Test.YthihinlamlamhaaChecked
import GoSem.Claim
import GoSem.ClaimJoined
import GoSem.ClaimMapViews
import Derived.JoinedTies
import Derived.KernelRfl
namespace Go.Proofs.Ythihinlamlamhaa
/- THE CELL 'sum', in the pinned program and in every row, IS THE sha256 OF THE DUMP (.gsa) THAT YthihinlamlamhaaProg.lean LOADS. Nothing in Lean hashes anything: it is a label: what it is worth is what the hold of that sum in a sandbox is worth. -/
noncomputable def Try.pinned : Pinned := { name := "ythihinlamlamhaa", sum := "e11c1bf09f25988b77cc3814ef31591b836fa8882919bc523218ebcb7967cc6f", checked := Try.checked }
namespace Rows
def none {H : Type} : Left H := { results := [], args := [] }

/-- 'plaitinglaw16.ScriptOf': WHATEVER THE INPUT: true; the input reads as it did. -/
def scriptOfSpec : ChangeSpec := { name := "scriptOf", fn := fun _ => fun
  | [d1, d2] => { results := [.lit (.bool true)], args := [d1, d2] }
  | _ => none }
def scriptOfRow : OpenClaim := { program := "ythihinlamlamhaa", sum := "e11c1bf09f25988b77cc3814ef31591b836fa8882919bc523218ebcb7967cc6f", func := "plaiting/plaitinglaw16.ScriptOf", spec := "scriptOf", unfollowed := true, recurses := true, apart := false }
def ScriptOfSaid : Prop := scriptOfRow.holds Try.pinned (OpenSpec.ofChange scriptOfSpec)

/-- ITS FALSE NEIGHBOUR: 'it returns false'. Refute it at one input. -/
def scriptOfWrong : ChangeSpec := { name := "scriptOf", fn := fun _ => fun
  | [d1, d2] => { results := [.lit (.bool false)], args := [d1, d2] }
  | _ => none }
def ScriptOfWrongFalsely : Prop := scriptOfRow.holds Try.pinned (OpenSpec.ofChange scriptOfWrong)

/-- 'plaitinglaw16.ScriptChecks': WHATEVER THE INPUT: true; the input reads as it did. -/
def scriptChecksSpec : ChangeSpec := { name := "scriptChecks", fn := fun _ => fun
  | [d1, d2, d3, d4, d5] => { results := [.lit (.bool true)], args := [d1, d2, d3, d4, d5] }
  | _ => none }
def scriptChecksRow : OpenClaim := { program := "ythihinlamlamhaa", sum := "e11c1bf09f25988b77cc3814ef31591b836fa8882919bc523218ebcb7967cc6f", func := "plaiting/plaitinglaw16.ScriptChecks", spec := "scriptChecks", unfollowed := true, recurses := true, apart := false }
def ScriptChecksSaid : Prop := scriptChecksRow.holds Try.pinned (OpenSpec.ofChange scriptChecksSpec)

/-- ITS FALSE NEIGHBOUR: 'it returns false'. Refute it at one input. -/
def scriptChecksWrong : ChangeSpec := { name := "scriptChecks", fn := fun _ => fun
  | [d1, d2, d3, d4, d5] => { results := [.lit (.bool false)], args := [d1, d2, d3, d4, d5] }
  | _ => none }
def ScriptChecksWrongFalsely : Prop := scriptChecksRow.holds Try.pinned (OpenSpec.ofChange scriptChecksWrong)

/-- 'plaitinglaw16.ScriptFronts': WHATEVER THE INPUT: true; the input reads as it did. -/
def scriptFrontsSpec : ChangeSpec := { name := "scriptFronts", fn := fun _ => fun
  | [d1, d2, d3, d4] => { results := [.lit (.bool true)], args := [d1, d2, d3, d4] }
  | _ => none }
def scriptFrontsRow : OpenClaim := { program := "ythihinlamlamhaa", sum := "e11c1bf09f25988b77cc3814ef31591b836fa8882919bc523218ebcb7967cc6f", func := "plaiting/plaitinglaw16.ScriptFronts", spec := "scriptFronts", unfollowed := true, recurses := true, apart := false }
def ScriptFrontsSaid : Prop := scriptFrontsRow.holds Try.pinned (OpenSpec.ofChange scriptFrontsSpec)

/-- ITS FALSE NEIGHBOUR: 'it returns false'. Refute it at one input. -/
def scriptFrontsWrong : ChangeSpec := { name := "scriptFronts", fn := fun _ => fun
  | [d1, d2, d3, d4] => { results := [.lit (.bool false)], args := [d1, d2, d3, d4] }
  | _ => none }
def ScriptFrontsWrongFalsely : Prop := scriptFrontsRow.holds Try.pinned (OpenSpec.ofChange scriptFrontsWrong)

/-- 'plaitinglaw16.ScriptKnown': WHATEVER THE INPUT: true; the input reads as it did. -/
def scriptKnownSpec : ChangeSpec := { name := "scriptKnown", fn := fun _ => fun
  | [d] => { results := [.lit (.bool true)], args := [d] }
  | _ => none }
def scriptKnownRow : OpenClaim := { program := "ythihinlamlamhaa", sum := "e11c1bf09f25988b77cc3814ef31591b836fa8882919bc523218ebcb7967cc6f", func := "plaiting/plaitinglaw16.ScriptKnown", spec := "scriptKnown", unfollowed := true, recurses := true, apart := false }
def ScriptKnownSaid : Prop := scriptKnownRow.holds Try.pinned (OpenSpec.ofChange scriptKnownSpec)

/-- ITS FALSE NEIGHBOUR: 'it returns false'. Refute it at one input. -/
def scriptKnownWrong : ChangeSpec := { name := "scriptKnown", fn := fun _ => fun
  | [d] => { results := [.lit (.bool false)], args := [d] }
  | _ => none }
def ScriptKnownWrongFalsely : Prop := scriptKnownRow.holds Try.pinned (OpenSpec.ofChange scriptKnownWrong)

/-- 'plaitinglaw16.ScriptBounds': WHATEVER THE INPUT: true; the input reads as it did. -/
def scriptBoundsSpec : ChangeSpec := { name := "scriptBounds", fn := fun _ => fun
  | [d1, d2] => { results := [.lit (.bool true)], args := [d1, d2] }
  | _ => none }
def scriptBoundsRow : OpenClaim := { program := "ythihinlamlamhaa", sum := "e11c1bf09f25988b77cc3814ef31591b836fa8882919bc523218ebcb7967cc6f", func := "plaiting/plaitinglaw16.ScriptBounds", spec := "scriptBounds", unfollowed := true, recurses := true, apart := false }
def ScriptBoundsSaid : Prop := scriptBoundsRow.holds Try.pinned (OpenSpec.ofChange scriptBoundsSpec)

/-- ITS FALSE NEIGHBOUR: 'it returns false'. Refute it at one input. -/
def scriptBoundsWrong : ChangeSpec := { name := "scriptBounds", fn := fun _ => fun
  | [d1, d2] => { results := [.lit (.bool false)], args := [d1, d2] }
  | _ => none }
def ScriptBoundsWrongFalsely : Prop := scriptBoundsRow.holds Try.pinned (OpenSpec.ofChange scriptBoundsWrong)

/-- 'plaitinglaw16.ScriptOwn': WHATEVER THE INPUT: true; the input reads as it did. -/
def scriptOwnSpec : ChangeSpec := { name := "scriptOwn", fn := fun _ => fun
  | [d1, d2, d3] => { results := [.lit (.bool true)], args := [d1, d2, d3] }
  | _ => none }
def scriptOwnRow : OpenClaim := { program := "ythihinlamlamhaa", sum := "e11c1bf09f25988b77cc3814ef31591b836fa8882919bc523218ebcb7967cc6f", func := "plaiting/plaitinglaw16.ScriptOwn", spec := "scriptOwn", unfollowed := true, recurses := true, apart := false }
def ScriptOwnSaid : Prop := scriptOwnRow.holds Try.pinned (OpenSpec.ofChange scriptOwnSpec)

/-- ITS FALSE NEIGHBOUR: 'it returns false'. Refute it at one input. -/
def scriptOwnWrong : ChangeSpec := { name := "scriptOwn", fn := fun _ => fun
  | [d1, d2, d3] => { results := [.lit (.bool false)], args := [d1, d2, d3] }
  | _ => none }
def ScriptOwnWrongFalsely : Prop := scriptOwnRow.holds Try.pinned (OpenSpec.ofChange scriptOwnWrong)

/- THE SECOND FORM. 'bulk': how many values and letters a reading holds, each counted each time it is reached (what is shared counts as often as it is met; a slice's spare places count too). A statement '..UptoSaid' is the law's where the arguments, and the package variables that the reading takes, are together of bulk at most 1048576: NARROWER than '..Said'. Prove '..Said' where nothing that the law and all that it calls make is longer than what came in: it says more and counts as full. Else prove '..UptoSaid'. A law counts once. -/
mutual
def uptoBulk {H : Type} : DataW H → Nat
  | .lit (.string bytes) => bytes.length + 1
  | .lit _ => 1
  | .nil => 1
  | .ptr d => uptoBulk d + 1
  | .slice elems spare => uptoBulkAll elems + uptoBulkAll spare + 1
  | .agg parts => uptoBulkAll parts + 1
  | .iface _ d => uptoBulk d + 1
  | .map entries => uptoBulkEntries entries + 1
  | .held _ => 1
def uptoBulkAll {H : Type} : List (DataW H) → Nat
  | [] => 0
  | d :: r => uptoBulk d + uptoBulkAll r
def uptoBulkEntries {H : Type} : List (Lit × DataW H) → Nat
  | [] => 0
  | x :: r => uptoBulkEntry x + uptoBulkEntries r
def uptoBulkEntry {H : Type} : Lit × DataW H → Nat
  | (.string bytes, d) => bytes.length + uptoBulk d + 1
  | (_, d) => uptoBulk d + 1
 end
def uptoSmall : (H : Type) → List (DataW H) → Bool := fun _ ds => decide (uptoBulkAll ds ≤ 1048576)
def OpenSpec.upto (s : _root_.Go.ChangeSpec) : _root_.Go.OpenSpec := { _root_.Go.OpenSpec.ofChange s with cond := some uptoSmall }

/-- 'plaitinglaw16.ScriptOf', WHERE WHAT IT READS IS OF BULK AT MOST 1048576: true; the input reads as it did. -/
def scriptOfUptoRow : OpenClaim := { program := "ythihinlamlamhaa", sum := "e11c1bf09f25988b77cc3814ef31591b836fa8882919bc523218ebcb7967cc6f", func := "plaiting/plaitinglaw16.ScriptOf", spec := "scriptOf", unfollowed := true, recurses := true, apart := false, narrowed := true }
def ScriptOfUptoSaid : Prop := scriptOfUptoRow.holds Try.pinned (OpenSpec.upto scriptOfSpec)

/-- 'plaitinglaw16.ScriptChecks', WHERE WHAT IT READS IS OF BULK AT MOST 1048576: true; the input reads as it did. -/
def scriptChecksUptoRow : OpenClaim := { program := "ythihinlamlamhaa", sum := "e11c1bf09f25988b77cc3814ef31591b836fa8882919bc523218ebcb7967cc6f", func := "plaiting/plaitinglaw16.ScriptChecks", spec := "scriptChecks", unfollowed := true, recurses := true, apart := false, narrowed := true }
def ScriptChecksUptoSaid : Prop := scriptChecksUptoRow.holds Try.pinned (OpenSpec.upto scriptChecksSpec)

/-- 'plaitinglaw16.ScriptFronts', WHERE WHAT IT READS IS OF BULK AT MOST 1048576: true; the input reads as it did. -/
def scriptFrontsUptoRow : OpenClaim := { program := "ythihinlamlamhaa", sum := "e11c1bf09f25988b77cc3814ef31591b836fa8882919bc523218ebcb7967cc6f", func := "plaiting/plaitinglaw16.ScriptFronts", spec := "scriptFronts", unfollowed := true, recurses := true, apart := false, narrowed := true }
def ScriptFrontsUptoSaid : Prop := scriptFrontsUptoRow.holds Try.pinned (OpenSpec.upto scriptFrontsSpec)

/-- 'plaitinglaw16.ScriptKnown', WHERE WHAT IT READS IS OF BULK AT MOST 1048576: true; the input reads as it did. -/
def scriptKnownUptoRow : OpenClaim := { program := "ythihinlamlamhaa", sum := "e11c1bf09f25988b77cc3814ef31591b836fa8882919bc523218ebcb7967cc6f", func := "plaiting/plaitinglaw16.ScriptKnown", spec := "scriptKnown", unfollowed := true, recurses := true, apart := false, narrowed := true }
def ScriptKnownUptoSaid : Prop := scriptKnownUptoRow.holds Try.pinned (OpenSpec.upto scriptKnownSpec)

/-- 'plaitinglaw16.ScriptBounds', WHERE WHAT IT READS IS OF BULK AT MOST 1048576: true; the input reads as it did. -/
def scriptBoundsUptoRow : OpenClaim := { program := "ythihinlamlamhaa", sum := "e11c1bf09f25988b77cc3814ef31591b836fa8882919bc523218ebcb7967cc6f", func := "plaiting/plaitinglaw16.ScriptBounds", spec := "scriptBounds", unfollowed := true, recurses := true, apart := false, narrowed := true }
def ScriptBoundsUptoSaid : Prop := scriptBoundsUptoRow.holds Try.pinned (OpenSpec.upto scriptBoundsSpec)

/-- 'plaitinglaw16.ScriptOwn', WHERE WHAT IT READS IS OF BULK AT MOST 1048576: true; the input reads as it did. -/
def scriptOwnUptoRow : OpenClaim := { program := "ythihinlamlamhaa", sum := "e11c1bf09f25988b77cc3814ef31591b836fa8882919bc523218ebcb7967cc6f", func := "plaiting/plaitinglaw16.ScriptOwn", spec := "scriptOwn", unfollowed := true, recurses := true, apart := false, narrowed := true }
def ScriptOwnUptoSaid : Prop := scriptOwnUptoRow.holds Try.pinned (OpenSpec.upto scriptOwnSpec)

end Rows
end Go.Proofs.Ythihinlamlamhaa
