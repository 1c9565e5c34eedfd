/-
  No cell of these rows narrows 'for every input' (looked for: loops, veiled, ifaces, maps, wideKeys, modest, calm, conditions, laid).
  DERIVED. THE GIVEN ROWS OF THIS SEAT. 8 by the template 'for every input the law returns true; each argument reads behind the call as it read before'; 0 by the template 'total and deterministic' (their statements: YtiemjcchlfbglaaTotals.lean).
  GIVEN WITH THE SEED: the statements are not yours to turn. If you find one false, say at which input.
  Laid BY PROGRAM, IN A SANDBOX (cutbox-rows.mjs): the forced cells as the released guide's own fill.sh prints them over the translation e86c626107701af5… (all of the seat's roots in one cut). By AI agents, Wed Nov 11 2026. No macro, syntax, notation, axiom, sorry.
-/
import Derived.Test.YtiemjcchlfbglaaChecked
import GoSem.Claim
import GoSem.ClaimJoined
import GoSem.ClaimMapViews
import Derived.JoinedTies
import Derived.KernelRfl
namespace Go.Proofs.Ytiemjcchlfbglaa
/- THE CELL 'sum', in the pinned program and in every row, IS THE sha256 OF THE DUMP (.gsa) THAT YtiemjcchlfbglaaProg.lean LOADS. Nothing in Lean hashes anything: it is a label: what it is worth is what the hold of that sum in a sandbox is worth. -/
noncomputable def Try.pinned : Pinned := { name := "ytiemjcchlfbglaa", sum := "e86c626107701af5a9e615d042d4766842eceb46fa81af89425b0237a126b244", checked := Try.checked }
namespace Rows
def none {H : Type} : Left H := { results := [], args := [] }

/-- 'plaitinglaw9.SpreadReaches': WHATEVER THE INPUT: true; the input reads as it did. -/
def spreadReachesSpec : ChangeSpec := { name := "spreadReaches", fn := fun _ => fun
  | [d1, d2, d3, d4, d5, d6] => { results := [.lit (.bool true)], args := [d1, d2, d3, d4, d5, d6] }
  | _ => none }
def spreadReachesRow : OpenClaim := { program := "ytiemjcchlfbglaa", sum := "e86c626107701af5a9e615d042d4766842eceb46fa81af89425b0237a126b244", func := "plaiting/plaitinglaw9.SpreadReaches", spec := "spreadReaches", inPlace := ["internal/abi.NoEscape"], unfollowed := true, recurses := true, apart := false }
def SpreadReachesSaid : Prop := spreadReachesRow.holds Try.pinned (OpenSpec.ofChange spreadReachesSpec)

/-- ITS FALSE NEIGHBOUR: 'it returns false'. Refute it at one input. -/
def spreadReachesWrong : ChangeSpec := { name := "spreadReaches", fn := fun _ => fun
  | [d1, d2, d3, d4, d5, d6] => { results := [.lit (.bool false)], args := [d1, d2, d3, d4, d5, d6] }
  | _ => none }
def SpreadReachesWrongFalsely : Prop := spreadReachesRow.holds Try.pinned (OpenSpec.ofChange spreadReachesWrong)

/-- 'plaitinglaw9.SpreadCut': WHATEVER THE INPUT: true; the input reads as it did. -/
def spreadCutSpec : ChangeSpec := { name := "spreadCut", fn := fun _ => fun
  | [d1, d2, d3, d4, d5, d6] => { results := [.lit (.bool true)], args := [d1, d2, d3, d4, d5, d6] }
  | _ => none }
def spreadCutRow : OpenClaim := { program := "ytiemjcchlfbglaa", sum := "e86c626107701af5a9e615d042d4766842eceb46fa81af89425b0237a126b244", func := "plaiting/plaitinglaw9.SpreadCut", spec := "spreadCut", inPlace := ["internal/abi.NoEscape"], unfollowed := true, recurses := true, apart := false }
def SpreadCutSaid : Prop := spreadCutRow.holds Try.pinned (OpenSpec.ofChange spreadCutSpec)

/-- ITS FALSE NEIGHBOUR: 'it returns false'. Refute it at one input. -/
def spreadCutWrong : ChangeSpec := { name := "spreadCut", fn := fun _ => fun
  | [d1, d2, d3, d4, d5, d6] => { results := [.lit (.bool false)], args := [d1, d2, d3, d4, d5, d6] }
  | _ => none }
def SpreadCutWrongFalsely : Prop := spreadCutRow.holds Try.pinned (OpenSpec.ofChange spreadCutWrong)

/-- 'plaitinglaw9.SpreadLink': WHATEVER THE INPUT: true; the input reads as it did. -/
def spreadLinkSpec : ChangeSpec := { name := "spreadLink", fn := fun _ => fun
  | [d1, d2, d3, d4, d5] => { results := [.lit (.bool true)], args := [d1, d2, d3, d4, d5] }
  | _ => none }
def spreadLinkRow : OpenClaim := { program := "ytiemjcchlfbglaa", sum := "e86c626107701af5a9e615d042d4766842eceb46fa81af89425b0237a126b244", func := "plaiting/plaitinglaw9.SpreadLink", spec := "spreadLink", inPlace := ["internal/abi.NoEscape"], unfollowed := true, recurses := true, apart := false }
def SpreadLinkSaid : Prop := spreadLinkRow.holds Try.pinned (OpenSpec.ofChange spreadLinkSpec)

/-- ITS FALSE NEIGHBOUR: 'it returns false'. Refute it at one input. -/
def spreadLinkWrong : ChangeSpec := { name := "spreadLink", fn := fun _ => fun
  | [d1, d2, d3, d4, d5] => { results := [.lit (.bool false)], args := [d1, d2, d3, d4, d5] }
  | _ => none }
def SpreadLinkWrongFalsely : Prop := spreadLinkRow.holds Try.pinned (OpenSpec.ofChange spreadLinkWrong)

/-- 'plaitinglaw9.SpreadOff': WHATEVER THE INPUT: true; the input reads as it did. -/
def spreadOffSpec : ChangeSpec := { name := "spreadOff", fn := fun _ => fun
  | [d1, d2, d3, d4, d5, d6] => { results := [.lit (.bool true)], args := [d1, d2, d3, d4, d5, d6] }
  | _ => none }
def spreadOffRow : OpenClaim := { program := "ytiemjcchlfbglaa", sum := "e86c626107701af5a9e615d042d4766842eceb46fa81af89425b0237a126b244", func := "plaiting/plaitinglaw9.SpreadOff", spec := "spreadOff", inPlace := ["internal/abi.NoEscape"], unfollowed := true, recurses := true, apart := false }
def SpreadOffSaid : Prop := spreadOffRow.holds Try.pinned (OpenSpec.ofChange spreadOffSpec)

/-- ITS FALSE NEIGHBOUR: 'it returns false'. Refute it at one input. -/
def spreadOffWrong : ChangeSpec := { name := "spreadOff", fn := fun _ => fun
  | [d1, d2, d3, d4, d5, d6] => { results := [.lit (.bool false)], args := [d1, d2, d3, d4, d5, d6] }
  | _ => none }
def SpreadOffWrongFalsely : Prop := spreadOffRow.holds Try.pinned (OpenSpec.ofChange spreadOffWrong)

/-- 'plaitinglaw9.SpreadGuard': WHATEVER THE INPUT: true; the input reads as it did. -/
def spreadGuardSpec : ChangeSpec := { name := "spreadGuard", fn := fun _ => fun
  | [d1, d2, d3, d4, d5, d6, d7, d8] => { results := [.lit (.bool true)], args := [d1, d2, d3, d4, d5, d6, d7, d8] }
  | _ => none }
def spreadGuardRow : OpenClaim := { program := "ytiemjcchlfbglaa", sum := "e86c626107701af5a9e615d042d4766842eceb46fa81af89425b0237a126b244", func := "plaiting/plaitinglaw9.SpreadGuard", spec := "spreadGuard", inPlace := ["internal/abi.NoEscape"], unfollowed := true, recurses := true, apart := false }
def SpreadGuardSaid : Prop := spreadGuardRow.holds Try.pinned (OpenSpec.ofChange spreadGuardSpec)

/-- ITS FALSE NEIGHBOUR: 'it returns false'. Refute it at one input. -/
def spreadGuardWrong : ChangeSpec := { name := "spreadGuard", fn := fun _ => fun
  | [d1, d2, d3, d4, d5, d6, d7, d8] => { results := [.lit (.bool false)], args := [d1, d2, d3, d4, d5, d6, d7, d8] }
  | _ => none }
def SpreadGuardWrongFalsely : Prop := spreadGuardRow.holds Try.pinned (OpenSpec.ofChange spreadGuardWrong)

/-- 'plaitinglaw9.SpreadBabble': WHATEVER THE INPUT: true; the input reads as it did. -/
def spreadBabbleSpec : ChangeSpec := { name := "spreadBabble", fn := fun _ => fun
  | [d1, d2, d3, d4, d5, d6] => { results := [.lit (.bool true)], args := [d1, d2, d3, d4, d5, d6] }
  | _ => none }
def spreadBabbleRow : OpenClaim := { program := "ytiemjcchlfbglaa", sum := "e86c626107701af5a9e615d042d4766842eceb46fa81af89425b0237a126b244", func := "plaiting/plaitinglaw9.SpreadBabble", spec := "spreadBabble", inPlace := ["internal/abi.NoEscape"], unfollowed := true, recurses := true, apart := false }
def SpreadBabbleSaid : Prop := spreadBabbleRow.holds Try.pinned (OpenSpec.ofChange spreadBabbleSpec)

/-- ITS FALSE NEIGHBOUR: 'it returns false'. Refute it at one input. -/
def spreadBabbleWrong : ChangeSpec := { name := "spreadBabble", fn := fun _ => fun
  | [d1, d2, d3, d4, d5, d6] => { results := [.lit (.bool false)], args := [d1, d2, d3, d4, d5, d6] }
  | _ => none }
def SpreadBabbleWrongFalsely : Prop := spreadBabbleRow.holds Try.pinned (OpenSpec.ofChange spreadBabbleWrong)

/-- 'plaitinglaw9.SpreadOwner': WHATEVER THE INPUT: true; the input reads as it did. -/
def spreadOwnerSpec : ChangeSpec := { name := "spreadOwner", fn := fun _ => fun
  | [d1, d2, d3, d4, d5, d6, d7] => { results := [.lit (.bool true)], args := [d1, d2, d3, d4, d5, d6, d7] }
  | _ => none }
def spreadOwnerRow : OpenClaim := { program := "ytiemjcchlfbglaa", sum := "e86c626107701af5a9e615d042d4766842eceb46fa81af89425b0237a126b244", func := "plaiting/plaitinglaw9.SpreadOwner", spec := "spreadOwner", inPlace := ["internal/abi.NoEscape"], unfollowed := true, recurses := true, apart := false }
def SpreadOwnerSaid : Prop := spreadOwnerRow.holds Try.pinned (OpenSpec.ofChange spreadOwnerSpec)

/-- ITS FALSE NEIGHBOUR: 'it returns false'. Refute it at one input. -/
def spreadOwnerWrong : ChangeSpec := { name := "spreadOwner", fn := fun _ => fun
  | [d1, d2, d3, d4, d5, d6, d7] => { results := [.lit (.bool false)], args := [d1, d2, d3, d4, d5, d6, d7] }
  | _ => none }
def SpreadOwnerWrongFalsely : Prop := spreadOwnerRow.holds Try.pinned (OpenSpec.ofChange spreadOwnerWrong)

/-- 'plaitinglaw9.SpreadMirror': WHATEVER THE INPUT: true; the input reads as it did. -/
def spreadMirrorSpec : ChangeSpec := { name := "spreadMirror", fn := fun _ => fun
  | [d1, d2, d3, d4, d5, d6, d7] => { results := [.lit (.bool true)], args := [d1, d2, d3, d4, d5, d6, d7] }
  | _ => none }
def spreadMirrorRow : OpenClaim := { program := "ytiemjcchlfbglaa", sum := "e86c626107701af5a9e615d042d4766842eceb46fa81af89425b0237a126b244", func := "plaiting/plaitinglaw9.SpreadMirror", spec := "spreadMirror", inPlace := ["internal/abi.NoEscape"], unfollowed := true, recurses := true, apart := false }
def SpreadMirrorSaid : Prop := spreadMirrorRow.holds Try.pinned (OpenSpec.ofChange spreadMirrorSpec)

/-- ITS FALSE NEIGHBOUR: 'it returns false'. Refute it at one input. -/
def spreadMirrorWrong : ChangeSpec := { name := "spreadMirror", fn := fun _ => fun
  | [d1, d2, d3, d4, d5, d6, d7] => { results := [.lit (.bool false)], args := [d1, d2, d3, d4, d5, d6, d7] }
  | _ => none }
def SpreadMirrorWrongFalsely : Prop := spreadMirrorRow.holds Try.pinned (OpenSpec.ofChange spreadMirrorWrong)

/- THE SECOND FORM. 'bulk': how many values and letters a reading holds, each counted each time it is reached (what is shared counts as often as it is met; a slice's spare places count too). A statement '..UptoSaid' is the law's where the arguments, and the package variables that the reading takes, are together of bulk at most 1048576: NARROWER than '..Said'. Prove '..Said' where nothing that the law and all that it calls make is longer than what came in: it says more and counts as full. Else prove '..UptoSaid'. A law counts once. -/
mutual
def uptoBulk {H : Type} : DataW H → Nat
  | .lit (.string bytes) => bytes.length + 1
  | .lit _ => 1
  | .nil => 1
  | .ptr d => uptoBulk d + 1
  | .slice elems spare => uptoBulkAll elems + uptoBulkAll spare + 1
  | .agg parts => uptoBulkAll parts + 1
  | .iface _ d => uptoBulk d + 1
  | .map entries => uptoBulkEntries entries + 1
  | .held _ => 1
def uptoBulkAll {H : Type} : List (DataW H) → Nat
  | [] => 0
  | d :: r => uptoBulk d + uptoBulkAll r
def uptoBulkEntries {H : Type} : List (Lit × DataW H) → Nat
  | [] => 0
  | x :: r => uptoBulkEntry x + uptoBulkEntries r
def uptoBulkEntry {H : Type} : Lit × DataW H → Nat
  | (.string bytes, d) => bytes.length + uptoBulk d + 1
  | (_, d) => uptoBulk d + 1
 end
def uptoSmall : (H : Type) → List (DataW H) → Bool := fun _ ds => decide (uptoBulkAll ds ≤ 1048576)
def OpenSpec.upto (s : _root_.Go.ChangeSpec) : _root_.Go.OpenSpec := { _root_.Go.OpenSpec.ofChange s with cond := some uptoSmall }

/-- 'plaitinglaw9.SpreadReaches', WHERE WHAT IT READS IS OF BULK AT MOST 1048576: true; the input reads as it did. -/
def spreadReachesUptoRow : OpenClaim := { program := "ytiemjcchlfbglaa", sum := "e86c626107701af5a9e615d042d4766842eceb46fa81af89425b0237a126b244", func := "plaiting/plaitinglaw9.SpreadReaches", spec := "spreadReaches", inPlace := ["internal/abi.NoEscape"], unfollowed := true, recurses := true, apart := false, narrowed := true }
def SpreadReachesUptoSaid : Prop := spreadReachesUptoRow.holds Try.pinned (OpenSpec.upto spreadReachesSpec)

/-- 'plaitinglaw9.SpreadCut', WHERE WHAT IT READS IS OF BULK AT MOST 1048576: true; the input reads as it did. -/
def spreadCutUptoRow : OpenClaim := { program := "ytiemjcchlfbglaa", sum := "e86c626107701af5a9e615d042d4766842eceb46fa81af89425b0237a126b244", func := "plaiting/plaitinglaw9.SpreadCut", spec := "spreadCut", inPlace := ["internal/abi.NoEscape"], unfollowed := true, recurses := true, apart := false, narrowed := true }
def SpreadCutUptoSaid : Prop := spreadCutUptoRow.holds Try.pinned (OpenSpec.upto spreadCutSpec)

/-- 'plaitinglaw9.SpreadLink', WHERE WHAT IT READS IS OF BULK AT MOST 1048576: true; the input reads as it did. -/
def spreadLinkUptoRow : OpenClaim := { program := "ytiemjcchlfbglaa", sum := "e86c626107701af5a9e615d042d4766842eceb46fa81af89425b0237a126b244", func := "plaiting/plaitinglaw9.SpreadLink", spec := "spreadLink", inPlace := ["internal/abi.NoEscape"], unfollowed := true, recurses := true, apart := false, narrowed := true }
def SpreadLinkUptoSaid : Prop := spreadLinkUptoRow.holds Try.pinned (OpenSpec.upto spreadLinkSpec)

/-- 'plaitinglaw9.SpreadOff', WHERE WHAT IT READS IS OF BULK AT MOST 1048576: true; the input reads as it did. -/
def spreadOffUptoRow : OpenClaim := { program := "ytiemjcchlfbglaa", sum := "e86c626107701af5a9e615d042d4766842eceb46fa81af89425b0237a126b244", func := "plaiting/plaitinglaw9.SpreadOff", spec := "spreadOff", inPlace := ["internal/abi.NoEscape"], unfollowed := true, recurses := true, apart := false, narrowed := true }
def SpreadOffUptoSaid : Prop := spreadOffUptoRow.holds Try.pinned (OpenSpec.upto spreadOffSpec)

/-- 'plaitinglaw9.SpreadGuard', WHERE WHAT IT READS IS OF BULK AT MOST 1048576: true; the input reads as it did. -/
def spreadGuardUptoRow : OpenClaim := { program := "ytiemjcchlfbglaa", sum := "e86c626107701af5a9e615d042d4766842eceb46fa81af89425b0237a126b244", func := "plaiting/plaitinglaw9.SpreadGuard", spec := "spreadGuard", inPlace := ["internal/abi.NoEscape"], unfollowed := true, recurses := true, apart := false, narrowed := true }
def SpreadGuardUptoSaid : Prop := spreadGuardUptoRow.holds Try.pinned (OpenSpec.upto spreadGuardSpec)

/-- 'plaitinglaw9.SpreadBabble', WHERE WHAT IT READS IS OF BULK AT MOST 1048576: true; the input reads as it did. -/
def spreadBabbleUptoRow : OpenClaim := { program := "ytiemjcchlfbglaa", sum := "e86c626107701af5a9e615d042d4766842eceb46fa81af89425b0237a126b244", func := "plaiting/plaitinglaw9.SpreadBabble", spec := "spreadBabble", inPlace := ["internal/abi.NoEscape"], unfollowed := true, recurses := true, apart := false, narrowed := true }
def SpreadBabbleUptoSaid : Prop := spreadBabbleUptoRow.holds Try.pinned (OpenSpec.upto spreadBabbleSpec)

/-- 'plaitinglaw9.SpreadOwner', WHERE WHAT IT READS IS OF BULK AT MOST 1048576: true; the input reads as it did. -/
def spreadOwnerUptoRow : OpenClaim := { program := "ytiemjcchlfbglaa", sum := "e86c626107701af5a9e615d042d4766842eceb46fa81af89425b0237a126b244", func := "plaiting/plaitinglaw9.SpreadOwner", spec := "spreadOwner", inPlace := ["internal/abi.NoEscape"], unfollowed := true, recurses := true, apart := false, narrowed := true }
def SpreadOwnerUptoSaid : Prop := spreadOwnerUptoRow.holds Try.pinned (OpenSpec.upto spreadOwnerSpec)

/-- 'plaitinglaw9.SpreadMirror', WHERE WHAT IT READS IS OF BULK AT MOST 1048576: true; the input reads as it did. -/
def spreadMirrorUptoRow : OpenClaim := { program := "ytiemjcchlfbglaa", sum := "e86c626107701af5a9e615d042d4766842eceb46fa81af89425b0237a126b244", func := "plaiting/plaitinglaw9.SpreadMirror", spec := "spreadMirror", inPlace := ["internal/abi.NoEscape"], unfollowed := true, recurses := true, apart := false, narrowed := true }
def SpreadMirrorUptoSaid : Prop := spreadMirrorUptoRow.holds Try.pinned (OpenSpec.upto spreadMirrorSpec)

end Rows
end Go.Proofs.Ytiemjcchlfbglaa
