/-
  No cell of these rows narrows 'for every input' (looked for: loops, veiled, ifaces, maps, wideKeys, modest, calm, conditions, laid).
  DERIVED. THE GIVEN ROWS OF THIS SEAT. 6 by the template 'for every input the law returns true; each argument reads behind the call as it read before'; 0 by the template 'total and deterministic' (their statements: YtbkfjedecepfoaaTotals.lean).
  GIVEN WITH THE SEED: the statements are not yours to turn. If you find one false, say at which input.
  Laid BY PROGRAM, IN A SANDBOX (cutbox-rows.mjs): the forced cells as the released guide's own fill.sh prints them over the translation 2188ac7f10f9a7d8… (all of the seat's roots in one cut). By AI agents, Wed Nov 11 2026. No macro, syntax, notation, axiom, sorry.
-/
import Derived.Test.YtbkfjedecepfoaaChecked
import GoSem.Claim
import GoSem.ClaimJoined
import GoSem.ClaimMapViews
import Derived.JoinedTies
import Derived.KernelRfl
namespace Go.Proofs.Ytbkfjedecepfoaa
/- THE CELL 'sum', in the pinned program and in every row, IS THE sha256 OF THE DUMP (.gsa) THAT YtbkfjedecepfoaaProg.lean LOADS. Nothing in Lean hashes anything: it is a label: what it is worth is what the hold of that sum in a sandbox is worth. -/
noncomputable def Try.pinned : Pinned := { name := "ytbkfjedecepfoaa", sum := "2188ac7f10f9a7d8f594002e273ac33a138d17dd3c89c8647515a65db34a6989", checked := Try.checked }
namespace Rows
def none {H : Type} : Left H := { results := [], args := [] }

/-- 'roundhouselaw06.CredTells': WHATEVER THE INPUT: true; the input reads as it did. -/
def credTellsSpec : ChangeSpec := { name := "credTells", fn := fun _ => fun
  | [d1, d2] => { results := [.lit (.bool true)], args := [d1, d2] }
  | _ => none }
def credTellsRow : OpenClaim := { program := "ytbkfjedecepfoaa", sum := "2188ac7f10f9a7d8f594002e273ac33a138d17dd3c89c8647515a65db34a6989", func := "roundhouse/roundhouselaw06.CredTells", spec := "credTells", inPlace := ["internal/abi.NoEscape"], unfollowed := true, recurses := true, apart := false }
def CredTellsSaid : Prop := credTellsRow.holds Try.pinned (OpenSpec.ofChange credTellsSpec)

/-- ITS FALSE NEIGHBOUR: 'it returns false'. Refute it at one input. -/
def credTellsWrong : ChangeSpec := { name := "credTells", fn := fun _ => fun
  | [d1, d2] => { results := [.lit (.bool false)], args := [d1, d2] }
  | _ => none }
def CredTellsWrongFalsely : Prop := credTellsRow.holds Try.pinned (OpenSpec.ofChange credTellsWrong)

/-- 'roundhouselaw06.CredSigned': WHATEVER THE INPUT: true; the input reads as it did. -/
def credSignedSpec : ChangeSpec := { name := "credSigned", fn := fun _ => fun
  | [d1, d2, d3] => { results := [.lit (.bool true)], args := [d1, d2, d3] }
  | _ => none }
def credSignedRow : OpenClaim := { program := "ytbkfjedecepfoaa", sum := "2188ac7f10f9a7d8f594002e273ac33a138d17dd3c89c8647515a65db34a6989", func := "roundhouse/roundhouselaw06.CredSigned", spec := "credSigned", inPlace := ["internal/abi.NoEscape"], unfollowed := true, recurses := true, apart := false }
def CredSignedSaid : Prop := credSignedRow.holds Try.pinned (OpenSpec.ofChange credSignedSpec)

/-- ITS FALSE NEIGHBOUR: 'it returns false'. Refute it at one input. -/
def credSignedWrong : ChangeSpec := { name := "credSigned", fn := fun _ => fun
  | [d1, d2, d3] => { results := [.lit (.bool false)], args := [d1, d2, d3] }
  | _ => none }
def CredSignedWrongFalsely : Prop := credSignedRow.holds Try.pinned (OpenSpec.ofChange credSignedWrong)

/-- 'roundhouselaw06.CredAllows': WHATEVER THE INPUT: true; the input reads as it did. -/
def credAllowsSpec : ChangeSpec := { name := "credAllows", fn := fun _ => fun
  | [d1, d2] => { results := [.lit (.bool true)], args := [d1, d2] }
  | _ => none }
def credAllowsRow : OpenClaim := { program := "ytbkfjedecepfoaa", sum := "2188ac7f10f9a7d8f594002e273ac33a138d17dd3c89c8647515a65db34a6989", func := "roundhouse/roundhouselaw06.CredAllows", spec := "credAllows", inPlace := ["internal/abi.NoEscape"], unfollowed := true, recurses := true, apart := false }
def CredAllowsSaid : Prop := credAllowsRow.holds Try.pinned (OpenSpec.ofChange credAllowsSpec)

/-- ITS FALSE NEIGHBOUR: 'it returns false'. Refute it at one input. -/
def credAllowsWrong : ChangeSpec := { name := "credAllows", fn := fun _ => fun
  | [d1, d2] => { results := [.lit (.bool false)], args := [d1, d2] }
  | _ => none }
def CredAllowsWrongFalsely : Prop := credAllowsRow.holds Try.pinned (OpenSpec.ofChange credAllowsWrong)

/-- 'roundhouselaw06.CredWindow': WHATEVER THE INPUT: true; the input reads as it did. -/
def credWindowSpec : ChangeSpec := { name := "credWindow", fn := fun _ => fun
  | [d1, d2, d3] => { results := [.lit (.bool true)], args := [d1, d2, d3] }
  | _ => none }
def credWindowRow : OpenClaim := { program := "ytbkfjedecepfoaa", sum := "2188ac7f10f9a7d8f594002e273ac33a138d17dd3c89c8647515a65db34a6989", func := "roundhouse/roundhouselaw06.CredWindow", spec := "credWindow", inPlace := ["internal/abi.NoEscape"], unfollowed := true, recurses := true, apart := false }
def CredWindowSaid : Prop := credWindowRow.holds Try.pinned (OpenSpec.ofChange credWindowSpec)

/-- ITS FALSE NEIGHBOUR: 'it returns false'. Refute it at one input. -/
def credWindowWrong : ChangeSpec := { name := "credWindow", fn := fun _ => fun
  | [d1, d2, d3] => { results := [.lit (.bool false)], args := [d1, d2, d3] }
  | _ => none }
def CredWindowWrongFalsely : Prop := credWindowRow.holds Try.pinned (OpenSpec.ofChange credWindowWrong)

/-- 'roundhouselaw06.CredKeys': WHATEVER THE INPUT: true; the input reads as it did. -/
def credKeysSpec : ChangeSpec := { name := "credKeys", fn := fun _ => fun
  | [d1, d2, d3] => { results := [.lit (.bool true)], args := [d1, d2, d3] }
  | _ => none }
def credKeysRow : OpenClaim := { program := "ytbkfjedecepfoaa", sum := "2188ac7f10f9a7d8f594002e273ac33a138d17dd3c89c8647515a65db34a6989", func := "roundhouse/roundhouselaw06.CredKeys", spec := "credKeys", inPlace := ["internal/abi.NoEscape"], unfollowed := true, recurses := true, apart := false }
def CredKeysSaid : Prop := credKeysRow.holds Try.pinned (OpenSpec.ofChange credKeysSpec)

/-- ITS FALSE NEIGHBOUR: 'it returns false'. Refute it at one input. -/
def credKeysWrong : ChangeSpec := { name := "credKeys", fn := fun _ => fun
  | [d1, d2, d3] => { results := [.lit (.bool false)], args := [d1, d2, d3] }
  | _ => none }
def CredKeysWrongFalsely : Prop := credKeysRow.holds Try.pinned (OpenSpec.ofChange credKeysWrong)

/-- 'roundhouselaw06.CredScope': WHATEVER THE INPUT: true; the input reads as it did. -/
def credScopeSpec : ChangeSpec := { name := "credScope", fn := fun _ => fun
  | [d1, d2, d3] => { results := [.lit (.bool true)], args := [d1, d2, d3] }
  | _ => none }
def credScopeRow : OpenClaim := { program := "ytbkfjedecepfoaa", sum := "2188ac7f10f9a7d8f594002e273ac33a138d17dd3c89c8647515a65db34a6989", func := "roundhouse/roundhouselaw06.CredScope", spec := "credScope", inPlace := ["internal/abi.NoEscape"], unfollowed := true, recurses := true, apart := false }
def CredScopeSaid : Prop := credScopeRow.holds Try.pinned (OpenSpec.ofChange credScopeSpec)

/-- ITS FALSE NEIGHBOUR: 'it returns false'. Refute it at one input. -/
def credScopeWrong : ChangeSpec := { name := "credScope", fn := fun _ => fun
  | [d1, d2, d3] => { results := [.lit (.bool false)], args := [d1, d2, d3] }
  | _ => none }
def CredScopeWrongFalsely : Prop := credScopeRow.holds Try.pinned (OpenSpec.ofChange credScopeWrong)

/- THE SECOND FORM. 'bulk': how many values and letters a reading holds, each counted each time it is reached (what is shared counts as often as it is met; a slice's spare places count too). A statement '..UptoSaid' is the law's where the arguments, and the package variables that the reading takes, are together of bulk at most 1048576: NARROWER than '..Said'. Prove '..Said' where nothing that the law and all that it calls make is longer than what came in: it says more and counts as full. Else prove '..UptoSaid'. A law counts once. -/
mutual
def uptoBulk {H : Type} : DataW H → Nat
  | .lit (.string bytes) => bytes.length + 1
  | .lit _ => 1
  | .nil => 1
  | .ptr d => uptoBulk d + 1
  | .slice elems spare => uptoBulkAll elems + uptoBulkAll spare + 1
  | .agg parts => uptoBulkAll parts + 1
  | .iface _ d => uptoBulk d + 1
  | .map entries => uptoBulkEntries entries + 1
  | .held _ => 1
def uptoBulkAll {H : Type} : List (DataW H) → Nat
  | [] => 0
  | d :: r => uptoBulk d + uptoBulkAll r
def uptoBulkEntries {H : Type} : List (Lit × DataW H) → Nat
  | [] => 0
  | x :: r => uptoBulkEntry x + uptoBulkEntries r
def uptoBulkEntry {H : Type} : Lit × DataW H → Nat
  | (.string bytes, d) => bytes.length + uptoBulk d + 1
  | (_, d) => uptoBulk d + 1
 end
def uptoSmall : (H : Type) → List (DataW H) → Bool := fun _ ds => decide (uptoBulkAll ds ≤ 1048576)
def OpenSpec.upto (s : _root_.Go.ChangeSpec) : _root_.Go.OpenSpec := { _root_.Go.OpenSpec.ofChange s with cond := some uptoSmall }

/-- 'roundhouselaw06.CredTells', WHERE WHAT IT READS IS OF BULK AT MOST 1048576: true; the input reads as it did. -/
def credTellsUptoRow : OpenClaim := { program := "ytbkfjedecepfoaa", sum := "2188ac7f10f9a7d8f594002e273ac33a138d17dd3c89c8647515a65db34a6989", func := "roundhouse/roundhouselaw06.CredTells", spec := "credTells", inPlace := ["internal/abi.NoEscape"], unfollowed := true, recurses := true, apart := false, narrowed := true }
def CredTellsUptoSaid : Prop := credTellsUptoRow.holds Try.pinned (OpenSpec.upto credTellsSpec)

/-- 'roundhouselaw06.CredSigned', WHERE WHAT IT READS IS OF BULK AT MOST 1048576: true; the input reads as it did. -/
def credSignedUptoRow : OpenClaim := { program := "ytbkfjedecepfoaa", sum := "2188ac7f10f9a7d8f594002e273ac33a138d17dd3c89c8647515a65db34a6989", func := "roundhouse/roundhouselaw06.CredSigned", spec := "credSigned", inPlace := ["internal/abi.NoEscape"], unfollowed := true, recurses := true, apart := false, narrowed := true }
def CredSignedUptoSaid : Prop := credSignedUptoRow.holds Try.pinned (OpenSpec.upto credSignedSpec)

/-- 'roundhouselaw06.CredAllows', WHERE WHAT IT READS IS OF BULK AT MOST 1048576: true; the input reads as it did. -/
def credAllowsUptoRow : OpenClaim := { program := "ytbkfjedecepfoaa", sum := "2188ac7f10f9a7d8f594002e273ac33a138d17dd3c89c8647515a65db34a6989", func := "roundhouse/roundhouselaw06.CredAllows", spec := "credAllows", inPlace := ["internal/abi.NoEscape"], unfollowed := true, recurses := true, apart := false, narrowed := true }
def CredAllowsUptoSaid : Prop := credAllowsUptoRow.holds Try.pinned (OpenSpec.upto credAllowsSpec)

/-- 'roundhouselaw06.CredWindow', WHERE WHAT IT READS IS OF BULK AT MOST 1048576: true; the input reads as it did. -/
def credWindowUptoRow : OpenClaim := { program := "ytbkfjedecepfoaa", sum := "2188ac7f10f9a7d8f594002e273ac33a138d17dd3c89c8647515a65db34a6989", func := "roundhouse/roundhouselaw06.CredWindow", spec := "credWindow", inPlace := ["internal/abi.NoEscape"], unfollowed := true, recurses := true, apart := false, narrowed := true }
def CredWindowUptoSaid : Prop := credWindowUptoRow.holds Try.pinned (OpenSpec.upto credWindowSpec)

/-- 'roundhouselaw06.CredKeys', WHERE WHAT IT READS IS OF BULK AT MOST 1048576: true; the input reads as it did. -/
def credKeysUptoRow : OpenClaim := { program := "ytbkfjedecepfoaa", sum := "2188ac7f10f9a7d8f594002e273ac33a138d17dd3c89c8647515a65db34a6989", func := "roundhouse/roundhouselaw06.CredKeys", spec := "credKeys", inPlace := ["internal/abi.NoEscape"], unfollowed := true, recurses := true, apart := false, narrowed := true }
def CredKeysUptoSaid : Prop := credKeysUptoRow.holds Try.pinned (OpenSpec.upto credKeysSpec)

/-- 'roundhouselaw06.CredScope', WHERE WHAT IT READS IS OF BULK AT MOST 1048576: true; the input reads as it did. -/
def credScopeUptoRow : OpenClaim := { program := "ytbkfjedecepfoaa", sum := "2188ac7f10f9a7d8f594002e273ac33a138d17dd3c89c8647515a65db34a6989", func := "roundhouse/roundhouselaw06.CredScope", spec := "credScope", inPlace := ["internal/abi.NoEscape"], unfollowed := true, recurses := true, apart := false, narrowed := true }
def CredScopeUptoSaid : Prop := credScopeUptoRow.holds Try.pinned (OpenSpec.upto credScopeSpec)

end Rows
end Go.Proofs.Ytbkfjedecepfoaa
