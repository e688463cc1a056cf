/-
  No cell of these rows narrows 'for every input' (looked for: loops, veiled, ifaces, maps, wideKeys, modest, calm, conditions, laid).
  DERIVED. THE GIVEN ROWS OF THIS SEAT. 7 by the template 'for every input the law returns true; each argument reads behind the call as it read before'; 0 by the template 'total and deterministic' (their statements: YthejglgnoingfaaTotals.lean).
  GIVEN WITH THE SEED: the statements are not yours to turn. If you find one false, say at which input.
  Laid BY PROGRAM, IN A SANDBOX (cutbox-rows.mjs): the forced cells as the released guide's own fill.sh prints them over the translation 925d2b8572b099f6… (all of the seat's roots in one cut). By AI agents, Wed Nov 11 2026. No macro, syntax, notation, axiom, sorry.
-/
import Derived.Test.YthejglgnoingfaaChecked
import GoSem.Claim
import GoSem.ClaimJoined
import GoSem.ClaimMapViews
import Derived.JoinedTies
import Derived.KernelRfl
namespace Go.Proofs.Ythejglgnoingfaa
/- THE CELL 'sum', in the pinned program and in every row, IS THE sha256 OF THE DUMP (.gsa) THAT YthejglgnoingfaaProg.lean LOADS. Nothing in Lean hashes anything: it is a label: what it is worth is what the hold of that sum in a sandbox is worth. -/
noncomputable def Try.pinned : Pinned := { name := "ythejglgnoingfaa", sum := "925d2b8572b099f6e3b2b8a0e8c571ceb15d1813d41e4dba649568bf0cf1c01c", checked := Try.checked }
namespace Rows
def none {H : Type} : Left H := { results := [], args := [] }

/-- 'roundhouselaw15.RecTells': WHATEVER THE INPUT: true; the input reads as it did. -/
def recTellsSpec : ChangeSpec := { name := "recTells", fn := fun _ => fun
  | [d1, d2] => { results := [.lit (.bool true)], args := [d1, d2] }
  | _ => none }
def recTellsRow : OpenClaim := { program := "ythejglgnoingfaa", sum := "925d2b8572b099f6e3b2b8a0e8c571ceb15d1813d41e4dba649568bf0cf1c01c", func := "roundhouse/roundhouselaw15.RecTells", spec := "recTells", inPlace := ["internal/abi.NoEscape"], unfollowed := true, recurses := true, apart := false }
def RecTellsSaid : Prop := recTellsRow.holds Try.pinned (OpenSpec.ofChange recTellsSpec)

/-- ITS FALSE NEIGHBOUR: 'it returns false'. Refute it at one input. -/
def recTellsWrong : ChangeSpec := { name := "recTells", fn := fun _ => fun
  | [d1, d2] => { results := [.lit (.bool false)], args := [d1, d2] }
  | _ => none }
def RecTellsWrongFalsely : Prop := recTellsRow.holds Try.pinned (OpenSpec.ofChange recTellsWrong)

/-- 'roundhouselaw15.RecApplies': WHATEVER THE INPUT: true; the input reads as it did. -/
def recAppliesSpec : ChangeSpec := { name := "recApplies", fn := fun _ => fun
  | [d1, d2] => { results := [.lit (.bool true)], args := [d1, d2] }
  | _ => none }
def recAppliesRow : OpenClaim := { program := "ythejglgnoingfaa", sum := "925d2b8572b099f6e3b2b8a0e8c571ceb15d1813d41e4dba649568bf0cf1c01c", func := "roundhouse/roundhouselaw15.RecApplies", spec := "recApplies", inPlace := ["internal/abi.NoEscape"], unfollowed := true, recurses := true, apart := false }
def RecAppliesSaid : Prop := recAppliesRow.holds Try.pinned (OpenSpec.ofChange recAppliesSpec)

/-- ITS FALSE NEIGHBOUR: 'it returns false'. Refute it at one input. -/
def recAppliesWrong : ChangeSpec := { name := "recApplies", fn := fun _ => fun
  | [d1, d2] => { results := [.lit (.bool false)], args := [d1, d2] }
  | _ => none }
def RecAppliesWrongFalsely : Prop := recAppliesRow.holds Try.pinned (OpenSpec.ofChange recAppliesWrong)

/-- 'roundhouselaw15.RecFolds': WHATEVER THE INPUT: true; the input reads as it did. -/
def recFoldsSpec : ChangeSpec := { name := "recFolds", fn := fun _ => fun
  | [d] => { results := [.lit (.bool true)], args := [d] }
  | _ => none }
def recFoldsRow : OpenClaim := { program := "ythejglgnoingfaa", sum := "925d2b8572b099f6e3b2b8a0e8c571ceb15d1813d41e4dba649568bf0cf1c01c", func := "roundhouse/roundhouselaw15.RecFolds", spec := "recFolds", inPlace := ["internal/abi.NoEscape"], unfollowed := true, recurses := true, apart := false }
def RecFoldsSaid : Prop := recFoldsRow.holds Try.pinned (OpenSpec.ofChange recFoldsSpec)

/-- ITS FALSE NEIGHBOUR: 'it returns false'. Refute it at one input. -/
def recFoldsWrong : ChangeSpec := { name := "recFolds", fn := fun _ => fun
  | [d] => { results := [.lit (.bool false)], args := [d] }
  | _ => none }
def RecFoldsWrongFalsely : Prop := recFoldsRow.holds Try.pinned (OpenSpec.ofChange recFoldsWrong)

/-- 'roundhouselaw15.RecOnce': WHATEVER THE INPUT: true; the input reads as it did. -/
def recOnceSpec : ChangeSpec := { name := "recOnce", fn := fun _ => fun
  | [d] => { results := [.lit (.bool true)], args := [d] }
  | _ => none }
def recOnceRow : OpenClaim := { program := "ythejglgnoingfaa", sum := "925d2b8572b099f6e3b2b8a0e8c571ceb15d1813d41e4dba649568bf0cf1c01c", func := "roundhouse/roundhouselaw15.RecOnce", spec := "recOnce", inPlace := ["internal/abi.NoEscape"], unfollowed := true, recurses := true, apart := false }
def RecOnceSaid : Prop := recOnceRow.holds Try.pinned (OpenSpec.ofChange recOnceSpec)

/-- ITS FALSE NEIGHBOUR: 'it returns false'. Refute it at one input. -/
def recOnceWrong : ChangeSpec := { name := "recOnce", fn := fun _ => fun
  | [d] => { results := [.lit (.bool false)], args := [d] }
  | _ => none }
def RecOnceWrongFalsely : Prop := recOnceRow.holds Try.pinned (OpenSpec.ofChange recOnceWrong)

/-- 'roundhouselaw15.RecPrefix': WHATEVER THE INPUT: true; the input reads as it did. -/
def recPrefixSpec : ChangeSpec := { name := "recPrefix", fn := fun _ => fun
  | [d1, d2] => { results := [.lit (.bool true)], args := [d1, d2] }
  | _ => none }
def recPrefixRow : OpenClaim := { program := "ythejglgnoingfaa", sum := "925d2b8572b099f6e3b2b8a0e8c571ceb15d1813d41e4dba649568bf0cf1c01c", func := "roundhouse/roundhouselaw15.RecPrefix", spec := "recPrefix", inPlace := ["internal/abi.NoEscape"], unfollowed := true, recurses := true, apart := false }
def RecPrefixSaid : Prop := recPrefixRow.holds Try.pinned (OpenSpec.ofChange recPrefixSpec)

/-- ITS FALSE NEIGHBOUR: 'it returns false'. Refute it at one input. -/
def recPrefixWrong : ChangeSpec := { name := "recPrefix", fn := fun _ => fun
  | [d1, d2] => { results := [.lit (.bool false)], args := [d1, d2] }
  | _ => none }
def RecPrefixWrongFalsely : Prop := recPrefixRow.holds Try.pinned (OpenSpec.ofChange recPrefixWrong)

/-- 'roundhouselaw15.RecBack': WHATEVER THE INPUT: true; the input reads as it did. -/
def recBackSpec : ChangeSpec := { name := "recBack", fn := fun _ => fun
  | [d1, d2] => { results := [.lit (.bool true)], args := [d1, d2] }
  | _ => none }
def recBackRow : OpenClaim := { program := "ythejglgnoingfaa", sum := "925d2b8572b099f6e3b2b8a0e8c571ceb15d1813d41e4dba649568bf0cf1c01c", func := "roundhouse/roundhouselaw15.RecBack", spec := "recBack", inPlace := ["internal/abi.NoEscape"], unfollowed := true, recurses := true, apart := false }
def RecBackSaid : Prop := recBackRow.holds Try.pinned (OpenSpec.ofChange recBackSpec)

/-- ITS FALSE NEIGHBOUR: 'it returns false'. Refute it at one input. -/
def recBackWrong : ChangeSpec := { name := "recBack", fn := fun _ => fun
  | [d1, d2] => { results := [.lit (.bool false)], args := [d1, d2] }
  | _ => none }
def RecBackWrongFalsely : Prop := recBackRow.holds Try.pinned (OpenSpec.ofChange recBackWrong)

/-- 'roundhouselaw15.RecTurns': WHATEVER THE INPUT: true; the input reads as it did. -/
def recTurnsSpec : ChangeSpec := { name := "recTurns", fn := fun _ => fun
  | [d1, d2] => { results := [.lit (.bool true)], args := [d1, d2] }
  | _ => none }
def recTurnsRow : OpenClaim := { program := "ythejglgnoingfaa", sum := "925d2b8572b099f6e3b2b8a0e8c571ceb15d1813d41e4dba649568bf0cf1c01c", func := "roundhouse/roundhouselaw15.RecTurns", spec := "recTurns", inPlace := ["internal/abi.NoEscape"], unfollowed := true, recurses := true, apart := false }
def RecTurnsSaid : Prop := recTurnsRow.holds Try.pinned (OpenSpec.ofChange recTurnsSpec)

/-- ITS FALSE NEIGHBOUR: 'it returns false'. Refute it at one input. -/
def recTurnsWrong : ChangeSpec := { name := "recTurns", fn := fun _ => fun
  | [d1, d2] => { results := [.lit (.bool false)], args := [d1, d2] }
  | _ => none }
def RecTurnsWrongFalsely : Prop := recTurnsRow.holds Try.pinned (OpenSpec.ofChange recTurnsWrong)

/- THE SECOND FORM. 'bulk': how many values and letters a reading holds, each counted each time it is reached (what is shared counts as often as it is met; a slice's spare places count too). A statement '..UptoSaid' is the law's where the arguments, and the package variables that the reading takes, are together of bulk at most 1048576: NARROWER than '..Said'. Prove '..Said' where nothing that the law and all that it calls make is longer than what came in: it says more and counts as full. Else prove '..UptoSaid'. A law counts once. -/
mutual
def uptoBulk {H : Type} : DataW H → Nat
  | .lit (.string bytes) => bytes.length + 1
  | .lit _ => 1
  | .nil => 1
  | .ptr d => uptoBulk d + 1
  | .slice elems spare => uptoBulkAll elems + uptoBulkAll spare + 1
  | .agg parts => uptoBulkAll parts + 1
  | .iface _ d => uptoBulk d + 1
  | .map entries => uptoBulkEntries entries + 1
  | .held _ => 1
def uptoBulkAll {H : Type} : List (DataW H) → Nat
  | [] => 0
  | d :: r => uptoBulk d + uptoBulkAll r
def uptoBulkEntries {H : Type} : List (Lit × DataW H) → Nat
  | [] => 0
  | x :: r => uptoBulkEntry x + uptoBulkEntries r
def uptoBulkEntry {H : Type} : Lit × DataW H → Nat
  | (.string bytes, d) => bytes.length + uptoBulk d + 1
  | (_, d) => uptoBulk d + 1
 end
def uptoSmall : (H : Type) → List (DataW H) → Bool := fun _ ds => decide (uptoBulkAll ds ≤ 1048576)
def OpenSpec.upto (s : _root_.Go.ChangeSpec) : _root_.Go.OpenSpec := { _root_.Go.OpenSpec.ofChange s with cond := some uptoSmall }

/-- 'roundhouselaw15.RecTells', WHERE WHAT IT READS IS OF BULK AT MOST 1048576: true; the input reads as it did. -/
def recTellsUptoRow : OpenClaim := { program := "ythejglgnoingfaa", sum := "925d2b8572b099f6e3b2b8a0e8c571ceb15d1813d41e4dba649568bf0cf1c01c", func := "roundhouse/roundhouselaw15.RecTells", spec := "recTells", inPlace := ["internal/abi.NoEscape"], unfollowed := true, recurses := true, apart := false, narrowed := true }
def RecTellsUptoSaid : Prop := recTellsUptoRow.holds Try.pinned (OpenSpec.upto recTellsSpec)

/-- 'roundhouselaw15.RecApplies', WHERE WHAT IT READS IS OF BULK AT MOST 1048576: true; the input reads as it did. -/
def recAppliesUptoRow : OpenClaim := { program := "ythejglgnoingfaa", sum := "925d2b8572b099f6e3b2b8a0e8c571ceb15d1813d41e4dba649568bf0cf1c01c", func := "roundhouse/roundhouselaw15.RecApplies", spec := "recApplies", inPlace := ["internal/abi.NoEscape"], unfollowed := true, recurses := true, apart := false, narrowed := true }
def RecAppliesUptoSaid : Prop := recAppliesUptoRow.holds Try.pinned (OpenSpec.upto recAppliesSpec)

/-- 'roundhouselaw15.RecFolds', WHERE WHAT IT READS IS OF BULK AT MOST 1048576: true; the input reads as it did. -/
def recFoldsUptoRow : OpenClaim := { program := "ythejglgnoingfaa", sum := "925d2b8572b099f6e3b2b8a0e8c571ceb15d1813d41e4dba649568bf0cf1c01c", func := "roundhouse/roundhouselaw15.RecFolds", spec := "recFolds", inPlace := ["internal/abi.NoEscape"], unfollowed := true, recurses := true, apart := false, narrowed := true }
def RecFoldsUptoSaid : Prop := recFoldsUptoRow.holds Try.pinned (OpenSpec.upto recFoldsSpec)

/-- 'roundhouselaw15.RecOnce', WHERE WHAT IT READS IS OF BULK AT MOST 1048576: true; the input reads as it did. -/
def recOnceUptoRow : OpenClaim := { program := "ythejglgnoingfaa", sum := "925d2b8572b099f6e3b2b8a0e8c571ceb15d1813d41e4dba649568bf0cf1c01c", func := "roundhouse/roundhouselaw15.RecOnce", spec := "recOnce", inPlace := ["internal/abi.NoEscape"], unfollowed := true, recurses := true, apart := false, narrowed := true }
def RecOnceUptoSaid : Prop := recOnceUptoRow.holds Try.pinned (OpenSpec.upto recOnceSpec)

/-- 'roundhouselaw15.RecPrefix', WHERE WHAT IT READS IS OF BULK AT MOST 1048576: true; the input reads as it did. -/
def recPrefixUptoRow : OpenClaim := { program := "ythejglgnoingfaa", sum := "925d2b8572b099f6e3b2b8a0e8c571ceb15d1813d41e4dba649568bf0cf1c01c", func := "roundhouse/roundhouselaw15.RecPrefix", spec := "recPrefix", inPlace := ["internal/abi.NoEscape"], unfollowed := true, recurses := true, apart := false, narrowed := true }
def RecPrefixUptoSaid : Prop := recPrefixUptoRow.holds Try.pinned (OpenSpec.upto recPrefixSpec)

/-- 'roundhouselaw15.RecBack', WHERE WHAT IT READS IS OF BULK AT MOST 1048576: true; the input reads as it did. -/
def recBackUptoRow : OpenClaim := { program := "ythejglgnoingfaa", sum := "925d2b8572b099f6e3b2b8a0e8c571ceb15d1813d41e4dba649568bf0cf1c01c", func := "roundhouse/roundhouselaw15.RecBack", spec := "recBack", inPlace := ["internal/abi.NoEscape"], unfollowed := true, recurses := true, apart := false, narrowed := true }
def RecBackUptoSaid : Prop := recBackUptoRow.holds Try.pinned (OpenSpec.upto recBackSpec)

/-- 'roundhouselaw15.RecTurns', WHERE WHAT IT READS IS OF BULK AT MOST 1048576: true; the input reads as it did. -/
def recTurnsUptoRow : OpenClaim := { program := "ythejglgnoingfaa", sum := "925d2b8572b099f6e3b2b8a0e8c571ceb15d1813d41e4dba649568bf0cf1c01c", func := "roundhouse/roundhouselaw15.RecTurns", spec := "recTurns", inPlace := ["internal/abi.NoEscape"], unfollowed := true, recurses := true, apart := false, narrowed := true }
def RecTurnsUptoSaid : Prop := recTurnsUptoRow.holds Try.pinned (OpenSpec.upto recTurnsSpec)

end Rows
end Go.Proofs.Ythejglgnoingfaa
