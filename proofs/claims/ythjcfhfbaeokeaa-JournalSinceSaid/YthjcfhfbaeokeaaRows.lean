/-
  No cell of these rows narrows 'for every input' (looked for: loops, veiled, ifaces, maps, wideKeys, modest, calm, conditions, laid).
  DERIVED. THE GIVEN ROWS OF THIS SEAT. 5 by the template 'for every input the law returns true; each argument reads behind the call as it read before'; 0 by the template 'total and deterministic' (their statements: YthjcfhfbaeokeaaTotals.lean).
  GIVEN WITH THE SEED: the statements are not yours to turn. If you find one false, say at which input.
  Laid BY PROGRAM, IN A SANDBOX (cutbox-rows.mjs): the forced cells as the released guide's own fill.sh prints them over the translation 8f06b7914cdd1e4a… (all of the seat's roots in one cut). By AI agents, Wed Nov 11 2026. No macro, syntax, notation, axiom, sorry.
-/
import Derived.Test.YthjcfhfbaeokeaaChecked
import GoSem.Claim
import GoSem.ClaimJoined
import GoSem.ClaimMapViews
import Derived.JoinedTies
import Derived.KernelRfl
namespace Go.Proofs.Ythjcfhfbaeokeaa
/- THE CELL 'sum', in the pinned program and in every row, IS THE sha256 OF THE DUMP (.gsa) THAT YthjcfhfbaeokeaaProg.lean LOADS. Nothing in Lean hashes anything: it is a label: what it is worth is what the hold of that sum in a sandbox is worth. -/
noncomputable def Try.pinned : Pinned := { name := "ythjcfhfbaeokeaa", sum := "8f06b7914cdd1e4ab8ce1b3b8ed6897a3e7944b66e3f983a8d5c5d5b47354e05", checked := Try.checked }
namespace Rows
def none {H : Type} : Left H := { results := [], args := [] }

/-- 'roundhouselaw08.JournalWrites': WHATEVER THE INPUT: true; the input reads as it did. -/
def journalWritesSpec : ChangeSpec := { name := "journalWrites", fn := fun _ => fun
  | [d] => { results := [.lit (.bool true)], args := [d] }
  | _ => none }
def journalWritesRow : OpenClaim := { program := "ythjcfhfbaeokeaa", sum := "8f06b7914cdd1e4ab8ce1b3b8ed6897a3e7944b66e3f983a8d5c5d5b47354e05", func := "roundhouse/roundhouselaw08.JournalWrites", spec := "journalWrites", unfollowed := true, recurses := true, apart := false }
def JournalWritesSaid : Prop := journalWritesRow.holds Try.pinned (OpenSpec.ofChange journalWritesSpec)

/-- ITS FALSE NEIGHBOUR: 'it returns false'. Refute it at one input. -/
def journalWritesWrong : ChangeSpec := { name := "journalWrites", fn := fun _ => fun
  | [d] => { results := [.lit (.bool false)], args := [d] }
  | _ => none }
def JournalWritesWrongFalsely : Prop := journalWritesRow.holds Try.pinned (OpenSpec.ofChange journalWritesWrong)

/-- 'roundhouselaw08.JournalReads': WHATEVER THE INPUT: true; the input reads as it did. -/
def journalReadsSpec : ChangeSpec := { name := "journalReads", fn := fun _ => fun
  | [d] => { results := [.lit (.bool true)], args := [d] }
  | _ => none }
def journalReadsRow : OpenClaim := { program := "ythjcfhfbaeokeaa", sum := "8f06b7914cdd1e4ab8ce1b3b8ed6897a3e7944b66e3f983a8d5c5d5b47354e05", func := "roundhouse/roundhouselaw08.JournalReads", spec := "journalReads", unfollowed := true, recurses := true, apart := false }
def JournalReadsSaid : Prop := journalReadsRow.holds Try.pinned (OpenSpec.ofChange journalReadsSpec)

/-- ITS FALSE NEIGHBOUR: 'it returns false'. Refute it at one input. -/
def journalReadsWrong : ChangeSpec := { name := "journalReads", fn := fun _ => fun
  | [d] => { results := [.lit (.bool false)], args := [d] }
  | _ => none }
def JournalReadsWrongFalsely : Prop := journalReadsRow.holds Try.pinned (OpenSpec.ofChange journalReadsWrong)

/-- 'roundhouselaw08.JournalTorn': WHATEVER THE INPUT: true; the input reads as it did. -/
def journalTornSpec : ChangeSpec := { name := "journalTorn", fn := fun _ => fun
  | [d1, d2, d3] => { results := [.lit (.bool true)], args := [d1, d2, d3] }
  | _ => none }
def journalTornRow : OpenClaim := { program := "ythjcfhfbaeokeaa", sum := "8f06b7914cdd1e4ab8ce1b3b8ed6897a3e7944b66e3f983a8d5c5d5b47354e05", func := "roundhouse/roundhouselaw08.JournalTorn", spec := "journalTorn", unfollowed := true, recurses := true, apart := false }
def JournalTornSaid : Prop := journalTornRow.holds Try.pinned (OpenSpec.ofChange journalTornSpec)

/-- ITS FALSE NEIGHBOUR: 'it returns false'. Refute it at one input. -/
def journalTornWrong : ChangeSpec := { name := "journalTorn", fn := fun _ => fun
  | [d1, d2, d3] => { results := [.lit (.bool false)], args := [d1, d2, d3] }
  | _ => none }
def JournalTornWrongFalsely : Prop := journalTornRow.holds Try.pinned (OpenSpec.ofChange journalTornWrong)

/-- 'roundhouselaw08.JournalSince': WHATEVER THE INPUT: true; the input reads as it did. -/
def journalSinceSpec : ChangeSpec := { name := "journalSince", fn := fun _ => fun
  | [d1, d2, d3] => { results := [.lit (.bool true)], args := [d1, d2, d3] }
  | _ => none }
def journalSinceRow : OpenClaim := { program := "ythjcfhfbaeokeaa", sum := "8f06b7914cdd1e4ab8ce1b3b8ed6897a3e7944b66e3f983a8d5c5d5b47354e05", func := "roundhouse/roundhouselaw08.JournalSince", spec := "journalSince", unfollowed := true, recurses := true, apart := false }
def JournalSinceSaid : Prop := journalSinceRow.holds Try.pinned (OpenSpec.ofChange journalSinceSpec)

/-- ITS FALSE NEIGHBOUR: 'it returns false'. Refute it at one input. -/
def journalSinceWrong : ChangeSpec := { name := "journalSince", fn := fun _ => fun
  | [d1, d2, d3] => { results := [.lit (.bool false)], args := [d1, d2, d3] }
  | _ => none }
def JournalSinceWrongFalsely : Prop := journalSinceRow.holds Try.pinned (OpenSpec.ofChange journalSinceWrong)

/-- 'roundhouselaw08.JournalPrefix': WHATEVER THE INPUT: true; the input reads as it did. -/
def journalPrefixSpec : ChangeSpec := { name := "journalPrefix", fn := fun _ => fun
  | [d1, d2] => { results := [.lit (.bool true)], args := [d1, d2] }
  | _ => none }
def journalPrefixRow : OpenClaim := { program := "ythjcfhfbaeokeaa", sum := "8f06b7914cdd1e4ab8ce1b3b8ed6897a3e7944b66e3f983a8d5c5d5b47354e05", func := "roundhouse/roundhouselaw08.JournalPrefix", spec := "journalPrefix", unfollowed := true, recurses := true, apart := false }
def JournalPrefixSaid : Prop := journalPrefixRow.holds Try.pinned (OpenSpec.ofChange journalPrefixSpec)

/-- ITS FALSE NEIGHBOUR: 'it returns false'. Refute it at one input. -/
def journalPrefixWrong : ChangeSpec := { name := "journalPrefix", fn := fun _ => fun
  | [d1, d2] => { results := [.lit (.bool false)], args := [d1, d2] }
  | _ => none }
def JournalPrefixWrongFalsely : Prop := journalPrefixRow.holds Try.pinned (OpenSpec.ofChange journalPrefixWrong)

/- THE SECOND FORM. 'bulk': how many values and letters a reading holds, each counted each time it is reached (what is shared counts as often as it is met; a slice's spare places count too). A statement '..UptoSaid' is the law's where the arguments, and the package variables that the reading takes, are together of bulk at most 1048576: NARROWER than '..Said'. Prove '..Said' where nothing that the law and all that it calls make is longer than what came in: it says more and counts as full. Else prove '..UptoSaid'. A law counts once. -/
mutual
def uptoBulk {H : Type} : DataW H → Nat
  | .lit (.string bytes) => bytes.length + 1
  | .lit _ => 1
  | .nil => 1
  | .ptr d => uptoBulk d + 1
  | .slice elems spare => uptoBulkAll elems + uptoBulkAll spare + 1
  | .agg parts => uptoBulkAll parts + 1
  | .iface _ d => uptoBulk d + 1
  | .map entries => uptoBulkEntries entries + 1
  | .held _ => 1
def uptoBulkAll {H : Type} : List (DataW H) → Nat
  | [] => 0
  | d :: r => uptoBulk d + uptoBulkAll r
def uptoBulkEntries {H : Type} : List (Lit × DataW H) → Nat
  | [] => 0
  | x :: r => uptoBulkEntry x + uptoBulkEntries r
def uptoBulkEntry {H : Type} : Lit × DataW H → Nat
  | (.string bytes, d) => bytes.length + uptoBulk d + 1
  | (_, d) => uptoBulk d + 1
 end
def uptoSmall : (H : Type) → List (DataW H) → Bool := fun _ ds => decide (uptoBulkAll ds ≤ 1048576)
def OpenSpec.upto (s : _root_.Go.ChangeSpec) : _root_.Go.OpenSpec := { _root_.Go.OpenSpec.ofChange s with cond := some uptoSmall }

/-- 'roundhouselaw08.JournalWrites', WHERE WHAT IT READS IS OF BULK AT MOST 1048576: true; the input reads as it did. -/
def journalWritesUptoRow : OpenClaim := { program := "ythjcfhfbaeokeaa", sum := "8f06b7914cdd1e4ab8ce1b3b8ed6897a3e7944b66e3f983a8d5c5d5b47354e05", func := "roundhouse/roundhouselaw08.JournalWrites", spec := "journalWrites", unfollowed := true, recurses := true, apart := false, narrowed := true }
def JournalWritesUptoSaid : Prop := journalWritesUptoRow.holds Try.pinned (OpenSpec.upto journalWritesSpec)

/-- 'roundhouselaw08.JournalReads', WHERE WHAT IT READS IS OF BULK AT MOST 1048576: true; the input reads as it did. -/
def journalReadsUptoRow : OpenClaim := { program := "ythjcfhfbaeokeaa", sum := "8f06b7914cdd1e4ab8ce1b3b8ed6897a3e7944b66e3f983a8d5c5d5b47354e05", func := "roundhouse/roundhouselaw08.JournalReads", spec := "journalReads", unfollowed := true, recurses := true, apart := false, narrowed := true }
def JournalReadsUptoSaid : Prop := journalReadsUptoRow.holds Try.pinned (OpenSpec.upto journalReadsSpec)

/-- 'roundhouselaw08.JournalTorn', WHERE WHAT IT READS IS OF BULK AT MOST 1048576: true; the input reads as it did. -/
def journalTornUptoRow : OpenClaim := { program := "ythjcfhfbaeokeaa", sum := "8f06b7914cdd1e4ab8ce1b3b8ed6897a3e7944b66e3f983a8d5c5d5b47354e05", func := "roundhouse/roundhouselaw08.JournalTorn", spec := "journalTorn", unfollowed := true, recurses := true, apart := false, narrowed := true }
def JournalTornUptoSaid : Prop := journalTornUptoRow.holds Try.pinned (OpenSpec.upto journalTornSpec)

/-- 'roundhouselaw08.JournalSince', WHERE WHAT IT READS IS OF BULK AT MOST 1048576: true; the input reads as it did. -/
def journalSinceUptoRow : OpenClaim := { program := "ythjcfhfbaeokeaa", sum := "8f06b7914cdd1e4ab8ce1b3b8ed6897a3e7944b66e3f983a8d5c5d5b47354e05", func := "roundhouse/roundhouselaw08.JournalSince", spec := "journalSince", unfollowed := true, recurses := true, apart := false, narrowed := true }
def JournalSinceUptoSaid : Prop := journalSinceUptoRow.holds Try.pinned (OpenSpec.upto journalSinceSpec)

/-- 'roundhouselaw08.JournalPrefix', WHERE WHAT IT READS IS OF BULK AT MOST 1048576: true; the input reads as it did. -/
def journalPrefixUptoRow : OpenClaim := { program := "ythjcfhfbaeokeaa", sum := "8f06b7914cdd1e4ab8ce1b3b8ed6897a3e7944b66e3f983a8d5c5d5b47354e05", func := "roundhouse/roundhouselaw08.JournalPrefix", spec := "journalPrefix", unfollowed := true, recurses := true, apart := false, narrowed := true }
def JournalPrefixUptoSaid : Prop := journalPrefixUptoRow.holds Try.pinned (OpenSpec.upto journalPrefixSpec)

end Rows
end Go.Proofs.Ythjcfhfbaeokeaa
